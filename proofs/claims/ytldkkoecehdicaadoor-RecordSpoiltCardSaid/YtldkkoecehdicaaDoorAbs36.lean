/- Own bytes as a string; shifts and masks of small counts. -/
import Derived.Test.YtldkkoecehdicaaDoorAbs35
import Derived.Test.YtldkkoecehdicaaDoorAbs19
namespace Go.Proofs.YtldkkoecehdicaaDoorA
open Go
set_option linter.unusedVariables false
set_option linter.unusedSimpArgs false

theorem wu64 {z r : Int} (h : z = r) (h0 : 0 ≤ r) (h1 : r ≤ 18446744073709551615) : IntKind.u64.wrap z = r := by
  subst h
  show z % 18446744073709551616 = z
  omega
section
variable {P : Program} {N : Nm} {σ : Env} {hs : Hp} {d : Option Tmp} {ty : TypeId} {pos : String} {af : Array Edge} {g : Option (Nat × Bool)}
/-- Own bytes, as a string. -/
theorem Q.conv_vs {t t' : TypeId} {x : Operand} {l : List UInt8} {id n k : Nat} (ht : isBytes P t = true) (ht' : isStr P t' = true) (hx : oev σ x = .vs id 0 n 1) (hk : hs[k]? = some (id, .lst 1 (l.map bE))) (hn : n = l.length) :
    Quiet P N σ hs ⟨d, .convert t t' x, ty, pos, af, g⟩ (.d (.str ⟨l.toArray⟩)) :=
  .of_run fun κ a w s => by
    have h0 := s.oev x; rw [hx] at h0
    have h1 : RepA κ w (fun _ => False) (a.eval x) (.d (.sl 1 (l.map bE))) := .d (vs_data s.heap h0 hk (by rw [List.length_map]; exact hn) (fun b hb => hb))
    obtain ⟨e, hu, he⟩ := isBytes_spec ht
    obtain ⟨p, cap, c, hv, hle, _, _, hm, hd⟩ := h1.sl_inv
    have hlen : (l.map bE).length = l.length := List.length_map _
    rw [hlen] at hv
    refine ⟨.string ⟨l.toArray⟩, ?_, .d (.str _)⟩
    cases hl : l with
    | nil =>
      subst hl
      rw [show execOp a.eval ⟨d, .convert t t' x, ty, pos, af, g⟩ = (do pure (.value (← convert t t' (a.eval x)))) from rfl, hv, Sem.run_bind]
      rw [show ([] : List UInt8).length = 0 from rfl, run_convert_bytes_string w t t' e p 0 cap hu he (isStr_spec ht')]
      cases p with
      | none => rfl
      | some ad =>
        have := run_loadCells_list (P := P) w ad [] (fun j v hj => by simp at hj)
        rw [run_bytesToString w ad 0 cap [] this]
        rfl
    | cons b l' =>
      rw [← hl]
      have hpos : 0 < l.length := by rw [hl]; simp
      obtain ⟨ad, rfl, _, _⟩ := hm 0 0 (bE l[0]) (.int .u8 l[0].toNat) (by simp [List.getElem?_eq_getElem hpos]) rfl
      rw [show execOp a.eval ⟨d, .convert t t' x, ty, pos, af, g⟩ = (do pure (.value (← convert t t' (a.eval x)))) from rfl, hv, Sem.run_bind,
        run_convert_bytes_back w t t' e ad cap l hu he (isStr_spec ht') (fun j hj => ?_)]
      · rfl
      · obtain ⟨ad', he', _, hc⟩ := hm j 0 (bE l[j]) (.int .u8 l[j].toNat) (by simp [List.getElem?_eq_getElem hj]) rfl
        obtain rfl := Option.some.inj he'
        have hr := hd j 0 (bE l[j]) (.int .u8 l[j].toNat) (by simp [List.getElem?_eq_getElem hj]) rfl
        rw [Nat.mul_one, Nat.add_zero] at hc
        rw [hc]
        generalize c j 0 = v at hr
        cases hr
        rfl
theorem Q.shr32 {t t' : TypeId} {x y : Operand} {k : IntKind} {z r : Int} (hx : oev σ x = .d (.int .u64 z)) (hy : oev σ y = .d (.int k 32)) (h0 : 0 ≤ z) (hr : z / 4294967296 = r) : Quiet P N σ hs ⟨d, .binOp .shr t x y t', ty, pos, af, g⟩ (.d (.int .u64 r)) := by
  obtain ⟨n, rfl⟩ : ∃ n : Nat, z = n := ⟨z.toNat, by omega⟩
  have h := Q.shrn (P := P) (N := N) (hs := hs) (d := d) (t := t) (t' := t') (ty := ty) (pos := pos) (af := af) (g := g) (s := 32) hx hy (by decide)
  have e : ((n / 2 ^ 32 : Nat) : Int) = r := by rw [← hr]; show ((n / 4294967296 : Nat) : Int) = _; omega
  rwa [e] at h
theorem Q.and32z {t t' : TypeId} {x y : Operand} {z : Int} (hx : oev σ x = .d (.int .u64 z)) (hy : oev σ y = .d (.int .u64 4294967295)) (h0 : 0 ≤ z) (hn : z < 4294967296) : Quiet P N σ hs ⟨d, .binOp .and t x y t', ty, pos, af, g⟩ (.d (.int .u64 z)) := by
  obtain ⟨n, rfl⟩ : ∃ n : Nat, z = n := ⟨z.toNat, by omega⟩
  exact Q.and32 hx hy (by omega)
end
end Go.Proofs.YtldkkoecehdicaaDoorA
