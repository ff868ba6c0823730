/- Arrays whose cells are slices or pointers of one's own. -/
import Derived.Test.YtdkeenmmhkhecaaAbs14
namespace Go.Proofs.YtdkeenmmhkhecaaA
open Go
set_option linter.unusedVariables false
set_option linter.unusedSimpArgs false

def afillA (place : Nat → Option (Nat × Nat)) : List AV → List (Nat × AV) → Option (List AV)
  | l, [] => some l
  | l, (i, x) :: rest => match place i with
    | some (off, 1) => match oneA x && Nat.blt off l.length with
      | true => afillA place (l.set off x) rest
      | false => none
    | _ => none

def FilledA (κ : Kap) (w : World) (O : Nat → Prop) (cs : Array Value) (l : List AV) : Prop :=
  cs.size = l.length ∧ (∀ v ∈ cs.toList, v.oneCell' = true) ∧ ∀ (i : Nat) (v : Value) (x : AV), cs[i]? = some v → l[i]? = some x → RepA κ w O v x

theorem fillA_run {κ : Kap} {w : World} {O : Nat → Prop} {place : Nat → Option (Nat × Nat)} : ∀ (parts : List (Nat × Value)) (xs : List (Nat × AV)) (cs : Array Value) (l l' : List AV),
    parts.length = xs.length → (∀ (i : Nat) p x, parts[i]? = some p → xs[i]? = some x → p.1 = x.1 ∧ RepA κ w O p.2 x.2) → FilledA κ w O cs l → afillA place l xs = some l' →
    ∃ cs', Instr.fill place cs parts = some cs' ∧ FilledA κ w O cs' l'
  | [], [], cs, l, l', _, _, hf, ha => by
    simp [afillA] at ha; subst ha
    exact ⟨cs, rfl, hf⟩
  | [], _ :: _, _, _, _, h, _, _, _ => by simp at h
  | _ :: _, [], _, _, _, h, _, _, _ => by simp at h
  | (i, v) :: parts, (i', x) :: xs, cs, l, l', hlen, hr, hf, ha => by
    obtain ⟨he, hrep⟩ := hr 0 _ _ rfl rfl
    simp only at he hrep
    subst he
    simp only [afillA] at ha
    split at ha
    · rename_i off hp
      split at ha
      · rename_i hb
        have hb2 := Bool.and_eq_true_iff.1 hb
        have ho := hrep.one hb2.1
        have hlt : off < l.length := by simpa [Nat.blt_eq] using hb2.2
        obtain ⟨f1, f2, f3⟩ := hf
        have hc := cells_one ho
        have hput := foldPut [v] off 0 cs
        simp only [Nat.add_zero, List.length_singleton] at hput
        have hnew : FilledA κ w O (cs.setIfInBounds off v) (l.set off x) := by
          refine ⟨by simp [f1], fun u hu => ?_, fun q u y hu hy => ?_⟩
          · rw [Array.toList_setIfInBounds] at hu
            rcases List.mem_or_eq_of_mem_set hu with hu | rfl
            · exact f2 u hu
            · exact ho
          · rw [Array.getElem?_setIfInBounds] at hu
            rw [List.getElem?_set] at hy
            clear hput
            split at hu
            · rename_i hq
              rw [if_pos hq] at hy
              subst hq
              rw [if_pos (show off < cs.size by omega)] at hu
              rw [if_pos hlt] at hy
              obtain rfl := Option.some.inj hu
              obtain rfl := Option.some.inj hy
              exact hrep
            · rename_i hq
              rw [if_neg hq] at hy
              exact f3 q u y hu hy
        obtain ⟨cs', g1, g2⟩ := fillA_run parts xs _ _ l' (by simpa using hlen) (fun j p y hp hy => hr (j + 1) p y (by simpa using hp) (by simpa using hy)) hnew ha
        refine ⟨cs', ?_, g2⟩
        rw [← g1]
        simp only [Instr.fill, hp]
        have hsz : v.cells.size = 1 := by rw [← Array.length_toList, hc]; rfl
        simp only [hsz]
        have hlt2 : off + 1 ≤ cs.size := by omega
        rw [if_neg (by simp; omega)]
        congr 1
        rw [← Array.foldl_toList, Array.toList_zipIdx, hc]
        rfl
      · cases ha
    · cases ha

section
variable {P : Program} {N : Nat} {σ : Env} {hs : Hp} {d : Option Tmp} {ty : TypeId} {pos : String} {af : Array Edge} {g : Option (Nat × Bool)}
theorem Q.buildv {t n : Nat} {z : List Value} {l : List AV} {parts : Array (Nat × Operand)} (ht : tArr P t = some (n, 1)) (hz : tZero P t = some z) (hz1 : z.all (·.oneCell') = true)
    (hf : afillA (fun i => some (i * 1, 1)) (z.map cellA) (parts.toList.map fun p => (p.1, oev σ p.2)) = some l) : Quiet P N σ hs ⟨d, .build t parts, ty, pos, af, g⟩ (.aggv l) :=
  .of_run fun κ a w s => by
    obtain ⟨inf, hi, hz⟩ := Option.bind_eq_some_iff.1 hz
    obtain ⟨zv, hzv, rfl⟩ := Option.map_eq_some_iff.1 hz
    obtain ⟨e, ei, hu, hei, hsz⟩ := tArr_spec ht
    obtain ⟨h1, h2⟩ := parts_rep s parts
    have h0 : FilledA κ w (Own κ hs) zv.cells (zv.cells.toList.map cellA) := by
      refine ⟨by simp, fun v hv => List.all_eq_true.1 hz1 v hv, fun i v x hv hx => ?_⟩
      rw [List.getElem?_map] at hx
      obtain ⟨u, hu, rfl⟩ := Option.map_eq_some_iff.1 hx
      have : u = v := by rw [Array.getElem?_toList, hv] at hu; exact (Option.some.inj hu).symm
      subst this
      exact cellA_rep _ _ _ _
    obtain ⟨cs', h3, f1, f2, f3⟩ := fillA_run _ _ _ _ l h1 h2 h0 hf
    refine ⟨.agg cs', ?_, .aggv _ _ f1 f2 f3⟩
    have hzr : (zeroValue t).run P w = .ok zv w := by simp [zeroValue, typeInfo, hi, hzv]
    rw [show execOp a.eval ⟨d, .build t parts, ty, pos, af, g⟩ = (do pure (.value (← Instr.build t (parts.map fun (i, x) => (i, a.eval x))))) from rfl, Sem.run_bind]
    have hb : (Instr.build t (parts.map fun (i, x) => (i, a.eval x))).run P w = .ok (.agg cs') w := by
      simp only [Instr.build, Sem.run_bind, hzr, Result.andThen_ok, run_underlying hu, size_run hei, hsz]
      simp only [Array.toArray_toList] at h3
      rw [h3]
      rfl
    rw [hb]; rfl

theorem Q.move_aggv {x : Operand} {c : List AV} (hx : oev σ x = .aggv c) : Quiet P N σ hs ⟨d, .move x, ty, pos, af, g⟩ (.aggv c) := Q.move hx
theorem Q.assign_aggv {x : Operand} {c : List AV} (hx : oev σ x = .aggv c) : Quiet P N σ hs ⟨d, .assign x, ty, pos, af, g⟩ (.aggv c) := Q.assign hx
theorem Q.idx_aggv {t n : Nat} {cs : List AV} {y : AV} {x ix : Operand} {k : IntKind} {i : Int} (ht : tArr P t = some (n, 1)) (he : tEl P t = some (false, 1)) (hx : oev σ x = .aggv cs) (hi : oev σ ix = .d (.int k i)) (h0 : 0 ≤ i) (h1 : i < n)
    (hy : cs[i.toNat]? = some y) : Quiet P N σ hs ⟨d, .index t x ix, ty, pos, af, g⟩ y :=
  .of_run fun κ a w s => by
    have h2 := s.oev x; rw [hx] at h2
    have h3 := s.oev ix; rw [hi] at h3
    obtain ⟨e, inf, hu, hin, hsz, hag⟩ := tArr_part ht he w
    generalize hv : a.eval x = v at h2
    cases h2 with
    | aggv vs _ hl ho hr =>
      have hlt : i.toNat < vs.size := by rw [hl]; exact (List.getElem?_eq_some_iff.1 hy).1
      have hc : vs[i.toNat]? = some vs[i.toNat] := Array.getElem?_eq_getElem hlt
      refine ⟨vs[i.toNat], ?_, hr _ _ _ hc hy⟩
      simp [execOp, hv, h3.int_inv, Instr.index, asIntOf, run_underlying hu, h0, h1, part, hag, size_run hin, hsz, hlt]
end
end Go.Proofs.YtdkeenmmhkhecaaA
