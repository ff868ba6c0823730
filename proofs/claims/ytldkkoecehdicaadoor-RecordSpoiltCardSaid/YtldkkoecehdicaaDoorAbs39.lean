/- Nil slices read as data; bytes looked for and counted. -/
import Derived.Test.YtldkkoecehdicaaDoorAbs37
namespace Go.Proofs.YtldkkoecehdicaaDoorA
open Go
set_option linter.unusedVariables false
set_option linter.unusedSimpArgs false

theorem und_int {P : Program} {t : Nat} {k : IntKind} (h : tInt P t = some k) : ∃ u, P.underlying t = some u := ⟨_, tInt_spec h⟩
theorem map_atI {α β : Type} {l : List α} {z : Int} {x : α} {f : α → β} (hx : l[z.toNat]? = some x) : (l.map f)[z.toNat]? = some (f x) := by rw [List.getElem?_map, hx]; rfl
section
variable {P : Program} {N : Nm} {σ : Env} {hs : Hp} {d : Option Tmp} {ty : TypeId} {pos : String} {af : Array Edge} {g : Option (Nat × Bool)} {Q : Post}
/-- Ghost step: a nil slice is data. -/
theorem W.nild {c : Code} (t sz : Nat) (ht : eget σ t = .nilsl) (h : W P N c Q ((t, .d (.sl sz [])) :: σ) hs) : W P N c Q σ hs := fun κ a w s =>
  h κ a w ⟨s.heap, s.size, s.defers, fun i => by
    by_cases hi : t = i
    · subst hi
      rw [eget_same]
      have hv := s.get t
      rw [ht] at hv
      generalize a.tmps.getD t undef = u at hv
      cases hv
      exact .d (.sl none 0 0 _ [] (fun _ _ => undef) rfl (Nat.le_refl _) (by simp) (by simp) (by simp) (by simp))
    · rw [eget_ne σ _ hi]; exact s.get i⟩

theorem Q.idxb {x y z : Operand} {tys : Array TypeId} {f : FuncId} {s : ByteArray} {c : UInt8} (hx : oev σ x = .fn f []) (he : ∀ args w, (callFunc f args).run P w = ((Extern.BytealgIndexByte.indexByte args).run P w).andThen fun v w' => .ok (.value v) w')
    (hy : oev σ y = .d (.str s)) (hz : oev σ z = .d (.int .u8 (c.toNat : Nat))) : Quiet P N σ hs ⟨d, .call ⟨.value x, #[y, z], tys⟩, ty, pos, af, g⟩ (.d (.int .i64 (Lib.indexByte s.data.toList c))) :=
  Q.ext (xs := [.d (.str s), .d (.int .u8 (c.toNat : Nat))]) hx he (by simp [hy, hz]) fun κ w vals h h1 h2 => by
    obtain ⟨u, v, rfl⟩ := two_vals h1
    obtain rfl := (h2 0 u _ rfl rfl).str_inv
    obtain rfl := (h2 1 v _ rfl rfl).int_inv
    refine ⟨_, Lib.run_indexByteString s _ w, ?_⟩
    have : ((c.toNat : Nat) : Int).toNat.toUInt8 = c := by simp
    rw [this]
    exact .d (.int _ _)
theorem Q.cntb {x y z : Operand} {tys : Array TypeId} {f : FuncId} {s : ByteArray} {c : UInt8} (hx : oev σ x = .fn f []) (he : ∀ args w, (callFunc f args).run P w = ((Extern.BytealgCount.count args).run P w).andThen fun v w' => .ok (.value v) w')
    (hy : oev σ y = .d (.str s)) (hz : oev σ z = .d (.int .u8 (c.toNat : Nat))) : Quiet P N σ hs ⟨d, .call ⟨.value x, #[y, z], tys⟩, ty, pos, af, g⟩ (.d (.int .i64 (s.data.toList.count c : Nat))) :=
  Q.ext (xs := [.d (.str s), .d (.int .u8 (c.toNat : Nat))]) hx he (by simp [hy, hz]) fun κ w vals h h1 h2 => by
    obtain ⟨u, v, rfl⟩ := two_vals h1
    obtain rfl := (h2 0 u _ rfl rfl).str_inv
    obtain rfl := (h2 1 v _ rfl rfl).int_inv
    refine ⟨_, Lib.run_countString s _ w, ?_⟩
    have : ((c.toNat : Nat) : Int).toNat.toUInt8 = c := by simp
    rw [this]
    exact .d (.int _ _)
/-- Bits of numbers that are known. -/
theorem Q.andc {t t' : TypeId} {x y : Operand} {k : IntKind} {m n r : Int} (hx : oev σ x = .d (.int k m)) (hy : oev σ y = .d (.int k n)) (hk : k = .i64 ∨ k = .u64) (hr : k.wrap ((BitVec.ofInt k.bits m &&& BitVec.ofInt k.bits n).toNat) = r) :
    Quiet P N σ hs ⟨d, .binOp .and t x y t', ty, pos, af, g⟩ (.d (.int k r)) :=
  .of_run fun κ a w st => ⟨.int k r, by
    rw [bin_run st hx hy]
    rcases hk with rfl | rfl
    · show Result.andThen (Sem.run P (Op.intBits .and .i64 m n) w) _ = _
      simp only [Op.intBits]
      rw [hr]; rfl
    · show Result.andThen (Sem.run P (Op.intBits .and .u64 m n) w) _ = _
      simp only [Op.intBits]
      rw [hr]; rfl, .d (.int _ _)⟩
end
end Go.Proofs.YtldkkoecehdicaaDoorA
