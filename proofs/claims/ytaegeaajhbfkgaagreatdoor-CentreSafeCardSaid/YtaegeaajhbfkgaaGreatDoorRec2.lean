/- Entries and their bytes. -/
import Derived.Test.YtaegeaajhbfkgaaGreatDoorRec1
import Derived.Test.YtaegeaajhbfkgaaGreatDoorStrA
namespace Go.Proofs.YtaegeaajhbfkgaaGreatDoorA
open Go
set_option linter.unusedVariables false
set_option linter.unusedSimpArgs false
set_option linter.unnecessarySimpa false
structure EN where
  num : Int
  tm : Int
  kind : ByteArray
  text : ByteArray
def EN.enc (x : EN) : List D := [.int .i64 x.num, .int .i64 x.tm, .str x.kind, .str x.text]
def EN.zero : EN := ⟨0, 0, ⟨#[]⟩, ⟨#[]⟩⟩
theorem EN.ext2 {x y : EN} (h1 : x.num = y.num) (h2 : x.tm = y.tm) (h3 : x.kind = y.kind) (h4 : x.text = y.text) : x = y := by cases x; cases y; cases h1; cases h2; cases h3; cases h4; rfl
instance : DecidableEq EN := fun x y => if h : x.num = y.num ∧ x.tm = y.tm ∧ x.kind = y.kind ∧ x.text = y.text then .isTrue (EN.ext2 h.1 h.2.1 h.2.2.1 h.2.2.2) else .isFalse fun e => h (by subst e; exact ⟨rfl, rfl, rfl, rfl⟩)
def lowB (c : UInt8) : Bool := decide (97 ≤ c.toNat ∧ c.toNat ≤ 122)
def lowS (s : ByteArray) : Bool := (bl s).all lowB
def checkN (e : EN) : Int :=
  if e.num < 1 ∨ 500 < e.num ∨ e.tm < 0 ∨ 200000 < e.tm then 4
  else if 120 < e.text.size ∨ 8 < e.kind.size then 2
  else if e.kind.size = 0 ∨ lowS e.kind = false then 6 else 0
structure OkN (e : EN) : Prop where
  num : 1 ≤ e.num ∧ e.num ≤ 500
  tm : 0 ≤ e.tm ∧ e.tm ≤ 200000
  text : e.text.size ≤ 120
  kind : e.kind.size ≤ 8 ∧ e.kind.size ≠ 0
  low : lowS e.kind = true
theorem checkN_zero {e : EN} : checkN e = 0 ↔ OkN e := by
  unfold checkN
  constructor
  · intro h
    split at h
    · omega
    · split at h
      · omega
      · split at h
        · omega
        · rename_i h1 h2 h3
          refine ⟨by omega, by omega, by omega, by omega, ?_⟩
          cases hl : lowS e.kind with
          | true => rfl
          | false => exact absurd (.inr hl) h3
  · rintro ⟨h1, h2, h3, h4, h5⟩
    rw [if_neg (by omega), if_neg (by omega), if_neg (by rintro (h | h); · omega
                                                         · rw [h5] at h; cases h)]
theorem OkN.no {e : EN} (h : OkN e) : (32 : UInt8) ∉ bl e.kind := fun h2 => by
  have := List.all_eq_true.1 h.low _ h2
  revert this; decide
def sumF (p : Nat × Nat) (c : UInt8) : Nat × Nat := ((p.1 + c.toNat) % 251, (p.2 + (p.1 + c.toNat) % 251) % 241)
def sumP (l : List UInt8) : Nat × Nat := l.foldl sumF (1, 0)
def sumV (l : List UInt8) : Nat := 256 * (sumP l).2 + (sumP l).1
theorem sumP_lt (l : List UInt8) : (sumP l).1 < 251 ∧ (sumP l).2 < 241 := by
  have key : ∀ (l : List UInt8) (p : Nat × Nat), p.1 < 251 ∧ p.2 < 241 → (l.foldl sumF p).1 < 251 ∧ (l.foldl sumF p).2 < 241 := by
    intro l
    induction l with
    | nil => exact fun p h => h
    | cons c l ih => exact fun p _ => ih _ ⟨Nat.mod_lt _ (by omega), Nat.mod_lt _ (by omega)⟩
  exact key l (1, 0) (by omega)
theorem sumV_lt (l : List UInt8) : sumV l < 62000 := by have := sumP_lt l; unfold sumV; omega
theorem sum_step {l : List UInt8} {k : Nat} {c : UInt8} (h : l[k]? = some c) : sumP (l.take (k + 1)) = sumF (sumP (l.take k)) c := by
  unfold sumP
  rw [List.take_add_one, h, Option.toList_some, List.foldl_append, List.foldl_cons, List.foldl_nil]
def bodyB (e : EN) : List UInt8 := decL e.num.toNat ++ 32 :: (decL e.tm.toNat ++ 32 :: (bl e.kind ++ 32 :: (decL e.text.size ++ 58 :: bl e.text)))
def encB (e : EN) : List UInt8 := bodyB e ++ 59 :: (decL (sumV (bodyB e)) ++ [10])
def encV (e : EN) : ByteArray := if checkN e ≠ 0 then ⟨#[]⟩ else bs (encB e)
theorem body_len {e : EN} (h : OkN e) : (bodyB e).length ≤ 146 := by
  have h1 := decL_len e.num.toNat 2 (by have := h.num; omega)
  have h2 := decL_len e.tm.toNat 5 (by have := h.tm; omega)
  have h3 := decL_len e.text.size 2 (by have := h.text; omega)
  have h4 := h.kind
  have h5 := h.text
  simp [bodyB, bl_len]; omega
theorem enc_len {e : EN} (h : OkN e) : (encB e).length ≤ 153 ∧ 0 < (encB e).length := by
  have h1 := body_len h
  have h2 := decL_len (sumV (bodyB e)) 4 (by have := sumV_lt (bodyB e); omega)
  simp [encB]; omega
end Go.Proofs.YtaegeaajhbfkgaaGreatDoorA

