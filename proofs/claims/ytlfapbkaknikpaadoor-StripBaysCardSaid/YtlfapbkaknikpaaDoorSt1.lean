/- Package strip, in plain words. -/
import Derived.Test.YtlfapbkaknikpaaDoorStr
import Derived.Test.YtlfapbkaknikpaaDoorFrC
namespace Go.Proofs.YtlfapbkaknikpaaDoorA
open Go
set_option linter.unusedVariables false
set_option linter.unusedSimpArgs false
set_option linter.unnecessarySimpa false

structure ST where
  call : ByteArray
  fix : ByteArray
  tm : Int
  ht : Int
  bay : Int
instance : Inhabited ST := ⟨⟨⟨#[]⟩, ⟨#[]⟩, 0, 0, 0⟩⟩
def ST.enc (x : ST) : List D := [.str x.call, .str x.fix, .int .i64 x.tm, .int .i64 x.ht, .int .i64 x.bay]
def ST.zero : ST := ⟨⟨#[]⟩, ⟨#[]⟩, 0, 0, 0⟩
theorem ST.ext2 {x y : ST} (h1 : x.call = y.call) (h2 : x.fix = y.fix) (h3 : x.tm = y.tm) (h4 : x.ht = y.ht) (h5 : x.bay = y.bay) : x = y := by cases x; cases y; cases h1; cases h2; cases h3; cases h4; cases h5; rfl
instance : DecidableEq ST := fun x y => if h : x.call = y.call ∧ x.fix = y.fix ∧ x.tm = y.tm ∧ x.ht = y.ht ∧ x.bay = y.bay then .isTrue (ST.ext2 h.1 h.2.1 h.2.2.1 h.2.2.2.1 h.2.2.2.2) else .isFalse fun e => h (by subst e; exact ⟨rfl, rfl, rfl, rfl, rfl⟩)
theorem same_st (x y : ST) : allD (x.enc.take 5) (y.enc.take 5) = decide (x = y) := by
  show (x.call.toList == y.call.toList && (x.fix.toList == y.fix.toList && (decide (x.tm = y.tm) && (decide (x.ht = y.ht) && (decide (x.bay = y.bay) && true))))) = _
  rw [Bool.and_true, Bool.eq_iff_iff, decide_eq_true_eq, Bool.and_eq_true, Bool.and_eq_true, Bool.and_eq_true, Bool.and_eq_true, decide_eq_true_eq, decide_eq_true_eq, decide_eq_true_eq]
  show seq x.call y.call = true ∧ seq x.fix y.fix = true ∧ _ ↔ _
  rw [seq_iff, seq_iff]
  exact ⟨fun h => ST.ext2 h.1 h.2.1 h.2.2.1 h.2.2.2.1 h.2.2.2.2, fun h => by subst h; exact ⟨rfl, rfl, rfl, rfl, rfl⟩⟩

/-! ### names -/
def okB (k : Nat) (c : UInt8) : Bool := (decide (65 ≤ c.toNat) && decide (c.toNat ≤ 90)) || (decide (0 < k) && decide (48 ≤ c.toNat) && decide (c.toNat ≤ 57))
def byteAt (s : ByteArray) (k : Nat) : UInt8 := s.data.toList.getD k 0
def namedS (s : ByteArray) : Bool := ((List.range s.size).all fun k => okB k (byteAt s k)) && (!seq s ⟨#[]⟩ && decide ((s.size : Int) ≤ 8))
theorem okB_iff (k : Nat) (c : UInt8) : okB k c = true ↔ (65 ≤ c.toNat ∧ c.toNat ≤ 90) ∨ (0 < k ∧ 48 ≤ c.toNat ∧ c.toNat ≤ 57) := by
  unfold okB; simp only [Bool.or_eq_true, Bool.and_eq_true, decide_eq_true_eq]; omega
theorem named_bad {s : ByteArray} {k : Nat} (hk : k < s.size) (h : okB k (byteAt s k) = false) : namedS s = false := by
  unfold namedS
  have : ((List.range s.size).all fun k => okB k (byteAt s k)) = false := List.all_eq_false.2 ⟨k, by simpa using hk, by simp [h]⟩
  rw [this]; rfl
theorem named_ok {s : ByteArray} (h : ∀ k, k < s.size → okB k (byteAt s k) = true) : namedS s = (!seq s ⟨#[]⟩ && decide ((s.size : Int) ≤ 8)) := by
  unfold namedS
  have : ((List.range s.size).all fun k => okB k (byteAt s k)) = true := List.all_eq_true.2 fun k hk => h k (by simpa using hk)
  rw [this]; rfl

/-! ### boards -/
def checkS (s : ST) : Int := if namedS s.call = false ∨ namedS s.fix = false then 6 else if s.tm < 0 ∨ 200000 < s.tm ∨ s.ht < 0 ∨ 60000 < s.ht ∨ s.bay < 0 ∨ 4 ≤ s.bay then 4 else 0
def isC (c : ByteArray) (s : ST) : Bool := seq s.call c
def findS (l : List ST) (c : ByteArray) : Int := idxP (isC c) l
def countS (l : List ST) (b : Int) : Nat := l.countP fun s => decide (s.bay = b)
theorem countS_le (l : List ST) (b : Int) : countS l b ≤ l.length := List.countP_le_length
theorem countS_step {l : List ST} {k : Nat} {x : ST} (b : Int) (h : l[k]? = some x) : countS (l.take (k + 1)) b = countS (l.take k) b + (if x.bay = b then 1 else 0) := by
  obtain ⟨h1, h2⟩ := List.getElem?_eq_some_iff.1 h
  unfold countS
  rw [List.take_succ_eq_append_getElem h1, h2, List.countP_append, List.countP_singleton]
  by_cases hb : x.bay = b <;> simp [hb]
def pBE (l : List ST) (s : ST) : Int := if checkS s ≠ 0 then checkS s else if 0 ≤ findS l s.call then 7 else if countS l s.bay = 16 then 9 else 0
def pBL (l : List ST) (s : ST) : List ST := if pBE l s ≠ 0 then l else l ++ [s]
def chgE (l : List ST) (s : ST) : Int :=
  if checkS s ≠ 0 then checkS s else if findS l s.call < 0 then 8 else if (l.getD (findS l s.call).toNat ST.zero).bay = 3 ∨ (l.getD (findS l s.call).toNat ST.zero).bay ≠ s.bay then 11 else 0
def chgL (l : List ST) (s : ST) : List ST := if chgE l s ≠ 0 then l else l.set (findS l s.call).toNat s
def getE (l : List ST) (c : ByteArray) : Int := if findS l c < 0 then 8 else 0
def getV (l : List ST) (c : ByteArray) : ST := if findS l c < 0 then ST.zero else l.getD (findS l c).toNat ST.zero
/-- No call twice. -/
def Uni (l : List ST) : Prop := ∀ (i j : Nat) (x y : ST), l[i]? = some x → l[j]? = some y → x.call = y.call → i = j
theorem find_at {l : List ST} (u : Uni l) {i : Nat} {x : ST} (h : l[i]? = some x) : findS l x.call = i := by
  unfold findS
  refine idxP_some (p := isC x.call) h (seq_refl _) fun j y hj hy => ?_
  cases hc : isC x.call y with
  | false => rfl
  | true => exact absurd (u j i y x hy h ((seq_iff _ _).1 hc)) (by omega)
theorem idxP_neg {α : Type} {p : α → Bool} {l : List α} (h : idxP p l < 0) : ∀ (i : Nat) x, l[i]? = some x → p x = false := fun i x hx => by
  cases hp : p x with
  | false => rfl
  | true =>
    exfalso
    unfold idxP at h
    cases hf : l.findIdx? p with
    | none =>
      have := List.findIdx?_eq_none_iff.1 hf x (List.mem_of_getElem? hx)
      rw [hp] at this; cases this
    | some j => rw [hf] at h; simp at h; omega
theorem find_no {l : List ST} {c : ByteArray} (h : findS l c < 0) : ∀ x ∈ l, x.call ≠ c := fun x hx he => by
  obtain ⟨i, hi⟩ := List.getElem?_of_mem hx
  have := idxP_neg h i x hi
  unfold isC at this
  rw [he, seq_refl] at this; cases this
end Go.Proofs.YtlfapbkaknikpaaDoorA
