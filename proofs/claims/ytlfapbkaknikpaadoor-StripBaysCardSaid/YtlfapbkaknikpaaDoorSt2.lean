/- Sorted bays and texts of boards, in plain words. -/
import Derived.Test.YtlfapbkaknikpaaDoorSt1
import Derived.Test.YtlfapbkaknikpaaDoorRec1
import Derived.Test.YtlfapbkaknikpaaDoorFrC
import Derived.Test.YtlfapbkaknikpaaDoorAbs26
namespace Go.Proofs.YtlfapbkaknikpaaDoorA
open Go
set_option linter.unusedVariables false
set_option linter.unusedSimpArgs false
set_option linter.unnecessarySimpa false

def cmpI (a b : Int) : Int := if a < b then -1 else if b < a then 1 else 0
def cfS (x y : ST) : Int := if cmpI x.tm y.tm ≠ 0 then cmpI x.tm y.tm else cmpB x.call y.call
theorem cfS_lt (x y : ST) : cfS x y < 0 ↔ x.tm < y.tm ∨ x.tm = y.tm ∧ cmpB x.call y.call < 0 := by
  unfold cfS cmpI
  split <;> split at * <;> try split at *
  all_goals omega
theorem swo_st : Go.Sort.SWO (Go.Proofs.ltOf cfS) where
  irrefl x := decide_eq_false (by rw [cfS_lt]; have := cmpB_self x.call; omega)
  trans x y z h1 h2 := by
    have a := (cfS_lt x y).1 (of_decide_eq_true h1)
    have b := (cfS_lt y z).1 (of_decide_eq_true h2)
    refine decide_eq_true ((cfS_lt x z).2 ?_)
    rcases a with a | ⟨a, a2⟩ <;> rcases b with b | ⟨b, b2⟩
    · left; omega
    · left; omega
    · left; omega
    · right; exact ⟨by omega, cmpB_trans a2 b2⟩
  ntrans x y z h1 h2 := by
    have a : ¬ cfS x y < 0 := of_decide_eq_false h1
    have b : ¬ cfS y z < 0 := of_decide_eq_false h2
    refine decide_eq_false fun h => ?_
    rw [cfS_lt] at a b h
    have h3 := cmpB_anti x.call y.call
    have h4 := cmpB_anti y.call z.call
    rcases h with h | ⟨h, h5⟩
    · omega
    · have e1 : x.tm = y.tm := by omega
      have e2 : y.tm = z.tm := by omega
      have a2 : ¬ cmpB x.call y.call < 0 := fun q => a (.inr ⟨e1, q⟩)
      have b2 : ¬ cmpB y.call z.call < 0 := fun q => b (.inr ⟨e2, q⟩)
      rcases Int.lt_or_eq_of_le (show cmpB y.call x.call ≤ 0 by omega) with q1 | q1
      · rcases Int.lt_or_eq_of_le (show cmpB z.call y.call ≤ 0 by omega) with q2 | q2
        · have := cmpB_trans q2 q1
          have := cmpB_anti x.call z.call
          omega
        · have hz : z.call = y.call := (cmpB_zero _ _).1 q2
          rw [hz] at h5; omega
      · have hy : y.call = x.call := (cmpB_zero _ _).1 q1
        rw [hy] at b2; omega
def IsBay (l : List ST) (q : Nat) (out : List ST) : Prop := out.Perm (l.filter fun s => decide (s.bay = q)) ∧ ∀ (i j : Nat) (x y : ST), i < j → out[i]? = some x → out[j]? = some y → ¬ cfS y x < 0
def lineQ (q : Nat) (x : ST) : List UInt8 := decL q ++ 32 :: (decL x.tm.toNat ++ 32 :: (bl x.call ++ 32 :: (bl x.fix ++ 32 :: (decL x.ht.toNat ++ [10]))))
def linesQ (q : Nat) (l : List ST) : List UInt8 := (l.map (lineQ q)).flatten
theorem linesQ_succ {q : Nat} {l : List ST} {k : Nat} {x : ST} (h : l[k]? = some x) : linesQ q (l.take (k + 1)) = linesQ q (l.take k) ++ lineQ q x := by
  obtain ⟨h1, h2⟩ := List.getElem?_eq_some_iff.1 h
  rw [List.take_succ_eq_append_getElem h1, h2]
  simp [linesQ]
def IsText (l : List ST) : Nat → List UInt8 → Prop
  | 0, T => T = []
  | q + 1, T => ∃ T0 out, IsText l q T0 ∧ IsBay l q out ∧ T = T0 ++ linesQ q out
def x0 : ST := ⟨⟨#[65, 66, 49]⟩, ⟨#[70, 73, 88]⟩, 100, 5000, 0⟩
theorem fact_text {T : List UInt8} (h : IsText [x0] 4 T) : T = [48, 32, 49, 48, 48, 32, 65, 66, 49, 32, 70, 73, 88, 32, 53, 48, 48, 48, 10] := by
  obtain ⟨T3, o3, ⟨T2, o2, ⟨T1, o1, ⟨T0, o0, h0, b0, rfl⟩, b1, rfl⟩, b2, rfl⟩, b3, rfl⟩ := h
  obtain rfl : T0 = [] := h0
  have e0 : o0 = [x0] := List.perm_singleton.1 b0.1
  have e1 : o1 = [] := List.perm_nil.1 b1.1
  have e2 : o2 = [] := List.perm_nil.1 b2.1
  have e3 : o3 = [] := List.perm_nil.1 b3.1
  subst e0 e1 e2 e3
  have d0 : decL 0 = [48] := decL_small (by decide)
  have d1 : decL 100 = [49, 48, 48] := by rw [decL_step (by decide), decL_step (by decide), decL_small (by decide)]; rfl
  have d2 : decL 5000 = [53, 48, 48, 48] := by rw [decL_step (by decide), decL_step (by decide), decL_step (by decide), decL_small (by decide)]; rfl
  show [] ++ linesQ 0 [x0] ++ linesQ 1 [] ++ linesQ 2 [] ++ linesQ 3 [] = _
  unfold linesQ
  simp only [List.map_cons, List.map_nil, List.flatten_cons, List.flatten_nil, List.append_nil, List.nil_append, lineQ]
  rw [d0, show x0.tm.toNat = 100 from rfl, show x0.ht.toNat = 5000 from rfl, d1, d2]
  rfl
theorem checkS_zero {x : ST} (h : checkS x = 0) : x.call.size ≤ 8 ∧ x.fix.size ≤ 8 ∧ 0 ≤ x.tm ∧ x.tm ≤ 200000 ∧ 0 ≤ x.ht ∧ x.ht ≤ 60000 ∧ 0 ≤ x.bay ∧ x.bay < 4 := by
  unfold checkS at h
  split at h
  · omega
  · rename_i a1
    split at h
    · omega
    · rename_i a2
      have c1 : namedS x.call = true := by cases h : namedS x.call <;> simp_all
      have c2 : namedS x.fix = true := by cases h : namedS x.fix <;> simp_all
      unfold namedS at c1 c2
      simp only [Bool.and_eq_true, decide_eq_true_eq] at c1 c2
      omega
theorem lineQ_len {q : Nat} {x : ST} (h : checkS x = 0) (hq : q ≤ 4) : (lineQ q x).length ≤ 50 := by
  have c := checkS_zero h
  have d1 := decL_len q 0 (by omega)
  have d2 := decL_len x.tm.toNat 5 (by omega)
  have d3 := decL_len x.ht.toNat 4 (by omega)
  unfold lineQ
  simp only [List.length_append, List.length_cons, List.length_nil, bl_len]
  omega
theorem lines_len {q : Nat} (hq : q ≤ 4) : ∀ (o : List ST), (∀ x ∈ o, checkS x = 0) → (linesQ q o).length ≤ 50 * o.length
  | [], _ => by simp [linesQ]
  | x :: o, ho => by
    have h1 := lineQ_len (ho x (by simp)) hq
    have h2 := lines_len hq o fun y hy => ho y (by simp [hy])
    have : linesQ q (x :: o) = lineQ q x ++ linesQ q o := by simp [linesQ]
    rw [this, List.length_append, List.length_cons]; omega
theorem bay_mem {l out : List ST} {q : Nat} (h : IsBay l q out) {x : ST} (hx : x ∈ out) : x ∈ l ∧ x.bay = q := by
  have := List.mem_filter.1 (h.1.mem_iff.1 hx)
  exact ⟨this.1, of_decide_eq_true this.2⟩
theorem bay_len {l out : List ST} {q : Nat} (h : IsBay l q out) : out.length ≤ l.length := by rw [h.1.length_eq]; exact List.length_filter_le _ _
theorem text_len : ∀ (q : Nat) {l : List ST} {T : List UInt8}, IsText l q T → (∀ x ∈ l, checkS x = 0) → q ≤ 4 → T.length ≤ 50 * l.length * q
  | 0, l, T, h, _, _ => by rw [show T = [] from h]; simp
  | q + 1, l, T, ⟨T0, out, h0, hb, e⟩, hc, hq => by
    have h1 := text_len q h0 hc (by omega)
    have h2 := bay_len hb
    have h4 := lines_len (q := q) (by omega) out fun x hx => hc x (bay_mem hb hx).1
    rw [e, List.length_append, Nat.mul_add]
    have : 50 * out.length ≤ 50 * l.length := Nat.mul_le_mul_left _ h2
    omega
end Go.Proofs.YtlfapbkaknikpaaDoorA
