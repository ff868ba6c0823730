/- Landing times where all gaps are one: the order by readiness is the best one. -/
import Derived.Test.YtiibdlifdneagaaSpec
namespace Go.Proofs.YtiibdlifdneagaaA
open Go
set_option linter.unusedVariables false

def mxk (l : List Int) (k : Nat) : Int := ((l.drop 1).take k).foldl max (l.getD 0 0)
def maxL (l : List Int) : Int := mxk l (l.length - 1)
theorem mxk_succ {l : List Int} {k : Nat} {x : Int} (hx : l[k + 1]? = some x) : mxk l (k + 1) = max (mxk l k) x := by
  unfold mxk
  rw [List.take_add_one, List.getElem?_drop, Nat.add_comm 1 k, hx, Option.toList_some, List.foldl_append]; rfl
theorem mxk_le (l : List Int) : ∀ k, k < l.length → ∀ j, j ≤ k → l.getD j 0 ≤ mxk l k
  | 0, hk, j, hj => by obtain rfl : j = 0 := by omega
                       exact Int.le_refl _
  | k + 1, hk, j, hj => by
    obtain ⟨x, hx⟩ : ∃ x, l[k + 1]? = some x := ⟨_, List.getElem?_eq_getElem hk⟩
    rw [mxk_succ hx]
    by_cases h : j = k + 1
    · subst h
      rw [List.getD_eq_getElem?_getD, hx]
      show x ≤ _
      omega
    · have := mxk_le l k (by omega) j (by omega)
      omega
theorem mxk_at (l : List Int) : ∀ k, k < l.length → ∃ j, j ≤ k ∧ mxk l k = l.getD j 0
  | 0, _ => ⟨0, Nat.le_refl _, rfl⟩
  | k + 1, hk => by
    obtain ⟨x, hx⟩ : ∃ x, l[k + 1]? = some x := ⟨_, List.getElem?_eq_getElem hk⟩
    obtain ⟨j, hj, he⟩ := mxk_at l k (by omega)
    rw [mxk_succ hx]
    rcases Int.le_total x (mxk l k) with h | h
    · exact ⟨j, by omega, by omega⟩
    · refine ⟨k + 1, Nat.le_refl _, ?_⟩
      rw [List.getD_eq_getElem?_getD, hx]
      show _ = x
      omega
def cg (c : Int) : Nat → Int := fun _ => c
def tm (l : List Item) (c : Int) (i : Nat) : Int := (timesS l (cg c)).getD i 0
def rd (l : List Item) (j : Nat) : Int := (l.getD j d0).ready
theorem tm_ready {l : List Item} {c : Int} {i : Nat} (hi : i < l.length) : rd l i ≤ tm l c i := by
  unfold tm
  rw [times_getD hi]
  exact tin_mono l (cg c) _ i i 0 (Nat.zero_le _)
theorem tm_step {l : List Item} {c : Int} {i : Nat} (hi : i + 1 < l.length) : tm l c i + c ≤ tm l c (i + 1) := by
  unfold tm
  rw [times_getD hi, tin, tlist_getD (Nat.lt_succ_self i) (by omega)]
  show _ ≤ max _ (_ + c)
  omega
theorem tm_low {l : List Item} {c : Int} : ∀ (d j : Nat), j + d < l.length → rd l j + c * (d : Int) ≤ tm l c (j + d)
  | 0, j, h => by have := tm_ready (l := l) (c := c) (show j < l.length by omega); simpa using this
  | d + 1, j, h => by
    have h1 := tm_low (l := l) (c := c) d j (by omega)
    have h2 := tm_step (l := l) (c := c) (show j + d + 1 < l.length by omega)
    rw [show j + (d + 1) = j + d + 1 by omega]
    have h3 : c * ((d + 1 : Nat) : Int) = c * (d : Int) + c := by rw [Int.natCast_succ, Int.mul_add, Int.mul_one]
    omega
theorem tm_up {l : List Item} {c : Int} (hc : 0 ≤ c) : ∀ i, i < l.length → ∃ j d, j + d = i ∧ tm l c i ≤ rd l j + c * (d : Int) := by
  intro i
  induction i using Nat.strongRecOn with
  | ind i ih =>
    intro hi
    have key : ∀ m, m ≤ i → ∃ j d, j + d = i ∧ tin l (cg c) (tlist l (cg c) i) i m ≤ rd l j + c * (d : Int) := fun m => by
      induction m with
      | zero => exact fun _ => ⟨i, 0, rfl, by simp [tin, rd]⟩
      | succ m ihm =>
        intro hm
        obtain ⟨j, d, hj, h1⟩ := ihm (by omega)
        rw [tin, tlist_getD (show m < i by omega) (by omega)]
        obtain ⟨j2, d2, hj2, h2⟩ := ih m (by omega) (by omega)
        unfold tm at h2
        rcases Int.le_total ((timesS l (cg c)).getD m 0 + c) (tin l (cg c) (tlist l (cg c) i) i m) with h | h
        · exact ⟨j, d, hj, by show max _ (_ + c) ≤ _; omega⟩
        · refine ⟨j2, d2 + (i - m), by omega, ?_⟩
          have h3 : c * ((d2 + (i - m) : Nat) : Int) = c * (d2 : Int) + c * ((i - m : Nat) : Int) := by rw [Int.natCast_add, Int.mul_add]
          have h4 : c ≤ c * ((i - m : Nat) : Int) := by
            have := Int.mul_le_mul_of_nonneg_left (show (1 : Int) ≤ ((i - m : Nat) : Int) by omega) hc
            rwa [Int.mul_one] at this
          show max _ (_ + c) ≤ _
          omega
    obtain ⟨j, d, h1, h2⟩ := key i (Nat.le_refl _)
    exact ⟨j, d, h1, by unfold tm; rw [times_getD hi]; exact h2⟩
/-- Among the first j + 1 of any order there is one that is no earlier ready than the j-th by readiness. -/
theorem rank {l s : List Item} (hp : s.Perm l) (hs : ∀ (i j : Nat) x y, i < j → s[i]? = some x → s[j]? = some y → x.ready ≤ y.ready) {j : Nat} (hj : j < s.length) : ∃ p, p ≤ j ∧ rd s j ≤ rd l p := by
  refine Classical.byContradiction fun hn => ?_
  have hlt : ∀ p, p ≤ j → rd l p < rd s j := fun p hpj => Int.not_le.1 fun h => hn ⟨p, hpj, h⟩
  have hlen := hp.length_eq
  obtain ⟨z, hz⟩ : ∃ z, s[j]? = some z := ⟨_, List.getElem?_eq_getElem hj⟩
  have hzr : rd s j = z.ready := by unfold rd; rw [List.getD_eq_getElem?_getD, hz]; rfl
  have h1 : (l.take (j + 1)).countP (fun x => decide (x.ready < z.ready)) = j + 1 := by
    have h2 : (l.take (j + 1)).countP (fun x => decide (x.ready < z.ready)) = (l.take (j + 1)).length := List.countP_eq_length.2 fun x hx => by
      obtain ⟨p, hp2⟩ := List.getElem?_of_mem hx
      rw [List.getElem?_take] at hp2
      split at hp2
      · have h3 := hlt p (by omega)
        unfold rd at h3
        rw [List.getD_eq_getElem?_getD, hp2] at h3
        rw [show (s.getD j d0).ready = z.ready from hzr] at h3
        exact decide_eq_true h3
      · cases hp2
    rw [h2, List.length_take]; omega
  have h4 : (l.take (j + 1)).countP (fun x => decide (x.ready < z.ready)) ≤ l.countP fun x => decide (x.ready < z.ready) := (List.take_sublist _ _).countP_le
  have h5 := hp.countP_eq (fun x => decide (x.ready < z.ready))
  have h6 : s.countP (fun x => decide (x.ready < z.ready)) = (s.take j).countP (fun x => decide (x.ready < z.ready)) + (s.drop j).countP (fun x => decide (x.ready < z.ready)) := by
    rw [← List.countP_append, List.take_append_drop]
  have h7 : (s.drop j).countP (fun x => decide (x.ready < z.ready)) = 0 := List.countP_eq_zero.2 fun x hx => by
    obtain ⟨q, hq⟩ := List.getElem?_of_mem hx
    rw [List.getElem?_drop] at hq
    have h8 : z.ready ≤ x.ready := by
      by_cases h0 : q = 0
      · subst h0
        rw [Nat.add_zero, hz] at hq
        obtain rfl := Option.some.inj hq
        exact Int.le_refl _
      · exact hs j (j + q) z x (by omega) hz hq
    intro h9
    have := of_decide_eq_true h9
    omega
  have h8 := List.countP_le_length (p := fun x : Item => decide (x.ready < z.ready)) (l := s.take j)
  rw [List.length_take] at h8
  omega
theorem sorted_best {l s : List Item} (hp : s.Perm l) (hs : ∀ (i j : Nat) x y, i < j → s[i]? = some x → s[j]? = some y → x.ready ≤ y.ready) (h0 : l ≠ []) {c : Int} (hc : 0 ≤ c) : maxL (timesS s (cg c)) ≤ maxL (timesS l (cg c)) := by
  have hlen := hp.length_eq
  have hpos : 0 < l.length := List.length_pos_iff.2 h0
  have hsl := timesS_length s (cg c)
  have hll := timesS_length l (cg c)
  obtain ⟨i, hi, he⟩ := mxk_at (timesS s (cg c)) ((timesS s (cg c)).length - 1) (by omega)
  obtain ⟨j, d, hjd, h1⟩ := tm_up (l := s) hc i (by omega)
  obtain ⟨p, hpj, h2⟩ := rank hp hs (show j < s.length by omega)
  have h3 := tm_low (l := l) (c := c) d p (by omega)
  have h4 := mxk_le (timesS l (cg c)) ((timesS l (cg c)).length - 1) (by omega) (p + d) (by omega)
  unfold maxL
  rw [he]
  unfold tm at h1 h3
  omega
end Go.Proofs.YtiibdlifdneagaaA
