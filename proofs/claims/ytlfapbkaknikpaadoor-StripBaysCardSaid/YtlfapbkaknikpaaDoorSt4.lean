/- Moves between bays; StripBays, in plain words. -/
import Derived.Test.YtlfapbkaknikpaaDoorSt3
namespace Go.Proofs.YtlfapbkaknikpaaDoorA
open Go
set_option linter.unusedVariables false
set_option linter.unusedSimpArgs false
set_option linter.unnecessarySimpa false

def prB (x y : Int) : Bool := if x = 0 then decide (y = 1) else if x = 1 then decide (y = 2) || decide (y = 3) else if x = 2 then decide (y = 1) || decide (y = 3) else false
def mvE (l : List ST) (c : ByteArray) (q : Int) : Int :=
  if q < 0 ∨ 4 ≤ q then 4 else if findS l c < 0 then 8 else if prB (l.getD (findS l c).toNat ST.zero).bay q = false then 11 else if countS l q = 16 then 9 else 0
def mvL (l : List ST) (c : ByteArray) (q : Int) : List ST :=
  if mvE l c q ≠ 0 then l else l.set (findS l c).toNat ⟨(l.getD (findS l c).toNat ST.zero).call, (l.getD (findS l c).toNat ST.zero).fix, (l.getD (findS l c).toNat ST.zero).tm, (l.getD (findS l c).toNat ST.zero).ht, q⟩
theorem mv_calls (l : List ST) (c : ByteArray) (q : Int) : (mvL l c q).map ST.call = l.map ST.call := by
  unfold mvL
  split
  · rfl
  · rename_i h
    have h0 : mvE l c q = 0 := Classical.byContradiction h
    refine List.ext_getElem? fun i => ?_
    rw [List.getElem?_map, List.getElem?_map, List.getElem?_set]
    split
    · rename_i hi
      subst hi
      split
      · rename_i hl
        rw [List.getD_eq_getElem?_getD, List.getElem?_eq_getElem hl]; rfl
      · rename_i hl
        first | (rw [List.getElem?_eq_none (by omega)]; done) | (rw [List.getElem?_eq_none (by omega)]; rfl)
    · rfl
theorem mv_len (l : List ST) (c : ByteArray) (q : Int) : (mvL l c q).length = l.length := by unfold mvL; split <;> simp
theorem mv_check {l : List ST} (h : ∀ x ∈ l, checkS x = 0) (c : ByteArray) (q : Int) : ∀ x ∈ mvL l c q, checkS x = 0 := by
  unfold mvL
  split
  · exact h
  · rename_i h1
    have h0 : mvE l c q = 0 := Classical.byContradiction h1
    intro x hx
    rcases List.mem_or_eq_of_mem_set hx with hx | rfl
    · exact h x hx
    · unfold mvE at h0
      split at h0
      · omega
      · split at h0
        · omega
        · rename_i a1 a2
          obtain ⟨j, hj⟩ : ∃ j : Nat, findS l c = j := ⟨(findS l c).toNat, by omega⟩
          obtain ⟨y, hy, _⟩ := idxP_at hj
          have hgd : l.getD (findS l c).toNat ST.zero = y := by rw [hj, Int.toNat_natCast, List.getD_eq_getElem?_getD, hy]; rfl
          have hc := h y (List.mem_of_getElem? hy)
          rw [hgd]
          unfold checkS at hc ⊢
          split at hc
          · omega
          · rename_i b1
            rw [if_neg b1]
            split at hc
            · omega
            · rename_i b2
              rw [if_neg (by dsimp only; omega)]
theorem uni_calls {l : List ST} : Uni l ↔ (l.map ST.call).Nodup := by
  unfold List.Nodup
  rw [List.pairwise_map, List.pairwise_iff_getElem]
  constructor
  · intro u i j hi hj hij h
    have := u i j _ _ (List.getElem?_eq_getElem hi) (List.getElem?_eq_getElem hj) h
    omega
  · intro h i j x y hx hy e
    obtain ⟨hi, rfl⟩ := List.getElem?_eq_some_iff.1 hx
    obtain ⟨hj, rfl⟩ := List.getElem?_eq_some_iff.1 hy
    rcases Nat.lt_trichotomy i j with q | q | q
    · exact absurd e (h i j hi hj q)
    · exact q
    · exact absurd e.symm (h j i hj hi q)
/-- Line breaks. -/
theorem dig_nl (n : Nat) : (decL n).count 10 = 0 := List.count_eq_zero.2 fun h => by
  have : 48 ≤ (10 : UInt8).toNat ∧ (10 : UInt8).toNat ≤ 57 := of_decide_eq_true (decL_dig n 10 h)
  revert this; decide
theorem named_nl {s : ByteArray} (h : namedS s = true) : (bl s).count 10 = 0 := List.count_eq_zero.2 fun hm => by
  obtain ⟨k, hk⟩ := List.getElem?_of_mem hm
  unfold namedS at h
  simp only [Bool.and_eq_true, List.all_eq_true, List.mem_range] at h
  have hks : k < s.size := by have := (List.getElem?_eq_some_iff.1 hk).1; rw [bl_len] at this; exact this
  have h1 := (okB_iff k _).1 (h.1 k hks)
  have : byteAt s k = 10 := by unfold byteAt; rw [List.getD_eq_getElem?_getD]; show ((bl s)[k]?).getD 0 = 10; rw [hk]; rfl
  rw [this] at h1
  revert h1
  have : (10 : UInt8).toNat = 10 := rfl
  omega
theorem line_nl {q : Nat} {x : ST} (h : checkS x = 0) : (lineQ q x).count 10 = 1 := by
  have h2 : namedS x.call = true ∧ namedS x.fix = true := by
    unfold checkS at h
    split at h
    · omega
    · rename_i a1
      exact ⟨by cases hq : namedS x.call <;> simp_all, by cases hq : namedS x.fix <;> simp_all⟩
  unfold lineQ
  simp [List.count_append, List.count_cons, dig_nl, named_nl h2.1, named_nl h2.2]
theorem lines_nl {q : Nat} : ∀ (o : List ST), (∀ x ∈ o, checkS x = 0) → (linesQ q o).count 10 = o.length
  | [], _ => rfl
  | x :: o, h => by
    have : linesQ q (x :: o) = lineQ q x ++ linesQ q o := by simp [linesQ]
    rw [this, List.count_append, line_nl (h x (by simp)), lines_nl o fun y hy => h y (by simp [hy]), List.length_cons]; omega
end Go.Proofs.YtlfapbkaknikpaaDoorA
