/- label.Greedy, on plain lists. -/
import Derived.Test.YtgfmogfjemigmaaSpec
namespace Go.Proofs.YtgfmogfjemigmaaA
open Go
set_option linter.unusedVariables false

def z4 : LB := ⟨0, 0, 0, 0⟩
def okS (l pl : List LB) (x : LB) (i : Nat) : Bool := !coversS (boxS x (i : Int)) l && freeS (boxS x (i : Int)) pl
def firstS (l pl : List LB) (x : LB) : Int := idxP (okS l pl x) (List.range 8)
def gst (l : List LB) : Nat → List Int × List LB
  | 0 => ([], [])
  | k + 1 => ((gst l k).1 ++ [firstS l (gst l k).2 (l.getD k z4)], if firstS l (gst l k).2 (l.getD k z4) < 0 then (gst l k).2 else (gst l k).2 ++ [boxS (l.getD k z4) (firstS l (gst l k).2 (l.getD k z4))])
theorem first_at {l pl : List LB} {x : LB} {i : Nat} (hi : i < 8) (h : okS l pl x i = true) (hI : ∀ j, j < i → okS l pl x j = false) : firstS l pl x = i :=
  idxP_some (x := i) (List.getElem?_range hi) h fun j y hj hy => by
    have h8 : j < 8 := by omega
    rw [List.getElem?_range h8] at hy
    obtain rfl := Option.some.inj hy
    exact hI j hj
theorem first_no {l pl : List LB} {x : LB} (hI : ∀ j, j < 8 → okS l pl x j = false) : firstS l pl x = -1 :=
  idxP_none fun j y hy => by
    have h8 : j < 8 := by have := (List.getElem?_eq_some_iff.1 hy).1; simpa using this
    rw [List.getElem?_range h8] at hy
    obtain rfl := Option.some.inj hy
    exact hI j h8
theorem first_cases (l pl : List LB) (x : LB) : (firstS l pl x = -1 ∧ ∀ j, j < 8 → okS l pl x j = false) ∨ ∃ i : Nat, i < 8 ∧ firstS l pl x = i ∧ okS l pl x i = true ∧ ∀ j, j < i → okS l pl x j = false := by
  by_cases h : ∀ j, j < 8 → okS l pl x j = false
  · exact .inl ⟨first_no h, h⟩
  · have h2 : ∃ i, i < 8 ∧ okS l pl x i = true := Classical.byContradiction fun hn => h fun j hj => by
      cases h3 : okS l pl x j with
      | false => rfl
      | true => exact absurd ⟨j, hj, h3⟩ hn
    obtain ⟨i, hi, hI⟩ : ∃ i, (i < 8 ∧ okS l pl x i = true) ∧ ∀ j, j < i → ¬ (j < 8 ∧ okS l pl x j = true) := by
      obtain ⟨i, hi⟩ := h2
      induction i using Nat.strongRecOn with
      | ind i ih =>
        by_cases h4 : ∃ j, j < i ∧ j < 8 ∧ okS l pl x j = true
        · obtain ⟨j, hj, h5⟩ := h4; exact ih j hj h5
        · exact ⟨i, hi, fun j hj h5 => h4 ⟨j, hj, h5⟩⟩
    have hI2 : ∀ j, j < i → okS l pl x j = false := fun j hj => eq_false_of_ne_true fun h5 => hI j hj ⟨by omega, h5⟩
    exact .inr ⟨i, hi.1, first_at hi.1 hi.2 hI2, hi.2, hI2⟩
theorem gst_len (l : List LB) : ∀ k, (gst l k).1.length = k
  | 0 => rfl
  | k + 1 => by rw [gst, List.length_append, gst_len l k]; rfl
theorem gst_pl (l : List LB) : ∀ k, (gst l k).2.length ≤ k
  | 0 => Nat.le_refl _
  | k + 1 => by
    have := gst_pl l k
    rw [gst]
    dsimp only
    split
    · omega
    · rw [List.length_append, List.length_singleton]; omega
theorem gst_pre (l : List LB) (k : Nat) : ∀ j, (gst l (k + j)).1.take k = (gst l k).1
  | 0 => by rw [Nat.add_zero, List.take_of_length_le (by rw [gst_len]; omega)]
  | j + 1 => by
    rw [← Nat.add_assoc, gst]
    dsimp only
    rw [List.take_append_of_le_length (by rw [gst_len]; omega), gst_pre l k j]
theorem gst_at (l : List LB) {i n : Nat} {x : LB} (hx : l[i]? = some x) (h : i < n) : (gst l n).1.getD i 0 = firstS l (gst l i).2 x := by
  have h1 := gst_pre l (i + 1) (n - (i + 1))
  rw [show i + 1 + (n - (i + 1)) = n by omega] at h1
  have h2 : ((gst l n).1.take (i + 1)).getD i 0 = (gst l n).1.getD i 0 := by
    rw [List.getD_eq_getElem?_getD, List.getD_eq_getElem?_getD, List.getElem?_take, if_pos (by omega)]
  rw [← h2, h1, gst, List.getD_eq_getElem?_getD (l := l), hx, List.getD_eq_getElem?_getD]
  dsimp only [Option.getD_some]
  rw [List.getElem?_append, gst_len, if_neg (by omega), Nat.sub_self]; rfl
def gv (l : List LB) (i : Nat) : Int := firstS l (gst l i).2 (l.getD i z4)
theorem gv_range (l : List LB) (i : Nat) : -1 ≤ gv l i ∧ gv l i ≤ 7 := by
  unfold gv
  rcases first_cases l (gst l i).2 (l.getD i z4) with ⟨h, _⟩ | ⟨j, hj, h, _⟩ <;> omega
theorem getD_some' {α : Type} {l : List α} {i : Nat} {x d : α} (h : l[i]? = some x) : l.getD i d = x := by rw [List.getD_eq_getElem?_getD, h]; rfl
/-- The rectangles that are placed. -/
theorem gst_mem (l : List LB) : ∀ k, k ≤ l.length → ∀ c, c ∈ (gst l k).2 ↔ ∃ j y, j < k ∧ l[j]? = some y ∧ 0 ≤ gv l j ∧ c = boxS y (gv l j)
  | 0, _, c => by simp [gst]
  | k + 1, hk, c => by
    obtain ⟨x, hx⟩ : ∃ x, l[k]? = some x := ⟨_, List.getElem?_eq_getElem (by omega)⟩
    have ih := gst_mem l k (by omega) c
    have hg : firstS l (gst l k).2 (l.getD k z4) = gv l k := rfl
    have hd : l.getD k z4 = x := getD_some' hx
    rw [gst]
    dsimp only
    rw [hg, hd]
    constructor
    · intro h
      split at h
      · obtain ⟨j, y, hj, h2⟩ := ih.1 h; exact ⟨j, y, by omega, h2⟩
      · rcases List.mem_append.1 h with h | h
        · obtain ⟨j, y, hj, h2⟩ := ih.1 h; exact ⟨j, y, by omega, h2⟩
        · exact ⟨k, x, by omega, hx, by omega, List.mem_singleton.1 h⟩
    · rintro ⟨j, y, hj, hy, h0, rfl⟩
      by_cases he : j = k
      · subst he
        rw [hx] at hy; obtain rfl := Option.some.inj hy
        rw [if_neg (by omega)]
        exact List.mem_append_right _ (List.mem_singleton.2 rfl)
      · have := ih.2 ⟨j, y, by omega, hy, h0, rfl⟩
        split
        · exact this
        · exact List.mem_append_left _ this
theorem gst_ok {l : List LB} (hl : ∀ x ∈ l, x.it) {k : Nat} (hk : k ≤ l.length) : ∀ c ∈ (gst l k).2, c.ok := fun c hc => by
  obtain ⟨j, y, _, hy, _, rfl⟩ := (gst_mem l k hk c).1 hc
  exact boxS_ok (hl y (List.mem_of_getElem? hy)) _
theorem meet_cell {b : LB} (hb : b.ok) (y : LB) : meetS b (cell1 y) = insideS b y.x y.y := by
  unfold LB.ok at hb
  rw [Bool.eq_iff_iff, insideS_iff]
  unfold meetS cell1
  simp only [Bool.and_eq_true, decide_eq_true_eq]
  omega
theorem okS_iff {l pl : List LB} {x : LB} (hx : x.it) {i : Nat} : okS l pl x i = true ↔ (∀ y ∈ l, insideS (boxS x (i : Int)) y.x y.y = false) ∧ ∀ c ∈ pl, meetS (boxS x (i : Int)) c = false := by
  have hb := boxS_ok hx (i : Int)
  unfold okS coversS freeS
  rw [Bool.and_eq_true, Bool.not_eq_true', Bool.not_eq_true', List.any_eq_false, List.any_eq_false]
  constructor
  · rintro ⟨h1, h2⟩
    exact ⟨fun y hy => by rw [← meet_cell hb]; exact eq_false_of_ne_true (h1 y hy), fun c hc => eq_false_of_ne_true (h2 c hc)⟩
  · rintro ⟨h1, h2⟩
    exact ⟨fun y hy => by rw [meet_cell hb, h1 y hy]; decide, fun c hc => by rw [h2 c hc]; decide⟩
/-- What LabelsFit tells. -/
def fitAt (l : List LB) (g : List Int) (i : Nat) (x : LB) : Prop :=
  g.getD i 0 < 0 ∨ ((∀ y ∈ l, insideS (boxS x (g.getD i 0)) y.x y.y = false) ∧ ∀ (k : Nat) (y : LB), k < i → l[k]? = some y → g.getD k 0 < 0 ∨ meetS (boxS x (g.getD i 0)) (boxS y (g.getD k 0)) = false)
def fitsP (l : List LB) (g : List Int) : Prop := ∀ (i : Nat) (x : LB), l[i]? = some x → fitAt l g i x
open Classical in
noncomputable def fitsS (l : List LB) (g : List Int) : Bool := decide (fitsP l g)
def outS (l : List LB) (x : LB) (s : Int) : Bool := !l.any fun y => insideS (boxS x s) y.x y.y
theorem greedy_fits {l : List LB} (hl : ∀ x ∈ l, x.it) : fitsS l (gst l l.length).1 = true := by
  classical
  refine decide_eq_true fun i x hx => ?_
  have hi := (List.getElem?_eq_some_iff.1 hx).1
  have hxi := hl x (List.mem_of_getElem? hx)
  unfold fitAt
  rw [gst_at l hx hi]
  have hgv : firstS l (gst l i).2 x = gv l i := by unfold gv; rw [getD_some' hx]
  rcases first_cases l (gst l i).2 x with ⟨h, _⟩ | ⟨j, hj, h, hok, _⟩
  · exact .inl (by omega)
  · refine .inr ?_
    rw [h]
    obtain ⟨h1, h2⟩ := (okS_iff hxi).1 hok
    refine ⟨h1, fun k y hk hy => ?_⟩
    rw [gst_at l hy (by omega)]
    have hgk : firstS l (gst l k).2 y = gv l k := by unfold gv; rw [getD_some' hy]
    rw [hgk]
    rcases Int.lt_or_le (gv l k) 0 with h0 | h0
    · exact .inl h0
    · exact .inr (h2 _ ((gst_mem l i (by omega) _).2 ⟨k, y, hk, hy, h0, rfl⟩))
/-- A position that fits is not before the one that was taken. -/
theorem greedy_first {l : List LB} (hl : ∀ x ∈ l, x.it) {k s : Nat} {x : LB} (hx : l[k]? = some x) (hs : s < 8) (hf : fitsS (l.take (k + 1)) (((gst l l.length).1.take (k + 1)).set k s) = true) (ho : outS l x s = true) : 0 ≤ gv l k ∧ gv l k ≤ s := by
  classical
  have hk := (List.getElem?_eq_some_iff.1 hx).1
  have hxi := hl x (List.mem_of_getElem? hx)
  have hfp := of_decide_eq_true hf
  have hgl := gst_len l l.length
  have hxk : (l.take (k + 1))[k]? = some x := by rw [List.getElem?_take, if_pos (by omega)]; exact hx
  have hgk : (((gst l l.length).1.take (k + 1)).set k (s : Int)).getD k 0 = s := by
    rw [List.getD_eq_getElem?_getD, List.getElem?_set_self (by rw [List.length_take]; omega)]; rfl
  have hok : okS l (gst l k).2 x s = true := by
    refine (okS_iff hxi).2 ⟨fun y hy => ?_, fun c hc => ?_⟩
    · unfold outS at ho
      rw [Bool.not_eq_true', List.any_eq_false] at ho
      exact eq_false_of_ne_true (ho y hy)
    · obtain ⟨j, y, hj, hy, h0, rfl⟩ := (gst_mem l k (by omega) c).1 hc
      have h1 := hfp k x hxk
      unfold fitAt at h1
      rw [hgk] at h1
      rcases h1 with h1 | ⟨_, h1⟩
      · omega
      · have h2 := h1 j y hj (by rw [List.getElem?_take, if_pos (by omega)]; exact hy)
        have hgj : (((gst l l.length).1.take (k + 1)).set k (s : Int)).getD j 0 = gv l j := by
          rw [List.getD_eq_getElem?_getD, List.getElem?_set_ne (by omega), List.getElem?_take, if_pos (by omega), ← List.getD_eq_getElem?_getD, gst_at l hy (by omega)]
          unfold gv; rw [getD_some' hy]
        rw [hgj] at h2
        rcases h2 with h2 | h2
        · omega
        · exact h2
  have hgv : gv l k = firstS l (gst l k).2 x := by unfold gv; rw [getD_some' hx]
  rw [hgv]
  rcases first_cases l (gst l k).2 x with ⟨h, hno⟩ | ⟨i, hi, h, _, hI⟩
  · rw [hno s hs] at hok; cases hok
  · rw [h]
    refine ⟨by omega, ?_⟩
    refine Classical.byContradiction fun hn => ?_
    rw [hI s (by omega)] at hok; cases hok
theorem greedy_srch {l : List LB} (hno : ∀ k, k < l.length → 0 ≤ gv l k) : ∀ n k, k + n = l.length → srchL l n (gst l k).1 (gst l k).2 = some (gst l l.length).1
  | 0, k, h => by obtain rfl : k = l.length := by omega
                  rfl
  | n + 1, k, h => by
    have h0 := hno k (by omega)
    have hgl := gst_len l k
    unfold gv at h0
    have hz : (l.getD k z4) = l.getD (gst l k).1.length ⟨0, 0, 0, 0⟩ := by rw [hgl]; rfl
    rcases first_cases l (gst l k).2 (l.getD k z4) with ⟨h1, _⟩ | ⟨i, hi, h1, hok, hI⟩
    · omega
    · have ih := greedy_srch hno n (k + 1) (by omega)
      rw [gst, h1] at ih
      dsimp only at ih
      rw [if_neg (by omega)] at ih
      simp only [srchL]
      refine first_some _ i _ hi (fun j hj => ?_) ?_
      · have := hI j hj
        unfold stepL
        rw [← hz, if_pos]
        unfold okS at this
        cases hc : coversS (boxS (l.getD k z4) (j : Int)) l with
        | true => exact .inl rfl
        | false => rw [hc] at this; exact .inr (by simpa using this)
      · unfold stepL
        rw [← hz, if_neg]
        · exact ih
        · unfold okS at hok
          rw [Bool.and_eq_true, Bool.not_eq_true'] at hok
          rintro (h2 | h2)
          · rw [hok.1] at h2; cases h2
          · rw [hok.2] at h2; cases h2
/-- LabelGreedy's last words. -/
theorem greedy_end {l : List LB} (h0 : checkL l = 0) (h6 : l.length ≤ 6) : ((gst l l.length).1.any (fun n => decide (n = -1)) || (decide ((placeL l).2 = 0) && decide ((gst l l.length).1 = (placeL l).1))) = true := by
  by_cases hn : (-1 : Int) ∈ (gst l l.length).1
  · rw [Bool.or_eq_true]; exact .inl (List.any_eq_true.2 ⟨_, hn, by decide⟩)
  · rw [Bool.or_eq_true]; refine .inr ?_
    have hno : ∀ k, k < l.length → 0 ≤ gv l k := fun k hk => by
      obtain ⟨x, hx⟩ : ∃ x, l[k]? = some x := ⟨_, List.getElem?_eq_getElem hk⟩
      have h1 := gst_at l hx hk
      have h2 : (gst l l.length).1.getD k 0 ∈ (gst l l.length).1 := by
        rw [List.getD_eq_getElem?_getD, List.getElem?_eq_getElem (by rw [gst_len]; exact hk)]; exact List.getElem_mem _
      have h3 := gv_range l k
      have h4 : firstS l (gst l k).2 x = gv l k := by unfold gv; rw [getD_some' hx]
      rw [h1, h4] at h2
      refine Classical.byContradiction fun h5 => hn ?_
      rw [show (-1 : Int) = gv l k by omega]
      exact h2
    have hs := greedy_srch hno l.length 0 (by omega)
    unfold placeL
    rw [if_neg (by omega), if_neg (by omega)]
    by_cases hz : l.length = 0
    · rw [if_pos hz]
      have : (gst l l.length).1 = [] := List.eq_nil_of_length_eq_zero (by rw [gst_len]; exact hz)
      rw [this]; rfl
    · rw [if_neg hz]
      have hs' : srchL l l.length [] [] = some (gst l l.length).1 := hs
      rw [hs']
      simp
theorem gst_range (l : List LB) : ∀ k, ∀ n ∈ (gst l k).1, n ≤ 7
  | 0, n, h => by simp [gst] at h
  | k + 1, n, h => by
    rw [gst] at h
    rcases List.mem_append.1 h with h | h
    · exact gst_range l k n h
    · rw [List.mem_singleton.1 h]
      exact (gv_range l k).2
noncomputable def grE (l : List LB) : List Int := if checkL l = 0 then (gst l l.length).1 else []
theorem placeL_err {l : List LB} (h : ¬ checkL l = 0) : placeL l = ([], checkL l) := by unfold placeL; rw [if_pos h]
end Go.Proofs.YtgfmogfjemigmaaA
