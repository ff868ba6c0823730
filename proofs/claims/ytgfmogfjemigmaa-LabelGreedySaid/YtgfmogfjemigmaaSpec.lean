/- Rectangles and labels, on plain numbers. -/
import Derived.Test.YtgfmogfjemigmaaAbs19
import Derived.Test.YtgfmogfjemigmaaAbs9
namespace Go.Proofs.YtgfmogfjemigmaaA
open Go
set_option linter.unusedVariables false

structure LB where
  x : Int
  y : Int
  w : Int
  h : Int
def LB.enc (b : LB) : List D := [.int .i64 b.x, .int .i64 b.y, .int .i64 b.w, .int .i64 b.h]
def LB.cut (b : LB) : LB := ⟨cutI b.x (-9) 9, cutI b.y (-9) 9, cutI b.w 1 7, cutI b.h 1 7⟩
def insideS (b : LB) (x y : Int) : Bool := decide (b.x ≤ x) && decide (x < b.x + b.w) && decide (b.y ≤ y) && decide (y < b.y + b.h)
def meetS (a b : LB) : Bool := decide (a.x < b.x + b.w) && decide (b.x < a.x + a.w) && decide (a.y < b.y + b.h) && decide (b.y < a.y + a.h)
def rowAny (b : LB) (x0 y : Int) (k : Nat) : Bool := (List.range k).any fun (i : Nat) => insideS b (x0 + (i : Int)) y
def boxAny (b : LB) (x0 y0 : Int) (w k : Nat) : Bool := (List.range k).any fun (j : Nat) => rowAny b x0 (y0 + (j : Int)) w
theorem rowAny_succ (b : LB) (x0 y : Int) (k : Nat) : rowAny b x0 y (k + 1) = (rowAny b x0 y k || insideS b (x0 + k) y) := by
  unfold rowAny; rw [List.range_succ, List.any_append]; simp
theorem boxAny_succ (b : LB) (x0 y0 : Int) (w k : Nat) : boxAny b x0 y0 w (k + 1) = (boxAny b x0 y0 w k || rowAny b x0 (y0 + k) w) := by
  unfold boxAny; rw [List.range_succ, List.any_append]; simp
def LB.ok (b : LB) : Prop := -1000000 ≤ b.x ∧ b.x ≤ 1000000 ∧ -1000000 ≤ b.y ∧ b.y ≤ 1000000 ∧ 1 ≤ b.w ∧ b.w ≤ 1000000 ∧ 1 ≤ b.h ∧ b.h ≤ 1000000
theorem LB.cut_ok (b : LB) : b.cut.ok := by
  have h1 := cutI_bounds b.x (show (-9 : Int) ≤ 9 by decide)
  have h2 := cutI_bounds b.y (show (-9 : Int) ≤ 9 by decide)
  have h3 := cutI_bounds b.w (show (1 : Int) ≤ 7 by decide)
  have h4 := cutI_bounds b.h (show (1 : Int) ≤ 7 by decide)
  unfold LB.ok LB.cut
  dsimp only
  omega
theorem insideS_iff (b : LB) (x y : Int) : insideS b x y = true ↔ b.x ≤ x ∧ x < b.x + b.w ∧ b.y ≤ y ∧ y < b.y + b.h := by
  unfold insideS; simp only [Bool.and_eq_true, decide_eq_true_eq]; omega
theorem boxAny_meet {a b : LB} (ha : a.ok) (hb : b.ok) : boxAny b a.x a.y a.w.toNat a.h.toNat = meetS a b := by
  unfold LB.ok at ha hb
  rw [Bool.eq_iff_iff]
  unfold boxAny rowAny meetS
  simp only [List.any_eq_true, List.mem_range, insideS_iff, Bool.and_eq_true, decide_eq_true_eq]
  constructor
  · rintro ⟨j, hj, i, hi, h⟩; omega
  · intro h
    exact ⟨(max a.y b.y - a.y).toNat, by omega, (max a.x b.x - a.x).toNat, by omega, by omega⟩
theorem meetS_comm (a b : LB) : meetS a b = meetS b a := by
  rw [Bool.eq_iff_iff]; unfold meetS; simp only [Bool.and_eq_true, decide_eq_true_eq]; omega
def shLB : Sh := .cons (.int .i64) (.cons (.int .i64) (.cons (.int .i64) (.cons (.int .i64) .unit)))
theorem lb_of {l : List D} (h : Ty shLB l) : ∃ b : LB, l = b.enc ∧ ((-9223372036854775808 ≤ b.x ∧ b.x ≤ 9223372036854775807) ∧ (-9223372036854775808 ≤ b.y ∧ b.y ≤ 9223372036854775807) ∧ (-9223372036854775808 ≤ b.w ∧ b.w ≤ 9223372036854775807) ∧ (-9223372036854775808 ≤ b.h ∧ b.h ≤ 9223372036854775807)) := by
  obtain ⟨_, _, rfl, ⟨x, rfl, hx⟩, _, _, rfl, ⟨y, rfl, hy⟩, _, _, rfl, ⟨w, rfl, hw⟩, _, _, rfl, ⟨v, rfl, hv⟩, rfl⟩ := h
  exact ⟨⟨x, y, w, v⟩, rfl, wf64 hx, wf64 hy, wf64 hw, wf64 hv⟩

/-! ### labels -/
def LB.it (b : LB) : Prop := -1000 ≤ b.x ∧ b.x ≤ 1000 ∧ -1000 ≤ b.y ∧ b.y ≤ 1000 ∧ 1 ≤ b.w ∧ b.w ≤ 40 ∧ 1 ≤ b.h ∧ b.h ≤ 40
open Classical in
/-- label.Check -/
noncomputable def checkL (l : List LB) : Int := if 32 < l.length then 2 else if ∀ x ∈ l, x.it then 0 else 4
def boxX (x : LB) (s : Int) : Int := if s = 1 ∨ s = 2 ∨ s = 5 then x.x - x.w else if s = 6 ∨ s = 7 then x.x - x.w / 2 else x.x + 1
def boxS (x : LB) (s : Int) : LB := ⟨boxX x s, if s = 2 ∨ s = 3 ∨ s = 7 then x.y - x.h else if s = 4 ∨ s = 5 then x.y - x.h / 2 else x.y + 1, x.w, x.h⟩
theorem boxS_ok {x : LB} (h : x.it) (s : Int) : (boxS x s).ok := by
  unfold LB.it at h
  unfold boxS boxX LB.ok
  dsimp only
  split <;> split <;> (try split) <;> (try split) <;> omega
def cell1 (x : LB) : LB := ⟨x.x, x.y, 1, 1⟩
def coversS (b : LB) (l : List LB) : Bool := l.any fun x => meetS b (cell1 x)
def freeS (b : LB) (o : List LB) : Bool := !o.any fun x => meetS b x
def stepL (l : List LB) (f : List Int → List LB → Option (List Int)) (o : List Int) (pl : List LB) (i : Nat) : Option (List Int) :=
  if coversS (boxS (l.getD o.length ⟨0, 0, 0, 0⟩) i) l = true ∨ freeS (boxS (l.getD o.length ⟨0, 0, 0, 0⟩) i) pl = false then none
  else f (o ++ [(i : Int)]) (pl ++ [boxS (l.getD o.length ⟨0, 0, 0, 0⟩) i])
def srchL (l : List LB) : Nat → List Int → List LB → Option (List Int)
  | 0, o, _ => some o
  | n + 1, o, pl => (List.range 8).findSome? (stepL l (srchL l n) o pl)
theorem srchL_len {l : List LB} : ∀ (n : Nat) (o : List Int) (pl : List LB) (r : List Int), srchL l n o pl = some r → o.length ≤ r.length
  | 0, o, pl, r, hr => by simp only [srchL, Option.some.injEq] at hr; subst hr; exact Nat.le_refl _
  | n + 1, o, pl, r, hr => by
    simp only [srchL] at hr
    obtain ⟨i, _, hri⟩ := List.exists_of_findSome?_eq_some hr
    unfold stepL at hri
    split at hri
    · cases hri
    · have := srchL_len n _ _ r hri
      rw [List.length_append] at this
      omega
theorem first_some {α : Type} {f : Nat → Option α} : ∀ (n i : Nat) (r : α), i < n → (∀ j, j < i → f j = none) → f i = some r → (List.range n).findSome? f = some r := by
  intro n
  induction n with
  | zero => intro i r h; omega
  | succ n ih =>
    intro i r hi h1 h2
    rw [List.range_succ, List.findSome?_append]
    by_cases h : i < n
    · rw [ih i r h h1 h2]; rfl
    · obtain rfl : i = n := by omega
      have : (List.range i).findSome? f = none := List.findSome?_eq_none_iff.2 fun j hj => h1 j (List.mem_range.1 hj)
      rw [this]; simp [h2]
/-- label.Place -/
noncomputable def placeL (l : List LB) : List Int × Int :=
  if ¬ checkL l = 0 then ([], checkL l) else if 6 < l.length then ([], 2) else if l.length = 0 then ([], 0) else match srchL l l.length [] [] with | none => ([], 8) | some o => (o, 0)
theorem checkL_zero {l : List LB} (h : checkL l = 0) : l.length ≤ 32 ∧ ∀ x ∈ l, x.it := by
  unfold checkL at h
  split at h
  · omega
  · split at h
    · exact ⟨by omega, by assumption⟩
    · omega
/-! ### moved -/
def LB.mv (b : LB) (x y : Int) : LB := ⟨b.x + x, b.y + y, b.w, b.h⟩
theorem meetS_mv (a b : LB) (x y : Int) : meetS (a.mv x y) (b.mv x y) = meetS a b := by
  rw [Bool.eq_iff_iff]; unfold meetS LB.mv; simp only [Bool.and_eq_true, decide_eq_true_eq]; omega
theorem boxS_mv (a : LB) (x y s : Int) : boxS (a.mv x y) s = (boxS a s).mv x y := by
  unfold boxS boxX LB.mv
  dsimp only
  congr 1
  · split <;> (try split) <;> omega
  · split <;> (try split) <;> omega
theorem coversS_mv (b : LB) (l : List LB) (x y : Int) : coversS (b.mv x y) (l.map (·.mv x y)) = coversS b l := by
  unfold coversS
  rw [List.any_map]
  congr 1
  funext z
  show meetS (b.mv x y) (cell1 (z.mv x y)) = _
  rw [show cell1 (z.mv x y) = (cell1 z).mv x y from rfl, meetS_mv]
theorem freeS_mv (b : LB) (l : List LB) (x y : Int) : freeS (b.mv x y) (l.map (·.mv x y)) = freeS b l := by
  unfold freeS
  rw [List.any_map]
  congr 2
  funext z
  exact meetS_mv b z x y
theorem srchL_mv (l : List LB) (x y : Int) : ∀ (n : Nat) (o : List Int) (pl : List LB), o.length + n = l.length → srchL (l.map (·.mv x y)) n o (pl.map (·.mv x y)) = srchL l n o pl
  | 0, o, pl, _ => rfl
  | n + 1, o, pl, h => by
    simp only [srchL]
    congr 1
    funext i
    unfold stepL
    have hk : o.length < l.length := by omega
    have e1 : (l.map (·.mv x y)).getD o.length ⟨0, 0, 0, 0⟩ = (l.getD o.length ⟨0, 0, 0, 0⟩).mv x y := by
      simp only [List.getD_eq_getElem?_getD, List.getElem?_map, List.getElem?_eq_getElem hk, Option.map_some, Option.getD_some]
    rw [e1, boxS_mv, coversS_mv, freeS_mv]
    have e2 : pl.map (·.mv x y) ++ [(boxS (l.getD o.length ⟨0, 0, 0, 0⟩) i).mv x y] = (pl ++ [boxS (l.getD o.length ⟨0, 0, 0, 0⟩) i]).map (·.mv x y) := by simp
    rw [e2, srchL_mv l x y n _ _ (by simp; omega)]
/-- The points of LabelShifted, cut. -/
def LB.cut8 (b : LB) : LB := ⟨cutI b.x (-800) 800, cutI b.y (-800) 800, b.w, b.h⟩
theorem checkL_mv (l : List LB) {x y : Int} (hx : -100 ≤ x ∧ x ≤ 100) (hy : -100 ≤ y ∧ y ≤ 100) : checkL ((l.map LB.cut8).map (·.mv x y)) = checkL (l.map LB.cut8) := by
  unfold checkL
  simp only [List.length_map]
  congr 1
  have : (∀ z ∈ (l.map LB.cut8).map (·.mv x y), z.it) ↔ (∀ z ∈ l.map LB.cut8, z.it) := by
    simp only [List.mem_map, forall_exists_index, and_imp, forall_apply_eq_imp_iff₂]
    constructor
    · intro h a ha
      have := h a ha
      have h1 := cutI_bounds a.x (show (-800 : Int) ≤ 800 by decide)
      have h2 := cutI_bounds a.y (show (-800 : Int) ≤ 800 by decide)
      unfold LB.it LB.mv LB.cut8 at this
      unfold LB.it LB.cut8
      dsimp only at this ⊢
      omega
    · intro h a ha
      have := h a ha
      have h1 := cutI_bounds a.x (show (-800 : Int) ≤ 800 by decide)
      have h2 := cutI_bounds a.y (show (-800 : Int) ≤ 800 by decide)
      unfold LB.it LB.cut8 at this
      unfold LB.it LB.mv LB.cut8
      dsimp only at this ⊢
      omega
  by_cases h : ∀ z ∈ l.map LB.cut8, z.it
  · rw [if_pos (this.2 h), if_pos h]
  · rw [if_neg fun h2 => h (this.1 h2), if_neg h]
theorem placeL_mv (l : List LB) {x y : Int} (hx : -100 ≤ x ∧ x ≤ 100) (hy : -100 ≤ y ∧ y ≤ 100) : placeL ((l.map LB.cut8).map (·.mv x y)) = placeL (l.map LB.cut8) := by
  unfold placeL
  rw [checkL_mv l hx hy, List.length_map (f := fun z : LB => z.mv x y)]
  have := srchL_mv (l.map LB.cut8) x y (l.map LB.cut8).length [] [] (by simp)
  rw [List.map_nil] at this
  rw [this]

theorem place_fact : placeL [⟨0, 0, 2, 2⟩, ⟨9, 9, 2, 2⟩] = ([0, 0], 0) := by
  have h0 : checkL [⟨0, 0, 2, 2⟩, ⟨9, 9, 2, 2⟩] = 0 := by
    unfold checkL
    rw [if_neg (by decide), if_pos]
    intro x hx
    rcases List.mem_cons.1 hx with rfl | hx
    · unfold LB.it; decide
    · rw [List.mem_singleton.1 hx]; unfold LB.it; decide
  have h1 : srchL [⟨0, 0, 2, 2⟩, ⟨9, 9, 2, 2⟩] 2 [] [] = some [0, 0] := by decide +kernel
  unfold placeL
  rw [h0, if_neg (by decide), if_neg (by decide), if_neg (by decide)]
  rw [show ([⟨0, 0, 2, 2⟩, ⟨9, 9, 2, 2⟩] : List LB).length = 2 from rfl, h1]
theorem srchL_full {l : List LB} : ∀ (n : Nat) (o : List Int) (pl : List LB) (r : List Int), o.length + n = l.length → srchL l n o pl = some r → r.length = l.length
  | 0, o, pl, r, h, hr => by simp only [srchL, Option.some.injEq] at hr; subst hr; omega
  | n + 1, o, pl, r, h, hr => by
    simp only [srchL] at hr
    obtain ⟨i, _, hri⟩ := List.exists_of_findSome?_eq_some hr
    unfold stepL at hri
    split at hri
    · cases hri
    · exact srchL_full n _ _ r (by simp; omega) hri
theorem placeL_len (l : List LB) : (placeL l).1.length ≤ 6 := by
  unfold placeL
  split
  · simp
  · split
    · simp
    · split
      · simp
      · split
        · simp
        · rename_i o ho
          have := srchL_full l.length [] [] o (by simp) ho
          dsimp only
          omega
theorem cutL {l : List LB} {n : Nat} : ((l.take (min (((l.map LB.enc).length : Nat) : Int) (n : Int)).toNat).drop (0 : Int).toNat) = l.take (min l.length n) := by
  rw [List.length_map, show (min ((l.length : Nat) : Int) (n : Int)).toNat = min l.length n by omega]; rfl
end Go.Proofs.YtgfmogfjemigmaaA
