/- Rectangles and labels, on plain numbers. -/
import Derived.Test.YtgfmogfjemigmaaAbs17
import Derived.Test.YtgfmogfjemigmaaAbs9
namespace Go.Proofs.YtgfmogfjemigmaaA
open Go
set_option linter.unusedVariables false

structure LB where
  x : Int
  y : Int
  w : Int
  h : Int
def LB.enc (b : LB) : List D := [.int .i64 b.x, .int .i64 b.y, .int .i64 b.w, .int .i64 b.h]
def LB.cut (b : LB) : LB := ⟨cutI b.x (-9) 9, cutI b.y (-9) 9, cutI b.w 1 7, cutI b.h 1 7⟩
def insideS (b : LB) (x y : Int) : Bool := decide (b.x ≤ x) && decide (x < b.x + b.w) && decide (b.y ≤ y) && decide (y < b.y + b.h)
def meetS (a b : LB) : Bool := decide (a.x < b.x + b.w) && decide (b.x < a.x + a.w) && decide (a.y < b.y + b.h) && decide (b.y < a.y + a.h)
def rowAny (b : LB) (x0 y : Int) (k : Nat) : Bool := (List.range k).any fun (i : Nat) => insideS b (x0 + (i : Int)) y
def boxAny (b : LB) (x0 y0 : Int) (w k : Nat) : Bool := (List.range k).any fun (j : Nat) => rowAny b x0 (y0 + (j : Int)) w
theorem rowAny_succ (b : LB) (x0 y : Int) (k : Nat) : rowAny b x0 y (k + 1) = (rowAny b x0 y k || insideS b (x0 + k) y) := by
  unfold rowAny; rw [List.range_succ, List.any_append]; simp
theorem boxAny_succ (b : LB) (x0 y0 : Int) (w k : Nat) : boxAny b x0 y0 w (k + 1) = (boxAny b x0 y0 w k || rowAny b x0 (y0 + k) w) := by
  unfold boxAny; rw [List.range_succ, List.any_append]; simp
def LB.ok (b : LB) : Prop := -1000000 ≤ b.x ∧ b.x ≤ 1000000 ∧ -1000000 ≤ b.y ∧ b.y ≤ 1000000 ∧ 1 ≤ b.w ∧ b.w ≤ 1000000 ∧ 1 ≤ b.h ∧ b.h ≤ 1000000
theorem LB.cut_ok (b : LB) : b.cut.ok := by
  have h1 := cutI_bounds b.x (show (-9 : Int) ≤ 9 by decide)
  have h2 := cutI_bounds b.y (show (-9 : Int) ≤ 9 by decide)
  have h3 := cutI_bounds b.w (show (1 : Int) ≤ 7 by decide)
  have h4 := cutI_bounds b.h (show (1 : Int) ≤ 7 by decide)
  unfold LB.ok LB.cut
  dsimp only
  omega
theorem insideS_iff (b : LB) (x y : Int) : insideS b x y = true ↔ b.x ≤ x ∧ x < b.x + b.w ∧ b.y ≤ y ∧ y < b.y + b.h := by
  unfold insideS; simp only [Bool.and_eq_true, decide_eq_true_eq]; omega
theorem boxAny_meet {a b : LB} (ha : a.ok) (hb : b.ok) : boxAny b a.x a.y a.w.toNat a.h.toNat = meetS a b := by
  unfold LB.ok at ha hb
  rw [Bool.eq_iff_iff]
  unfold boxAny rowAny meetS
  simp only [List.any_eq_true, List.mem_range, insideS_iff, Bool.and_eq_true, decide_eq_true_eq]
  constructor
  · rintro ⟨j, hj, i, hi, h⟩; omega
  · intro h
    exact ⟨(max a.y b.y - a.y).toNat, by omega, (max a.x b.x - a.x).toNat, by omega, by omega⟩
theorem meetS_comm (a b : LB) : meetS a b = meetS b a := by
  rw [Bool.eq_iff_iff]; unfold meetS; simp only [Bool.and_eq_true, decide_eq_true_eq]; omega
def shLB : Sh := .cons (.int .i64) (.cons (.int .i64) (.cons (.int .i64) (.cons (.int .i64) .unit)))
theorem lb_of {l : List D} (h : Ty shLB l) : ∃ b : LB, l = b.enc ∧ ((-9223372036854775808 ≤ b.x ∧ b.x ≤ 9223372036854775807) ∧ (-9223372036854775808 ≤ b.y ∧ b.y ≤ 9223372036854775807) ∧ (-9223372036854775808 ≤ b.w ∧ b.w ≤ 9223372036854775807) ∧ (-9223372036854775808 ≤ b.h ∧ b.h ≤ 9223372036854775807)) := by
  obtain ⟨_, _, rfl, ⟨x, rfl, hx⟩, _, _, rfl, ⟨y, rfl, hy⟩, _, _, rfl, ⟨w, rfl, hw⟩, _, _, rfl, ⟨v, rfl, hv⟩, rfl⟩ := h
  exact ⟨⟨x, y, w, v⟩, rfl, wf64 hx, wf64 hy, wf64 hw, wf64 hv⟩
end Go.Proofs.YtgfmogfjemigmaaA
