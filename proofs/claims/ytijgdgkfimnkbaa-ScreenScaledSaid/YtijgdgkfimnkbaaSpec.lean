/- Screens, on plain lists. -/
import Derived.Test.YtijgdgkfimnkbaaAbs35
import Derived.Test.YtijgdgkfimnkbaaAbs29
import Derived.Test.YtijgdgkfimnkbaaAbs9
namespace Go.Proofs.YtijgdgkfimnkbaaA
open Go
set_option linter.unusedVariables false

abbrev Ce := Int × Int
def ceE (c : Ce) : List D := [.int .i64 c.1, .int .i64 c.2]
structure Vw where
  mx : Int
  my : Int
  res : Int
  w : Int
  h : Int
def Vw.enc (v : Vw) : List D := [.int .i64 v.mx, .int .i64 v.my, .int .i64 v.res, .int .i64 v.w, .int .i64 v.h]
structure Vw.ok (v : Vw) : Prop where
  mx : -1000000 ≤ v.mx ∧ v.mx ≤ 1000000
  my : -1000000 ≤ v.my ∧ v.my ≤ 1000000
  res : 1 ≤ v.res ∧ v.res ≤ 50000
  w : 1 ≤ v.w ∧ v.w ≤ 60
  h : 1 ≤ v.h ∧ v.h ≤ 60
def badM (v : Vw) : Prop := v.mx < -1000000 ∨ 1000000 < v.mx ∨ v.my < -1000000 ∨ 1000000 < v.my
def badR (v : Vw) : Prop := v.res < 1 ∨ 50000 < v.res ∨ v.w < 1 ∨ 60 < v.w ∨ v.h < 1 ∨ 60 < v.h
instance (v : Vw) : Decidable (badM v) := by unfold badM; infer_instance
instance (v : Vw) : Decidable (badR v) := by unfold badR; infer_instance
def checkV (v : Vw) : Int := if badM v then 4 else if badR v then 4 else 0
theorem checkV_ok {v : Vw} (h : checkV v = 0) : v.ok := by
  unfold checkV at h
  split at h
  · omega
  · split at h
    · omega
    · rename_i h1 h2
      unfold badM at h1; unfold badR at h2
      exact ⟨by omega, by omega, by omega, by omega, by omega⟩
theorem Vw.ok.check {v : Vw} (h : v.ok) : checkV v = 0 := by
  obtain ⟨h1, h2, h3, h4, h5⟩ := h
  unfold checkV
  rw [if_neg (by unfold badM; omega), if_neg (by unfold badR; omega)]
def pointS (p : Ce) : Bool := decide (-1000000 ≤ p.1) && decide (p.1 ≤ 1000000) && decide (-1000000 ≤ p.2) && decide (p.2 ≤ 1000000)
theorem pointS_iff (p : Ce) : pointS p = true ↔ -1000000 ≤ p.1 ∧ p.1 ≤ 1000000 ∧ -1000000 ≤ p.2 ∧ p.2 ≤ 1000000 := by
  unfold pointS; simp only [Bool.and_eq_true, decide_eq_true_eq, and_assoc]
def cellS (v : Vw) (p : Ce) : Ce := ((p.1 - v.mx) / v.res + v.w / 2, (p.2 - v.my) / v.res + v.h / 2)
def visS (v : Vw) (c : Ce) : Bool := decide (0 ≤ c.1) && decide (c.1 < v.w) && decide (0 ≤ c.2) && decide (c.2 < v.h)
theorem visS_iff (v : Vw) (c : Ce) : visS v c = true ↔ 0 ≤ c.1 ∧ c.1 < v.w ∧ 0 ≤ c.2 ∧ c.2 < v.h := by
  unfold visS; simp only [Bool.and_eq_true, decide_eq_true_eq, and_assoc]
theorem ediv_bound {a r B : Int} (hr : 1 ≤ r) (h1 : -B ≤ a) (h2 : a ≤ B) (hB : 0 ≤ B) : -B ≤ a / r ∧ a / r ≤ B := by
  constructor
  · exact (Int.le_ediv_iff_mul_le (by omega)).2 (by have := Int.mul_le_mul_of_nonneg_left hr hB; rw [Int.neg_mul]; omega)
  · refine Int.le_trans (Int.ediv_le_ediv (c := r) (by omega) h2) ?_
    exact Int.ediv_le_self _ hB
theorem cellS_bound {v : Vw} (hv : v.ok) {p : Ce} (hp : pointS p = true) : -3000000 ≤ (cellS v p).1 ∧ (cellS v p).1 ≤ 3000000 ∧ -3000000 ≤ (cellS v p).2 ∧ (cellS v p).2 ≤ 3000000 := by
  rw [pointS_iff] at hp
  obtain ⟨h1, h2, h3, h4, h5⟩ := hv
  have a := ediv_bound (a := p.1 - v.mx) (B := 2000000) h3.1 (by omega) (by omega) (by omega)
  have b := ediv_bound (a := p.2 - v.my) (B := 2000000) h3.1 (by omega) (by omega) (by omega)
  unfold cellS
  dsimp only
  omega
/-- What Cell answers. -/
def cellA1 (v : Vw) (p : Ce) : Ce := if checkV v = 0 ∧ pointS p = true then cellS v p else (0, 0)
def cellB1 (v : Vw) (p : Ce) : Bool := if checkV v = 0 ∧ pointS p = true then visS v (cellS v p) else false
def cellE1 (v : Vw) (p : Ce) : Int := if checkV v = 0 then (if pointS p = true then 0 else 4) else checkV v

/-! ### lines -/
def nearS (c : Ce) : Bool := decide (-2000 ≤ c.1) && decide (c.1 ≤ 2000) && decide (-2000 ≤ c.2) && decide (c.2 ≤ 2000)
def longS (a b : Ce) : Int := max (max (max (b.1 - a.1) (-(b.1 - a.1))) (b.2 - a.2)) (-(b.2 - a.2))
def stepS (a b : Ce) (k : Nat) : Ce := (a.1 + (2 * (k : Int) * (b.1 - a.1) + longS a b) / (2 * longS a b), a.2 + (2 * (k : Int) * (b.2 - a.2) + longS a b) / (2 * longS a b))
def lineK (a b : Ce) : Nat → List Ce
  | 0 => [a]
  | k + 1 => lineK a b k ++ [stepS a b (k + 1)]
def lineS (a b : Ce) : List Ce := lineK a b (longS a b).toNat
def farB (x : Int) : Prop := x < -2000 ∨ 2000 < x
instance (x : Int) : Decidable (farB x) := by unfold farB; infer_instance
def lineE (a b : Ce) : Int := if farB a.1 ∨ farB a.2 ∨ farB b.1 ∨ farB b.2 then 4 else 0
def lineL (a b : Ce) : List Ce := if lineE a b = 0 then lineS a b else []
theorem longS_nn (a b : Ce) : 0 ≤ longS a b := by unfold longS; omega
theorem lineK_len (a b : Ce) : ∀ k, (lineK a b k).length = k + 1
  | 0 => rfl
  | k + 1 => by rw [lineK, List.length_append, lineK_len a b k]; rfl
theorem mul_abs {x k n : Int} (hk0 : 0 ≤ k) (hk : k ≤ n) (h1 : -n ≤ x) (h2 : x ≤ n) (hn : n ≤ 4000) : -16000000 ≤ k * x ∧ k * x ≤ 16000000 := by
  have hn0 : 0 ≤ n := by omega
  have a : k * x ≤ k * n := Int.mul_le_mul_of_nonneg_left h2 hk0
  have b : k * -n ≤ k * x := Int.mul_le_mul_of_nonneg_left h1 hk0
  have c : k * n ≤ n * n := Int.mul_le_mul_of_nonneg_right hk hn0
  have d : n * n ≤ 4000 * n := Int.mul_le_mul_of_nonneg_right hn hn0
  rw [Int.mul_neg] at b
  omega
theorem mul2_assoc (k : Nat) (x : Int) : 2 * (k : Int) * x = 2 * ((k : Int) * x) := by rw [Int.mul_assoc]
/-- The other way round. -/
def swS (c : Ce) : Ce := (c.2, c.1)
theorem longS_sw (a b : Ce) : longS (swS a) (swS b) = longS a b := by unfold longS swS; dsimp only; omega
theorem stepS_sw (a b : Ce) (k : Nat) : stepS (swS a) (swS b) k = swS (stepS a b k) := by
  unfold stepS
  rw [longS_sw]; rfl
theorem lineK_sw (a b : Ce) : ∀ k, (lineK (swS a) (swS b) k).map swS = lineK a b k
  | 0 => rfl
  | k + 1 => by
    rw [lineK, List.map_append, lineK_sw a b k, lineK, stepS_sw]; rfl
theorem lineL_sw (a b : Ce) : (lineL (swS a) (swS b)).map swS = lineL a b := by
  have e : lineE (swS a) (swS b) = lineE a b := by unfold lineE swS farB; dsimp only; split <;> split <;> first | rfl | (exfalso; omega)
  unfold lineL lineS
  rw [e, longS_sw]
  split
  · exact lineK_sw a b _
  · rfl
theorem lineE_sw (a b : Ce) : lineE (swS a) (swS b) = lineE a b := by unfold lineE swS farB; dsimp only; split <;> split <;> first | rfl | (exfalso; omega)
/-- Further on. -/
def mvS (d c : Ce) : Ce := (c.1 + d.1, c.2 + d.2)
theorem longS_mv (d a b : Ce) : longS (mvS d a) (mvS d b) = longS a b := by unfold longS mvS; dsimp only; omega
theorem stepS_mv (d a b : Ce) (k : Nat) : stepS (mvS d a) (mvS d b) k = mvS d (stepS a b k) := by
  unfold stepS
  rw [longS_mv]
  unfold mvS
  dsimp only
  rw [show b.1 + d.1 - (a.1 + d.1) = b.1 - a.1 by omega, show b.2 + d.2 - (a.2 + d.2) = b.2 - a.2 by omega]
  congr 1 <;> omega
theorem lineK_mv (d a b : Ce) : ∀ k, lineK (mvS d a) (mvS d b) k = (lineK a b k).map (mvS d)
  | 0 => rfl
  | k + 1 => by
    rw [lineK, lineK, List.map_append, ← lineK_mv d a b k, stepS_mv]; rfl
/-- A scaled view. -/
def scV (v : Vw) (k : Int) : Vw := ⟨k * v.mx, k * v.my, k * v.res, v.w, v.h⟩
theorem scale_div {k a b r : Int} (hk : 0 < k) : (k * a - k * b) / (k * r) = (a - b) / r := by
  rw [← Int.mul_sub, Int.mul_ediv_mul_of_pos _ _ hk]
theorem cellS_sc (v : Vw) (p : Ce) {k : Int} (hk : 0 < k) : cellS (scV v k) (k * p.1, k * p.2) = cellS v p := by
  unfold cellS scV
  dsimp only
  rw [scale_div hk, scale_div hk]
theorem down_eq {x y : Int} (hy : 0 < y) : (x.tmod y < 0 → x.tdiv y - 1 = x / y) ∧ (¬ x.tmod y < 0 → x.tdiv y = x / y) := by
  have h1 := Int.emod_nonneg x (show y ≠ 0 by omega)
  have h2 := Int.emod_lt_of_pos x hy
  rw [Int.tmod_eq_emod, Int.tdiv_eq_ediv]
  by_cases h : 0 ≤ x ∨ y ∣ x
  · rw [if_pos h, if_pos h]
    exact ⟨fun h3 => by omega, fun _ => by omega⟩
  · rw [if_neg h, if_neg h, Int.sign_eq_one_of_pos hy]
    exact ⟨fun _ => by omega, fun h3 => by omega⟩
theorem tdiv_bound {x y B : Int} (hy : 1 ≤ y) (h1 : -B ≤ x) (h2 : x ≤ B) (hB : 0 ≤ B) : -B - 1 ≤ x.tdiv y ∧ x.tdiv y ≤ B + 1 := by
  have h3 := ediv_bound hy h1 h2 hB
  have h4 := down_eq (x := x) (show 0 < y by omega)
  by_cases h : x.tmod y < 0
  · have := h4.1 h; omega
  · have := h4.2 h; omega
theorem same_ce (a b : Ce) : allD (ceE a) (ceE b) = decide (a = b) := by
  obtain ⟨a1, a2⟩ := a
  obtain ⟨b1, b2⟩ := b
  rw [Bool.eq_iff_iff]
  simp [ceE, allD, leafD]
end Go.Proofs.YtijgdgkfimnkbaaA
