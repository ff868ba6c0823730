/- The laws of package screen, on plain lists. -/
import Derived.Test.YtijgdgkfimnkbaaSpec2
namespace Go.Proofs.YtijgdgkfimnkbaaA
open Go
set_option linter.unusedVariables false

theorem fact_out : outK (marksS ⟨0, 0, 10, 3, 1⟩ (blankS ⟨0, 0, 10, 3, 1⟩) [(0, 0)] 1) 1 1 = [⟨#[32, 111, 32]⟩] := by decide +kernel
def fK (f : Ce → Ce) (l : List Ce) (k : Nat) : List Ce := (l.take k).map f ++ l.drop k
theorem fK_len (f : Ce → Ce) (l : List Ce) (k : Nat) : (fK f l k).length = l.length := by simp [fK]; omega
theorem fK_at {f : Ce → Ce} {l : List Ce} {k : Nat} {x : Ce} (h : l[k]? = some x) : (fK f l k)[k]? = some x := by
  have hk := (List.getElem?_eq_some_iff.1 h).1
  unfold fK
  rw [List.getElem?_append_right (by simp; omega), List.getElem?_drop]
  rw [show k + (k - ((l.take k).map f).length) = k by simp; omega]
  exact h
theorem fK_set {f : Ce → Ce} {l : List Ce} {k : Nat} {x : Ce} (h : l[k]? = some x) : (fK f l k).set k (f x) = fK f l (k + 1) := by
  have hk := (List.getElem?_eq_some_iff.1 h).1
  refine List.ext_getElem? fun i => ?_
  unfold fK
  rw [List.getElem?_set, List.getElem?_append, List.getElem?_append, List.getElem?_map, List.getElem?_map, List.getElem?_take, List.getElem?_take, List.getElem?_drop, List.getElem?_drop]
  simp only [List.length_map, List.length_take, List.length_append, List.length_drop]
  by_cases he : k = i
  · subst he
    rw [if_pos rfl, if_pos (by omega), if_pos (by omega), if_pos (by omega), h]; rfl
  · rw [if_neg he]
    by_cases hi : i < k
    · rw [if_pos (by omega), if_pos (by omega), if_pos (by omega), if_pos (by omega)]
    · rw [if_neg (by omega), if_neg (by omega)]
      congr 1; omega
theorem fK_all (f : Ce → Ce) (l : List Ce) : fK f l l.length = l.map f := by simp [fK]
theorem fK_zero (f : Ce → Ce) (l : List Ce) : fK f l 0 = l := by simp [fK]
theorem cells_bound {a b : Ce} (ha : -2000 ≤ a.1 ∧ a.1 ≤ 2000 ∧ -2000 ≤ a.2 ∧ a.2 ≤ 2000) (hb : -2000 ≤ b.1 ∧ b.1 ≤ 2000 ∧ -2000 ≤ b.2 ∧ b.2 ≤ 2000) : ∀ k : Nat, (k : Int) ≤ longS a b → ∀ c ∈ lineK a b k, -200000000 ≤ c.1 ∧ c.1 ≤ 200000000 ∧ -200000000 ≤ c.2 ∧ c.2 ≤ 200000000
  | 0, _, c, hc => by
    rw [List.mem_singleton.1 hc]; omega
  | k + 1, hk, c, hc => by
    rcases List.mem_append.1 hc with hc | hc
    · exact cells_bound ha hb k (by omega) c hc
    · rw [List.mem_singleton.1 hc]
      have hnd : longS a b = max (max (max (b.1 - a.1) (-(b.1 - a.1))) (b.2 - a.2)) (-(b.2 - a.2)) := rfl
      have hnb : longS a b ≤ 4000 ∧ -longS a b ≤ b.1 - a.1 ∧ b.1 - a.1 ≤ longS a b ∧ -longS a b ≤ b.2 - a.2 ∧ b.2 - a.2 ≤ longS a b := by omega
      clear hnd
      have hm1 := mul_abs (x := b.1 - a.1) (k := ((k + 1 : Nat) : Int)) (n := longS a b) (by omega) (by omega) (by omega) (by omega) (by omega)
      have hm2 := mul_abs (x := b.2 - a.2) (k := ((k + 1 : Nat) : Int)) (n := longS a b) (by omega) (by omega) (by omega) (by omega) (by omega)
      have he1 := mul2_assoc (k + 1) (b.1 - a.1)
      have he2 := mul2_assoc (k + 1) (b.2 - a.2)
      have hd1 := ediv_bound (a := 2 * ((k + 1 : Nat) : Int) * (b.1 - a.1) + longS a b) (r := 2 * longS a b) (B := 100000000) (by omega) (by omega) (by omega) (by omega)
      have hd2 := ediv_bound (a := 2 * ((k + 1 : Nat) : Int) * (b.2 - a.2) + longS a b) (r := 2 * longS a b) (B := 100000000) (by omega) (by omega) (by omega) (by omega)
      unfold stepS
      dsimp only
      omega
theorem lineS_bound {a b : Ce} (ha : -2000 ≤ a.1 ∧ a.1 ≤ 2000 ∧ -2000 ≤ a.2 ∧ a.2 ≤ 2000) (hb : -2000 ≤ b.1 ∧ b.1 ≤ 2000 ∧ -2000 ≤ b.2 ∧ b.2 ≤ 2000) : ∀ c ∈ lineS a b, -200000000 ≤ c.1 ∧ c.1 ≤ 200000000 ∧ -200000000 ≤ c.2 ∧ c.2 ≤ 200000000 :=
  cells_bound ha hb _ (by have := longS_nn a b; omega)
theorem lineE_near {a b : Ce} (ha : -2000 ≤ a.1 ∧ a.1 ≤ 2000 ∧ -2000 ≤ a.2 ∧ a.2 ≤ 2000) (hb : -2000 ≤ b.1 ∧ b.1 ≤ 2000 ∧ -2000 ≤ b.2 ∧ b.2 ≤ 2000) : lineE a b = 0 := by
  unfold lineE farB; rw [if_neg (by omega)]
theorem lineL_near {a b : Ce} (ha : -2000 ≤ a.1 ∧ a.1 ≤ 2000 ∧ -2000 ≤ a.2 ∧ a.2 ≤ 2000) (hb : -2000 ≤ b.1 ∧ b.1 ≤ 2000 ∧ -2000 ≤ b.2 ∧ b.2 ≤ 2000) : lineL a b = lineS a b := by
  unfold lineL; rw [if_pos (lineE_near ha hb)]
theorem lineL_len (a b : Ce) : (lineL a b).length ≤ 4611686018427387904 := by
  unfold lineL
  split
  · rename_i h
    have hb : ¬ (farB a.1 ∨ farB a.2 ∨ farB b.1 ∨ farB b.2) := fun h2 => by unfold lineE at h; rw [if_pos h2] at h; omega
    unfold farB at hb
    unfold lineS
    rw [lineK_len]
    have : longS a b ≤ 4000 := by unfold longS; omega
    omega
  · simp
theorem lineS_mv (d a b : Ce) : lineS (mvS d a) (mvS d b) = (lineS a b).map (mvS d) := by
  unfold lineS; rw [longS_mv, lineK_mv]
theorem check_sc {v : Vw} {k : Int} (hk : 1 ≤ k ∧ k ≤ 9) (hx : -90000 ≤ v.mx ∧ v.mx ≤ 90000) (hy : -90000 ≤ v.my ∧ v.my ≤ 90000) (hr : 1 ≤ v.res ∧ v.res ≤ 5000) : checkV (scV v k) = checkV v := by
  have e1 : ¬ badM v := by unfold badM; omega
  have e2 : ¬ badM (scV v k) := by
    unfold badM scV; dsimp only
    rcases (show k = 1 ∨ k = 2 ∨ k = 3 ∨ k = 4 ∨ k = 5 ∨ k = 6 ∨ k = 7 ∨ k = 8 ∨ k = 9 by omega) with rfl | rfl | rfl | rfl | rfl | rfl | rfl | rfl | rfl <;> omega
  have e3 : badR (scV v k) ↔ badR v := by
    unfold badR scV; dsimp only
    rcases (show k = 1 ∨ k = 2 ∨ k = 3 ∨ k = 4 ∨ k = 5 ∨ k = 6 ∨ k = 7 ∨ k = 8 ∨ k = 9 by omega) with rfl | rfl | rfl | rfl | rfl | rfl | rfl | rfl | rfl <;> omega
  unfold checkV
  rw [if_neg e1, if_neg e2]
  by_cases h : badR v
  · rw [if_pos h, if_pos (e3.2 h)]
  · rw [if_neg h, if_neg (fun h2 => h (e3.1 h2))]
theorem point_sc {p : Ce} {k : Int} (hk : 1 ≤ k ∧ k ≤ 9) (hx : -90000 ≤ p.1 ∧ p.1 ≤ 90000) (hy : -90000 ≤ p.2 ∧ p.2 ≤ 90000) : pointS (k * p.1, k * p.2) = true ∧ pointS p = true := by
  rw [pointS_iff, pointS_iff]
  dsimp only
  rcases (show k = 1 ∨ k = 2 ∨ k = 3 ∨ k = 4 ∨ k = 5 ∨ k = 6 ∨ k = 7 ∨ k = 8 ∨ k = 9 by omega) with rfl | rfl | rfl | rfl | rfl | rfl | rfl | rfl | rfl <;> omega
theorem scaled_eq {v : Vw} {p : Ce} {k : Int} (hk : 1 ≤ k ∧ k ≤ 9) (hx : -90000 ≤ v.mx ∧ v.mx ≤ 90000) (hy : -90000 ≤ v.my ∧ v.my ≤ 90000) (hr : 1 ≤ v.res ∧ v.res ≤ 5000) (hpx : -90000 ≤ p.1 ∧ p.1 ≤ 90000) (hpy : -90000 ≤ p.2 ∧ p.2 ≤ 90000) :
    cellA1 (scV v k) (k * p.1, k * p.2) = cellA1 v p ∧ cellB1 (scV v k) (k * p.1, k * p.2) = cellB1 v p ∧ cellE1 (scV v k) (k * p.1, k * p.2) = cellE1 v p := by
  have h1 := check_sc hk hx hy hr
  obtain ⟨h2, h3⟩ := point_sc (p := p) hk hpx hpy
  have h4 := cellS_sc v p (show 0 < k by omega)
  have h5 : ∀ c, visS (scV v k) c = visS v c := fun c => rfl
  unfold cellA1 cellB1 cellE1
  rw [h1, h2, h3, h4, h5]
  exact ⟨rfl, rfl, rfl⟩
end Go.Proofs.YtijgdgkfimnkbaaA
