/- Points, tubes node by node, separation. -/
import Derived.Test.YtaegeaajhbfkgaaGreatDoorCen1
import Derived.Test.YtaegeaajhbfkgaaGreatDoorFrC
namespace Go.Proofs.YtaegeaajhbfkgaaGreatDoorA
open Go
set_option linter.unusedVariables false
set_option linter.unusedSimpArgs false
set_option linter.unnecessarySimpa false
structure Pok (x y : Int) : Prop where
  x0 : -1000000 ≤ x
  x1 : x ≤ 1000000
  y0 : -1000000 ≤ y
  y1 : y ≤ 1000000
theorem NdOk.p {n : Nd} (h : NdOk n) : Pok n.x n.y := ⟨h.x0, h.x1, h.y0, h.y1⟩
theorem Pok.chk {x y : Int} (h : Pok x y) : planeC x y = 0 := planeC_zero.2 ⟨⟨h.x0, h.x1⟩, h.y0, h.y1⟩
theorem mul_bd {a b m k : Int} (a0 : -m ≤ a) (a1 : a ≤ m) (b0 : -k ≤ b) (b1 : b ≤ k) : -(m * k) ≤ a * b ∧ a * b ≤ m * k := by
  have hm : 0 ≤ m := by omega
  have hk : 0 ≤ k := by omega
  have key : ∀ u v : Int, -m ≤ u → u ≤ m → -k ≤ v → v ≤ k → u * v ≤ m * k := by
    intro u v u0 u1 v0 v1
    rcases Int.le_total 0 u with h | h
    · exact Int.le_trans (Int.mul_le_mul_of_nonneg_left v1 h) (Int.mul_le_mul_of_nonneg_right u1 hk)
    · have e : u * v = (-u) * (-v) := by rw [Int.neg_mul_neg]
      rw [e]
      exact Int.le_trans (Int.mul_le_mul_of_nonneg_left (show -v ≤ k by omega) (by omega)) (Int.mul_le_mul_of_nonneg_right (show -u ≤ m by omega) hk)
  refine ⟨?_, key a b a0 a1 b0 b1⟩
  have := key a (-b) a0 a1 (by omega) (by omega)
  rw [Int.mul_neg] at this
  omega
def sqI (a b c d : Int) : Int := (a - c) * (a - c) + (b - d) * (b - d)
theorem sqI_bd {a b c d : Int} (h1 : Pok a b) (h2 : Pok c d) : 0 ≤ sqI a b c d ∧ sqI a b c d ≤ 8000000000000 := by
  obtain ⟨a0, a1, b0, b1⟩ := h1
  obtain ⟨c0, c1, d0, d1⟩ := h2
  have e1 := mul_bd (a := a - c) (b := a - c) (m := 2000000) (k := 2000000) (by omega) (by omega) (by omega) (by omega)
  have e2 := mul_bd (a := b - d) (b := b - d) (m := 2000000) (k := 2000000) (by omega) (by omega) (by omega) (by omega)
  have f1 : 0 ≤ (a - c) * (a - c) := by
    rcases Int.le_total 0 (a - c) with h | h
    · exact Int.mul_nonneg h h
    · have := Int.mul_nonneg (show 0 ≤ -(a - c) by omega) (show 0 ≤ -(a - c) by omega); rwa [Int.neg_mul_neg] at this
  have f2 : 0 ≤ (b - d) * (b - d) := by
    rcases Int.le_total 0 (b - d) with h | h
    · exact Int.mul_nonneg h h
    · have := Int.mul_nonneg (show 0 ≤ -(b - d) by omega) (show 0 ≤ -(b - d) by omega); rwa [Int.neg_mul_neg] at this
  unfold sqI
  omega
def upI (s : Int) : Int := if rootI s * rootI s < s then rootI s + 1 else rootI s
theorem root_bd2 {s : Int} (h0 : 0 ≤ s) (h1 : s ≤ 8000000000000) : 0 ≤ rootI s ∧ rootI s ≤ 3000000 ∧ rootI s * rootI s ≤ s := by
  obtain ⟨r0, r1, r2⟩ := rootI_spec h0
  refine ⟨r0, ?_, r1⟩
  rcases (show rootI s ≤ 3000000 ∨ 3000001 ≤ rootI s by omega) with h | h
  · exact h
  · have := Int.mul_le_mul h h (by omega) (by omega); omega
def prevT (l : List Nd) (k : Nat) : Option Int := if k = 0 then none else some (l.getD (k - 1) Nd.zero).t
theorem prev_row {l : List Nd} {k : Nat} (hk : k < l.length) (h0 : 0 < k) : (l.map Nd.enc)[((k : Int) - 1).toNat]? = some (l.getD (k - 1) Nd.zero).enc := by
  rw [show ((k : Int) - 1).toNat = k - 1 by omega, List.getElem?_map, List.getD_eq_getElem?_getD, List.getElem?_eq_getElem (by omega)]; rfl
theorem badT_iff {l : List Nd} {k : Nat} {n : Nd} : badT (prevT l k) n ↔ (n.t < 0 ∨ 200000 < n.t) ∨ (0 < k ∧ n.t ≤ (l.getD (k - 1) Nd.zero).t) := by
  unfold badT prevT
  by_cases h : k = 0
  · subst h; simp
  · rw [if_neg h]
    constructor
    · rintro (h1 | h1 | ⟨q, h1, h2⟩)
      · exact .inl (.inl h1)
      · exact .inl (.inr h1)
      · cases h1; exact .inr ⟨by omega, h2⟩
    · rintro ((h1 | h1) | ⟨_, h2⟩)
      · exact .inl h1
      · exact .inr (.inl h1)
      · exact .inr (.inr ⟨_, rfl, h2⟩)
theorem prevT_succ {l : List Nd} {k : Nat} {x : Nd} (h : l[k]? = some x) : prevT l (k + 1) = some x.t := by
  unfold prevT
  rw [if_neg (by omega), Nat.add_sub_cancel, List.getD_eq_getElem?_getD, h]; rfl
theorem drop_cons {α : Type} {l : List α} {k : Nat} {x : α} (h : l[k]? = some x) : l.drop k = x :: l.drop (k + 1) := by
  obtain ⟨h1, h2⟩ := List.getElem?_eq_some_iff.1 h
  rw [List.drop_eq_getElem_cons h1, h2]
theorem tc_step {l : List Nd} {k : Nat} {x : Nd} (h : l[k]? = some x) : tcF (prevT l k) (l.drop k) = if ndC (prevT l k) x ≠ 0 then ndC (prevT l k) x else tcF (prevT l (k + 1)) (l.drop (k + 1)) := by
  rw [drop_cons h, tcF, prevT_succ h]
theorem hd_row {l : List Nd} (h : l ≠ []) : (l.map Nd.enc)[0]? = some (l.headD Nd.zero).enc := by
  cases l with
  | nil => exact absurd rfl h
  | cons a l => rfl
theorem la_get {l : List Nd} (h : l ≠ []) : l[l.length - 1]? = some (l.getLastD Nd.zero) := by
  rw [List.getLastD_eq_getLast?, List.getLast?_eq_getElem?]
  have : l.length ≠ 0 := fun e => h (List.eq_nil_of_length_eq_zero e)
  rw [List.getElem?_eq_getElem (by omega)]; rfl
theorem la_row {l : List Nd} (h : l ≠ []) : (l.map Nd.enc)[(((l.map Nd.enc).length : Int) - 1).toNat]? = some (l.getLastD Nd.zero).enc := by
  have : l.length ≠ 0 := fun e => h (List.eq_nil_of_length_eq_zero e)
  rw [List.length_map, show ((l.length : Int) - 1).toNat = l.length - 1 by omega, List.getElem?_map, la_get h]; rfl
theorem hd_get {l : List Nd} (h : l ≠ []) : l[0]? = some (l.headD Nd.zero) := by
  cases l with
  | nil => exact absurd rfl h
  | cons a l => rfl
theorem seg_step {l : List Nd} {k : Nat} {a b : Nd} {t : Int} (h1 : l[k]? = some a) (h2 : l[k + 1]? = some b) : seg (l.drop k) t = if b.t ≤ t then seg (l.drop (k + 1)) t else if a.t = t then a else mid a b t := by
  rw [drop_cons h1, drop_cons h2, seg]
theorem seg_last {l : List Nd} {k : Nat} {a : Nd} {t : Int} (h1 : l[k]? = some a) (h2 : ¬ k + 1 < l.length) : seg (l.drop k) t = a := by
  rw [drop_cons h1, List.drop_of_length_le (by omega), seg]
def sepC (lat ver : Int) : Int := if lat < 0 ∨ 1000000 < lat ∨ ver < 0 ∨ 60000 < ver then 4 else 0
def sepdB (a b : Nd) (lat ver : Int) : Bool := decide (ver ≤ max (a.h - b.h) (b.h - a.h) - a.b - b.b) || decide (lat ≤ rootI (sqI a.x a.y b.x b.y) - a.r - b.r)
def pcF : List (List Nd) → Int
  | [] => 0
  | l :: ls => if tubeC l ≠ 0 then tubeC l else pcF ls
def pcC (lat ver : Int) (ts : List (List Nd)) : Int := if sepC lat ver ≠ 0 then sepC lat ver else pcF ts
def SepE (a b : Nd) (lat ver : Int) : Int := if pcC lat ver [[a], [b]] ≠ 0 then pcC lat ver [[a], [b]] else if a.t ≠ b.t then 12 else 0
def SepB (a b : Nd) (lat ver : Int) : Bool := if SepE a b lat ver ≠ 0 then false else sepdB a b lat ver
def tuR (l : List Nd) : List D := [tuD l]
theorem one_ok {a : Nd} (h : tubeC [a] = 0) : NdOk a := (tubeC_zero.1 h).mem (List.mem_singleton.2 rfl)
theorem ok_one {a : Nd} (h : NdOk a) : tubeC [a] = 0 := tubeC_zero.2 ⟨by simp, by simp, .cons h (fun q hq => by cases hq) (.nil _)⟩
theorem pc2 {a b : Nd} {lat ver : Int} (h : pcC lat ver [[a], [b]] = 0) : NdOk a ∧ NdOk b ∧ sepC lat ver = 0 := by
  unfold pcC at h
  split at h
  · exact absurd h (by assumption)
  · rename_i h0
    unfold pcF at h
    split at h
    · exact absurd h (by assumption)
    · rename_i h1
      unfold pcF at h
      split at h
      · exact absurd h (by assumption)
      · rename_i h2
        exact ⟨one_ok (Classical.not_not.1 h1), one_ok (Classical.not_not.1 h2), Classical.not_not.1 h0⟩
end Go.Proofs.YtaegeaajhbfkgaaGreatDoorA

