/- Lists filled from the front; digits; bytes laid from the back of a row. -/
import Derived.Test.YtdddebheolmldaaDoorStr
import Derived.Test.YtdddebheolmldaaDoorFrC
namespace Go.Proofs.YtdddebheolmldaaDoorA
open Go
set_option linter.unusedVariables false
set_option linter.unusedSimpArgs false
set_option linter.unnecessarySimpa false

/-! ### splitting -/
def zS : List D := [.str ⟨#[]⟩]
def fillS (done : List ByteArray) (m : Nat) : List (List D) := done.map sE ++ List.replicate m zS
theorem fillS_len (done : List ByteArray) (m : Nat) : (fillS done m).length = done.length + m := by simp [fillS]
theorem fillS_at (done : List ByteArray) {m i : Nat} (hi : i = done.length) (hm : 0 < m) : (fillS done m)[i]? = some zS := by
  subst hi
  unfold fillS
  rw [List.getElem?_append_right (by simp)]
  simp [List.getElem?_replicate, hm]
theorem fillS_set (done : List ByteArray) (x : ByteArray) {m i : Nat} (hi : i = done.length) (r : List D) (hr : r = sE x) : (fillS done (m + 1)).set i r = fillS (done ++ [x]) m := by
  subst hi hr
  unfold fillS
  rw [List.set_append_right _ _ (by simp)]
  simp [List.replicate_succ]
theorem fillS_done (done : List ByteArray) : fillS done 0 = done.map sE := by simp [fillS]
theorem splS_out {c : UInt8} {s : ByteArray} (h : c ∉ bl s) : splS c s = [s] := by unfold splS; rw [spl_out h]; rfl
theorem splS_len (c : UInt8) (s : ByteArray) : (splS c s).length = (bl s).count c + 1 := by unfold splS; rw [List.length_map, spl_len]
theorem idx_parts {s : ByteArray} {c : UInt8} {m : Nat} (h : Lib.indexByte (bl s) c = m) : m < s.size ∧ (bl s) = bl (s.extract 0 m) ++ c :: bl (s.extract (m + 1) s.size) ∧ c ∉ bl (s.extract 0 m) := by
  obtain ⟨a, b, h1, h2, h3⟩ := idx_some h
  have hl := congrArg List.length h1
  rw [bl_len] at hl
  simp at hl
  have e1 : bl (s.extract 0 m) = a := by rw [bl_extract, h1, ← h2]; simp
  have e2 : bl (s.extract (m + 1) s.size) = b := by
    rw [bl_extract, List.take_of_length_le (by rw [bl_len]; exact Nat.le_refl _), h1, ← h2]
    rw [show a ++ c :: b = (a ++ [c]) ++ b by simp, List.drop_left' (by simp)]
  exact ⟨by omega, by rw [e1, e2]; exact h1, by rw [e1]; exact h3⟩
theorem splS_in {s : ByteArray} {c : UInt8} {m : Nat} (h : Lib.indexByte (bl s) c = m) : splS c s = s.extract 0 m :: splS c (s.extract (m + 1) s.size) ∧ (bl s).count c = (bl (s.extract (m + 1) s.size)).count c + 1 := by
  obtain ⟨h1, h2, h3⟩ := idx_parts h
  refine ⟨?_, ?_⟩
  · unfold splS
    rw [h2, spl_in h3]
    rfl
  · rw [h2, List.count_append, List.count_eq_zero_of_not_mem h3, List.count_cons_self, Nat.zero_add]

/-! ### digits -/
def bA (b : UInt8) : AV := .d (.int .u8 b.toNat)
def digs36 : ByteArray := ⟨#[48, 49, 50, 51, 52, 53, 54, 55, 56, 57, 97, 98, 99, 100, 101, 102, 103, 104, 105, 106, 107, 108, 109, 110, 111, 112, 113, 114, 115, 116, 117, 118, 119, 120, 121, 122]⟩
theorem dig_at {q : Nat} (h : q < 16) : (digs36.data.toList.getD q 0) = digB q := by
  have key : ∀ q : Fin 16, (digs36.data.toList.getD q.1 0) = digB q.1 := by decide
  exact key ⟨q, h⟩
def padR (n : Nat) (t : List UInt8) : List UInt8 := List.replicate (n - t.length) 0 ++ t
theorem padR_len {n : Nat} {t : List UInt8} (h : t.length ≤ n) : (padR n t).length = n := by simp [padR]; omega
theorem padR_set {n : Nat} {t : List UInt8} (h : t.length < n) (c : UInt8) {i : Nat} (hi : i = n - t.length - 1) : (padR n t).set i c = padR n (c :: t) := by
  subst hi
  unfold padR
  rw [List.set_append_left _ _ (by simp; omega)]
  have e : n - t.length = (n - t.length - 1) + 1 := by omega
  rw [List.length_cons, show n - (t.length + 1) = n - t.length - 1 by omega]
  generalize n - t.length - 1 = m at e
  rw [e]
  have : ∀ m : Nat, (List.replicate (m + 1) (0 : UInt8)).set m c = List.replicate m 0 ++ [c] := by
    intro m
    induction m with
    | zero => rfl
    | succ m ih => rw [List.replicate_succ, List.set_cons_succ, ih]; rfl
  rw [this, List.append_assoc]; rfl
theorem padR_drop {n : Nat} {t : List UInt8} (h : t.length ≤ n) {i : Nat} (hi : i = n - t.length) : (padR n t).drop i = t := by
  subst hi
  unfold padR
  rw [List.drop_left' (by simp)]
theorem bA_set (l : List UInt8) (i : Nat) (v : AV) (c : UInt8) (h : v = bA c) : (l.map bA).set i v = (l.set i c).map bA := by subst h; rw [List.map_set]
def byD (b : UInt8) : D := .int .u8 b.toNat
theorem bA_map (l : List UInt8) : l.map bA = (l.map byD).map AV.d := by rw [List.map_map]; rfl
theorem by_rows (l : List UInt8) (i : Nat) : ((l.map byD).drop i).map (fun x => [x]) = (l.drop i).map bE := by rw [← List.map_drop, List.map_map]; rfl
theorem hexR_step {q : Nat} (h : 16 ≤ q) : hexR q = digB (q % 16) :: hexR (q / 16) := by rw [hexR, dif_neg (by omega)]
theorem hexR_last {q : Nat} (h : q < 16) : hexR q = [digB q] := by rw [hexR, dif_pos h]
def dbN : List Int := [0, 1, 56, 2, 57, 49, 28, 3, 61, 58, 42, 50, 38, 29, 17, 4, 62, 47, 59, 36, 45, 43, 51, 22, 53, 39, 33, 30, 24, 18, 12, 5, 63, 55, 48, 27, 60, 41, 37, 16, 46, 35, 44, 21, 52, 32, 23, 11, 54, 26, 40, 15, 34, 20, 31, 10, 25, 14, 19, 9, 13, 8, 7, 6]
def dbT : List Value := dbN.map (Value.int .u8)
def dbD : List D := dbN.map (D.int .u8)
theorem dbT_d : cellsD dbT = some dbD := rfl
end Go.Proofs.YtdddebheolmldaaDoorA
