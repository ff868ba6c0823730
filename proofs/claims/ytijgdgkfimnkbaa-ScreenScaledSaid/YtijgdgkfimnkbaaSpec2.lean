/- The canvas, on plain lists. -/
import Derived.Test.YtijgdgkfimnkbaaSpec
import Derived.Test.YtijgdgkfimnkbaaAbs36
namespace Go.Proofs.YtijgdgkfimnkbaaA
open Go
set_option linter.unusedVariables false

abbrev Rows := Nat → List UInt8
def putS (v : Vw) (rows : Rows) (c : Ce) (x : UInt8) : Rows := if visS v c = true then updF rows c.2.toNat ((rows c.2.toNat).set c.1.toNat x) else rows
def blankS (v : Vw) : Rows := fun _ => List.replicate v.w.toNat 32
theorem putS_len (v : Vw) (rows : Rows) (c : Ce) (x : UInt8) (h : ∀ i, (rows i).length = v.w.toNat) : ∀ i, (putS v rows c x i).length = v.w.toNat := fun i => by
  unfold putS
  split
  · by_cases he : i = c.2.toNat
    · subst he; rw [updF_same, List.length_set]; exact h _
    · rw [updF_ne _ _ he]; exact h i
  · exact h i
def marksS (v : Vw) (r0 : Rows) (l : List Ce) : Nat → Rows
  | 0 => r0
  | k + 1 => match l[k]? with | some p => putS v (marksS v r0 l k) (cellS v p) 111 | none => marksS v r0 l k
theorem marksS_len (v : Vw) (r0 : Rows) (l : List Ce) (h : ∀ i, (r0 i).length = v.w.toNat) : ∀ k i, (marksS v r0 l k i).length = v.w.toNat
  | 0 => h
  | k + 1 => by
    rw [marksS]
    cases l[k]? with
    | some p => exact putS_len v _ _ _ (marksS_len v r0 l h k)
    | none => exact marksS_len v r0 l h k
theorem marksS_succ {v : Vw} {r0 : Rows} {l : List Ce} {k : Nat} {p : Ce} (h : l[k]? = some p) : marksS v r0 l (k + 1) = putS v (marksS v r0 l k) (cellS v p) 111 := by rw [marksS, h]
def rowStr (r : List UInt8) : ByteArray := ⟨r.toArray⟩
def outK (rows : Rows) (h : Nat) : Nat → List ByteArray
  | 0 => []
  | k + 1 => outK rows h k ++ [rowStr (rows (h - 1 - k))]
theorem outK_len (rows : Rows) (h : Nat) : ∀ k, (outK rows h k).length = k
  | 0 => rfl
  | k + 1 => by rw [outK, List.length_append, outK_len rows h k]; rfl

/-! ### in memory -/
def lsK (ids : Nat → Nat) (v : Vw) (n : Nat) : List AV := (List.range n).map fun i => .vs (ids i) 0 v.w.toNat 1
def rwK (ids : Nat → Nat) (rows : Rows) (n : Nat) : Hp := (List.range n).map fun i => (ids i, .lst 1 ((rows i).map bE))
def cvC (v : Vw) (iv n : Nat) : List AV := [.d (.int .i64 v.mx), .d (.int .i64 v.my), .d (.int .i64 v.res), .d (.int .i64 v.w), .d (.int .i64 v.h), .vs iv 0 n 1]
def cvH (b iv : Nat) (ids : Nat → Nat) (v : Vw) (rows : Rows) (n : Nat) (hs : Hp) : Hp := (b, .cells (cvC v iv n)) :: (iv, .lsv (lsK ids v n)) :: (rwK ids rows n ++ hs)
theorem lsK_len (ids : Nat → Nat) (v : Vw) (n : Nat) : (lsK ids v n).length = n := by simp [lsK]
theorem lsK_at (ids : Nat → Nat) (v : Vw) {n i : Nat} (h : i < n) : (lsK ids v n)[i]? = some (.vs (ids i) 0 v.w.toNat 1) := by unfold lsK; rw [List.getElem?_map, List.getElem?_range h]; rfl
theorem rwK_len (ids : Nat → Nat) (rows : Rows) (n : Nat) : (rwK ids rows n).length = n := by simp [rwK]
theorem rwK_at (ids : Nat → Nat) (rows : Rows) (hs : Hp) {n i : Nat} (h : i < n) : (rwK ids rows n ++ hs)[i]? = some (ids i, .lst 1 ((rows i).map bE)) := by
  rw [List.getElem?_append_left (by rw [rwK_len]; exact h)]
  unfold rwK; rw [List.getElem?_map, List.getElem?_range h]; rfl
theorem rwK_set (ids : Nat → Nat) (rows : Rows) (hs : Hp) {n i : Nat} (h : i < n) (r : List UInt8) : (rwK ids rows n ++ hs).set i (ids i, .lst 1 (r.map bE)) = rwK ids (updF rows i r) n ++ hs := by
  rw [List.set_append_left _ _ (by rw [rwK_len]; exact h)]
  congr 1
  refine List.ext_getElem? fun q => ?_
  unfold rwK
  rw [List.getElem?_set, List.getElem?_map, List.getElem?_map]
  by_cases hq : q < n
  · rw [List.getElem?_range hq]
    by_cases he : i = q
    · subst he; rw [if_pos rfl, if_pos (by simpa using h)]; simp [updF_same]
    · rw [if_neg he]; simp [updF_ne _ _ (Ne.symm he)]
  · rw [List.getElem?_eq_none (show (List.range n).length ≤ q by simp; omega), if_neg (by omega)]
    rfl
theorem lsK_succ (ids : Nat → Nat) (v : Vw) (n w : Nat) : lsK (updF ids n w) v (n + 1) = lsK ids v n ++ [.vs w 0 v.w.toNat 1] := by
  unfold lsK
  rw [List.range_succ, List.map_append]
  congr 1
  · exact List.map_congr_left fun i hi => by rw [updF_ne _ _ (by have := List.mem_range.1 hi; omega)]
  · simp [updF_same]
theorem rwK_succ (ids : Nat → Nat) (rows : Rows) (n w : Nat) : rwK (updF ids n w) rows (n + 1) = rwK ids rows n ++ [(w, .lst 1 ((rows n).map bE))] := by
  unfold rwK
  rw [List.range_succ, List.map_append]
  congr 1
  · exact List.map_congr_left fun i hi => by rw [updF_ne _ _ (by have := List.mem_range.1 hi; omega)]
  · simp [updF_same]
theorem cvH_succ (b iv : Nat) (ids : Nat → Nat) (v : Vw) (rows : Rows) (n w : Nat) (hs : Hp) :
    HLe (cvH b iv (updF ids n w) v rows (n + 1) hs) ((iv, .lsv (lsK ids v n ++ [.vs w 0 v.w.toNat 1])) :: (w, .lst 1 ((rows n).map bE)) :: (b, .cells (cvC v iv (n + 1))) :: (rwK ids rows n ++ hs)) := by
  unfold cvH
  rw [lsK_succ, rwK_succ]
  refine HLe.perm ?_
  rw [List.append_assoc]
  refine (List.Perm.swap _ _ _).trans ((List.Perm.cons _ ?_))
  exact (List.Perm.cons _ List.perm_middle).trans (List.Perm.swap _ _ _)
end Go.Proofs.YtijgdgkfimnkbaaA
