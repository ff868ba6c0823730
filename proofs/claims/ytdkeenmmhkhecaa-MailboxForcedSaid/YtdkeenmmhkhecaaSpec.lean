/- A mailbox, on plain lists. -/
import Derived.Test.YtdkeenmmhkhecaaAbs18
import Derived.Test.YtdkeenmmhkhecaaAbs9
namespace Go.Proofs.YtdkeenmmhkhecaaA
open Go
set_option linter.unusedVariables false

structure MB where
  sz : Int
  many : Int
  q : Nat → List Int
def MB.put (m : MB) (p v : Int) : MB := if (p < 0 ∨ 8 ≤ p) ∨ m.many = m.sz then m else ⟨m.sz, m.many + 1, updF m.q p.toNat (m.q p.toNat ++ [v])⟩
def MB.putE (m : MB) (p : Int) : Int := if p < 0 ∨ 8 ≤ p then 4 else if m.many = m.sz then 9 else 0
def topF (q : Nat → List Int) : Nat → Option Nat
  | 0 => none
  | k + 1 => if (q k).length = 0 then topF q k else some k
def MB.get (m : MB) : MB := match topF m.q 8 with | some p => ⟨m.sz, m.many - 1, updF m.q p ((m.q p).drop 1)⟩ | none => m
def MB.getV (m : MB) : Int := match topF m.q 8 with | some p => (m.q p).getD 0 0 | none => 0
def MB.getP (m : MB) : Int := match topF m.q 8 with | some p => (p : Int) | none => 0
def MB.getE (m : MB) : Int := match topF m.q 8 with | some p => 0 | none => 8

def boxL (m : MB) (ids : Nat → Nat) : List AV := [.d (.int .i64 m.sz), .d (.int .i64 m.many), .vs (ids 0) 0 (m.q 0).length 1, .vs (ids 1) 0 (m.q 1).length 1, .vs (ids 2) 0 (m.q 2).length 1, .vs (ids 3) 0 (m.q 3).length 1,
  .vs (ids 4) 0 (m.q 4).length 1, .vs (ids 5) 0 (m.q 5).length 1, .vs (ids 6) 0 (m.q 6).length 1, .vs (ids 7) 0 (m.q 7).length 1]
def boxO (m : MB) (ids : Nat → Nat) (i : Nat) : Nat × HO := (ids i, .lst 1 ((m.q i).map nE))
def boxR (m : MB) (ids : Nat → Nat) (hs : Hp) : Hp := (List.range 8).map (boxO m ids) ++ hs
/-- The objects of a mailbox. -/
def boxH (b : Nat) (m : MB) (ids : Nat → Nat) (hs : Hp) : Hp := (b, .cells (boxL m ids)) :: boxR m ids hs
theorem lt8 {p : Nat} (h : p < 8) : p = 0 ∨ p = 1 ∨ p = 2 ∨ p = 3 ∨ p = 4 ∨ p = 5 ∨ p = 6 ∨ p = 7 := by omega
theorem boxL_at (m : MB) (ids : Nat → Nat) {p : Nat} (h : p < 8) : (boxL m ids)[p + 2]? = some (.vs (ids p) 0 (m.q p).length 1) := by
  rcases lt8 h with rfl | rfl | rfl | rfl | rfl | rfl | rfl | rfl <;> rfl
theorem boxL_set (m : MB) (ids : Nat → Nat) {p : Nat} (h : p < 8) (v : Nat) (l : List Int) (n : Nat) (hn : n = l.length) :
    (boxL m ids).set (p + 2) (.vs v 0 n 1) = boxL ⟨m.sz, m.many, updF m.q p l⟩ (updF ids p v) := by
  subst hn
  rcases lt8 h with rfl | rfl | rfl | rfl | rfl | rfl | rfl | rfl <;> rfl
theorem boxL_many (m : MB) (ids : Nat → Nat) (n : Int) : (boxL m ids).set 1 (.d (.int .i64 n)) = boxL ⟨m.sz, n, m.q⟩ ids := rfl
theorem boxO_upd (m : MB) (ids : Nat → Nat) (p v : Nat) (l : List Int) (n : Int) : boxO ⟨m.sz, n, updF m.q p l⟩ (updF ids p v) = updF (boxO m ids) p (v, .lst 1 (l.map nE)) := by
  funext i
  unfold boxO updF
  by_cases h : i = p <;> simp [h]
theorem boxR_at (m : MB) (ids : Nat → Nat) (hs : Hp) {p : Nat} (h : p < 8) : (boxR m ids hs)[p]? = some (ids p, .lst 1 ((m.q p).map nE)) := by
  unfold boxR
  rw [List.getElem?_append_left (by simpa using h), List.getElem?_map, List.getElem?_range h]
  rfl
theorem boxH_at (b : Nat) (m : MB) (ids : Nat → Nat) (hs : Hp) {p : Nat} (h : p < 8) : (boxH b m ids hs)[p + 1]? = some (ids p, .lst 1 ((m.q p).map nE)) := boxR_at m ids hs h
/-- One list of the mailbox under a new name, with new contents. -/
theorem box_le (b : Nat) (m : MB) (ids : Nat → Nat) (hs : Hp) {p : Nat} (h : p < 8) (v : Nat) (l : List Int) (n : Int) :
    HLe (boxH b ⟨m.sz, n, updF m.q p l⟩ (updF ids p v) hs) ((v, .lst 1 (l.map nE)) :: (b, .cells (boxL ⟨m.sz, n, updF m.q p l⟩ (updF ids p v))) :: (boxR m ids hs).eraseIdx p) := by
  refine HLe.perm ?_
  have h1 := perm_updF (boxO m ids) 8 p (v, .lst 1 (l.map nE)) hs h
  unfold boxH boxR
  rw [boxO_upd]
  exact (List.Perm.cons _ h1.symm).trans (List.Perm.swap _ _ _)
theorem box_front (b : Nat) (m : MB) (ids : Nat → Nat) (hs : Hp) {p : Nat} (h : p < 8) :
    HLe ((ids p, .lst 1 ((m.q p).map nE)) :: (b, .cells (boxL m ids)) :: (boxR m ids hs).eraseIdx p) (boxH b m ids hs) :=
  HLe.perm ((List.Perm.swap _ _ _).trans (List.Perm.cons _ (erase_perm _ p _ (boxR_at m ids hs h))))
theorem topF_some {q : Nat → List Int} : ∀ {n p : Nat}, topF q n = some p → p < n ∧ (q p).length ≠ 0 ∧ ∀ i, p < i → i < n → (q i).length = 0
  | k + 1, p, h => by
    rw [topF] at h
    split at h
    · rename_i h0
      obtain ⟨h1, h2, h3⟩ := topF_some h
      exact ⟨by omega, h2, fun i hi hn => if he : i = k then he ▸ h0 else h3 i hi (by omega)⟩
    · rename_i h0
      obtain rfl := Option.some.inj h
      exact ⟨by omega, h0, fun i hi hn => by omega⟩
theorem topF_eq {q : Nat → List Int} {n p : Nat} (hp : p < n) (h0 : (q p).length ≠ 0) (h : ∀ i, p < i → i < n → (q i).length = 0) : topF q n = some p := by
  induction n with
  | zero => omega
  | succ k ih =>
    rw [topF]
    by_cases hk : p = k
    · subst hk; rw [if_neg h0]
    · rw [if_pos (h k (by omega) (by omega))]
      exact ih (by omega) fun i h1 h2 => h i h1 (by omega)
theorem topF_none {q : Nat → List Int} {n : Nat} (h : ∀ i, i < n → (q i).length = 0) : topF q n = none := by
  induction n with
  | zero => rfl
  | succ k ih => rw [topF, if_pos (h k (by omega))]; exact ih fun i hi => h i (by omega)

/-- boxOf, after k messages. -/
def boxK (size : Int) (l : List Int) (lo hi : Int) : Nat → MB
  | 0 => ⟨size, 0, fun _ => []⟩
  | k + 1 => (boxK size l lo hi k).put (cutI (l.getD k 0) lo hi) (k : Int)
structure MB.ok (m : MB) (k : Nat) : Prop where
  sz : 1 ≤ m.sz ∧ m.sz ≤ 64
  many : 0 ≤ m.many ∧ m.many ≤ k
  len : ∀ i, (m.q i).length ≤ k
theorem MB.put_ok {m : MB} {k : Nat} (h : m.ok k) (p v : Int) : (m.put p v).ok (k + 1) := by
  obtain ⟨h1, h2, h3⟩ := h
  unfold MB.put
  split
  · exact ⟨h1, by omega, fun i => by have := h3 i; omega⟩
  · refine ⟨h1, by dsimp only; omega, fun i => ?_⟩
    dsimp only [updF]
    split
    · have := h3 p.toNat; simp; omega
    · have := h3 i; omega
theorem boxK_ok {size : Int} (h : 1 ≤ size ∧ size ≤ 64) (l : List Int) (lo hi : Int) : ∀ k, (boxK size l lo hi k).ok k
  | 0 => ⟨h, ⟨by simp [boxK], by simp [boxK]⟩, fun i => by simp [boxK]⟩
  | k + 1 => MB.put_ok (boxK_ok h l lo hi k) _ _
theorem MB.ok.mono {m : MB} {k n : Nat} (h : m.ok k) (hk : k ≤ n) : m.ok n := ⟨h.sz, ⟨h.many.1, by have := h.many.2; omega⟩, fun i => Nat.le_trans (h.len i) hk⟩
theorem take_min {l : List Int} (n : Nat) : ((l.take (min (((l.map nE).length : Nat) : Int) (n : Int)).toNat).drop (0 : Int).toNat).map nE = (l.take (min l.length n)).map nE := by
  rw [List.length_map, show (min ((l.length : Nat) : Int) (n : Int)).toNat = min l.length n by omega]; rfl
theorem boxK_sz (size : Int) (l : List Int) (lo hi : Int) : ∀ k, (boxK size l lo hi k).sz = size
  | 0 => rfl
  | k + 1 => by rw [boxK]; unfold MB.put; split <;> exact boxK_sz size l lo hi k
theorem boxK_q7 (size : Int) (l : List Int) {lo hi : Int} (h0 : lo ≤ hi) (h1 : hi < 7) (h2 : 0 ≤ lo) : ∀ k, (boxK size l lo hi k).q 7 = []
  | 0 => rfl
  | k + 1 => by
    have hb := cutI_bounds (l.getD k 0) h0
    rw [boxK]; unfold MB.put
    split
    · exact boxK_q7 size l h0 h1 h2 k
    · dsimp only
      rw [updF_ne _ _ (by omega)]; exact boxK_q7 size l h0 h1 h2 k
/-- MailboxFirst's last steps. -/
theorem first_top {l : List Int} {n : Nat} (hn : n ≤ 20) (v : Int) : ((boxK 64 l 0 6 n).putE 7 = 0) ∧ ((boxK 64 l 0 6 n).put 7 v).getV = v ∧ ((boxK 64 l 0 6 n).put 7 v).getP = 7 ∧ ((boxK 64 l 0 6 n).put 7 v).getE = 0 ∧ ((boxK 64 l 0 6 n).put 7 v).get.many = (boxK 64 l 0 6 n).many := by
  have h1 := (boxK_ok (show (1 : Int) ≤ 64 ∧ (64 : Int) ≤ 64 by decide) l 0 6 n).many
  have h2 := boxK_sz 64 l 0 6 n
  have h3 := boxK_q7 64 l (lo := 0) (hi := 6) (by decide) (by decide) (by decide) n
  generalize boxK 64 l 0 6 n = m at *
  have hp : m.put 7 v = ⟨m.sz, m.many + 1, updF m.q 7 [v]⟩ := by
    unfold MB.put
    rw [if_neg (by omega), show (7 : Int).toNat = 7 from rfl, h3]; rfl
  have ht : topF (updF m.q 7 [v]) 8 = some 7 := topF_eq (by decide) (by simp [updF]) fun i h1 h2 => by omega
  rw [hp]
  refine ⟨?_, ?_, ?_, ?_, ?_⟩
  · unfold MB.putE; rw [if_neg (by omega), if_neg (by omega)]
  · unfold MB.getV; dsimp only; rw [ht]; rfl
  · unfold MB.getP; dsimp only; rw [ht]; rfl
  · unfold MB.getE; dsimp only; rw [ht]
  · unfold MB.get; dsimp only; rw [ht]; dsimp only; omega
end Go.Proofs.YtdkeenmmhkhecaaA
