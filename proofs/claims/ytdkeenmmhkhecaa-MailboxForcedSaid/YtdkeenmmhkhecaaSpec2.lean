/- A mailbox: the order of its messages, and forcing one in. On plain lists. -/
import Derived.Test.YtdkeenmmhkhecaaSpec
import Derived.Test.YtdkeenmmhkhecaaAbs29
namespace Go.Proofs.YtdkeenmmhkhecaaA
open Go
set_option linter.unusedVariables false
set_option linter.unusedSimpArgs false

def allM (q : Nat → List Int) : Nat → List (Int × Int)
  | 0 => []
  | k + 1 => (q k).map (fun v => ((k : Int), v)) ++ allM q k
theorem allM_mem {q : Nat → List Int} : ∀ {n : Nat} {x : Int × Int}, x ∈ allM q n → 0 ≤ x.1 ∧ x.1 < n
  | n + 1, x, h => by
    rcases List.mem_append.1 h with h | h
    · obtain ⟨v, _, rfl⟩ := List.mem_map.1 h
      exact ⟨by dsimp only; omega, by dsimp only; omega⟩
    · have := allM_mem h; omega
theorem allM_pw {q : Nat → List Int} (h : ∀ i, (q i).Pairwise (· < ·)) : ∀ n, (allM q n).Pairwise fun a b => b.1 < a.1 ∨ b.1 = a.1 ∧ a.2 < b.2
  | 0 => .nil
  | n + 1 => by
    refine List.pairwise_append.2 ⟨List.pairwise_map.2 ((h n).imp fun hab => .inr ⟨rfl, hab⟩), allM_pw h n, fun a ha b hb => .inl ?_⟩
    obtain ⟨v, _, rfl⟩ := List.mem_map.1 ha
    exact (allM_mem hb).2
theorem allM_congr {q q' : Nat → List Int} : ∀ {n : Nat}, (∀ i, i < n → q i = q' i) → allM q n = allM q' n
  | 0, _ => rfl
  | n + 1, h => by rw [allM, allM, h n (by omega), allM_congr fun i hi => h i (by omega)]
theorem allM_none {q : Nat → List Int} : ∀ {n : Nat}, topF q n = none → allM q n = []
  | 0, _ => rfl
  | n + 1, h => by
    rw [topF] at h
    split at h
    · rename_i h0
      rw [allM, List.eq_nil_of_length_eq_zero h0, allM_none h]; rfl
    · cases h
theorem allM_top {q : Nat → List Int} : ∀ {n p : Nat}, topF q n = some p → ∃ x rest, q p = x :: rest ∧ allM q n = ((p : Int), x) :: allM (updF q p rest) n
  | n + 1, p, h => by
    rw [topF] at h
    split at h
    · rename_i h0
      obtain ⟨x, rest, h1, h2⟩ := allM_top h
      have hne : n ≠ p := by rintro rfl; rw [h1] at h0; simp at h0
      refine ⟨x, rest, h1, ?_⟩
      rw [allM, allM, h2, updF_ne _ _ hne, List.eq_nil_of_length_eq_zero h0]; rfl
    · rename_i h0
      obtain rfl := Option.some.inj h
      obtain ⟨x, rest, hx⟩ : ∃ x rest, q n = x :: rest := by
        cases hq : q n with
        | nil => rw [hq] at h0; simp at h0
        | cons x r => exact ⟨x, r, rfl⟩
      refine ⟨x, rest, hx, ?_⟩
      rw [allM, allM, hx, updF_same, allM_congr (q := updF q n rest) (q' := q) fun i hi => updF_ne _ _ (by omega)]
      rfl
theorem allM_len_upd {q : Nat → List Int} {p : Nat} (l : List Int) : ∀ {n : Nat}, p < n → (allM (updF q p l) n).length + (q p).length = (allM q n).length + l.length
  | n + 1, h => by
    rw [allM, allM, List.length_append, List.length_append, List.length_map, List.length_map]
    by_cases hp : p = n
    · subst hp
      rw [updF_same, allM_congr (q := updF q p l) (q' := q) fun i hi => updF_ne _ _ (by omega)]; omega
    · rw [updF_ne _ _ (fun h => hp h.symm)]
      have := allM_len_upd (q := q) l (show p < n by omega)
      omega
theorem allM_drop (q : Nat → List Int) : ∀ n, (allM q (n + 1)).drop (q n).length = allM q n := fun n => by
  rw [allM, List.drop_append]
  simp
theorem cnt_all {q : Nat → List Int} {i : Nat} : ∀ {n : Nat}, (allM q n).countP (fun x => decide (x.1 = (i : Int))) = if i < n then (q i).length else 0
  | 0 => rfl
  | n + 1 => by
    rw [allM, List.countP_append, cnt_all]
    by_cases h : i = n
    · subst h
      rw [if_neg (by omega), if_pos (by omega), List.countP_eq_length.2]
      · simp
      · intro x hx
        obtain ⟨v, _, rfl⟩ := List.mem_map.1 hx
        simp
    · have h0 : ((q n).map fun v => ((n : Int), v)).countP (fun x => decide (x.1 = (i : Int))) = 0 := List.countP_eq_zero.2 fun x hx => by
        obtain ⟨v, _, rfl⟩ := List.mem_map.1 hx
        simp; omega
      rw [h0]
      by_cases h2 : i < n
      · rw [if_pos h2, if_pos (by omega)]; omega
      · rw [if_neg h2, if_neg (by omega)]

/-- What boxOf keeps. -/
structure BI (m : MB) (k : Nat) : Prop where
  many : m.many = (allM m.q 8).length
  le : m.many ≤ m.sz
  pw : ∀ i, (m.q i).Pairwise (· < ·)
  lt : ∀ i, ∀ v ∈ m.q i, v < k
theorem put_many {m : MB} {p : Int} (hp : 0 ≤ p ∧ p < 8) (hne : m.many ≠ m.sz) (v : Int) : m.put p v = ⟨m.sz, m.many + 1, updF m.q p.toNat (m.q p.toNat ++ [v])⟩ := by
  unfold MB.put; rw [if_neg (by omega)]
theorem len_put {q : Nat → List Int} {p : Nat} (hp : p < 8) (v : Int) : (allM (updF q p (q p ++ [v])) 8).length = (allM q 8).length + 1 := by
  have := allM_len_upd (q := q) (q p ++ [v]) hp
  rw [List.length_append, List.length_singleton] at this
  omega
theorem BI.box {size : Int} (h : 1 ≤ size) (l : List Int) {lo hi : Int} (h0 : 0 ≤ lo) (h1 : lo ≤ hi) (h2 : hi ≤ 7) : ∀ k, BI (boxK size l lo hi k) k ∧ (boxK size l lo hi k).many = min (k : Int) size
  | 0 => ⟨⟨rfl, by show (0 : Int) ≤ size; omega, fun i => .nil, fun i v hv => by cases hv⟩, by show (0 : Int) = _; omega⟩
  | k + 1 => by
    obtain ⟨b, hm⟩ := BI.box h l h0 h1 h2 k
    have hc := cutI_bounds (l.getD k 0) h1
    have hsz := boxK_sz size l lo hi k
    rw [boxK]
    generalize boxK size l lo hi k = m at *
    by_cases hf : m.many = m.sz
    · have : m.put (cutI (l.getD k 0) lo hi) (k : Int) = m := by unfold MB.put; rw [if_pos (.inr hf)]
      rw [this]
      exact ⟨⟨b.many, b.le, b.pw, fun i v hv => by have := b.lt i v hv; omega⟩, by omega⟩
    · rw [put_many (by omega) hf]
      have hp : (cutI (l.getD k 0) lo hi).toNat < 8 := by omega
      have hle := b.le
      refine ⟨⟨?_, by dsimp only; omega, fun i => ?_, fun i v hv => ?_⟩, by dsimp only; omega⟩
      · dsimp only
        rw [len_put hp, b.many]; omega
      · dsimp only [updF]
        split
        · refine List.pairwise_append.2 ⟨b.pw _, by simp, fun x hx y hy => ?_⟩
          obtain rfl := List.mem_singleton.1 hy
          exact b.lt _ x hx
        · exact b.pw i
      · dsimp only [updF] at hv
        split at hv
        · rcases List.mem_append.1 hv with hv | hv
          · have := b.lt _ v hv; omega
          · obtain rfl := List.mem_singleton.1 hv; omega
        · have := b.lt i v hv; omega

/-- After k messages have been got. -/
def getK (m : MB) : Nat → MB
  | 0 => m
  | k + 1 => (getK m k).get
theorem getK_ok {m : MB} {n : Nat} (h : m.ok n) (hm : m.many = (allM m.q 8).length) : ∀ k, (getK m k).ok n ∧ (getK m k).many = (allM (getK m k).q 8).length ∧ allM (getK m k).q 8 = (allM m.q 8).drop k
  | 0 => ⟨h, hm, rfl⟩
  | k + 1 => by
    obtain ⟨h1, h2, h3⟩ := getK_ok h hm k
    rw [getK]
    generalize getK m k = b at *
    unfold MB.get
    cases ht : topF b.q 8 with
    | none =>
      dsimp only
      refine ⟨h1, h2, ?_⟩
      rw [allM_none ht] at h3 ⊢
      rw [← List.drop_drop, ← h3]; rfl
    | some p =>
      dsimp only
      obtain ⟨x, rest, hq, ha⟩ := allM_top ht
      have hd : (b.q p).drop 1 = rest := by rw [hq]; rfl
      rw [hd]
      rw [ha] at h2 h3
      refine ⟨⟨h1.sz, ?_, fun i => ?_⟩, ?_, ?_⟩
      · have := h1.many; simp at h2 ⊢; omega
      · dsimp only [updF]
        split
        · have := h1.len p; rw [hq] at this; simp at this; omega
        · exact h1.len i
      · simp at h2; omega
      · rw [← List.drop_drop, ← h3]; rfl
theorem get_head {b : MB} {x : Int × Int} {rest : List (Int × Int)} (h : allM b.q 8 = x :: rest) : b.getE = 0 ∧ b.getP = x.1 ∧ b.getV = x.2 := by
  cases ht : topF b.q 8 with
  | none => rw [allM_none ht] at h; cases h
  | some p =>
    obtain ⟨y, r, hq, ha⟩ := allM_top ht
    rw [h] at ha
    obtain ⟨rfl, _⟩ := List.cons.inj ha
    refine ⟨by unfold MB.getE; rw [ht], by unfold MB.getP; rw [ht], ?_⟩
    unfold MB.getV; rw [ht]; dsimp only; rw [hq]; rfl
theorem get_empty {b : MB} (h : allM b.q 8 = []) : b.getE = 8 ∧ b.get = b := by
  cases ht : topF b.q 8 with
  | none => exact ⟨by unfold MB.getE; rw [ht], by unfold MB.get; rw [ht]⟩
  | some p =>
    obtain ⟨y, r, hq, ha⟩ := allM_top ht
    rw [h] at ha; cases ha

def encPV (x : Int × Int) : List D := [.int .i64 x.1, .int .i64 x.2]
theorem encPV_eq (x : Int × Int) (p v : Int) : allD (encPV x) [.int .i64 p, .int .i64 v] = (decide (x.1 = p) && decide (x.2 = v)) := by
  simp [allD, leafD, encPV]

/-! ### the iterator's own variable -/
def cellsQ (m : MB) (ids : Nat → Nat) (k : Nat) : List AV := (List.range 8).map fun i => if i < k then .d (slN (m.q i)) else .vs (ids i) 0 (m.q i).length 1
theorem cellsQ_at (m : MB) (ids : Nat → Nat) (k : Nat) {i : Nat} (h : i < 8) : (cellsQ m ids k)[i]? = some (if i < k then .d (slN (m.q i)) else .vs (ids i) 0 (m.q i).length 1) := by
  unfold cellsQ
  rw [List.getElem?_map, List.getElem?_range h]; rfl
theorem cellsQ_len (m : MB) (ids : Nat → Nat) (k : Nat) : (cellsQ m ids k).length = 8 := by simp [cellsQ]
theorem cellsQ_set (m : MB) (ids : Nat → Nat) {k : Nat} (h : k < 8) : (cellsQ m ids k).set k (.d (slN (m.q k))) = cellsQ m ids (k + 1) := by
  apply List.ext_getElem?
  intro i
  rw [List.getElem?_set]
  by_cases hi : i < 8
  · rw [cellsQ_at _ _ _ hi, cellsQ_at _ _ _ hi, cellsQ_len]
    by_cases hk : k = i
    · subst hk; rw [if_pos rfl, if_pos hi, if_pos (by omega)]
    · rw [if_neg hk]
      by_cases h2 : i < k
      · rw [if_pos h2, if_pos (by omega)]
      · rw [if_neg h2, if_neg (by omega)]
  · rw [if_neg (by omega), List.getElem?_eq_none (by rw [cellsQ_len]; omega), List.getElem?_eq_none (by rw [cellsQ_len]; omega)]
theorem cellsQ_zero (m : MB) (ids : Nat → Nat) : ((boxL m ids).drop 2).take 8 = cellsQ m ids 0 := rfl
theorem box_tail (b : Nat) (m : MB) (ids : Nat → Nat) (hs : Hp) : boxH b m ids hs = boxH b m ids [] ++ hs := by simp [boxH, boxR]
theorem yperm (x y z : Nat × HO) (B H : Hp) : (x :: (H ++ (y :: z :: B))).Perm (y :: x :: z :: (B ++ H)) := by
  refine ((List.perm_append_comm (l₁ := H) (l₂ := y :: z :: B)).cons x).trans ?_
  exact List.Perm.swap _ _ _
theorem yperm2 (x z : Nat × HO) (B H : Hp) : (x :: (H ++ (z :: B))).Perm (x :: z :: (B ++ H)) := (List.perm_append_comm (l₁ := H) (l₂ := z :: B)).cons x

theorem cellsQ_step (m : MB) (ids : Nat → Nat) {k p : Nat} (h : k < 8) (hp : p = k) (v : AV) : HO.cells (cellsQ m ids (k + 1)) = HO.cells (((cellsQ m ids k).set p v).set p (.d (.sl 1 ((m.q k).map nE)))) := by
  subst hp; rw [List.set_set]; exact congrArg HO.cells (cellsQ_set m ids h).symm
theorem allM_at {q : Nat → List Int} {c p j : Nat} {x : Int} (h : (allM q 8).drop c = allM q (p + 1)) (hx : (q p)[j]? = some x) : (allM q 8)[c + j]? = some ((p : Int), x) := by
  rw [← List.getElem?_drop, h, allM, List.getElem?_append_left (by have := (List.getElem?_eq_some_iff.1 hx).1; simpa using this), List.getElem?_map, hx]; rfl
theorem allM_next {q : Nat → List Int} {c p : Nat} (h : (allM q 8).drop c = allM q (p + 1)) : (allM q 8).drop (c + (q p).length) = allM q p := by
  rw [← List.drop_drop, h]; exact allM_drop q p
theorem box_in (b : Nat) (m : MB) (ids : Nat → Nat) (x : Nat × HO) (hs : Hp) : (boxH b m ids (x :: hs)).Perm (x :: boxH b m ids hs) := by
  rw [box_tail b m ids (x :: hs), box_tail b m ids hs]
  exact List.perm_middle
theorem box_in2 (b : Nat) (m : MB) (ids : Nat → Nat) (x y : Nat × HO) (hs : Hp) : (boxH b m ids (x :: y :: hs)).Perm (y :: x :: boxH b m ids hs) :=
  (box_in b m ids x (y :: hs)).trans (((box_in b m ids y hs).cons x).trans (.swap _ _ _))
theorem all_adj {q : Nat → List Int} (h : ∀ i, (q i).Pairwise (· < ·)) {k : Nat} {x y : Int × Int} (hx : (allM q 8)[k + 1]? = some x) (hy : (allM q 8)[k]? = some y) : x.1 < y.1 ∨ x.1 = y.1 ∧ y.2 < x.2 := by
  obtain ⟨h1, rfl⟩ := List.getElem?_eq_some_iff.1 hx
  obtain ⟨h2, rfl⟩ := List.getElem?_eq_some_iff.1 hy
  have := List.pairwise_iff_getElem.1 (allM_pw h 8) k (k + 1) h2 h1 (by omega)
  exact this

/-! ### forcing a message in -/
def lowF (q : Nat → List Int) (n : Nat) : Option Nat := (List.range n).find? fun i => decide ((q i).length ≠ 0)
theorem lowF_some {q : Nat → List Int} {n k : Nat} (hk : k < n) (h0 : (q k).length ≠ 0) (h : ∀ i, i < k → (q i).length = 0) : lowF q n = some k := by
  unfold lowF
  induction n with
  | zero => omega
  | succ n ih =>
    rw [List.range_succ, List.find?_append]
    by_cases hkn : k < n
    · rw [ih hkn]; rfl
    · obtain rfl : k = n := by omega
      have : (List.range k).find? (fun i => decide ((q i).length ≠ 0)) = none := List.find?_eq_none.2 fun i hi => by
        have := h i (List.mem_range.1 hi); simp [this]
      rw [this]
      have hd : decide ((q k).length ≠ 0) = true := decide_eq_true h0
      simp only [Option.none_or, List.find?_cons, hd]
theorem lowF_none {q : Nat → List Int} {n : Nat} (h : ∀ i, i < n → (q i).length = 0) : lowF q n = none := by
  unfold lowF
  exact List.find?_eq_none.2 fun i hi => by have := h i (List.mem_range.1 hi); simp [this]
theorem lowF_spec {q : Nat → List Int} {n k : Nat} (h : lowF q n = some k) : k < n ∧ (q k).length ≠ 0 ∧ ∀ i, i < k → (q i).length = 0 := by
  have h1 := List.mem_range.1 (List.mem_of_find?_eq_some h)
  have h2 : (q k).length ≠ 0 := by have := List.find?_some h; simpa using this
  refine ⟨h1, h2, fun i hi => Classical.byContradiction fun h0 => ?_⟩
  have : ∃ j, j < k ∧ (q j).length ≠ 0 := ⟨i, hi, h0⟩
  obtain ⟨j, hj, hj0, hjm⟩ : ∃ j, j < k ∧ (q j).length ≠ 0 ∧ ∀ i, i < j → (q i).length = 0 := by
    induction i using Nat.strongRecOn with
    | ind i ih =>
      by_cases hx : ∃ j, j < i ∧ (q j).length ≠ 0
      · obtain ⟨j, hj, hj0⟩ := hx; exact ih j hj (by omega) hj0
      · exact ⟨i, hi, h0, fun j hj => Classical.byContradiction fun h => hx ⟨j, hj, h⟩⟩
  rw [lowF_some (by omega) hj0 hjm] at h
  have := Option.some.inj h
  omega
theorem lowF_empty {q : Nat → List Int} {n : Nat} (h : lowF q n = none) : ∀ i, i < n → (q i).length = 0 := fun i hi => by
  have := List.find?_eq_none.1 h i (List.mem_range.2 hi)
  simpa using this
/-- Force: the box, the message that left, whether one left, the error. -/
def MB.force (m : MB) (p : Nat) (v : Int) : MB × Int × Bool × Int :=
  if m.many < m.sz then (m.put p v, 0, false, m.putE p)
  else match lowF m.q p with
    | some k => ((⟨m.sz, m.many - 1, updF m.q k ((m.q k).take ((m.q k).length - 1))⟩ : MB).put p v, (m.q k).getD ((m.q k).length - 1) 0, true, (⟨m.sz, m.many - 1, updF m.q k ((m.q k).take ((m.q k).length - 1))⟩ : MB).putE p)
    | none => (m, 0, false, 9)

def cntT (T : List (Int × Int)) (i : Nat) : Int := (T.countP (fun x => decide (x.1 = (i : Int))) : Nat)
def lowT (T : List (Int × Int)) : Int := T.foldl (fun a x => min a x.1) 8
theorem cntT_succ {T : List (Int × Int)} {k : Nat} {x : Int × Int} (h : T[k]? = some x) (i : Nat) : cntT (T.take (k + 1)) i = cntT (T.take k) i + if x.1 = i then 1 else 0 := by
  unfold cntT
  rw [List.take_add_one, h, Option.toList_some, List.countP_append]
  by_cases hx : x.1 = i <;> simp [hx]
theorem lowT_succ {T : List (Int × Int)} {k : Nat} {x : Int × Int} (h : T[k]? = some x) : lowT (T.take (k + 1)) = min (lowT (T.take k)) x.1 := by
  unfold lowT
  rw [List.take_add_one, h, Option.toList_some, List.foldl_append]; rfl
theorem fold_min_le (T : List (Int × Int)) : ∀ a : Int, T.foldl (fun a x => min a x.1) a ≤ a ∧ ∀ x ∈ T, T.foldl (fun a x => min a x.1) a ≤ x.1 := by
  induction T with
  | nil => exact fun a => ⟨Int.le_refl _, fun x hx => by cases hx⟩
  | cons y T ih =>
    intro a
    have h := ih (min a y.1)
    refine ⟨by have := h.1; simp only [List.foldl_cons]; omega, fun x hx => ?_⟩
    simp only [List.foldl_cons]
    rcases List.mem_cons.1 hx with rfl | hx
    · have := h.1; omega
    · exact h.2 x hx
theorem fold_min_in (T : List (Int × Int)) : ∀ a : Int, T.foldl (fun a x => min a x.1) a = a ∨ ∃ x ∈ T, T.foldl (fun a x => min a x.1) a = x.1 := by
  induction T with
  | nil => exact fun a => .inl rfl
  | cons y T ih =>
    intro a
    simp only [List.foldl_cons]
    rcases ih (min a y.1) with h | ⟨x, hx, h⟩
    · rw [h]
      rcases Int.le_total a y.1 with h1 | h1
      · exact .inl (by omega)
      · exact .inr ⟨y, List.mem_cons_self .., by omega⟩
    · exact .inr ⟨x, List.mem_cons_of_mem _ hx, h⟩
theorem mem_all {q : Nat → List Int} : ∀ {n i : Nat} {v : Int}, i < n → v ∈ q i → ((i : Int), v) ∈ allM q n
  | n + 1, i, v, h, hv => by
    rw [allM]
    by_cases hi : i = n
    · subst hi; exact List.mem_append_left _ (List.mem_map.2 ⟨v, hv, rfl⟩)
    · exact List.mem_append_right _ (mem_all (by omega) hv)
theorem of_mem_all {q : Nat → List Int} : ∀ {n : Nat} {x : Int × Int}, x ∈ allM q n → ∃ i : Nat, i < n ∧ x.1 = i ∧ x.2 ∈ q i
  | n + 1, x, h => by
    rcases List.mem_append.1 h with h | h
    · obtain ⟨v, hv, rfl⟩ := List.mem_map.1 h; exact ⟨n, by omega, rfl, hv⟩
    · obtain ⟨i, h1, h2, h3⟩ := of_mem_all h; exact ⟨i, by omega, h2, h3⟩
theorem lowT_none {q : Nat → List Int} {p : Nat} (hp : p ≤ 8) (h : lowF q p = none) : (p : Int) ≤ lowT (allM q 8) := by
  rcases fold_min_in (allM q 8) 8 with h1 | ⟨x, hx, h1⟩
  · unfold lowT; omega
  · obtain ⟨i, hi, he, hv⟩ := of_mem_all hx
    unfold lowT
    rw [h1, he]
    refine Int.ofNat_le.2 (Nat.le_of_not_lt fun hlt => ?_)
    have := lowF_empty h i hlt
    rw [List.eq_nil_of_length_eq_zero this] at hv; cases hv
theorem lowT_some {q : Nat → List Int} {p k : Nat} (hp : p ≤ 8) (h : lowF q p = some k) : lowT (allM q 8) = k := by
  obtain ⟨h1, h2, h3⟩ := lowF_spec h
  obtain ⟨v, r, hv⟩ : ∃ v r, q k = v :: r := by
    cases hq : q k with
    | nil => rw [hq] at h2; simp at h2
    | cons v r => exact ⟨v, r, rfl⟩
  have hle := (fold_min_le (allM q 8) 8).2 _ (mem_all (n := 8) (show k < 8 by omega) (show v ∈ q k by rw [hv]; simp))
  rcases fold_min_in (allM q 8) 8 with h4 | ⟨x, hx, h4⟩
  · unfold lowT; dsimp only at hle; omega
  · obtain ⟨i, hi, he, hv⟩ := of_mem_all hx
    unfold lowT
    dsimp only at hle
    rw [h4, he] at hle ⊢
    have : ¬ i < k := fun hlt => by rw [List.eq_nil_of_length_eq_zero (h3 i hlt)] at hv; cases hv
    omega
theorem lowT_bounds {q : Nat → List Int} : 0 ≤ lowT (allM q 8) ∧ lowT (allM q 8) ≤ 8 := by
  refine ⟨?_, (fold_min_le (allM q 8) 8).1⟩
  rcases fold_min_in (allM q 8) 8 with h | ⟨x, hx, h⟩
  · unfold lowT; omega
  · have := allM_mem hx; unfold lowT; omega

def bef (m : MB) : Nat → Int := fun i => ((m.q i).length : Int)
/-- MailboxForced's verdict. -/
theorem forced {m : MB} {n : Nat} (hb : BI m n) {p : Nat} (hp : p < 8) :
    (m.many = m.sz → (p : Int) ≤ lowT (allM m.q 8) → (m.force p 99).2.2.2 = 9 ∧ (m.force p 99).2.2.1 = false ∧ (m.force p 99).1 = m) ∧
    (¬ (m.many = m.sz ∧ (p : Int) ≤ lowT (allM m.q 8)) → (m.force p 99).2.2.2 = 0 ∧ (m.force p 99).2.2.1 = decide (m.many = m.sz) ∧ (m.force p 99).1.many ≤ m.sz ∧
      (m.many = m.sz → ∃ k : Nat, lowT (allM m.q 8) = k ∧ k < 8 ∧ ∀ i, bef (m.force p 99).1 i = updF (updF (bef m) p (bef m p + 1)) k (updF (bef m) p (bef m p + 1) k - 1) i) ∧
      (m.many ≠ m.sz → ∀ i, bef (m.force p 99).1 i = updF (bef m) p (bef m p + 1) i)) := by
  have hle := hb.le
  refine ⟨fun hf hlow => ?_, fun hn => ?_⟩
  · unfold MB.force
    rw [if_neg (by omega)]
    cases hl : lowF m.q p with
    | none => exact ⟨rfl, rfl, rfl⟩
    | some k =>
      have := lowT_some (by omega) hl
      have := (lowF_spec hl).1
      omega
  · by_cases hf : m.many = m.sz
    · cases hl : lowF m.q p with
      | none => exact absurd ⟨hf, lowT_none (by omega) hl⟩ hn
      | some k =>
        obtain ⟨h1, h2, h3⟩ := lowF_spec hl
        have hne : m.many - 1 ≠ m.sz := by omega
        have hput := put_many (m := ⟨m.sz, m.many - 1, updF m.q k ((m.q k).take ((m.q k).length - 1))⟩) (p := (p : Int)) (by omega) hne 99
        unfold MB.force
        rw [if_neg (by omega), hl]
        dsimp only
        rw [hput]
        refine ⟨by unfold MB.putE; rw [if_neg (by omega), if_neg hne], by simp [hf], by dsimp only; omega, fun _ => ⟨k, lowT_some (by omega) hl, by omega, fun i => ?_⟩, fun h => absurd hf h⟩
        unfold bef
        dsimp only
        rw [show ((p : Int)).toNat = p by omega]
        by_cases hik : i = k
        · subst hik
          rw [updF_ne _ _ (by omega), updF_same, updF_same, updF_ne _ _ (by omega)]
          simp; omega
        · rw [updF_ne (updF _ p _) _ hik]
          by_cases hip : i = p
          · subst hip
            rw [updF_same, updF_same, updF_ne _ _ (by omega)]; simp
          · rw [updF_ne _ _ hip, updF_ne _ _ hip, updF_ne _ _ hik]
    · have hput := put_many (m := m) (p := (p : Int)) (by omega) hf 99
      unfold MB.force
      rw [if_pos (by omega)]
      dsimp only
      rw [hput]
      refine ⟨by unfold MB.putE; rw [if_neg (by omega), if_neg hf], by simp [hf], by dsimp only; omega, fun h => absurd h hf, fun _ i => ?_⟩
      unfold bef
      dsimp only
      rw [show ((p : Int)).toNat = p by omega]
      by_cases hip : i = p
      · subst hip; rw [updF_same, updF_same]; simp
      · rw [updF_ne _ _ hip, updF_ne _ _ hip]
theorem force_cnt {m : MB} (hm : m.many = (allM m.q 8).length) (hle : m.many ≤ m.sz) {p : Nat} (hp : p < 8) (v : Int) : (m.force p v).1.many = (allM (m.force p v).1.q 8).length := by
  have key : ∀ m : MB, m.many = (allM m.q 8).length → (m.put p v).many = (allM (m.put p v).q 8).length := fun m hm => by
    by_cases hf : m.many = m.sz
    · have : m.put p v = m := by unfold MB.put; rw [if_pos (.inr hf)]
      rw [this]; exact hm
    · rw [put_many (by omega) hf]
      dsimp only
      rw [show ((p : Nat) : Int).toNat = p by omega, len_put hp, hm]; omega
  unfold MB.force
  split
  · exact key m hm
  · split
    · rename_i k hk
      obtain ⟨h1, h2, h3⟩ := lowF_spec hk
      refine key _ ?_
      dsimp only
      have := allM_len_upd (q := m.q) ((m.q k).take ((m.q k).length - 1)) (show k < 8 by omega)
      rw [List.length_take] at this
      omega
    · exact hm
theorem cntT_b (T : List (Int × Int)) (i : Nat) : 0 ≤ cntT T i ∧ cntT T i ≤ T.length := by
  unfold cntT
  have := List.countP_le_length (p := fun x : Int × Int => decide (x.1 = (i : Int))) (l := T)
  omega
theorem upd_fin {f g : Nat → Int} (h : ∀ i, i < 8 → f i = g i) {p q : Nat} (hp : p < 8) (hq : q < 8) : (∀ i, i < 8 → updF f p (f p + 1) i = updF g p (g p + 1) i) ∧
    ∀ i, i < 8 → updF (updF f p (f p + 1)) q (updF f p (f p + 1) q - 1) i = updF (updF g p (g p + 1)) q (updF g p (g p + 1) q - 1) i := by
  have h1 : ∀ i, i < 8 → updF f p (f p + 1) i = updF g p (g p + 1) i := fun i hi => by
    by_cases hip : i = p
    · subst hip; rw [updF_same, updF_same, h i hi]
    · rw [updF_ne _ _ hip, updF_ne _ _ hip, h i hi]
  refine ⟨h1, fun i hi => ?_⟩
  by_cases hiq : i = q
  · subst hiq; rw [updF_same, updF_same, h1 i hi]
  · rw [updF_ne _ _ hiq, updF_ne _ _ hiq, h1 i hi]
theorem force_ok {m : MB} {n : Nat} (h : m.ok n) (hn : m.many ≤ m.sz) (p : Nat) (v : Int) : (m.force p v).1.ok (n + 1) := by
  unfold MB.force
  split
  · exact MB.put_ok h _ _
  · split
    · rename_i k hk
      dsimp only
      refine MB.put_ok (m := ⟨m.sz, m.many - 1, updF m.q k ((m.q k).take ((m.q k).length - 1))⟩) ⟨h.sz, ?_, fun i => ?_⟩ _ _
      · have h1 := h.many; have h2 := h.sz; dsimp only; omega
      · dsimp only [updF]
        split
        · have := h.len k; rw [List.length_take]; omega
        · exact h.len i
    · dsimp only
      exact ⟨h.sz, ⟨h.many.1, by have := h.many.2; omega⟩, fun i => by have := h.len i; omega⟩
theorem cntT_bound (T : List (Int × Int)) (k i : Nat) : 0 ≤ cntT (T.take k) i ∧ cntT (T.take k) i ≤ k := by
  unfold cntT
  have := List.countP_le_length (p := fun x : Int × Int => decide (x.1 = (i : Int))) (l := T.take k)
  rw [List.length_take] at this
  omega
theorem cnt_cells {T : List (Int × Int)} {k : Nat} {p v : Int} (h : T[k]? = some (p, v)) (hp : 0 ≤ p ∧ p < 8) {q : Nat} (hq : q = p.toNat) {u : Int} (hu : u = cntT (T.take k) p.toNat + 1) :
    HO.cells (cellsI 8 (cntT (T.take (k + 1)))) = HO.cells ((cellsI 8 (cntT (T.take k))).set q (.d (.int .i64 u))) := by
  subst hq hu
  rw [cellsI_set _ (by omega)]
  refine congrArg HO.cells (cellsI_ext fun j hj => ?_)
  rw [cntT_succ h]
  by_cases hj2 : j = p.toNat
  · subst hj2; rw [updF_same, if_pos (by dsimp only; omega)]
  · rw [updF_ne _ _ hj2, if_neg (by dsimp only; omega)]; omega
theorem cell_at {f : Nat → Int} {p : Int} (hp : 0 ≤ p ∧ p < 8) {q : Nat} (hq : q = p.toNat) : (cellsI 8 f)[q]? = some (.d (.int .i64 (f p.toNat))) := by
  subst hq; exact cellsI_at f (by omega)
theorem cells8_take (f : Nat → Int) : takeD 8 ((cellsI 8 f).drop 0) = some (vD f) := rfl
theorem vD_eqv {f g : Nat → Int} (h : ∀ i, i < 8 → f i = g i) : allD (vD f) (vD g) = true := by
  rw [vD_ext h]
  have : ∀ l : List Nat, allD (l.map fun j => D.int .i64 (g j)) (l.map fun j => D.int .i64 (g j)) = true := fun l => by
    induction l with
    | nil => rfl
    | cons a l ih => simp [allD, leafD, ih]
  exact this _
theorem cells_upd8 {f : Nat → Int} {p : Int} (hp : 0 ≤ p ∧ p < 8) {q : Nat} (hq : q = p.toNat) (u : Int) : (cellsI 8 f).set q (.d (.int .i64 u)) = cellsI 8 (updF f p.toNat u) := by
  subst hq; exact cellsI_set f (by omega) u
theorem and7 {P : Program} {N : Nm} {σ : Env} {hs : Hp} {d : Option Tmp} {ty : TypeId} {pos : String} {af : Array Edge} {g : Option (Nat × Bool)} {t t' : TypeId} {x y : Operand} {n : Int} (hx : oev σ x = .d (.int .i64 n)) (hy : oev σ y = .d (.int .i64 7)) (h : 0 ≤ n ∧ n < 8) :
    Quiet P N σ hs ⟨d, .binOp .and t x y t', ty, pos, af, g⟩ (.d (.int .i64 n)) := .of_run fun κ a w s => ⟨.int .i64 n, by
  rw [bin_run s hx hy]
  rcases (show n = 0 ∨ n = 1 ∨ n = 2 ∨ n = 3 ∨ n = 4 ∨ n = 5 ∨ n = 6 ∨ n = 7 by omega) with rfl | rfl | rfl | rfl | rfl | rfl | rfl | rfl <;> rfl, .d (.int _ _)⟩
theorem box_in3 (b : Nat) (m : MB) (ids : Nat → Nat) (x y z : Nat × HO) (hs : Hp) : (boxH b m ids (x :: y :: z :: hs)).Perm (x :: y :: z :: boxH b m ids hs) :=
  (box_in b m ids x (y :: z :: hs)).trans (((box_in b m ids y (z :: hs)).trans ((box_in b m ids z hs).cons y)).cons x)
end Go.Proofs.YtdkeenmmhkhecaaA
