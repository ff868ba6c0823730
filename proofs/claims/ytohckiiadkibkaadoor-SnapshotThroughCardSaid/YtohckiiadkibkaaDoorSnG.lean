/- The law SnapshotDiffs. -/
import Derived.Test.YtohckiiadkibkaaDoorBase
import Derived.Test.YtohckiiadkibkaaDoorSnE
import Derived.Test.YtohckiiadkibkaaDoorSnF
import Derived.Test.YtohckiiadkibkaaDoorSnC
set_option linter.unusedVariables false
set_option linter.unusedSimpArgs false
set_option linter.unnecessarySimpa false
namespace Go.Proofs.YtohckiiadkibkaaDoorA.FSnG
open Go
theorem ag4 : tAgg P 4 = some ((false, 1)) := by kernel_rfl
theorem ag40 : tAgg P 40 = some ((true, 5)) := by kernel_rfl
theorem ag9 : tAgg P 9 = some ((false, 1)) := by kernel_rfl
theorem ap33 : tApp P 33 = some ((5, 56)) := by kernel_rfl
theorem fl40_0 : tFld P 40 0 = some (0) := by kernel_rfl
theorem fl40_1 : tFld P 40 1 = some (1) := by kernel_rfl
theorem fl40_2 : tFld P 40 2 = some (2) := by kernel_rfl
theorem fl40_3 : tFld P 40 3 = some (3) := by kernel_rfl
theorem fl40_4 : tFld P 40 4 = some (4) := by kernel_rfl
theorem go11 : callGo Go.Proofs.Tryd.f11 = true := by kernel_rfl
theorem go14 : callGo Go.Proofs.Tryd.f14 = true := by kernel_rfl
theorem go15 : callGo Go.Proofs.Tryd.f15 = true := by kernel_rfl
theorem go16 : callGo Go.Proofs.Tryd.f16 = true := by kernel_rfl
theorem go17 : callGo Go.Proofs.Tryd.f17 = true := by kernel_rfl
theorem go9 : callGo Go.Proofs.Tryd.f9 = true := by kernel_rfl
theorem isb4 : isB P 4 = true := by kernel_rfl
theorem isl33 : isSl P 33 = true := by kernel_rfl
theorem pl40 : tPl P 40 = some ([(0, 1), (1, 1), (2, 1), (3, 1), (4, 1)]) := by kernel_rfl
theorem sl33 : tSl P 33 = some (5) := by kernel_rfl
theorem tz40 : tZero P 40 = some ([.string ⟨#[]⟩, .bool false, .bool false, .string ⟨#[]⟩, .string ⟨#[]⟩]) := by kernel_rfl
theorem tzd40 : cellsD [.string ⟨#[]⟩, .bool false, .bool false, .string ⟨#[]⟩, .string ⟨#[]⟩] = some ([.str ⟨#[]⟩, .bool false, .bool false, .str ⟨#[]⟩, .str ⟨#[]⟩]) := rfl
end Go.Proofs.YtohckiiadkibkaaDoorA.FSnG
namespace Go.Proofs.YtohckiiadkibkaaDoorA
open Go FSnG
attribute [local irreducible] XOps Quiet Loud W AC GQ DT
def szC3 (cs : List SC) : Prop := ∀ x ∈ cs, x.key.size ≤ 140737488351232 ∧ x.old.size ≤ 140737488351232 ∧ x.new.size ≤ 140737488351232
theorem szR_tl {x : SR} {l : List SR} (h : szR (x :: l)) : szR l := fun y hy => h y (List.mem_cons_of_mem _ hy)
theorem szC3_cons {c : SC} {l : List SC} (h : szC3 l) (h1 : c.key.size ≤ 140737488351232) (h2 : c.old.size ≤ 140737488351232) (h3 : c.new.size ≤ 140737488351232) : szC3 (c :: l) := fun y hy => by
  rcases List.mem_cons.1 hy with rfl | hy
  · exact ⟨h1, h2, h3⟩
  · exact h y hy
theorem diff_sz : ∀ (n : Nat) (a b : List SR), a.length + b.length = n → szR a → szR b → szC3 (diffR a b) := by
  intro n
  induction n using Nat.strongRecOn with
  | _ n ih =>
    intro a b hn ha hb
    have he : (⟨#[]⟩ : ByteArray).size ≤ 140737488351232 := by decide
    match a, b with
    | [], [] => rw [diffR]; intro x hx; cases hx
    | x :: a, [] =>
      obtain ⟨k1, v1⟩ := ha x (by simp)
      rw [diffR]; exact szC3_cons (ih (a.length + 0) (by simp at hn; omega) a [] rfl (szR_tl ha) hb) k1 v1 he
    | [], y :: b =>
      obtain ⟨k2, v2⟩ := hb y (by simp)
      rw [diffR]; exact szC3_cons (ih (0 + b.length) (by simp at hn; omega) [] b rfl ha (szR_tl hb)) k2 he v2
    | x :: a, y :: b =>
      obtain ⟨k1, v1⟩ := ha x (by simp)
      obtain ⟨k2, v2⟩ := hb y (by simp)
      have h1 := ih (a.length + (y :: b).length) (by simp at hn ⊢; omega) a (y :: b) rfl (szR_tl ha) hb
      have h2 := ih ((x :: a).length + b.length) (by simp at hn ⊢; omega) (x :: a) b rfl ha (szR_tl hb)
      have h3 := ih (a.length + b.length) (by simp at hn ⊢; omega) a b rfl (szR_tl ha) (szR_tl hb)
      rw [diffR]
      split
      · exact szC3_cons h1 k1 v1 he
      · split
        · exact szC3_cons h2 k2 he v2
        · split
          · exact szC3_cons h3 k1 v1 v2
          · exact h3
theorem diffL_sz {a b : List SR} (ha : szR a) (hb : szR b) : szC3 (diffL a b) := by
  unfold diffL
  split
  · intro x hx; cases hx
  · exact diff_sz _ a b rfl ha hb
theorem diffL_len (a b : List SR) : (diffL a b).length ≤ a.length + b.length := by
  unfold diffL
  split
  · simp
  · exact diff_len _ a b rfl
theorem szC3.c {l : List SC} (h : szC3 l) : szC l := fun x hx => ⟨(h x hx).1, (h x hx).2.2⟩
theorem szC3.t {l : List SC} (h : szC3 l) : szC (l.map turn).reverse := fun x hx => by
  rw [List.mem_reverse, List.mem_map] at hx
  obtain ⟨y, hy, rfl⟩ := hx
  exact ⟨(h y hy).1, (h y hy).2.1⟩
theorem diffL_srt {a b : List SR} (h : diffE a b = 0) : (diffL a b).Pairwise fun c e => cmpB c.key e.key < 0 := by
  obtain ⟨ha, _, hb, _, e⟩ := diffE_zero h
  rw [e]; exact (diff_dif _ a b rfl ha hb).srt
theorem diffL_nz {a b : List SR} (h : diffE a b ≠ 0) : diffL a b = [] ∧ (checkL a = diffE a b ∨ checkL b = diffE a b) := by
  refine ⟨if_pos h, ?_⟩
  unfold diffE
  split
  · exact .inl rfl
  · exact .inr rfl
theorem rev_of {d q : List SC} (hl : q.length = d.length) (h : ∀ j, j < d.length → q[d.length - 1 - j]? = (d[j]?).map turn) : q = (d.map turn).reverse := by
  refine List.ext_getElem? fun i => ?_
  rcases Nat.lt_or_ge i d.length with hi | hi
  · have h1 := h (d.length - 1 - i) (by omega)
    rw [show d.length - 1 - (d.length - 1 - i) = i by omega] at h1
    rw [h1, List.getElem?_reverse (by simpa using hi), List.length_map, List.getElem?_map]
  · rw [List.getElem?_eq_none (by omega), List.getElem?_eq_none (by simpa using hi)]
theorem rev_step {d q : List SC} {k : Nat} {c : SC} (hl : q.length = d.length) (hk : k < d.length) (hc : d[k]? = some c) (h : ∀ j, j < k → q[d.length - 1 - j]? = (d[j]?).map turn) : ∀ j, j < k + 1 → (q.set (d.length - 1 - k) (turn c))[d.length - 1 - j]? = (d[j]?).map turn := fun j hj => by
  by_cases hjk : j = k
  · subst hjk
    rw [List.getElem?_set_self (by omega), hc]; rfl
  · rw [List.getElem?_set_ne (by omega)]; exact h j (by omega)

set_option maxHeartbeats 1000000 in
set_option maxRecDepth 100000 in
theorem cloneC_c (l : List SC) (hs : Hp) (hL : l.length * 56 ≤ 140737488355328) : AC P 17 [.d (.sl 5 (l.map SC.enc))] hs (fun r h => ∃ v, r = .vs v 0 l.length 5 ∧ h = (v, .lst 5 (l.map SC.enc)) :: hs) := by
  refine AC.of 8 Tryd.func17 rfl rfl rfl ?_
  refine W.reg ?_
  refine XOps.s rfl rfl rfl (Q.assign_nilsl rfl) ?_
  refine XOps.nil ?_
  refine W.seq ?_
  refine W.reg ?_
  refine XOps.s rfl rfl rfl (Q.move_d rfl) ?_
  (refine XOps.loud rfl (L.eqnil sl33 (by decide) rfl rfl rfl) ?_; rintro _ _ ⟨bb, hbb, rfl, hh⟩; obtain rfl := hh.symm)
  refine XOps.nil ?_
  refine W.cond rfl (fun hc4 => ?_) (fun hc4 => ?_)
  · try simp only [Bool.or_eq_true, Bool.or_eq_false_iff, Bool.and_eq_true, Bool.and_eq_false_iff, decide_eq_true_eq, decide_eq_false_iff_not, Bool.not_eq_true', Bool.not_eq_false', Int.not_lt, Int.not_le, List.length_map] at hc4
    have hle : l = [] := by simpa using hbb hc4
    subst hle
    refine W.reg ?_
    refine XOps.s rfl rfl rfl (Q.assign_nilsl rfl) ?_
    refine XOps.nil ?_
    refine W.ghost 2 5 (by decide) rfl rfl (fun v2 => ?_)
    refine W.ret ?_
    exact ⟨_, (v2, .lst 5 []) :: hs, rfl, by repeat (first | exact HLe.refl _ | refine HLe.cons' (by first | rfl | (simp; done)) ?_ | refine HLe.pick 1 rfl (by first | rfl | (simp; done)) ?_ | refine HLe.pick 2 rfl (by first | rfl | (simp; done)) ?_ | refine HLe.pick 3 rfl (by first | rfl | (simp; done)) ?_ | refine HLe.pick 4 rfl (by first | rfl | (simp; done)) ?_ | refine HLe.pick 5 rfl (by first | rfl | (simp; done)) ?_ | refine HLe.skip _ ?_), v2, rfl, rfl⟩
  · try simp only [Bool.or_eq_true, Bool.or_eq_false_iff, Bool.and_eq_true, Bool.and_eq_false_iff, decide_eq_true_eq, decide_eq_false_iff_not, Bool.not_eq_true', Bool.not_eq_false', Int.not_lt, Int.not_le, List.length_map] at hc4
    refine W.skip ?_
    refine W.reg ?_
    refine XOps.s rfl rfl rfl (Q.bsl0 sl33) ?_
    refine XOps.s rfl rfl rfl (Q.move_d rfl) ?_
    refine XOps.loud rfl (L.app_new ap33 (.inl rfl) (by first | exact .inl rfl | exact .inr (by simp)) rfl (by simp; omega) rfl) ?_
    rintro _ _ ⟨v7, rfl, rfl⟩
    refine XOps.s rfl rfl rfl (Q.assign_vs rfl) ?_
    refine XOps.nil ?_
    refine W.ret ?_
    exact ⟨_, (v7, .lst 5 (l.map SC.enc)) :: hs, rfl, by repeat (first | exact HLe.refl _ | refine HLe.cons' (by first | rfl | (simp; done)) ?_ | refine HLe.pick 1 rfl (by first | rfl | (simp; done)) ?_ | refine HLe.pick 2 rfl (by first | rfl | (simp; done)) ?_ | refine HLe.pick 3 rfl (by first | rfl | (simp; done)) ?_ | refine HLe.pick 4 rfl (by first | rfl | (simp; done)) ?_ | refine HLe.pick 5 rfl (by first | rfl | (simp; done)) ?_ | refine HLe.skip _ ?_), v7, by show AV.vs _ _ _ _ = _; congr 1; simp, rfl⟩

set_option maxHeartbeats 4000000 in
set_option maxRecDepth 100000 in
theorem diffs_c (a b : List SR) (gd : Nat) (hs : Hp) (hL : a.length ≤ 4398046511104) (hL2 : b.length ≤ 4398046511104) (hz : szR a) (hz2 : szR b) : AC P 5 [.d (.sl 2 (a.map SR.enc)), .d (.sl 2 (b.map SR.enc))] ((gd, dbG) :: hs) (fun r h => r = .d (.bool true)) := by
  have hdl := diffL_len a b
  have hds := diffL_sz hz hz2
  refine AC.of 120 Tryd.func5 rfl rfl rfl ?_
  refine W.reg ?_
  refine XOps.s rfl rfl rfl (Q.assign_d rfl) ?_
  refine XOps.nil ?_
  refine W.reg ?_
  refine XOps.s rfl rfl rfl (Q.move_d rfl) ?_
  refine XOps.s rfl rfl rfl (Q.move_d rfl) ?_
  refine XOps.s rfl rfl rfl (Q.call rfl Tryd.func14 go14 rfl (diff_c0 a b _ (by omega) (by omega) hz hz2)) ?_
  refine XOps.s rfl rfl rfl (Q.move_tup rfl) ?_
  refine XOps.s rfl rfl rfl (Q.extract rfl rfl) ?_
  refine XOps.s rfl rfl rfl (Q.extract rfl rfl) ?_
  refine XOps.s rfl rfl rfl (Q.assign_d rfl) ?_
  refine XOps.s rfl rfl rfl (Q.assign_d rfl) ?_
  refine XOps.nil ?_
  refine W.seq ?_
  refine W.reg ?_
  refine XOps.s rfl rfl rfl (Q.move_d rfl) ?_
  refine XOps.s rfl rfl rfl (Q.neq rfl rfl) ?_
  refine XOps.nil ?_
  refine W.cond rfl (fun hc21 => ?_) (fun hc21 => ?_)
  · try simp only [Bool.or_eq_true, Bool.or_eq_false_iff, Bool.and_eq_true, Bool.and_eq_false_iff, decide_eq_true_eq, decide_eq_false_iff_not, Bool.not_eq_true', Bool.not_eq_false', Int.not_lt, Int.not_le, List.length_map] at hc21
    have h21 : diffE a b ≠ 0 := by first | exact hc21 | (simpa using hc21)
    obtain ⟨n1, n2⟩ := diffL_nz h21
    refine W.reg ?_
    refine XOps.s rfl rfl rfl (Q.call rfl Tryd.func9 go9 rfl (fact_c gd hs)) ?_
    refine XOps.s rfl rfl rfl (Q.move_d rfl) ?_
    refine XOps.gs rfl rfl rfl rfl rfl rfl rfl (fun hg => Q.move_d rfl) ?_
    refine XOps.gs rfl rfl rfl rfl rfl rfl rfl (fun hg => Quiet.open 24 hg rfl (Q.len_sl isl33 rfl)) ?_
    refine XOps.gs rfl rfl rfl rfl rfl rfl rfl (fun hg => Quiet.open 25 hg rfl (Q.eql rfl rfl)) ?_
    refine XOps.s rfl rfl rfl (Q.pick_and rfl rfl rfl (fun h => by first | (rw [h]; rfl) | (rw [hg, h]; rfl) | (simp [h, hg]; done))) ?_
    refine XOps.s rfl rfl rfl (Q.move_d rfl) ?_
    refine XOps.gs rfl rfl rfl rfl rfl rfl rfl (fun hg => Q.move_d rfl) ?_
    refine XOps.gs rfl rfl rfl rfl rfl rfl rfl (fun hg => Quiet.open 29 hg rfl (Q.call rfl Tryd.func15 go15 rfl (check_c a _ (by omega) hz))) ?_
    refine XOps.gs rfl rfl rfl rfl rfl rfl rfl (fun hg => Q.move_d rfl) ?_
    refine XOps.gs rfl rfl rfl rfl rfl rfl rfl (fun hg => Quiet.open 30 hg rfl (Quiet.open 31 hg rfl (Q.eql rfl rfl))) ?_
    refine XOps.gs rfl rfl rfl rfl rfl rfl rfl (fun hg => Quiet.open 32 hg rfl (Q.move_d rfl)) ?_
    refine XOps.gsw rfl rfl rfl rfl rfl rfl rfl (fun hg => Q.move_d rfl) ?_
    refine XOps.gsw rfl rfl rfl rfl rfl rfl rfl (fun hg => Quiet.open 34 hg rfl (Q.call rfl Tryd.func15 go15 rfl (check_c b _ (by omega) hz2))) ?_
    refine XOps.gsw rfl rfl rfl rfl rfl rfl rfl (fun hg => Q.move_d rfl) ?_
    refine XOps.gsw rfl rfl rfl rfl rfl rfl rfl (fun hg => Quiet.open 35 hg rfl (Quiet.open 36 hg rfl (Q.eql rfl rfl))) ?_
    refine XOps.gs rfl rfl rfl rfl rfl rfl rfl (fun hg => Quiet.open 33 hg rfl (Q.pick_or rfl rfl rfl (fun h => by first | (rw [h]; rfl) | (rw [hg, h]; rfl) | (simp [h, hg]; done)))) ?_
    refine XOps.s rfl rfl rfl (Q.pick_and rfl rfl rfl (fun h => by first | (rw [h]; rfl) | (rw [hg, h]; rfl) | (simp [h, hg]; done))) ?_
    refine XOps.s rfl rfl rfl (Q.assign_d rfl) ?_
    refine XOps.nil ?_
    refine W.ret ?_
    (refine ⟨_, _, rfl, HLe.refl _, ?_⟩; show AV.d (.bool _) = _; refine congrArg (fun b => AV.d (D.bool b)) ?_; first | (rcases n2 with n2 | n2 <;> simp [n1, n2]; done) | (rw [q4, q5]; simp; done))
  · try simp only [Bool.or_eq_true, Bool.or_eq_false_iff, Bool.and_eq_true, Bool.and_eq_false_iff, decide_eq_true_eq, decide_eq_false_iff_not, Bool.not_eq_true', Bool.not_eq_false', Int.not_lt, Int.not_le, List.length_map] at hc21
    have h21 : diffE a b = 0 := by first | omega | (simpa using hc21)
    obtain ⟨q1, q2, q3, q4, q5⟩ := diffs h21
    have hsrt := diffL_srt h21
    obtain ⟨_, hn1, _, hn2, _⟩ := diffE_zero h21
    refine W.skip ?_
    refine W.reg ?_
    refine XOps.s rfl rfl rfl (Q.move_d rfl) ?_
    refine XOps.s rfl rfl rfl (Q.move_d rfl) ?_
    refine XOps.s rfl rfl rfl (Q.call rfl Tryd.func16 go16 rfl (apply_c a (diffL a b) _ (by omega) hz (by omega) hds.c)) ?_
    refine XOps.s rfl rfl rfl (Q.move_tup rfl) ?_
    refine XOps.s rfl rfl rfl (Q.extract rfl rfl) ?_
    refine XOps.s rfl rfl rfl (Q.extract rfl rfl) ?_
    refine XOps.s rfl rfl rfl (Q.assign_d rfl) ?_
    refine XOps.s rfl rfl rfl (Q.assign_d rfl) ?_
    refine XOps.nil ?_
    refine W.seq ?_
    refine W.reg ?_
    refine XOps.s rfl rfl rfl (Q.move_d rfl) ?_
    refine XOps.s rfl rfl rfl (Q.neq rfl rfl) ?_
    refine XOps.s rfl rfl rfl (Q.move_d rfl) ?_
    refine XOps.gs rfl rfl rfl rfl rfl rfl rfl (fun hg => Q.move_d rfl) ?_
    refine XOps.gs rfl rfl rfl rfl rfl rfl rfl (fun hg => Q.move_d rfl) ?_
    refine XOps.gs rfl rfl rfl rfl rfl rfl rfl (fun hg => Quiet.open 49 hg rfl (Quiet.open 50 hg rfl (Q.call rfl Tryd.func11 go11 rfl (same_c (appL a (diffL a b)) b _ (by rw [q2]; omega))))) ?_
    refine XOps.gs rfl rfl rfl rfl rfl rfl rfl (fun hg => Quiet.open 51 hg rfl (Q.not rfl)) ?_
    refine XOps.s rfl rfl rfl (Q.pick_or rfl rfl rfl (fun h => by first | (rw [h]; rfl) | (rw [hg, h]; rfl) | (simp [h, hg]; done))) ?_
    refine XOps.s rfl rfl rfl (Q.move_d rfl) ?_
    refine XOps.gs rfl rfl rfl rfl rfl rfl rfl (fun hg => Q.move_d rfl) ?_
    refine XOps.gs rfl rfl rfl rfl rfl rfl rfl (fun hg => Quiet.open 55 hg rfl (Q.len_sl isl33 rfl)) ?_
    refine XOps.gs rfl rfl rfl rfl rfl rfl rfl (fun hg => Quiet.open 56 hg rfl (Q.eql rfl rfl)) ?_
    refine XOps.gs rfl rfl rfl rfl rfl rfl rfl (fun hg => Q.move_d rfl) ?_
    refine XOps.gs rfl rfl rfl rfl rfl rfl rfl (fun hg => Q.move_d rfl) ?_
    refine XOps.gs rfl rfl rfl rfl rfl rfl rfl (fun hg => Quiet.open 58 hg rfl (Quiet.open 59 hg rfl (Q.call rfl Tryd.func11 go11 rfl (same_c a b _ (by omega))))) ?_
    refine XOps.gs rfl rfl rfl rfl rfl rfl rfl (fun hg => Quiet.open 57 hg rfl (Quiet.open 60 hg rfl (Q.neq_bool isb4 rfl rfl))) ?_
    refine XOps.s rfl rfl rfl (Q.pick_or rfl rfl rfl (fun h => by first | (rw [h]; rfl) | (rw [hg, h]; rfl) | (simp [h, hg]; done))) ?_
    refine XOps.nil ?_
    refine W.cond rfl (fun hc62 => ?_) (fun hc62 => ?_)
    · try simp only [Bool.or_eq_true, Bool.or_eq_false_iff, Bool.and_eq_true, Bool.and_eq_false_iff, decide_eq_true_eq, decide_eq_false_iff_not, Bool.not_eq_true', Bool.not_eq_false', Int.not_lt, Int.not_le, List.length_map] at hc62
      exfalso
      rw [q1, q2, q3] at hc62
      simp at hc62 --done
    · try simp only [Bool.or_eq_true, Bool.or_eq_false_iff, Bool.and_eq_true, Bool.and_eq_false_iff, decide_eq_true_eq, decide_eq_false_iff_not, Bool.not_eq_true', Bool.not_eq_false', Int.not_lt, Int.not_le, List.length_map] at hc62
      refine W.skip ?_
      refine W.reg ?_
      refine XOps.s rfl rfl rfl (Q.move_d rfl) ?_
      (refine XOps.loud rfl (L.call rfl Tryd.func17 go17 rfl (cloneC_c (diffL a b) _ (by omega)) rfl) ?_; rintro _ _ ⟨_, rfl, v64, rfl, rfl⟩)
      refine XOps.s rfl rfl rfl (Q.assign_vs rfl) ?_
      refine XOps.nil ?_
      refine W.seq ?_
      refine W.reg ?_
      refine XOps.s rfl rfl rfl (Q.move_d rfl) ?_
      refine XOps.s rfl rfl rfl (Q.len_sl isl33 rfl) ?_
      refine XOps.s rfl rfl rfl (Q.move_d rfl) ?_
      refine XOps.nil ?_
      refine W.block ?_
      refine W.loop (ι := Nat × List SC) (fun p => [(0, .d (.sl 2 (a.map SR.enc))), (1, .d (.sl 2 (b.map SR.enc))), (5, .d (.sl 5 ((diffL a b).map SC.enc))), (9, .vs v64 0 (diffL a b).length 5), (65, .d (.sl 5 ((diffL a b).map SC.enc))), (66, .d (.int .i64 (diffL a b).length)), (67, .d (.int .i64 (p.1 : Nat)))]) (fun p => (v64, .lst 5 (p.2.map SC.enc)) :: (gd, dbG) :: hs) (fun p => p.1 ≤ (diffL a b).length ∧ p.2.length = (diffL a b).length ∧ ∀ j, j < p.1 → p.2[(diffL a b).length - 1 - j]? = ((diffL a b)[j]?).map turn) (fun p => (diffL a b).length - p.1) (0, diffL a b) ?_ ?_ ?_ ?_
      · exact ⟨Nat.zero_le _, rfl, fun j hj => absurd hj (Nat.not_lt_zero _)⟩
      · exact ⟨by first | rfl | exact int_eq (by omega) | exact len_eq (by simp) | exact int_eq (by simp; done), by first | rfl | exact int_eq (by omega) | exact len_eq (by simp) | exact int_eq (by simp; done), by first | rfl | exact int_eq (by omega) | exact len_eq (by simp) | exact int_eq (by simp; done), by first | rfl | exact int_eq (by omega) | exact len_eq (by simp) | exact int_eq (by simp; done), by first | rfl | exact int_eq (by omega) | exact len_eq (by simp) | exact int_eq (by simp; done), by first | rfl | exact int_eq (by omega) | exact len_eq (by simp) | exact int_eq (by simp; done), by first | rfl | exact int_eq (by omega) | exact len_eq (by simp) | exact int_eq (by simp; done), trivial⟩
      · repeat (first | exact HLe.refl _ | refine HLe.cons' (by first | rfl | (simp; done)) ?_ | refine HLe.pick 1 rfl (by first | rfl | (simp; done)) ?_ | refine HLe.pick 2 rfl (by first | rfl | (simp; done)) ?_ | refine HLe.pick 3 rfl (by first | rfl | (simp; done)) ?_ | refine HLe.pick 4 rfl (by first | rfl | (simp; done)) ?_ | refine HLe.pick 5 rfl (by first | rfl | (simp; done)) ?_ | refine HLe.skip _ ?_)
      · rintro ⟨k, q⟩ ⟨hk, hql, hI⟩
        dsimp only at hk hql hI ⊢
        refine W.reg ?_
        refine XOps.s rfl rfl rfl (Q.lss rfl rfl) ?_
        refine XOps.nil ?_
        refine W.seq ?_
        refine W.cond rfl (fun hc68 => ?_) (fun hc68 => ?_)
        · try simp only [Bool.or_eq_true, Bool.or_eq_false_iff, Bool.and_eq_true, Bool.and_eq_false_iff, decide_eq_true_eq, decide_eq_false_iff_not, Bool.not_eq_true', Bool.not_eq_false', Int.not_lt, Int.not_le, List.length_map] at hc68
          obtain ⟨c, hc⟩ : ∃ c, (diffL a b)[k]? = some c := ⟨_, List.getElem?_eq_getElem (by omega)⟩
          obtain ⟨y, hy⟩ : ∃ y : SC, (0 : Int) < (k : Nat) → (diffL a b)[((k : Int) - 1).toNat]? = some y := by
            rcases Nat.eq_zero_or_pos k with h | h
            · exact ⟨c, fun h2 => by omega⟩
            · exact ⟨(diffL a b)[((k : Int) - 1).toNat]'(by omega), fun _ => List.getElem?_eq_getElem _⟩
          have hnk : ((diffL a b).length : Int) - 1 - k = (((diffL a b).length - 1 - k : Nat) : Int) := by omega
          obtain ⟨z, hz0⟩ : ∃ z, q[(diffL a b).length - 1 - k]? = some z := ⟨_, List.getElem?_eq_getElem (by omega)⟩
          have hrow : (q.map SC.enc)[0 + ((((diffL a b).map SC.enc).length : Int) - 1 - k).toNat]? = some z.enc := by rw [List.length_map, hnk]; exact map_at0 hz0
          refine W.skip ?_
          refine W.seq ?_
          refine W.block ?_
          refine W.reg ?_
          refine XOps.s rfl rfl rfl (Q.move_d rfl) ?_
          refine XOps.s rfl rfl rfl (Q.idx_sl sl33 (by decide) rfl rfl (by first | omega | (simp only [List.length_map]; omega)) (map_at hc)) ?_
          refine XOps.s rfl rfl rfl (Q.ld_dpn ag40 rfl rfl) ?_
          (refine XOps.loud rfl (L.alloc tz40 rfl rfl) ?_; rintro _ _ ⟨b11, rfl, rfl⟩)
          refine XOps.s rfl rfl rfl (Q.assign_d rfl) ?_
          refine XOps.loud rfl (L.storen (k := 0) ag40 rfl rfl rfl rfl rfl) ?_
          rintro _ _ ⟨rfl, rfl⟩
          refine XOps.nil ?_
          refine W.reg ?_
          refine XOps.s rfl rfl rfl (Q.move_vs rfl) ?_
          refine XOps.s rfl rfl rfl (Q.move_d rfl) ?_
          refine XOps.s rfl rfl rfl (Q.len_sl isl33 rfl) ?_
          refine XOps.s rfl rfl rfl (Q.sub rfl rfl (wi64 (by first | omega | (dsimp only; omega) | (simp only [List.length_map]; omega)) (by first | omega | (dsimp only; omega) | (simp only [List.length_map]; omega)))) ?_
          refine XOps.s rfl rfl rfl (Q.move_d rfl) ?_
          refine XOps.s rfl rfl rfl (Q.sub rfl rfl (wi64 (by first | omega | (dsimp only; omega) | (simp only [List.length_map]; omega)) (by first | omega | (dsimp only; omega) | (simp only [List.length_map]; omega)))) ?_
          refine XOps.s rfl rfl rfl (Q.fld_ptr fl40_0 rfl) ?_
          refine XOps.s rfl rfl rfl (Q.ld_ptr (k := 0) ag9 rfl rfl rfl) ?_
          refine XOps.s rfl rfl rfl (Q.fld_ptr fl40_2 rfl) ?_
          refine XOps.s rfl rfl rfl (Q.ld_ptr (k := 0) ag4 rfl rfl rfl) ?_
          refine XOps.s rfl rfl rfl (Q.fld_ptr fl40_1 rfl) ?_
          refine XOps.s rfl rfl rfl (Q.ld_ptr (k := 0) ag4 rfl rfl rfl) ?_
          refine XOps.s rfl rfl rfl (Q.fld_ptr fl40_4 rfl) ?_
          refine XOps.s rfl rfl rfl (Q.ld_ptr (k := 0) ag9 rfl rfl rfl) ?_
          refine XOps.s rfl rfl rfl (Q.fld_ptr fl40_3 rfl) ?_
          refine XOps.s rfl rfl rfl (Q.ld_ptr (k := 0) ag9 rfl rfl rfl) ?_
          refine XOps.s rfl rfl rfl (Q.build pl40 tz40 tzd40 rfl) ?_
          refine XOps.s rfl rfl rfl (Q.idx_vs (kk := 1) sl33 rfl rfl rfl (by simp only [List.length_map]; omega) (by simp only [List.length_map]; omega)) ?_
          (refine XOps.loud rfl (L.storen_ep (k := 1) ag40 rfl rfl hrow rfl rfl rfl) ?_; rintro _ _ ⟨rfl, rfl⟩)
          refine XOps.nil ?_
          refine W.drawreg 13 follows (by kernel_rfl) ?_
          refine Chain.cons _ (GQ.q rfl (Q.move_d rfl)) rfl ?_
          refine Chain.cons _ (GQ.q rfl (Q.gtr rfl rfl)) rfl ?_
          refine Chain.cons _ (GQ.q rfl (Q.move_d rfl)) rfl ?_
          refine Chain.cons _ (GQ.g rfl rfl rfl rfl rfl (fun hg => Q.fld_ptr fl40_0 rfl)) rfl ?_
          refine Chain.cons _ (GQ.g rfl rfl rfl rfl rfl (fun hg => Quiet.open 93 hg rfl (Q.ld_ptr (k := 0) ag9 rfl rfl rfl))) rfl ?_
          refine Chain.cons _ (GQ.g rfl rfl rfl rfl rfl (fun hg => Q.move_d rfl)) rfl ?_
          refine Chain.cons _ (GQ.g rfl rfl rfl rfl rfl (fun hg => Q.move_d rfl)) rfl ?_
          refine Chain.cons _ (GQ.g rfl rfl rfl rfl rfl (fun hg => Quiet.open 96 hg rfl (Q.sub rfl rfl (wi64 (by first | omega | (dsimp only; omega) | (simp only [List.length_map]; omega)) (by first | omega | (dsimp only; omega) | (simp only [List.length_map]; omega)))))) rfl ?_
          refine Chain.cons _ (GQ.g rfl rfl rfl rfl rfl (fun hg => Quiet.open 95 hg rfl (Quiet.open 97 hg rfl (Q.idx_sl sl33 (by decide) rfl rfl (by have : 0 < k := (by simpa using hg); omega) (map_atI (hy (by simpa using hg))))))) rfl ?_
          refine Chain.cons _ (GQ.g rfl rfl rfl rfl rfl (fun hg => Quiet.open 98 hg rfl (Q.fld_dp fl40_0 rfl))) rfl ?_
          refine Chain.cons _ (GQ.g rfl rfl rfl rfl rfl (fun hg => Quiet.open 99 hg rfl (Q.ld_dp ag9 rfl rfl))) rfl ?_
          refine Chain.cons _ (GQ.g rfl rfl rfl rfl rfl (fun hg => Quiet.open 94 hg rfl (Quiet.open 100 hg rfl (Q.leq_str rfl rfl)))) rfl ?_
          refine Chain.cons _ (GQ.q rfl (Q.pick_and rfl rfl rfl (fun h => by first | (rw [h]; rfl) | (rw [hg, h]; rfl) | (simp [h, hg]; done)))) rfl ?_
          refine Chain.nil ?_
          refine XOps.nil ?_
          refine W.cond rfl (fun hc102 => ?_) (fun hc102 => ?_)
          · try simp only [Bool.or_eq_true, Bool.or_eq_false_iff, Bool.and_eq_true, Bool.and_eq_false_iff, decide_eq_true_eq, decide_eq_false_iff_not, Bool.not_eq_true', Bool.not_eq_false', Int.not_lt, Int.not_le, List.length_map] at hc102
            exfalso
            have h1 := hc102.1
            have h2 := hc102.2
            rw [← Bool.or_eq_true, leq_cmpB] at h2
            have h3 := hy (by omega)
            obtain ⟨h4, h5⟩ := List.getElem?_eq_some_iff.1 h3
            obtain ⟨h6, h7⟩ := List.getElem?_eq_some_iff.1 hc
            have h8 := List.pairwise_iff_getElem.1 hsrt _ _ h4 h6 (by omega)
            rw [h5, h7] at h8
            have h9 := of_decide_eq_true h2
            rw [cmpB_anti] at h9
            omega --done
          · try simp only [Bool.or_eq_true, Bool.or_eq_false_iff, Bool.and_eq_true, Bool.and_eq_false_iff, decide_eq_true_eq, decide_eq_false_iff_not, Bool.not_eq_true', Bool.not_eq_false', Int.not_lt, Int.not_le, List.length_map] at hc102
            refine W.skip ?_
            refine W.region ?_
            refine XOps.s rfl rfl rfl (Q.add rfl rfl (wi64 (by first | omega | (dsimp only; omega) | (simp only [List.length_map]; omega)) (by first | omega | (dsimp only; omega) | (simp only [List.length_map]; omega)))) ?_
            refine XOps.s rfl rfl rfl (Q.move_d rfl) ?_
            refine XOps.nil ?_
            refine ⟨(k + 1, q.set ((diffL a b).length - 1 - k) (turn c)), ?_, ?_, ?_, ?_⟩
            · exact ⟨by dsimp only; omega, by dsimp only; rw [List.length_set]; exact hql, rev_step hql (by omega) hc hI⟩
            · show _ - (k + 1) < _ - k; omega
            · exact ⟨by first | rfl | exact int_eq (by omega) | exact len_eq (by simp) | exact int_eq (by simp; done), by first | rfl | exact int_eq (by omega) | exact len_eq (by simp) | exact int_eq (by simp; done), by first | rfl | exact int_eq (by omega) | exact len_eq (by simp) | exact int_eq (by simp; done), by first | rfl | exact int_eq (by omega) | exact len_eq (by simp) | exact int_eq (by simp; done), by first | rfl | exact int_eq (by omega) | exact len_eq (by simp) | exact int_eq (by simp; done), by first | rfl | exact int_eq (by omega) | exact len_eq (by simp) | exact int_eq (by simp; done), by first | rfl | exact int_eq (by omega) | exact len_eq (by simp) | exact int_eq (by simp; done), trivial⟩
            · refine HLe.skip _ (HLe.cons' (congrArg (HO.lst 5) ?_) (HLe.refl _))
              dsimp only
              rw [List.map_set, List.length_map, hnk, Nat.zero_add, Int.toNat_natCast]; rfl
        · try simp only [Bool.or_eq_true, Bool.or_eq_false_iff, Bool.and_eq_true, Bool.and_eq_false_iff, decide_eq_true_eq, decide_eq_false_iff_not, Bool.not_eq_true', Bool.not_eq_false', Int.not_lt, Int.not_le, List.length_map] at hc68
          have hkl : k = (diffL a b).length := by omega
          have hq : q = ((diffL a b).map turn).reverse := rev_of hql (fun j hj => hI j (by omega))
          have hqz : szC q := by rw [hq]; exact hds.t
          rw [← hq] at q4 q5
          have hq5 := q5
          refine W.exit ?_
          refine W.freeze 9 0 rfl rfl (by rw [List.length_map]; omega) ?_
          refine W.reg ?_
          refine XOps.s rfl rfl rfl (Q.move_d rfl) ?_
          refine XOps.s rfl rfl rfl (Q.move_d rfl) ?_
          refine XOps.s rfl rfl rfl (Q.call rfl Tryd.func16 go16 rfl (apply_c b q _ (by omega) hz2 (by omega) hqz)) ?_
          refine XOps.s rfl rfl rfl (Q.move_tup rfl) ?_
          refine XOps.s rfl rfl rfl (Q.extract rfl rfl) ?_
          refine XOps.s rfl rfl rfl (Q.extract rfl rfl) ?_
          refine XOps.s rfl rfl rfl (Q.assign_d rfl) ?_
          refine XOps.s rfl rfl rfl (Q.assign_d rfl) ?_
          refine XOps.nil ?_
          refine W.reg ?_
          refine XOps.s rfl rfl rfl (Q.call rfl Tryd.func9 go9 rfl (fact_c gd hs)) ?_
          refine XOps.s rfl rfl rfl (Q.move_d rfl) ?_
          refine XOps.gs rfl rfl rfl rfl rfl rfl rfl (fun hg => Q.move_d rfl) ?_
          refine XOps.gs rfl rfl rfl rfl rfl rfl rfl (fun hg => Quiet.open 112 hg rfl (Q.eql rfl rfl)) ?_
          refine XOps.s rfl rfl rfl (Q.pick_and rfl rfl rfl (fun h => by first | (rw [h]; rfl) | (rw [hg, h]; rfl) | (simp [h, hg]; done))) ?_
          refine XOps.s rfl rfl rfl (Q.move_d rfl) ?_
          refine XOps.gs rfl rfl rfl rfl rfl rfl rfl (fun hg => Q.move_d rfl) ?_
          refine XOps.gs rfl rfl rfl rfl rfl rfl rfl (fun hg => Q.move_d rfl) ?_
          refine XOps.gs rfl rfl rfl rfl rfl rfl rfl (fun hg => Quiet.open 116 hg rfl (Quiet.open 117 hg rfl (Q.call rfl Tryd.func11 go11 rfl (same_c (appL b q) a _ (by rw [hq5]; omega))))) ?_
          refine XOps.s rfl rfl rfl (Q.pick_and rfl rfl rfl (fun h => by first | (rw [h]; rfl) | (rw [hg, h]; rfl) | (simp [h, hg]; done))) ?_
          refine XOps.s rfl rfl rfl (Q.assign_d rfl) ?_
          refine XOps.nil ?_
          refine W.ret ?_
          (refine ⟨_, _, rfl, HLe.refl _, ?_⟩; show AV.d (.bool _) = _; refine congrArg (fun b => AV.d (D.bool b)) ?_; first | (rcases n2 with n2 | n2 <;> simp [n1, n2]; done) | (rw [q4, q5]; simp; done))
end Go.Proofs.YtohckiiadkibkaaDoorA
