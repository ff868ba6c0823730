/- R.Cut, slices.Delete of ints, package mailbox but All and Force, the law MailboxFirst. -/
import Derived.Test.YtdkeenmmhkhecaaBase
import Derived.Test.YtdkeenmmhkhecaaSpec
import Derived.Test.YtdkeenmmhkhecaaAbs13
set_option linter.unusedVariables false
set_option linter.unusedSimpArgs false
set_option linter.unnecessarySimpa false
namespace Go.Proofs.YtdkeenmmhkhecaaA.FWalkA
open Go
theorem ag22 : tAgg P 22 = some ((false, 1)) := by kernel_rfl
theorem ag3 : tAgg P 3 = some ((false, 1)) := by kernel_rfl
theorem ap22 : tApp P 22 = some ((1, 8)) := by kernel_rfl
theorem ar45 : tArr P 45 = some ((8, 1)) := by kernel_rfl
theorem fl47_0 : tFld P 47 0 = some (0) := by kernel_rfl
theorem fl47_1 : tFld P 47 1 = some (1) := by kernel_rfl
theorem fl47_2 : tFld P 47 2 = some (2) := by kernel_rfl
theorem go10 : callGo Go.Proofs.Try.f10 = true := by kernel_rfl
theorem go11 : callGo Go.Proofs.Try.f11 = true := by kernel_rfl
theorem go12 : callGo Go.Proofs.Try.f12 = true := by kernel_rfl
theorem go15 : callGo Go.Proofs.Try.f15 = true := by kernel_rfl
theorem go6 : callGo Go.Proofs.Try.f6 = true := by kernel_rfl
theorem go7 : callGo Go.Proofs.Try.f7 = true := by kernel_rfl
theorem go8 : callGo Go.Proofs.Try.f8 = true := by kernel_rfl
theorem go9 : callGo Go.Proofs.Try.f9 = true := by kernel_rfl
theorem ipt23 : isPtr P 23 = true := by kernel_rfl
theorem isl22 : isSl P 22 = true := by kernel_rfl
theorem pl47 : tPl P 47 = some ([(0, 1), (1, 1), (2, 8)]) := by kernel_rfl
theorem sl22 : tSl P 22 = some (1) := by kernel_rfl
theorem tz47 : tZero P 47 = some ([.int .i64 0, .int .i64 0, .slice none 0 0, .slice none 0 0, .slice none 0 0, .slice none 0 0, .slice none 0 0, .slice none 0 0, .slice none 0 0, .slice none 0 0]) := by kernel_rfl
theorem zr22 : tZrow P 22 = some ([.int .i64 0]) := by kernel_rfl
theorem zrd22 : cellsD [.int .i64 0] = some ([.int .i64 0]) := rfl
end Go.Proofs.YtdkeenmmhkhecaaA.FWalkA
namespace Go.Proofs.YtdkeenmmhkhecaaA
open Go FWalkA
set_option maxHeartbeats 1000000 in
set_option maxRecDepth 100000 in
theorem cut_c (n lo hi : Int) (hs : Hp) (h0 : -1000000000000 ≤ lo) (h1 : lo ≤ hi) (h2 : hi ≤ 1000000000000) : AC P 9 [.d (.int .i64 n), .d (.int .i64 lo), .d (.int .i64 hi)] hs (fun r h => r = .d (.int .i64 (cutI n lo hi)) ∧ h = hs) := by
  refine AC.of 23 Try.func9 rfl rfl rfl ?_
  refine W.reg ?_
  refine XOps.s rfl rfl rfl (Q.assign_d rfl) ?_
  refine XOps.nil ?_
  refine W.reg ?_
  refine XOps.s rfl rfl rfl (Q.move_d rfl) ?_
  refine XOps.s rfl rfl rfl (Q.move_d rfl) ?_
  refine XOps.s rfl rfl rfl (Q.sub rfl rfl (wi64 (by first | omega | (dsimp only; omega) | (simp only [List.length_map]; omega)) (by first | omega | (dsimp only; omega) | (simp only [List.length_map]; omega)))) ?_
  refine XOps.s rfl rfl rfl (Q.add rfl rfl (wi64 (by first | omega | (dsimp only; omega) | (simp only [List.length_map]; omega)) (by first | omega | (dsimp only; omega) | (simp only [List.length_map]; omega)))) ?_
  refine XOps.s rfl rfl rfl (Q.assign_d rfl) ?_
  refine XOps.nil ?_
  refine W.reg ?_
  refine XOps.s rfl rfl rfl (Q.move_d rfl) ?_
  refine XOps.s rfl rfl rfl (Q.move_d rfl) ?_
  refine XOps.s rfl rfl rfl (Q.rem rfl rfl (by omega) rfl) ?_
  refine XOps.s rfl rfl rfl (Q.assign_d rfl) ?_
  refine XOps.nil ?_
  refine W.seq ?_
  have hm := cut_mod (n := n) (m := hi - lo + 1) (by omega) rfl
  have hm0 := Int.emod_nonneg n (by omega : hi - lo + 1 ≠ 0)
  have hm1 := Int.emod_lt_of_pos n (by omega : 0 < hi - lo + 1)
  generalize hT : n.tmod (hi - lo + 1) = t at hm ⊢
  refine W.reg ?_
  refine XOps.s rfl rfl rfl (Q.move_d rfl) ?_
  refine XOps.s rfl rfl rfl (Q.lss rfl rfl) ?_
  refine XOps.nil ?_
  refine W.cond rfl (fun hc16 => ?_) (fun hc16 => ?_)
  · try simp only [Bool.or_eq_true, Bool.or_eq_false_iff, Bool.and_eq_true, Bool.and_eq_false_iff, decide_eq_true_eq, decide_eq_false_iff_not, Bool.not_eq_true', Bool.not_eq_false', Int.not_lt, Int.not_le, List.length_map] at hc16
    rw [if_pos hc16] at hm
    refine W.region ?_
    refine XOps.s rfl rfl rfl (Q.move_d rfl) ?_
    refine XOps.s rfl rfl rfl (Q.move_d rfl) ?_
    refine XOps.s rfl rfl rfl (Q.add rfl rfl (wi64 (by first | omega | (dsimp only; omega) | (simp only [List.length_map]; omega)) (by first | omega | (dsimp only; omega) | (simp only [List.length_map]; omega)))) ?_
    refine XOps.s rfl rfl rfl (Q.assign_d rfl) ?_
    refine XOps.nil ?_
    refine W.reg ?_
    refine XOps.s rfl rfl rfl (Q.move_d rfl) ?_
    refine XOps.s rfl rfl rfl (Q.move_d rfl) ?_
    refine XOps.s rfl rfl rfl (Q.add rfl rfl (wi64 (by first | omega | (dsimp only; omega) | (simp only [List.length_map]; omega)) (by first | omega | (dsimp only; omega) | (simp only [List.length_map]; omega)))) ?_
    refine XOps.s rfl rfl rfl (Q.assign_d rfl) ?_
    refine XOps.nil ?_
    refine W.ret ?_
    refine ⟨_, hs, rfl, by repeat (first | exact HLe.refl _ | refine HLe.cons' (by first | rfl | (simp; done)) ?_ | refine HLe.pick 1 rfl (by first | rfl | (simp; done)) ?_ | refine HLe.pick 2 rfl (by first | rfl | (simp; done)) ?_ | refine HLe.pick 3 rfl (by first | rfl | (simp; done)) ?_ | refine HLe.pick 4 rfl (by first | rfl | (simp; done)) ?_ | refine HLe.pick 5 rfl (by first | rfl | (simp; done)) ?_ | refine HLe.skip _ ?_), ?_, rfl⟩
    exact int_eq (by unfold cutI; omega)
  · try simp only [Bool.or_eq_true, Bool.or_eq_false_iff, Bool.and_eq_true, Bool.and_eq_false_iff, decide_eq_true_eq, decide_eq_false_iff_not, Bool.not_eq_true', Bool.not_eq_false', Int.not_lt, Int.not_le, List.length_map] at hc16
    rw [if_neg (by omega)] at hm
    refine W.skip ?_
    refine W.reg ?_
    refine XOps.s rfl rfl rfl (Q.move_d rfl) ?_
    refine XOps.s rfl rfl rfl (Q.move_d rfl) ?_
    refine XOps.s rfl rfl rfl (Q.add rfl rfl (wi64 (by first | omega | (dsimp only; omega) | (simp only [List.length_map]; omega)) (by first | omega | (dsimp only; omega) | (simp only [List.length_map]; omega)))) ?_
    refine XOps.s rfl rfl rfl (Q.assign_d rfl) ?_
    refine XOps.nil ?_
    refine W.ret ?_
    refine ⟨_, hs, rfl, by repeat (first | exact HLe.refl _ | refine HLe.cons' (by first | rfl | (simp; done)) ?_ | refine HLe.pick 1 rfl (by first | rfl | (simp; done)) ?_ | refine HLe.pick 2 rfl (by first | rfl | (simp; done)) ?_ | refine HLe.pick 3 rfl (by first | rfl | (simp; done)) ?_ | refine HLe.pick 4 rfl (by first | rfl | (simp; done)) ?_ | refine HLe.pick 5 rfl (by first | rfl | (simp; done)) ?_ | refine HLe.skip _ ?_), ?_, rfl⟩
    exact int_eq (by unfold cutI; omega)

set_option maxHeartbeats 1000000 in
set_option maxRecDepth 100000 in
theorem delN_c (m i j : Nat) (rows : List (List D)) (hs : Hp) (hij : i < j) (hj : j ≤ rows.length) (hn : rows.length ≤ 4611686018427387904) : AC P 15 [.vs m 0 rows.length 1, .d (.int .i64 i), .d (.int .i64 j)] ((m, .lst 1 rows) :: hs) (fun r h => r = .vs m 0 (rows.length - (j - i)) 1 ∧ h = (m, .lst 1 (rows.take i ++ rows.drop j)) :: hs) := by
  refine AC.of 33 Try.func15 rfl rfl rfl ?_
  refine W.reg ?_
  refine XOps.s rfl rfl rfl (Q.assign_nilsl rfl) ?_
  refine XOps.nil ?_
  refine W.reg ?_
  refine XOps.s rfl rfl rfl (Q.move_vs rfl) ?_
  refine XOps.s rfl rfl rfl (Q.move_d rfl) ?_
  refine XOps.s rfl rfl rfl (Q.move_d rfl) ?_
  refine XOps.s rfl rfl rfl (Q.move_vs rfl) ?_
  refine XOps.s rfl rfl rfl (Q.len_vs isl22 rfl) ?_
  refine XOps.s rfl rfl rfl (Q.cut3_vs sl22 rfl rfl rfl rfl (by first | omega | (simp at hg; omega)) (by first | omega | (simp at hg; omega)) (by first | omega | (simp at hg; omega)) (by first | omega | (simp at hg; omega))) ?_
  refine XOps.nil ?_
  refine W.seq ?_
  refine W.reg ?_
  refine XOps.s rfl rfl rfl (Q.move_d rfl) ?_
  refine XOps.s rfl rfl rfl (Q.move_d rfl) ?_
  refine XOps.s rfl rfl rfl (Q.eql rfl rfl) ?_
  refine XOps.nil ?_
  refine W.cond rfl (fun hc16 => ?_) (fun hc16 => ?_)
  · try simp only [Bool.or_eq_true, Bool.or_eq_false_iff, Bool.and_eq_true, Bool.and_eq_false_iff, decide_eq_true_eq, decide_eq_false_iff_not, Bool.not_eq_true', Bool.not_eq_false', Int.not_lt, Int.not_le, List.length_map] at hc16
    exact absurd hc16 (by omega)
  · try simp only [Bool.or_eq_true, Bool.or_eq_false_iff, Bool.and_eq_true, Bool.and_eq_false_iff, decide_eq_true_eq, decide_eq_false_iff_not, Bool.not_eq_true', Bool.not_eq_false', Int.not_lt, Int.not_le, List.length_map] at hc16
    refine W.skip ?_
    refine W.reg ?_
    refine XOps.s rfl rfl rfl (Q.move_vs rfl) ?_
    refine XOps.s rfl rfl rfl (Q.len_vs isl22 rfl) ?_
    refine XOps.s rfl rfl rfl (Q.assign_d rfl) ?_
    refine XOps.nil ?_
    refine W.drawTreg 8 [6] follows (by kernel_rfl) (by decide) ?_
    refine DT.more (Rp := fun v h => v = .vs m 0 (i + (rows.length - j)) 1 ∧ h = (m, .lst 1 (rows.take i ++ (rows.drop j).take (rows.length - j) ++ rows.drop (i + (rows.length - j)))) :: hs) [.new, .new, .new, .new, .new, .new, .now, .later] (by kernel_rfl) ?_
    refine PC.new _ rfl (GQ.q rfl (Q.move_vs rfl)) rfl ?_
    refine PC.new _ rfl (GQ.q rfl (Q.move_d rfl)) rfl ?_
    refine PC.new _ rfl (GQ.q rfl (Q.cut_vs sl22 rfl rfl rfl (by first | omega | (simp only [List.length_map]; omega)) (by first | omega | (simp only [List.length_map]; omega)) (by first | omega | (simp only [List.length_map]; omega)))) rfl ?_
    refine PC.new _ rfl (GQ.q rfl (Q.move_vs rfl)) rfl ?_
    refine PC.new _ rfl (GQ.q rfl (Q.move_d rfl)) rfl ?_
    refine PC.new _ rfl (GQ.q rfl (Q.cut_vs sl22 rfl rfl rfl (by first | omega | (simp only [List.length_map]; omega)) (by first | omega | (simp only [List.length_map]; omega)) (by first | omega | (simp only [List.length_map]; omega)))) rfl ?_
    refine PC.now rfl rfl (fun τ => Loud.to (L.app_in (k := 0) ap22 rfl rfl rfl (by simp; omega) (by simp; omega) rfl) (fun _ _ h => ⟨_, h.1, rfl, by simpa using h.2⟩)) ?_
    refine PC.later rfl ?_
    refine PC.nil ?_
    rintro _ _ ⟨rfl, rfl⟩
    refine DT.last [.did, .did, .did, .did, .did, .did, .did, .new] (by kernel_rfl) ?_
    refine PC.did rfl ?_
    refine PC.did rfl ?_
    refine PC.did rfl ?_
    refine PC.did rfl ?_
    refine PC.did rfl ?_
    refine PC.did rfl ?_
    refine PC.did rfl ?_
    refine PC.new _ rfl (GQ.q rfl (Q.assign_vs rfl)) rfl ?_
    refine PC.nil ?_
    refine XOps.nil ?_
    refine W.reg ?_
    refine XOps.s rfl rfl rfl (Q.move_vs rfl) ?_
    refine XOps.s rfl rfl rfl (Q.move_vs rfl) ?_
    refine XOps.s rfl rfl rfl (Q.len_vs isl22 rfl) ?_
    refine XOps.s rfl rfl rfl (Q.move_d rfl) ?_
    refine XOps.s rfl rfl rfl (Q.cut_vs2 (kk := 0) sl22 rfl rfl rfl rfl (by omega) (by omega) (by simp; omega)) ?_
    refine XOps.loud rfl (L.clear (k := 0) sl22 zr22 rfl zrd22 (by decide) rfl rfl (by simp; omega)) ?_
    rintro _ _ ⟨rfl, rfl⟩
    refine XOps.nil ?_
    refine W.front_of 0 (rows.length - (j - i)) rfl ?_
    refine W.reg ?_
    refine XOps.s rfl rfl rfl (Q.move_vs rfl) ?_
    refine XOps.s rfl rfl rfl (Q.assign_vs rfl) ?_
    refine XOps.nil ?_
    refine W.ret ?_
    refine ⟨_, (m, .lst 1 (rows.take i ++ rows.drop j)) :: hs, rfl, HLe.cons' ?_ (HLe.refl _), ?_, rfl⟩
    · congr 1
      rw [List.append_assoc]
      exact (del_rows rows i j _ _ hij hj (by omega) (by omega) _ _).symm
    · show AV.vs _ _ _ _ = _
      congr 1
      omega

theorem delN0_c (rows : List Int) (m : Nat) (hs : Hp) (h0 : rows.length ≠ 0) (hn : rows.length ≤ 1000) : AC P 15 [.vs m 0 rows.length 1, .d (.int .i64 0), .d (.int .i64 1)] ((m, .lst 1 (rows.map nE)) :: hs)
    (fun r h => r = .vs m 0 (rows.drop 1).length 1 ∧ h = (m, .lst 1 ((rows.drop 1).map nE)) :: hs) := by
  have h := delN_c m 0 1 (rows.map nE) hs (by omega) (by simp; omega) (by simp; omega)
  rw [List.length_map] at h
  exact h.mono fun r h' ⟨h1, h2⟩ => ⟨by rw [h1]; simp, by rw [h2]; simp⟩

set_option maxHeartbeats 1000000 in
set_option maxRecDepth 100000 in
theorem new_c (size : Int) (hs : Hp) (h0 : 1 ≤ size) (h1 : size ≤ 64) : AC P 6 [.d (.int .i64 size)] hs (fun r h => ∃ b ids, r = .tup [.ptr b 0, .d (.int .i64 0)] ∧ h = boxH b ⟨size, 0, fun _ => []⟩ ids hs) := by
  refine AC.of 13 Try.func6 rfl rfl rfl ?_
  refine W.reg ?_
  refine XOps.s rfl rfl rfl (Q.assign_d rfl) ?_
  refine XOps.s rfl rfl rfl (Q.assign_d rfl) ?_
  refine XOps.nil ?_
  refine W.seq ?_
  refine W.reg ?_
  refine XOps.s rfl rfl rfl (Q.move_d rfl) ?_
  refine XOps.s rfl rfl rfl (Q.lss rfl rfl) ?_
  refine XOps.s rfl rfl rfl (Q.move_d rfl) ?_
  refine XOps.gs rfl rfl rfl rfl rfl rfl rfl (fun hg => Q.move_d rfl) ?_
  refine XOps.gs rfl rfl rfl rfl rfl rfl rfl (fun hg => Quiet.open 7 hg rfl (Q.gtr rfl rfl)) ?_
  refine XOps.s rfl rfl rfl (Q.pick_or rfl rfl rfl (fun h => by first | (rw [h]; rfl) | (rw [hg, h]; rfl) | (simp [h, hg]; done))) ?_
  refine XOps.nil ?_
  refine W.cond rfl (fun hc9 => ?_) (fun hc9 => ?_)
  · try simp only [Bool.or_eq_true, Bool.or_eq_false_iff, Bool.and_eq_true, Bool.and_eq_false_iff, decide_eq_true_eq, decide_eq_false_iff_not, Bool.not_eq_true', Bool.not_eq_false', Int.not_lt, Int.not_le, List.length_map] at hc9
    exact absurd hc9 (by omega)
  · try simp only [Bool.or_eq_true, Bool.or_eq_false_iff, Bool.and_eq_true, Bool.and_eq_false_iff, decide_eq_true_eq, decide_eq_false_iff_not, Bool.not_eq_true', Bool.not_eq_false', Int.not_lt, Int.not_le, List.length_map] at hc9
    refine W.skip ?_
    refine W.reg ?_
    refine XOps.s rfl rfl rfl (Q.move_d rfl) ?_
    refine XOps.s rfl rfl rfl (Q.buildS pl47 tz47 rfl rfl) ?_
    (refine XOps.loud rfl (L.boxv rfl rfl) ?_; rintro _ _ ⟨b12, rfl, rfl⟩)
    refine XOps.s rfl rfl rfl (Q.assign_ptr rfl) ?_
    refine XOps.s rfl rfl rfl (Q.assign_d rfl) ?_
    refine XOps.nil ?_
    refine W.ghostc 0 2 1 (by decide) rfl rfl (fun w0 => ?_)
    refine W.ghostc 1 3 1 (by decide) rfl rfl (fun w1 => ?_)
    refine W.ghostc 2 4 1 (by decide) rfl rfl (fun w2 => ?_)
    refine W.ghostc 3 5 1 (by decide) rfl rfl (fun w3 => ?_)
    refine W.ghostc 4 6 1 (by decide) rfl rfl (fun w4 => ?_)
    refine W.ghostc 5 7 1 (by decide) rfl rfl (fun w5 => ?_)
    refine W.ghostc 6 8 1 (by decide) rfl rfl (fun w6 => ?_)
    refine W.ghostc 7 9 1 (by decide) rfl rfl (fun w7 => ?_)
    refine W.ret ?_
    refine ⟨_, boxH b12 ⟨size, 0, fun _ => []⟩ (fun i => [w0, w1, w2, w3, w4, w5, w6, w7].getD i 0) hs, rfl, HLe.perm ?_, b12, _, rfl, rfl⟩
    exact (List.reverse_perm [(w7, HO.lst 1 []), (w6, HO.lst 1 []), (w5, HO.lst 1 []), (w4, HO.lst 1 []), (w3, HO.lst 1 []), (w2, HO.lst 1 []), (w1, HO.lst 1 []), (w0, HO.lst 1 []), (b12, HO.cells (boxL ⟨size, 0, fun _ => []⟩ (fun i => [w0, w1, w2, w3, w4, w5, w6, w7].getD i 0)))]).append_right hs

set_option maxHeartbeats 1000000 in
set_option maxRecDepth 100000 in
theorem count_c (b : Nat) (m : MB) (ids : Nat → Nat) (hs : Hp) : AC P 10 [.ptr b 0] (boxH b m ids hs) (fun r h => r = .d (.int .i64 m.many) ∧ h = boxH b m ids hs) := by
  refine AC.of 7 Try.func10 rfl rfl rfl ?_
  refine W.reg ?_
  refine XOps.s rfl rfl rfl (Q.assign_d rfl) ?_
  refine XOps.nil ?_
  refine W.reg ?_
  refine XOps.s rfl rfl rfl (Q.move_ptr rfl) ?_
  refine XOps.s rfl rfl rfl (Q.nil_ptr rfl) ?_
  refine XOps.s rfl rfl rfl (Q.fld_ptr fl47_1 rfl) ?_
  refine XOps.s rfl rfl rfl (Q.ld_ptr (k := 0) ag3 rfl rfl rfl) ?_
  refine XOps.s rfl rfl rfl (Q.assign_d rfl) ?_
  refine XOps.nil ?_
  refine W.ret ?_
  refine ⟨_, boxH b m ids hs, rfl, HLe.refl _, ?_, rfl⟩
  rfl

set_option maxHeartbeats 1000000 in
set_option maxRecDepth 100000 in
theorem put_c (b : Nat) (m : MB) (ids : Nat → Nat) (p v : Int) (hs : Hp) (hm : m.ok 1000) : AC P 8 [.ptr b 0, .d (.int .i64 p), .d (.int .i64 v)] (boxH b m ids hs) (fun r h => ∃ ids2, r = .d (.int .i64 (m.putE p)) ∧ h = boxH b (m.put p v) ids2 hs) := by
  obtain ⟨hm1, hm2, hm3⟩ := hm
  refine AC.of 45 Try.func8 rfl rfl rfl ?_
  refine W.reg ?_
  refine XOps.s rfl rfl rfl (Q.assign_d rfl) ?_
  refine XOps.nil ?_
  refine W.seq ?_
  refine W.block ?_
  refine W.reg ?_
  refine XOps.s rfl rfl rfl (Q.move_d rfl) ?_
  refine XOps.s rfl rfl rfl (Q.lss rfl rfl) ?_
  refine XOps.s rfl rfl rfl (Q.move_d rfl) ?_
  refine XOps.gs rfl rfl rfl rfl rfl rfl rfl (fun hg => Q.move_d rfl) ?_
  refine XOps.gs rfl rfl rfl rfl rfl rfl rfl (fun hg => Quiet.open 11 hg rfl (Q.geq rfl rfl)) ?_
  refine XOps.s rfl rfl rfl (Q.pick_or rfl rfl rfl (fun h => by first | (rw [h]; rfl) | (rw [hg, h]; rfl) | (simp [h, hg]; done))) ?_
  refine XOps.s rfl rfl rfl (Q.assign_d rfl) ?_
  refine XOps.nil ?_
  refine W.cond rfl (fun hc7 => ?_) (fun hc7 => ?_)
  · try simp only [Bool.or_eq_true, Bool.or_eq_false_iff, Bool.and_eq_true, Bool.and_eq_false_iff, decide_eq_true_eq, decide_eq_false_iff_not, Bool.not_eq_true', Bool.not_eq_false', Int.not_lt, Int.not_le, List.length_map] at hc7
    have hE : m.putE p = 4 := by unfold MB.putE; rw [if_pos hc7]
    have hP : m.put p v = m := by unfold MB.put; rw [if_pos (.inl hc7)]
    rw [hE, hP]
    refine W.reg ?_
    refine XOps.s rfl rfl rfl (Q.assign_d rfl) ?_
    refine XOps.nil ?_
    refine W.ret ?_
    exact ⟨_, boxH b m ids hs, rfl, HLe.refl _, ids, rfl, rfl⟩
  · try simp only [Bool.or_eq_true, Bool.or_eq_false_iff, Bool.and_eq_true, Bool.and_eq_false_iff, decide_eq_true_eq, decide_eq_false_iff_not, Bool.not_eq_true', Bool.not_eq_false', Int.not_lt, Int.not_le, List.length_map] at hc7
    refine W.drawreg 10 follows (by kernel_rfl) ?_
    refine Chain.cons _ (GQ.q rfl (Q.move_ptr rfl)) rfl ?_
    refine Chain.cons _ (GQ.q rfl (Q.nil_ptr rfl)) rfl ?_
    refine Chain.cons _ (GQ.q rfl (Q.fld_ptr fl47_1 rfl)) rfl ?_
    refine Chain.cons _ (GQ.q rfl (Q.ld_ptr (k := 0) ag3 rfl rfl rfl)) rfl ?_
    refine Chain.cons _ (GQ.q rfl (Q.move_ptr rfl)) rfl ?_
    refine Chain.cons _ (GQ.q rfl (Q.nil_ptr rfl)) rfl ?_
    refine Chain.cons _ (GQ.q rfl (Q.fld_ptr fl47_0 rfl)) rfl ?_
    refine Chain.cons _ (GQ.q rfl (Q.ld_ptr (k := 0) ag3 rfl rfl rfl)) rfl ?_
    refine Chain.cons _ (GQ.q rfl (Q.eql rfl rfl)) rfl ?_
    refine Chain.cons _ (GQ.q rfl (Q.assign_d rfl)) rfl ?_
    refine Chain.nil ?_
    refine XOps.nil ?_
    refine W.cond rfl (fun hc14 => ?_) (fun hc14 => ?_)
    · try simp only [Bool.or_eq_true, Bool.or_eq_false_iff, Bool.and_eq_true, Bool.and_eq_false_iff, decide_eq_true_eq, decide_eq_false_iff_not, Bool.not_eq_true', Bool.not_eq_false', Int.not_lt, Int.not_le, List.length_map] at hc14
      have hE : m.putE p = 9 := by unfold MB.putE; rw [if_neg (by omega), if_pos hc14]
      have hP : m.put p v = m := by unfold MB.put; rw [if_pos (.inr hc14)]
      rw [hE, hP]
      refine W.reg ?_
      refine XOps.s rfl rfl rfl (Q.assign_d rfl) ?_
      refine XOps.nil ?_
      refine W.ret ?_
      exact ⟨_, boxH b m ids hs, rfl, HLe.refl _, ids, rfl, rfl⟩
    · try simp only [Bool.or_eq_true, Bool.or_eq_false_iff, Bool.and_eq_true, Bool.and_eq_false_iff, decide_eq_true_eq, decide_eq_false_iff_not, Bool.not_eq_true', Bool.not_eq_false', Int.not_lt, Int.not_le, List.length_map] at hc14
      have hE : m.putE p = 0 := by unfold MB.putE; rw [if_neg (by omega), if_neg hc14]
      have hP : m.put p v = ⟨m.sz, m.many + 1, updF m.q p.toNat (m.q p.toNat ++ [v])⟩ := by unfold MB.put; rw [if_neg (by omega)]
      obtain ⟨k, rfl⟩ : ∃ k : Nat, p = k := ⟨p.toNat, by omega⟩
      have hk : k < 8 := by omega
      rw [hE, hP, Int.toNat_natCast]
      have hlk := hm3 k
      refine W.skip ?_
      refine W.drawTreg 15 [10, 14] follows (by kernel_rfl) (by decide) ?_
      apply DT.moreE [.new, .new, .new, .new, .new, .new, .new, .new, .new, .new, .now, .new, .new, .later, .later] (by kernel_rfl)
      refine PC.new _ rfl (GQ.q rfl (Q.move_ptr rfl)) rfl ?_
      refine PC.new _ rfl (GQ.q rfl (Q.move_d rfl)) rfl ?_
      refine PC.new _ rfl (GQ.q rfl (Q.move_ptr rfl)) rfl ?_
      refine PC.new _ rfl (GQ.q rfl (Q.move_d rfl)) rfl ?_
      refine PC.new _ rfl (GQ.q rfl (Q.nil_ptr rfl)) rfl ?_
      refine PC.new _ rfl (GQ.q rfl (Q.fld_ptr fl47_2 rfl)) rfl ?_
      refine PC.new _ rfl (GQ.q rfl (Q.idx_arr ar45 rfl rfl (by first | omega | (simp at hg; omega)) (by first | omega | (simp at hg; omega)))) rfl ?_
      refine PC.new _ rfl (GQ.q rfl (Q.ld_ptr (k := 0) ag22 rfl rfl (by rw [show 0 + 2 + ((k : Nat) : Int).toNat * 1 = k + 2 by omega]; exact boxL_at m ids hk))) rfl ?_
      refine PC.new _ rfl (GQ.q rfl (Q.move_d rfl)) rfl ?_
      refine PC.new _ rfl (GQ.q rfl (Q.bsl1 sl22 zr22 rfl zrd22 rfl rfl)) rfl ?_
      refine PC.now rfl rfl (fun τ => Loud.to (L.app (k := k + 1) ap22 rfl (boxH_at b m ids hs hk) (by simp) rfl (by simp; omega) rfl) (fun _ _ ⟨v, h1, h2⟩ => ⟨_, h1, v, rfl, h2⟩)) ?_
      refine PC.new _ rfl (GQ.q rfl (Q.nil_ptr rfl)) rfl ?_
      refine PC.new _ rfl (GQ.q rfl (Q.fld_ptr fl47_2 rfl)) rfl ?_
      refine PC.later rfl ?_
      refine PC.later rfl ?_
      refine PC.nil ?_
      rintro _ _ ⟨v34, rfl, rfl⟩
      apply DT.moreS [.old, .old, .did, .did, .did, .did, .did, .did, .did, .did, .did, .old, .old, .new, .now] (by kernel_rfl)
      refine PC.old rfl (GQ.q rfl (Q.move_ptr rfl)) rfl ?_
      refine PC.old rfl (GQ.q rfl (Q.move_d rfl)) rfl ?_
      refine PC.did rfl ?_
      refine PC.did rfl ?_
      refine PC.did rfl ?_
      refine PC.did rfl ?_
      refine PC.did rfl ?_
      refine PC.did rfl ?_
      refine PC.did rfl ?_
      refine PC.did rfl ?_
      refine PC.did rfl ?_
      refine PC.old rfl (GQ.q rfl (Q.nil_ptr rfl)) rfl ?_
      refine PC.old rfl (GQ.q rfl (Q.fld_ptr fl47_2 rfl)) rfl ?_
      refine PC.new _ rfl (GQ.q rfl (Q.idx_arr ar45 rfl rfl (by first | omega | (simp at hg; omega)) (by first | omega | (simp at hg; omega)))) rfl ?_
      refine PC.now rfl rfl (fun τ => Loud.to (L.store (k := 1) ag22 ((oev_app rfl).trans rfl) rfl (by simp [boxL, Nat.blt_eq]; omega) ((oev_app rfl).trans rfl) rfl) (fun _ _ h => ⟨.any, h.1, h.2⟩)) ?_
      refine PC.nil ?_
      rintro _ _ rfl
      refine DT.last [.did, .did, .did, .did, .did, .did, .did, .did, .did, .did, .did, .did, .did, .did, .did] (by kernel_rfl) ?_
      refine PC.did rfl ?_
      refine PC.did rfl ?_
      refine PC.did rfl ?_
      refine PC.did rfl ?_
      refine PC.did rfl ?_
      refine PC.did rfl ?_
      refine PC.did rfl ?_
      refine PC.did rfl ?_
      refine PC.did rfl ?_
      refine PC.did rfl ?_
      refine PC.did rfl ?_
      refine PC.did rfl ?_
      refine PC.did rfl ?_
      refine PC.did rfl ?_
      refine PC.did rfl ?_
      refine PC.nil ?_
      refine XOps.nil ?_
      refine W.heap (boxH b ⟨m.sz, m.many, updF m.q k (m.q k ++ [v])⟩ (updF ids k v34) hs) ?_ ?_
      · refine HLe.trans (box_le b m ids hs hk v34 (m.q k ++ [v]) m.many) ?_
        refine HLe.cons' (by simp [nE]) (HLe.cons' ?_ (HLe.refl _))
        rw [← boxL_set m ids hk v34 _ ((m.q k).length + 1) (by simp), show k + 2 = 0 + 2 + ((k : Nat) : Int).toNat * 1 by omega]
        show HO.cells _ = HO.cells ((boxL m ids).set _ (.vs v34 0 _ 1))
        congr 3
        simp
      refine W.reg ?_
      refine XOps.s rfl rfl rfl (Q.move_ptr rfl) ?_
      refine XOps.s rfl rfl rfl (Q.nil_ptr rfl) ?_
      refine XOps.s rfl rfl rfl (Q.fld_ptr fl47_1 rfl) ?_
      refine XOps.s rfl rfl rfl (Q.ld_ptr (k := 0) ag3 rfl rfl rfl) ?_
      refine XOps.s rfl rfl rfl (Q.add rfl rfl (wi64 (by first | omega | (dsimp only; omega) | (simp only [List.length_map]; omega)) (by first | omega | (dsimp only; omega) | (simp only [List.length_map]; omega)))) ?_
      refine XOps.s rfl rfl rfl (Q.nil_ptr rfl) ?_
      refine XOps.s rfl rfl rfl (Q.fld_ptr fl47_1 rfl) ?_
      refine XOps.loud rfl (L.store (k := 0) ag3 rfl rfl rfl rfl rfl) ?_
      rintro _ _ ⟨rfl, rfl⟩
      refine XOps.nil ?_
      refine W.reg ?_
      refine XOps.s rfl rfl rfl (Q.assign_d rfl) ?_
      refine XOps.nil ?_
      refine W.ret ?_
      exact ⟨_, boxH b ⟨m.sz, m.many + 1, updF m.q k (m.q k ++ [v])⟩ (updF ids k v34) hs, rfl, HLe.refl _, updF ids k v34, rfl, rfl⟩

set_option maxHeartbeats 1000000 in
set_option maxRecDepth 100000 in
theorem get_c (b : Nat) (m : MB) (ids : Nat → Nat) (hs : Hp) (hm : m.ok 1000) : AC P 11 [.ptr b 0] (boxH b m ids hs) (fun r h => ∃ ids2, r = .tup [.d (.int .i64 m.getV), .d (.int .i64 m.getP), .d (.int .i64 m.getE)] ∧ h = boxH b m.get ids2 hs) := by
  obtain ⟨hm1, hm2, hm3⟩ := hm
  refine AC.of 50 Try.func11 rfl rfl rfl ?_
  refine W.reg ?_
  refine XOps.s rfl rfl rfl (Q.assign_d rfl) ?_
  refine XOps.s rfl rfl rfl (Q.assign_d rfl) ?_
  refine XOps.s rfl rfl rfl (Q.assign_d rfl) ?_
  refine XOps.nil ?_
  refine W.reg ?_
  refine XOps.s rfl rfl rfl (Q.assign_d rfl) ?_
  refine XOps.nil ?_
  refine W.seq ?_
  refine W.reg ?_
  refine XOps.s rfl rfl rfl (Q.assign_d rfl) ?_
  refine XOps.nil ?_
  refine W.block ?_
  refine W.loop (ι := Nat) (fun k => [(0, .ptr b 0), (5, .d (.int .i64 0)), (6, .d (.int .i64 ((k : Int) - 1)))]) (fun k => boxH b m ids hs) (fun k => k ≤ 8 ∧ ∀ i, k ≤ i → i < 8 → (m.q i).length = 0) (fun k => k) 8 ?_ ?_ ?_ ?_
  · exact ⟨Nat.le_refl _, fun i h1 h2 => by omega⟩
  · exact ⟨by first | rfl | exact int_eq (by omega) | exact len_eq (by simp) | exact int_eq (by simp; done), by first | rfl | exact int_eq (by omega) | exact len_eq (by simp) | exact int_eq (by simp; done), by first | rfl | exact int_eq (by omega) | exact len_eq (by simp) | exact int_eq (by simp; done), trivial⟩
  · repeat (first | exact HLe.refl _ | refine HLe.cons' (by first | rfl | (simp; done)) ?_ | refine HLe.pick 1 rfl (by first | rfl | (simp; done)) ?_ | refine HLe.pick 2 rfl (by first | rfl | (simp; done)) ?_ | refine HLe.pick 3 rfl (by first | rfl | (simp; done)) ?_ | refine HLe.pick 4 rfl (by first | rfl | (simp; done)) ?_ | refine HLe.pick 5 rfl (by first | rfl | (simp; done)) ?_ | refine HLe.skip _ ?_)
  · rintro k ⟨hk, hI⟩
    try dsimp only
    refine W.seq ?_
    refine W.reg ?_
    refine XOps.s rfl rfl rfl (Q.move_d rfl) ?_
    refine XOps.s rfl rfl rfl (Q.geq rfl rfl) ?_
    refine XOps.nil ?_
    refine W.cond rfl (fun hc9 => ?_) (fun hc9 => ?_)
    · try simp only [Bool.or_eq_true, Bool.or_eq_false_iff, Bool.and_eq_true, Bool.and_eq_false_iff, decide_eq_true_eq, decide_eq_false_iff_not, Bool.not_eq_true', Bool.not_eq_false', Int.not_lt, Int.not_le, List.length_map] at hc9
      obtain ⟨p, rfl⟩ : ∃ p, k = p + 1 := ⟨k - 1, by omega⟩
      have hp : p < 8 := by omega
      rw [show ((p + 1 : Nat) : Int) - 1 = (p : Int) by omega]
      have hlp := hm3 p
      refine W.skip ?_
      refine W.seq ?_
      refine W.block ?_
      refine W.reg ?_
      refine XOps.s rfl rfl rfl (Q.move_ptr rfl) ?_
      refine XOps.s rfl rfl rfl (Q.move_d rfl) ?_
      refine XOps.s rfl rfl rfl (Q.nil_ptr rfl) ?_
      refine XOps.s rfl rfl rfl (Q.fld_ptr fl47_2 rfl) ?_
      refine XOps.s rfl rfl rfl (Q.idx_arr ar45 rfl rfl (by first | omega | (simp at hg; omega)) (by first | omega | (simp at hg; omega))) ?_
      refine XOps.s rfl rfl rfl (Q.ld_ptr (k := 0) ag22 rfl rfl (by rw [show 0 + 2 + ((p : Nat) : Int).toNat * 1 = p + 2 by omega]; exact boxL_at m ids hp)) ?_
      refine XOps.s rfl rfl rfl (Q.len_vs isl22 rfl) ?_
      refine XOps.s rfl rfl rfl (Q.gtr rfl rfl) ?_
      refine XOps.nil ?_
      refine W.cond rfl (fun hc19 => ?_) (fun hc19 => ?_)
      · try simp only [Bool.or_eq_true, Bool.or_eq_false_iff, Bool.and_eq_true, Bool.and_eq_false_iff, decide_eq_true_eq, decide_eq_false_iff_not, Bool.not_eq_true', Bool.not_eq_false', Int.not_lt, Int.not_le, List.length_map] at hc19
        have ht : topF m.q 8 = some p := topF_eq (by omega) (by omega) fun i h1 h2 => hI i (by omega) h2
        obtain ⟨x, hx⟩ : ∃ x, (m.q p)[0]? = some x := ⟨_, List.getElem?_eq_getElem (by omega)⟩
        have hV : m.getV = x := by unfold MB.getV; rw [ht]; simp [List.getD_eq_getElem?_getD, hx]
        have hP : m.getP = (p : Int) := by unfold MB.getP; rw [ht]
        have hE : m.getE = 0 := by unfold MB.getE; rw [ht]
        have hG : m.get = ⟨m.sz, m.many - 1, updF m.q p ((m.q p).drop 1)⟩ := by unfold MB.get; rw [ht]
        rw [hV, hP, hE, hG]
        refine W.reg ?_
        refine XOps.s rfl rfl rfl (Q.move_ptr rfl) ?_
        refine XOps.s rfl rfl rfl (Q.move_d rfl) ?_
        refine XOps.s rfl rfl rfl (Q.nil_ptr rfl) ?_
        refine XOps.s rfl rfl rfl (Q.fld_ptr fl47_2 rfl) ?_
        refine XOps.s rfl rfl rfl (Q.idx_arr ar45 rfl rfl (by first | omega | (simp at hg; omega)) (by first | omega | (simp at hg; omega))) ?_
        refine XOps.s rfl rfl rfl (Q.ld_ptr (k := 0) ag22 rfl rfl (by rw [show 0 + 2 + ((p : Nat) : Int).toNat * 1 = p + 2 by omega]; exact boxL_at m ids hp)) ?_
        refine XOps.s rfl rfl rfl (Q.idx_vs (kk := p + 1) sl22 rfl (boxH_at b m ids hs hp) rfl (by omega) (by omega)) ?_
        refine XOps.s rfl rfl rfl (Q.ld_ep (k := p + 1) ag3 rfl (boxH_at b m ids hs hp) (show ((m.q p).map nE)[0 + 0]? = some (nE x) by simp [hx]) rfl) ?_
        refine XOps.s rfl rfl rfl (Q.assign_d rfl) ?_
        refine XOps.nil ?_
        refine W.drawTreg 13 [8, 12] follows (by kernel_rfl) (by decide) ?_
        apply DT.moreC [.new, .new, .new, .new, .new, .new, .new, .new, .now, .new, .new, .later, .later] (by kernel_rfl)
        refine PC.new _ rfl (GQ.q rfl (Q.move_ptr rfl)) rfl ?_
        refine PC.new _ rfl (GQ.q rfl (Q.move_d rfl)) rfl ?_
        refine PC.new _ rfl (GQ.q rfl (Q.move_ptr rfl)) rfl ?_
        refine PC.new _ rfl (GQ.q rfl (Q.move_d rfl)) rfl ?_
        refine PC.new _ rfl (GQ.q rfl (Q.nil_ptr rfl)) rfl ?_
        refine PC.new _ rfl (GQ.q rfl (Q.fld_ptr fl47_2 rfl)) rfl ?_
        refine PC.new _ rfl (GQ.q rfl (Q.idx_arr ar45 rfl rfl (by first | omega | (simp at hg; omega)) (by first | omega | (simp at hg; omega)))) rfl ?_
        refine PC.new _ rfl (GQ.q rfl (Q.ld_ptr (k := 0) ag22 rfl rfl (by rw [show 0 + 2 + ((p : Nat) : Int).toNat * 1 = p + 2 by omega]; exact boxL_at m ids hp))) rfl ?_
        refine PC.now rfl rfl (fun τ => Loud.to (L.call rfl Try.func15 go15 rfl (AC.le (delN0_c (m.q p) (ids p) _ (by omega) (by omega)) (box_front b m ids hs hp)) rfl) (fun _ _ ⟨r, h1, h2⟩ => ⟨r, h1, _, h2, rfl⟩)) ?_
        refine PC.new _ rfl (GQ.q rfl (Q.nil_ptr rfl)) rfl ?_
        refine PC.new _ rfl (GQ.q rfl (Q.fld_ptr fl47_2 rfl)) rfl ?_
        refine PC.later rfl ?_
        refine PC.later rfl ?_
        refine PC.nil ?_
        rintro _ _ ⟨_, ⟨rfl, rfl⟩, rfl⟩
        apply DT.moreS [.old, .old, .did, .did, .did, .did, .did, .did, .did, .old, .old, .new, .now] (by kernel_rfl)
        refine PC.old rfl (GQ.q rfl (Q.move_ptr rfl)) rfl ?_
        refine PC.old rfl (GQ.q rfl (Q.move_d rfl)) rfl ?_
        refine PC.did rfl ?_
        refine PC.did rfl ?_
        refine PC.did rfl ?_
        refine PC.did rfl ?_
        refine PC.did rfl ?_
        refine PC.did rfl ?_
        refine PC.did rfl ?_
        refine PC.old rfl (GQ.q rfl (Q.nil_ptr rfl)) rfl ?_
        refine PC.old rfl (GQ.q rfl (Q.fld_ptr fl47_2 rfl)) rfl ?_
        refine PC.new _ rfl (GQ.q rfl (Q.idx_arr ar45 rfl rfl (by first | omega | (simp at hg; omega)) (by first | omega | (simp at hg; omega)))) rfl ?_
        refine PC.now rfl rfl (fun τ => Loud.to (L.store (k := 1) ag22 ((oev_app rfl).trans rfl) rfl (by simp [boxL, Nat.blt_eq]; omega) ((oev_app rfl).trans rfl) rfl) (fun _ _ h => ⟨.any, h.1, h.2⟩)) ?_
        refine PC.nil ?_
        rintro _ _ rfl
        refine DT.last [.did, .did, .did, .did, .did, .did, .did, .did, .did, .did, .did, .did, .did] (by kernel_rfl) ?_
        refine PC.did rfl ?_
        refine PC.did rfl ?_
        refine PC.did rfl ?_
        refine PC.did rfl ?_
        refine PC.did rfl ?_
        refine PC.did rfl ?_
        refine PC.did rfl ?_
        refine PC.did rfl ?_
        refine PC.did rfl ?_
        refine PC.did rfl ?_
        refine PC.did rfl ?_
        refine PC.did rfl ?_
        refine PC.did rfl ?_
        refine PC.nil ?_
        refine XOps.nil ?_
        refine W.heap (boxH b ⟨m.sz, m.many, updF m.q p ((m.q p).drop 1)⟩ (updF ids p (ids p)) hs) ?_ ?_
        · refine HLe.trans (box_le b m ids hs hp (ids p) ((m.q p).drop 1) m.many) ?_
          refine HLe.cons' rfl (HLe.cons' ?_ (HLe.refl _))
          rw [← boxL_set m ids hp (ids p) _ ((m.q p).drop 1).length rfl, show p + 2 = 0 + 2 + ((p : Nat) : Int).toNat * 1 by omega]
          rfl
        refine W.reg ?_
        refine XOps.s rfl rfl rfl (Q.move_ptr rfl) ?_
        refine XOps.s rfl rfl rfl (Q.nil_ptr rfl) ?_
        refine XOps.s rfl rfl rfl (Q.fld_ptr fl47_1 rfl) ?_
        refine XOps.s rfl rfl rfl (Q.ld_ptr (k := 0) ag3 rfl rfl rfl) ?_
        refine XOps.s rfl rfl rfl (Q.sub rfl rfl (wi64 (by first | omega | (dsimp only; omega) | (simp only [List.length_map]; omega)) (by first | omega | (dsimp only; omega) | (simp only [List.length_map]; omega)))) ?_
        refine XOps.s rfl rfl rfl (Q.nil_ptr rfl) ?_
        refine XOps.s rfl rfl rfl (Q.fld_ptr fl47_1 rfl) ?_
        refine XOps.loud rfl (L.store (k := 0) ag3 rfl rfl rfl rfl rfl) ?_
        rintro _ _ ⟨rfl, rfl⟩
        refine XOps.nil ?_
        refine W.reg ?_
        refine XOps.s rfl rfl rfl (Q.move_d rfl) ?_
        refine XOps.s rfl rfl rfl (Q.move_d rfl) ?_
        refine XOps.s rfl rfl rfl (Q.assign_d rfl) ?_
        refine XOps.s rfl rfl rfl (Q.assign_d rfl) ?_
        refine XOps.s rfl rfl rfl (Q.assign_d rfl) ?_
        refine XOps.nil ?_
        refine W.ret ?_
        exact ⟨_, boxH b ⟨m.sz, m.many - 1, updF m.q p ((m.q p).drop 1)⟩ (updF ids p (ids p)) hs, rfl, HLe.refl _, updF ids p (ids p), rfl, rfl⟩
      · try simp only [Bool.or_eq_true, Bool.or_eq_false_iff, Bool.and_eq_true, Bool.and_eq_false_iff, decide_eq_true_eq, decide_eq_false_iff_not, Bool.not_eq_true', Bool.not_eq_false', Int.not_lt, Int.not_le, List.length_map] at hc19
        refine W.skip ?_
        refine W.region ?_
        refine XOps.s rfl rfl rfl (Q.move_d rfl) ?_
        refine XOps.s rfl rfl rfl (Q.sub rfl rfl (wi64 (by first | omega | (dsimp only; omega) | (simp only [List.length_map]; omega)) (by first | omega | (dsimp only; omega) | (simp only [List.length_map]; omega)))) ?_
        refine XOps.s rfl rfl rfl (Q.assign_d rfl) ?_
        refine XOps.nil ?_
        refine ⟨p, ?_, ?_, ?_, ?_⟩
        · exact ⟨by omega, fun i h1 h2 => if he : i = p then he ▸ (by omega) else hI i (by omega) h2⟩
        · omega
        · exact ⟨by first | rfl | exact int_eq (by omega) | exact len_eq (by simp) | exact int_eq (by simp; done), by first | rfl | exact int_eq (by omega) | exact len_eq (by simp) | exact int_eq (by simp; done), by first | rfl | exact int_eq (by omega) | exact len_eq (by simp) | exact int_eq (by simp; done), trivial⟩
        · repeat (first | exact HLe.refl _ | refine HLe.cons' (by first | rfl | (simp; done)) ?_ | refine HLe.pick 1 rfl (by first | rfl | (simp; done)) ?_ | refine HLe.pick 2 rfl (by first | rfl | (simp; done)) ?_ | refine HLe.pick 3 rfl (by first | rfl | (simp; done)) ?_ | refine HLe.pick 4 rfl (by first | rfl | (simp; done)) ?_ | refine HLe.pick 5 rfl (by first | rfl | (simp; done)) ?_ | refine HLe.skip _ ?_)
    · try simp only [Bool.or_eq_true, Bool.or_eq_false_iff, Bool.and_eq_true, Bool.and_eq_false_iff, decide_eq_true_eq, decide_eq_false_iff_not, Bool.not_eq_true', Bool.not_eq_false', Int.not_lt, Int.not_le, List.length_map] at hc9
      obtain rfl : k = 0 := by omega
      have ht : topF m.q 8 = none := topF_none fun i hi => hI i (Nat.zero_le _) hi
      have hV : m.getV = 0 := by unfold MB.getV; rw [ht]
      have hP : m.getP = 0 := by unfold MB.getP; rw [ht]
      have hE : m.getE = 8 := by unfold MB.getE; rw [ht]
      have hG : m.get = m := by unfold MB.get; rw [ht]
      rw [hV, hP, hE, hG]
      refine W.exit ?_
      refine W.reg ?_
      refine XOps.s rfl rfl rfl (Q.move_d rfl) ?_
      refine XOps.s rfl rfl rfl (Q.assign_d rfl) ?_
      refine XOps.s rfl rfl rfl (Q.assign_d rfl) ?_
      refine XOps.s rfl rfl rfl (Q.assign_d rfl) ?_
      refine XOps.nil ?_
      refine W.ret ?_
      exact ⟨_, boxH b m ids hs, rfl, HLe.refl _, ids, rfl, rfl⟩

set_option maxHeartbeats 1000000 in
set_option maxRecDepth 100000 in
theorem boxOf_c (size : Int) (l : List Int) (hs : Hp) (hL : l.length ≤ 140737488351232) : AC P 12 [.d (.int .i64 size), .d (slN l)] hs (fun r h => ∃ b ids, r = .ptr b 0 ∧ h = boxH b (boxK (cutI size 1 12) l 0 7 (min l.length 12)) ids hs) := by
  have hsz : 1 ≤ cutI size 1 12 ∧ cutI size 1 12 ≤ 64 := by have := cutI_bounds size (show (1 : Int) ≤ 12 by decide); omega
  refine AC.of 39 Try.func12 rfl rfl rfl ?_
  refine W.reg ?_
  refine XOps.s rfl rfl rfl (Q.assign_d rfl) ?_
  refine XOps.nil ?_
  refine W.reg ?_
  refine XOps.s rfl rfl rfl (Q.move_d rfl) ?_
  refine XOps.s rfl rfl rfl (Q.call rfl Try.func9 go9 rfl (cut_c size 1 12 _ (by decide) (by decide) (by decide))) ?_
  (refine XOps.loud rfl (L.call rfl Try.func6 go6 rfl (new_c (cutI size 1 12) hs hsz.1 hsz.2) rfl) ?_; rintro _ _ ⟨_, rfl, b, ids0, rfl, rfl⟩)
  refine XOps.s rfl rfl rfl (Q.move_tup rfl) ?_
  refine XOps.s rfl rfl rfl (Q.extract rfl rfl) ?_
  refine XOps.s rfl rfl rfl (Q.extract rfl rfl) ?_
  refine XOps.s rfl rfl rfl (Q.assign_ptr rfl) ?_
  refine XOps.s rfl rfl rfl (Q.assign_d rfl) ?_
  refine XOps.nil ?_
  refine W.seq ?_
  refine W.reg ?_
  refine XOps.s rfl rfl rfl (Q.move_d rfl) ?_
  refine XOps.s rfl rfl rfl (Q.neq rfl rfl) ?_
  refine XOps.s rfl rfl rfl (Q.move_d rfl) ?_
  refine XOps.gs rfl rfl rfl rfl rfl rfl rfl (fun hg => Q.move_ptr rfl) ?_
  refine XOps.gs rfl rfl rfl rfl rfl rfl rfl (fun hg => Quiet.open 18 hg rfl (Q.eql_ptr ipt23 rfl rfl)) ?_
  refine XOps.s rfl rfl rfl (Q.pick_or rfl rfl rfl (fun h => by first | (rw [h]; rfl) | (rw [hg, h]; rfl) | (simp [h, hg]; done))) ?_
  refine XOps.nil ?_
  refine W.cond rfl (fun hc20 => ?_) (fun hc20 => ?_)
  · try simp only [Bool.or_eq_true, Bool.or_eq_false_iff, Bool.and_eq_true, Bool.and_eq_false_iff, decide_eq_true_eq, decide_eq_false_iff_not, Bool.not_eq_true', Bool.not_eq_false', Int.not_lt, Int.not_le, List.length_map] at hc20
    exact absurd hc20 (by simp)
  · try simp only [Bool.or_eq_true, Bool.or_eq_false_iff, Bool.and_eq_true, Bool.and_eq_false_iff, decide_eq_true_eq, decide_eq_false_iff_not, Bool.not_eq_true', Bool.not_eq_false', Int.not_lt, Int.not_le, List.length_map] at hc20
    refine W.skip ?_
    refine W.seq ?_
    refine W.reg ?_
    refine XOps.s rfl rfl rfl (Q.move_d rfl) ?_
    refine XOps.s rfl rfl rfl (Q.move_d rfl) ?_
    refine XOps.s rfl rfl rfl (Q.len_sl isl22 rfl) ?_
    refine XOps.s rfl rfl rfl (Q.mini rfl rfl) ?_
    refine XOps.s rfl rfl rfl (Q.cut_slm sl22 rfl rfl rfl (by omega) (by omega) (by simp; omega)) ?_
    refine XOps.s rfl rfl rfl (Q.len_sl isl22 rfl) ?_
    refine XOps.s rfl rfl rfl (Q.move_d rfl) ?_
    refine XOps.nil ?_
    refine W.block ?_
    refine W.loop (ι := Nat × (Nat → Nat)) (fun p => [(5, .ptr b 0), (25, .d (.sl 1 ((l.take (min l.length 12)).map nE))), (26, .d (.int .i64 (min l.length 12 : Nat))), (27, .d (.int .i64 p.1))]) (fun p => boxH b (boxK (cutI size 1 12) l 0 7 p.1) p.2 hs) (fun p => p.1 ≤ min l.length 12) (fun p => min l.length 12 - p.1) (0, ids0) ?_ ?_ ?_ ?_
    · exact Nat.zero_le _
    · exact ⟨by first | rfl | exact int_eq (by omega) | exact len_eq (by simp) | exact int_eq (by simp; done), by exact congrArg (fun z => AV.d (.sl 1 z)) (take_min 12), by exact len_eq (by simp; omega), by first | rfl | exact int_eq (by omega) | exact len_eq (by simp) | exact int_eq (by simp; done), trivial⟩
    · exact HLe.refl _
    · rintro ⟨k, ids⟩ hk
      try dsimp only at hk ⊢
      refine W.reg ?_
      refine XOps.s rfl rfl rfl (Q.lss rfl rfl) ?_
      refine XOps.nil ?_
      refine W.seq ?_
      refine W.cond rfl (fun hc28 => ?_) (fun hc28 => ?_)
      · try simp only [Bool.or_eq_true, Bool.or_eq_false_iff, Bool.and_eq_true, Bool.and_eq_false_iff, decide_eq_true_eq, decide_eq_false_iff_not, Bool.not_eq_true', Bool.not_eq_false', Int.not_lt, Int.not_le, List.length_map] at hc28
        obtain ⟨x, hx⟩ : ∃ x, (l.take (min l.length 12))[k]? = some x := ⟨_, List.getElem?_eq_getElem (by simp; omega)⟩
        have hgd : l.getD k 0 = x := by rw [List.getElem?_take] at hx; split at hx <;> first | (cases hx; done) | simp [List.getD_eq_getElem?_getD, hx]
        have hok := boxK_ok (show 1 ≤ cutI size 1 12 ∧ cutI size 1 12 ≤ 64 from hsz) l 0 7 k
        refine W.skip ?_
        refine W.seq ?_
        refine W.block ?_
        refine W.reg ?_
        refine XOps.s rfl rfl rfl (Q.move_d rfl) ?_
        refine XOps.s rfl rfl rfl (Q.idx_sl sl22 (by decide) rfl rfl (by first | omega | (simp only [List.length_map]; omega)) (by first | exact map_at (by assumption) | exact map_at0 (by assumption) | assumption)) ?_
        refine XOps.s rfl rfl rfl (Q.ld_dp ag3 rfl rfl) ?_
        refine XOps.s rfl rfl rfl (Q.assign_d rfl) ?_
        refine XOps.s rfl rfl rfl (Q.assign_d rfl) ?_
        refine XOps.nil ?_
        refine W.region ?_
        refine XOps.s rfl rfl rfl (Q.move_ptr rfl) ?_
        refine XOps.s rfl rfl rfl (Q.move_d rfl) ?_
        refine XOps.s rfl rfl rfl (Q.call rfl Try.func9 go9 rfl (cut_c x 0 7 _ (by decide) (by decide) (by decide))) ?_
        refine XOps.s rfl rfl rfl (Q.move_d rfl) ?_
        (refine XOps.loud rfl (L.call rfl Try.func8 go8 rfl (put_c b (boxK (cutI size 1 12) l 0 7 k) ids (cutI x 0 7) k hs (hok.mono (by omega))) rfl) ?_; rintro _ _ ⟨_, rfl, ids2, rfl, rfl⟩)
        refine XOps.nil ?_
        refine W.region ?_
        refine XOps.s rfl rfl rfl (Q.add rfl rfl (wi64 (by first | omega | (dsimp only; omega) | (simp only [List.length_map]; omega)) (by first | omega | (dsimp only; omega) | (simp only [List.length_map]; omega)))) ?_
        refine XOps.s rfl rfl rfl (Q.move_d rfl) ?_
        refine XOps.nil ?_
        refine ⟨(k + 1, ids2), ?_, ?_, ?_, ?_⟩
        · show k + 1 ≤ min l.length 12; omega
        · show min l.length 12 - (k + 1) < min l.length 12 - k; omega
        · exact ⟨by first | rfl | exact int_eq (by omega) | exact len_eq (by simp) | exact int_eq (by simp; done), by first | rfl | exact int_eq (by omega) | exact len_eq (by simp) | exact int_eq (by simp; done), by first | rfl | exact int_eq (by omega) | exact len_eq (by simp) | exact int_eq (by simp; done), by first | rfl | exact int_eq (by omega) | exact len_eq (by simp) | exact int_eq (by simp; done), trivial⟩
        · (show HLe (boxH b ((boxK (cutI size 1 12) l 0 7 k).put (cutI (l.getD k 0) 0 7) k) ids2 hs) _; rw [hgd]; exact HLe.refl _)
      · try simp only [Bool.or_eq_true, Bool.or_eq_false_iff, Bool.and_eq_true, Bool.and_eq_false_iff, decide_eq_true_eq, decide_eq_false_iff_not, Bool.not_eq_true', Bool.not_eq_false', Int.not_lt, Int.not_le, List.length_map] at hc28
        refine W.exit ?_
        refine W.reg ?_
        refine XOps.s rfl rfl rfl (Q.move_ptr rfl) ?_
        refine XOps.s rfl rfl rfl (Q.assign_ptr rfl) ?_
        refine XOps.nil ?_
        refine W.ret ?_
        obtain rfl : k = min l.length 12 := by omega
        exact ⟨_, boxH b (boxK (cutI size 1 12) l 0 7 (min l.length 12)) ids hs, rfl, HLe.refl _, b, ids, rfl, rfl⟩

theorem fact_v : (boxK (cutI 2 1 12) [1, 2] 0 7 (min [(1 : Int), 2].length 12)).getV = 1 ∧ (boxK (cutI 2 1 12) [1, 2] 0 7 (min [(1 : Int), 2].length 12)).getP = 2 ∧ (boxK (cutI 2 1 12) [1, 2] 0 7 (min [(1 : Int), 2].length 12)).getE = 0 ∧ (boxK (cutI 2 1 12) [1, 2] 0 7 (min [(1 : Int), 2].length 12)).get.many = 1 := by decide +kernel

set_option maxHeartbeats 1000000 in
set_option maxRecDepth 100000 in
theorem fact_c (hs : Hp) : AC P 7 [] hs (fun r h => r = .d (.bool true) ∧ h = hs) := by
  refine AC.of 30 Try.func7 rfl rfl rfl ?_
  refine W.reg ?_
  refine XOps.s rfl rfl rfl (Q.assign_d rfl) ?_
  refine XOps.nil ?_
  refine W.reg ?_
  refine XOps.s rfl rfl rfl (Q.bsl sl22 (by decide) zr22 rfl zrd22 (by decide) rfl rfl) ?_
  (refine XOps.loud rfl (L.call rfl Try.func12 go12 rfl (boxOf_c 2 [1, 2] hs (by decide)) rfl) ?_; rintro _ _ ⟨_, rfl, b, ids0, rfl, rfl⟩)
  refine XOps.s rfl rfl rfl (Q.assign_ptr rfl) ?_
  refine XOps.nil ?_
  refine W.seq ?_
  refine W.reg ?_
  refine XOps.s rfl rfl rfl (Q.move_ptr rfl) ?_
  refine XOps.s rfl rfl rfl (Q.eql_ptr ipt23 rfl rfl) ?_
  refine XOps.nil ?_
  refine W.cond rfl (fun hc8 => ?_) (fun hc8 => ?_)
  · try simp only [Bool.or_eq_true, Bool.or_eq_false_iff, Bool.and_eq_true, Bool.and_eq_false_iff, decide_eq_true_eq, decide_eq_false_iff_not, Bool.not_eq_true', Bool.not_eq_false', Int.not_lt, Int.not_le, List.length_map] at hc8
    exact absurd hc8 (by simp)
  · try simp only [Bool.or_eq_true, Bool.or_eq_false_iff, Bool.and_eq_true, Bool.and_eq_false_iff, decide_eq_true_eq, decide_eq_false_iff_not, Bool.not_eq_true', Bool.not_eq_false', Int.not_lt, Int.not_le, List.length_map] at hc8
    refine W.skip ?_
    refine W.reg ?_
    refine XOps.s rfl rfl rfl (Q.move_ptr rfl) ?_
    (refine XOps.loud rfl (L.call rfl Try.func11 go11 rfl (get_c b (boxK (cutI 2 1 12) [1, 2] 0 7 (min [(1 : Int), 2].length 12)) ids0 hs ((boxK_ok (by decide) _ _ _ _).mono (by decide))) rfl) ?_; rintro _ _ ⟨_, rfl, ids1, rfl, rfl⟩)
    refine XOps.s rfl rfl rfl (Q.move_tup rfl) ?_
    refine XOps.s rfl rfl rfl (Q.extract rfl rfl) ?_
    refine XOps.s rfl rfl rfl (Q.extract rfl rfl) ?_
    refine XOps.s rfl rfl rfl (Q.extract rfl rfl) ?_
    refine XOps.s rfl rfl rfl (Q.assign_d rfl) ?_
    refine XOps.s rfl rfl rfl (Q.assign_d rfl) ?_
    refine XOps.s rfl rfl rfl (Q.assign_d rfl) ?_
    refine XOps.nil ?_
    refine W.reg ?_
    refine XOps.s rfl rfl rfl (Q.move_d rfl) ?_
    refine XOps.s rfl rfl rfl (Q.eql rfl rfl) ?_
    refine XOps.s rfl rfl rfl (Q.move_d rfl) ?_
    refine XOps.gs rfl rfl rfl rfl rfl rfl rfl (fun hg => Q.move_d rfl) ?_
    refine XOps.gs rfl rfl rfl rfl rfl rfl rfl (fun hg => Quiet.open 18 hg rfl (Q.eql rfl rfl)) ?_
    refine XOps.s rfl rfl rfl (Q.pick_and rfl rfl rfl (fun h => by first | (rw [h]; rfl) | (rw [hg, h]; rfl) | (simp [h, hg]; done))) ?_
    refine XOps.s rfl rfl rfl (Q.move_d rfl) ?_
    refine XOps.gs rfl rfl rfl rfl rfl rfl rfl (fun hg => Q.move_d rfl) ?_
    refine XOps.gs rfl rfl rfl rfl rfl rfl rfl (fun hg => Quiet.open 22 hg rfl (Q.eql rfl rfl)) ?_
    refine XOps.s rfl rfl rfl (Q.pick_and rfl rfl rfl (fun h => by first | (rw [h]; rfl) | (rw [hg, h]; rfl) | (simp [h, hg]; done))) ?_
    refine XOps.s rfl rfl rfl (Q.move_d rfl) ?_
    refine XOps.gs rfl rfl rfl rfl rfl rfl rfl (fun hg => Q.move_ptr rfl) ?_
    refine XOps.gs rfl rfl rfl rfl rfl rfl rfl (fun hg => Quiet.open 26 hg rfl (Q.call rfl Try.func10 go10 rfl (count_c b (boxK (cutI 2 1 12) [1, 2] 0 7 (min [(1 : Int), 2].length 12)).get ids1 hs))) ?_
    refine XOps.gs rfl rfl rfl rfl rfl rfl rfl (fun hg => Quiet.open 27 hg rfl (Q.eql rfl rfl)) ?_
    refine XOps.s rfl rfl rfl (Q.pick_and rfl rfl rfl (fun h => by first | (rw [h]; rfl) | (rw [hg, h]; rfl) | (simp [h, hg]; done))) ?_
    refine XOps.s rfl rfl rfl (Q.assign_d rfl) ?_
    refine XOps.nil ?_
    refine W.ret ?_
    refine ⟨_, hs, rfl, ?_, ?_, rfl⟩
    · exact HLe.skip _ ⟨fun x hx => List.mem_append_right _ hx, fun h => (List.nodup_append.1 (by rw [boxR, List.map_append] at h; exact h)).2.1⟩
    · obtain ⟨h1, h2, h3, h4⟩ := fact_v
      rw [h1, h2, h3, h4]; rfl

set_option maxHeartbeats 1000000 in
set_option maxRecDepth 100000 in
theorem first_c (l : List Int) (v : Int) (hs : Hp) (hL : l.length ≤ 140737488351232) : AC P 3 [.d (slN l), .d (.int .i64 v)] hs (fun r h => r = .d (.bool true)) := by
  have hsz : (1 : Int) ≤ 64 ∧ (64 : Int) ≤ 64 := by decide
  refine AC.of 77 Try.func3 rfl rfl rfl ?_
  refine W.reg ?_
  refine XOps.s rfl rfl rfl (Q.assign_d rfl) ?_
  refine XOps.nil ?_
  refine W.reg ?_
  (refine XOps.loud rfl (L.call rfl Try.func6 go6 rfl (new_c 64 hs (by decide) (by decide)) rfl) ?_; rintro _ _ ⟨_, rfl, b, ids0, rfl, rfl⟩)
  refine XOps.s rfl rfl rfl (Q.move_tup rfl) ?_
  refine XOps.s rfl rfl rfl (Q.extract rfl rfl) ?_
  refine XOps.s rfl rfl rfl (Q.extract rfl rfl) ?_
  refine XOps.s rfl rfl rfl (Q.assign_ptr rfl) ?_
  refine XOps.s rfl rfl rfl (Q.assign_d rfl) ?_
  refine XOps.nil ?_
  refine W.seq ?_
  refine W.reg ?_
  refine XOps.s rfl rfl rfl (Q.move_d rfl) ?_
  refine XOps.s rfl rfl rfl (Q.neq rfl rfl) ?_
  refine XOps.s rfl rfl rfl (Q.move_d rfl) ?_
  refine XOps.gs rfl rfl rfl rfl rfl rfl rfl (fun hg => Q.move_ptr rfl) ?_
  refine XOps.gs rfl rfl rfl rfl rfl rfl rfl (fun hg => Quiet.open 21 hg rfl (Q.eql_ptr ipt23 rfl rfl)) ?_
  refine XOps.s rfl rfl rfl (Q.pick_or rfl rfl rfl (fun h => by first | (rw [h]; rfl) | (rw [hg, h]; rfl) | (simp [h, hg]; done))) ?_
  refine XOps.s rfl rfl rfl (Q.move_d rfl) ?_
  refine XOps.gs rfl rfl rfl rfl rfl rfl rfl (fun hg => Q.call rfl Try.func7 go7 rfl (fact_c _)) ?_
  refine XOps.gs rfl rfl rfl rfl rfl rfl rfl (fun hg => Quiet.open 25 hg rfl (Q.not rfl)) ?_
  refine XOps.s rfl rfl rfl (Q.pick_or rfl rfl rfl (fun h => by first | (rw [h]; rfl) | (rw [hg, h]; rfl) | (simp [h, hg]; done))) ?_
  refine XOps.nil ?_
  refine W.cond rfl (fun hc27 => ?_) (fun hc27 => ?_)
  · try simp only [Bool.or_eq_true, Bool.or_eq_false_iff, Bool.and_eq_true, Bool.and_eq_false_iff, decide_eq_true_eq, decide_eq_false_iff_not, Bool.not_eq_true', Bool.not_eq_false', Int.not_lt, Int.not_le, List.length_map] at hc27
    exact absurd hc27 (by simp)
  · try simp only [Bool.or_eq_true, Bool.or_eq_false_iff, Bool.and_eq_true, Bool.and_eq_false_iff, decide_eq_true_eq, decide_eq_false_iff_not, Bool.not_eq_true', Bool.not_eq_false', Int.not_lt, Int.not_le, List.length_map] at hc27
    refine W.skip ?_
    refine W.seq ?_
    refine W.reg ?_
    refine XOps.s rfl rfl rfl (Q.move_d rfl) ?_
    refine XOps.s rfl rfl rfl (Q.move_d rfl) ?_
    refine XOps.s rfl rfl rfl (Q.len_sl isl22 rfl) ?_
    refine XOps.s rfl rfl rfl (Q.mini rfl rfl) ?_
    refine XOps.s rfl rfl rfl (Q.cut_slm sl22 rfl rfl rfl (by omega) (by omega) (by simp; omega)) ?_
    refine XOps.s rfl rfl rfl (Q.len_sl isl22 rfl) ?_
    refine XOps.s rfl rfl rfl (Q.move_d rfl) ?_
    refine XOps.nil ?_
    refine W.block ?_
    refine W.loop (ι := Nat × (Nat → Nat)) (fun p => [(1, .d (.int .i64 v)), (5, .ptr b 0), (32, .d (.sl 1 ((l.take (min l.length 20)).map nE))), (33, .d (.int .i64 (min l.length 20 : Nat))), (34, .d (.int .i64 p.1))]) (fun p => boxH b (boxK (64) l 0 6 p.1) p.2 hs) (fun p => p.1 ≤ min l.length 20) (fun p => min l.length 20 - p.1) (0, ids0) ?_ ?_ ?_ ?_
    · exact Nat.zero_le _
    · exact ⟨by first | rfl | exact int_eq (by omega) | exact len_eq (by simp) | exact int_eq (by simp; done), by first | rfl | exact int_eq (by omega) | exact len_eq (by simp) | exact int_eq (by simp; done), by exact congrArg (fun z => AV.d (.sl 1 z)) (take_min 20), by exact len_eq (by simp; omega), by first | rfl | exact int_eq (by omega) | exact len_eq (by simp) | exact int_eq (by simp; done), trivial⟩
    · exact HLe.refl _
    · rintro ⟨k, ids⟩ hk
      try dsimp only at hk ⊢
      refine W.reg ?_
      refine XOps.s rfl rfl rfl (Q.lss rfl rfl) ?_
      refine XOps.nil ?_
      refine W.seq ?_
      refine W.cond rfl (fun hc35 => ?_) (fun hc35 => ?_)
      · try simp only [Bool.or_eq_true, Bool.or_eq_false_iff, Bool.and_eq_true, Bool.and_eq_false_iff, decide_eq_true_eq, decide_eq_false_iff_not, Bool.not_eq_true', Bool.not_eq_false', Int.not_lt, Int.not_le, List.length_map] at hc35
        obtain ⟨x, hx⟩ : ∃ x, (l.take (min l.length 20))[k]? = some x := ⟨_, List.getElem?_eq_getElem (by simp; omega)⟩
        have hgd : l.getD k 0 = x := by rw [List.getElem?_take] at hx; split at hx <;> first | (cases hx; done) | simp [List.getD_eq_getElem?_getD, hx]
        have hok := boxK_ok (show 1 ≤ 64 ∧ 64 ≤ 64 from hsz) l 0 6 k
        refine W.skip ?_
        refine W.seq ?_
        refine W.block ?_
        refine W.reg ?_
        refine XOps.s rfl rfl rfl (Q.move_d rfl) ?_
        refine XOps.s rfl rfl rfl (Q.idx_sl sl22 (by decide) rfl rfl (by first | omega | (simp only [List.length_map]; omega)) (by first | exact map_at (by assumption) | exact map_at0 (by assumption) | assumption)) ?_
        refine XOps.s rfl rfl rfl (Q.ld_dp ag3 rfl rfl) ?_
        refine XOps.s rfl rfl rfl (Q.assign_d rfl) ?_
        refine XOps.s rfl rfl rfl (Q.assign_d rfl) ?_
        refine XOps.nil ?_
        refine W.region ?_
        refine XOps.s rfl rfl rfl (Q.move_ptr rfl) ?_
        refine XOps.s rfl rfl rfl (Q.move_d rfl) ?_
        refine XOps.s rfl rfl rfl (Q.call rfl Try.func9 go9 rfl (cut_c x 0 6 _ (by decide) (by decide) (by decide))) ?_
        refine XOps.s rfl rfl rfl (Q.move_d rfl) ?_
        refine XOps.loud rfl (L.call rfl Try.func8 go8 rfl (put_c b (boxK (64) l 0 6 k) ids (cutI x 0 6) k hs (hok.mono (by omega))) rfl) ?_
        rintro _ _ ⟨_, rfl, ids2, rfl, rfl⟩
        refine XOps.nil ?_
        refine W.region ?_
        refine XOps.s rfl rfl rfl (Q.add rfl rfl (wi64 (by first | omega | (dsimp only; omega) | (simp only [List.length_map]; omega)) (by first | omega | (dsimp only; omega) | (simp only [List.length_map]; omega)))) ?_
        refine XOps.s rfl rfl rfl (Q.move_d rfl) ?_
        refine XOps.nil ?_
        refine ⟨(k + 1, ids2), ?_, ?_, ?_, ?_⟩
        · show k + 1 ≤ min l.length 20; omega
        · show min l.length 20 - (k + 1) < min l.length 20 - k; omega
        · exact ⟨by first | rfl | exact int_eq (by omega) | exact len_eq (by simp) | exact int_eq (by simp; done), by first | rfl | exact int_eq (by omega) | exact len_eq (by simp) | exact int_eq (by simp; done), by first | rfl | exact int_eq (by omega) | exact len_eq (by simp) | exact int_eq (by simp; done), by first | rfl | exact int_eq (by omega) | exact len_eq (by simp) | exact int_eq (by simp; done), by first | rfl | exact int_eq (by omega) | exact len_eq (by simp) | exact int_eq (by simp; done), trivial⟩
        · (show HLe (boxH b ((boxK (64) l 0 6 k).put (cutI (l.getD k 0) 0 6) k) ids2 hs) _; rw [hgd]; exact HLe.refl _)
      · try simp only [Bool.or_eq_true, Bool.or_eq_false_iff, Bool.and_eq_true, Bool.and_eq_false_iff, decide_eq_true_eq, decide_eq_false_iff_not, Bool.not_eq_true', Bool.not_eq_false', Int.not_lt, Int.not_le, List.length_map] at hc35
        refine W.exit ?_
        obtain rfl : k = min l.length 20 := by omega
        have hok2 := boxK_ok hsz l 0 6 (min l.length 20)
        refine W.reg ?_
        refine XOps.s rfl rfl rfl (Q.move_ptr rfl) ?_
        refine XOps.s rfl rfl rfl (Q.call rfl Try.func10 go10 rfl (count_c b (boxK 64 l 0 6 (min l.length 20)) ids hs)) ?_
        refine XOps.s rfl rfl rfl (Q.assign_d rfl) ?_
        refine XOps.nil ?_
        refine W.reg ?_
        refine XOps.s rfl rfl rfl (Q.move_ptr rfl) ?_
        refine XOps.s rfl rfl rfl (Q.move_d rfl) ?_
        refine XOps.loud rfl (L.call rfl Try.func8 go8 rfl (put_c b (boxK 64 l 0 6 (min l.length 20)) ids 7 v hs (hok2.mono (by omega))) rfl) ?_
        rintro _ _ ⟨_, rfl, ids3, rfl, rfl⟩
        refine XOps.s rfl rfl rfl (Q.assign_d rfl) ?_
        refine XOps.nil ?_
        refine W.reg ?_
        refine XOps.s rfl rfl rfl (Q.move_ptr rfl) ?_
        (refine XOps.loud rfl (L.call rfl Try.func11 go11 rfl (get_c b ((boxK 64 l 0 6 (min l.length 20)).put 7 v) ids3 hs ((MB.put_ok hok2 7 v).mono (by omega))) rfl) ?_; rintro _ _ ⟨_, rfl, ids4, rfl, rfl⟩)
        refine XOps.s rfl rfl rfl (Q.move_tup rfl) ?_
        refine XOps.s rfl rfl rfl (Q.extract rfl rfl) ?_
        refine XOps.s rfl rfl rfl (Q.extract rfl rfl) ?_
        refine XOps.s rfl rfl rfl (Q.extract rfl rfl) ?_
        refine XOps.s rfl rfl rfl (Q.assign_d rfl) ?_
        refine XOps.s rfl rfl rfl (Q.assign_d rfl) ?_
        refine XOps.s rfl rfl rfl (Q.assign_d rfl) ?_
        refine XOps.nil ?_
        refine W.reg ?_
        refine XOps.s rfl rfl rfl (Q.move_d rfl) ?_
        refine XOps.s rfl rfl rfl (Q.eql rfl rfl) ?_
        refine XOps.s rfl rfl rfl (Q.move_d rfl) ?_
        refine XOps.gs rfl rfl rfl rfl rfl rfl rfl (fun hg => Q.move_d rfl) ?_
        refine XOps.gs rfl rfl rfl rfl rfl rfl rfl (fun hg => Quiet.open 59 hg rfl (Q.eql rfl rfl)) ?_
        refine XOps.s rfl rfl rfl (Q.pick_and rfl rfl rfl (fun h => by first | (rw [h]; rfl) | (rw [hg, h]; rfl) | (simp [h, hg]; done))) ?_
        refine XOps.s rfl rfl rfl (Q.move_d rfl) ?_
        refine XOps.gs rfl rfl rfl rfl rfl rfl rfl (fun hg => Q.move_d rfl) ?_
        refine XOps.gs rfl rfl rfl rfl rfl rfl rfl (fun hg => Q.move_d rfl) ?_
        refine XOps.gs rfl rfl rfl rfl rfl rfl rfl (fun hg => Quiet.open 63 hg rfl (Quiet.open 64 hg rfl (Q.eql rfl rfl))) ?_
        refine XOps.s rfl rfl rfl (Q.pick_and rfl rfl rfl (fun h => by first | (rw [h]; rfl) | (rw [hg, h]; rfl) | (simp [h, hg]; done))) ?_
        refine XOps.s rfl rfl rfl (Q.move_d rfl) ?_
        refine XOps.gs rfl rfl rfl rfl rfl rfl rfl (fun hg => Q.move_d rfl) ?_
        refine XOps.gs rfl rfl rfl rfl rfl rfl rfl (fun hg => Quiet.open 68 hg rfl (Q.eql rfl rfl)) ?_
        refine XOps.s rfl rfl rfl (Q.pick_and rfl rfl rfl (fun h => by first | (rw [h]; rfl) | (rw [hg, h]; rfl) | (simp [h, hg]; done))) ?_
        refine XOps.s rfl rfl rfl (Q.move_d rfl) ?_
        refine XOps.gs rfl rfl rfl rfl rfl rfl rfl (fun hg => Q.move_ptr rfl) ?_
        refine XOps.gs rfl rfl rfl rfl rfl rfl rfl (fun hg => Quiet.open 72 hg rfl (Q.call rfl Try.func10 go10 rfl (count_c b ((boxK 64 l 0 6 (min l.length 20)).put 7 v).get ids4 hs))) ?_
        refine XOps.gs rfl rfl rfl rfl rfl rfl rfl (fun hg => Q.move_d rfl) ?_
        refine XOps.gs rfl rfl rfl rfl rfl rfl rfl (fun hg => Quiet.open 73 hg rfl (Quiet.open 74 hg rfl (Q.eql rfl rfl))) ?_
        refine XOps.s rfl rfl rfl (Q.pick_and rfl rfl rfl (fun h => by first | (rw [h]; rfl) | (rw [hg, h]; rfl) | (simp [h, hg]; done))) ?_
        refine XOps.s rfl rfl rfl (Q.assign_d rfl) ?_
        refine XOps.nil ?_
        refine W.ret ?_
        refine ⟨_, _, rfl, HLe.refl _, ?_⟩
        obtain ⟨h1, h2, h3, h4, h5⟩ := first_top (l := l) (n := min l.length 20) (by omega) v
        rw [h1, h2, h3, h4, h5]
        simp
        rfl
end Go.Proofs.YtdkeenmmhkhecaaA
