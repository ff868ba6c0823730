/- Tubes: At; probe.Separated; all nodes of a tube. -/
import Derived.Test.YtaegeaajhbfkgaaGreatDoorFrB
import Derived.Test.YtaegeaajhbfkgaaGreatDoorCeC
import Derived.Test.YtaegeaajhbfkgaaGreatDoorCen3
set_option linter.unusedVariables false
set_option linter.unusedSimpArgs false
set_option linter.unnecessarySimpa false
namespace Go.Proofs.YtaegeaajhbfkgaaGreatDoorA.FCeD
open Go
theorem ag23 : tAgg P 23 = some ((true, 2)) := by kernel_rfl
theorem ag3 : tAgg P 3 = some ((false, 1)) := by kernel_rfl
theorem ag33 : tAgg P 33 = some ((false, 1)) := by kernel_rfl
theorem ag43 : tAgg P 43 = some ((true, 2)) := by kernel_rfl
theorem ag47 : tAgg P 47 = some ((true, 6)) := by kernel_rfl
theorem fl23_0 : tFld P 23 0 = some (0) := by kernel_rfl
theorem fl23_1 : tFld P 23 1 = some (1) := by kernel_rfl
theorem fl45_0 : tFld P 45 0 = some (0) := by kernel_rfl
theorem fl45_1 : tFld P 45 1 = some (1) := by kernel_rfl
theorem fl45_2 : tFld P 45 2 = some (3) := by kernel_rfl
theorem fl47_0 : tFld P 47 0 = some (0) := by kernel_rfl
theorem fl47_1 : tFld P 47 1 = some (4) := by kernel_rfl
theorem fl47_2 : tFld P 47 2 = some (5) := by kernel_rfl
theorem go41 : callGo Go.Proofs.Tryz.f41 = true := by kernel_rfl
theorem go42 : callGo Go.Proofs.Tryz.f42 = true := by kernel_rfl
theorem go44 : callGo Go.Proofs.Tryz.f44 = true := by kernel_rfl
theorem go47 : callGo Go.Proofs.Tryz.f47 = true := by kernel_rfl
theorem go48 : callGo Go.Proofs.Tryz.f48 = true := by kernel_rfl
theorem go63 : callGo Go.Proofs.Tryz.f63 = true := by kernel_rfl
theorem go76 : callGo Go.Proofs.Tryz.f76 = true := by kernel_rfl
theorem isl33 : isSl P 33 = true := by kernel_rfl
theorem isl39 : isSl P 39 = true := by kernel_rfl
theorem pl47 : tPl P 47 = some ([(0, 4), (4, 1), (5, 1)]) := by kernel_rfl
theorem sl33 : tSl P 33 = some (6) := by kernel_rfl
theorem sl39 : tSl P 39 = some (1) := by kernel_rfl
theorem tz47 : tZero P 47 = some ([.int .i64 0, .int .i64 0, .int .i64 0, .int .i64 0, .int .i64 0, .int .i64 0]) := by kernel_rfl
theorem tzd47 : cellsD [.int .i64 0, .int .i64 0, .int .i64 0, .int .i64 0, .int .i64 0, .int .i64 0] = some ([.int .i64 0, .int .i64 0, .int .i64 0, .int .i64 0, .int .i64 0, .int .i64 0]) := rfl
theorem zr33 : tZrow P 33 = some ([.int .i64 0, .int .i64 0, .int .i64 0, .int .i64 0, .int .i64 0, .int .i64 0]) := by kernel_rfl
theorem zr39 : tZrow P 39 = some ([.slice none 0 0]) := by kernel_rfl
theorem zrd33 : cellsD [.int .i64 0, .int .i64 0, .int .i64 0, .int .i64 0, .int .i64 0, .int .i64 0] = some ([.int .i64 0, .int .i64 0, .int .i64 0, .int .i64 0, .int .i64 0, .int .i64 0]) := rfl
theorem zrd39 : cellsD [.slice none 0 0] = some ([.sl 0 []]) := rfl
end Go.Proofs.YtaegeaajhbfkgaaGreatDoorA.FCeD
namespace Go.Proofs.YtaegeaajhbfkgaaGreatDoorA
open Go FCeD
attribute [local irreducible] XOps Quiet Loud W AC GQ DT
set_option maxHeartbeats 1000000 in
set_option maxRecDepth 100000 in
theorem At_c (l : List Nd) (t : Int) (hs : Hp) (hL : l.length ≤ 4611686018427387904) : AC P 74 [.d (tuD l), .d (.int .i64 (t))] hs (fun r h => r = .tup [.d (.agg (Nd.enc (AtN l t))), .d (.int .i64 (AtE l t))] ∧ h = hs) := by
  refine AC.ofc 18 Tryz.func74 rfl rfl rfl ?_
  refine W.reg ?_
  (refine XOps.loud rfl (L.alloc tz47 rfl rfl) ?_; rintro _ _ ⟨b4, rfl, rfl⟩)
  refine XOps.s rfl rfl rfl (Q.assign_d rfl) ?_
  refine XOps.nil ?_
  refine W.seq ?_
  refine W.reg ?_
  refine XOps.s rfl rfl rfl (Q.move_d rfl) ?_
  refine XOps.s rfl rfl rfl (Q.call rfl Tryz.func41 go41 rfl (tube_c l _ hL)) ?_
  refine XOps.s rfl rfl rfl (Q.assign_d rfl) ?_
  refine XOps.nil ?_
  refine W.reg ?_
  refine XOps.s rfl rfl rfl (Q.move_d rfl) ?_
  refine XOps.s rfl rfl rfl (Q.neq rfl rfl) ?_
  refine XOps.nil ?_
  refine W.cond rfl (fun hc10 => ?_) (fun hc10 => ?_)
  · try simp only [Bool.or_eq_true, Bool.or_eq_false_iff, Bool.and_eq_true, Bool.and_eq_false_iff, decide_eq_true_eq, decide_eq_false_iff_not, Bool.not_eq_true', Bool.not_eq_false', Int.not_lt, Int.not_le, List.length_map] at hc10
    have h10 : tubeC l ≠ 0 := by first | exact hc10 | (simpa using hc10)
    have hE : AtE l t = tubeC l := if_pos h10
    have hV : AtN l t = Nd.zero := if_pos (by rw [hE]; exact h10)
    rw [hE, hV]
    refine W.reg ?_
    refine XOps.s rfl rfl rfl (Q.build pl47 tz47 tzd47 rfl) ?_
    refine XOps.s rfl rfl rfl (Q.move_d rfl) ?_
    refine XOps.loud rfl (L.storen (k := 0) ag47 rfl rfl rfl rfl rfl) ?_
    rintro _ _ ⟨rfl, rfl⟩
    refine XOps.s rfl rfl rfl (Q.assign_d rfl) ?_
    refine XOps.nil ?_
    refine W.ret ?_
    exact ⟨_, hs, (.cons (by first | exact .celln 0 ag47 rfl rfl rfl | exact .cell1 0 ag47 rfl rfl rfl | exact .celln 1 ag47 rfl rfl rfl | exact .cell1 1 ag47 rfl rfl rfl | exact .celln 2 ag47 rfl rfl rfl | exact .cell1 2 ag47 rfl rfl rfl | exact .celln 3 ag47 rfl rfl rfl | exact .cell1 3 ag47 rfl rfl rfl | exact .celln 4 ag47 rfl rfl rfl | exact .cell1 4 ag47 rfl rfl rfl) (.cons (.tmp _) .nil)), HLe.skip _ (HLe.refl _), rfl, rfl⟩
  · try simp only [Bool.or_eq_true, Bool.or_eq_false_iff, Bool.and_eq_true, Bool.and_eq_false_iff, decide_eq_true_eq, decide_eq_false_iff_not, Bool.not_eq_true', Bool.not_eq_false', Int.not_lt, Int.not_le, List.length_map] at hc10
    have ok : TuOk l := tubeC_zero.1 (by first | exact hc10 | (simpa using hc10))
    rw [(AtN_eq ok t).1, (AtN_eq ok t).2]
    refine W.skip ?_
    refine W.reg ?_
    refine XOps.s rfl rfl rfl (Q.move_d rfl) ?_
    refine XOps.s rfl rfl rfl (Q.move_d rfl) ?_
    refine XOps.s rfl rfl rfl (Q.call rfl Tryz.func42 go42 rfl (at_c l t _ ok)) ?_
    refine XOps.s rfl rfl rfl (Q.extract rfl rfl) ?_
    refine XOps.s rfl rfl rfl (Q.extract rfl rfl) ?_
    refine XOps.loud rfl (L.storen (k := 0) ag47 rfl rfl rfl rfl rfl) ?_
    rintro _ _ ⟨rfl, rfl⟩
    refine XOps.s rfl rfl rfl (Q.assign_d rfl) ?_
    refine XOps.nil ?_
    refine W.ret ?_
    exact ⟨_, hs, (.cons (by first | exact .celln 0 ag47 rfl rfl rfl | exact .cell1 0 ag47 rfl rfl rfl | exact .celln 1 ag47 rfl rfl rfl | exact .cell1 1 ag47 rfl rfl rfl | exact .celln 2 ag47 rfl rfl rfl | exact .cell1 2 ag47 rfl rfl rfl | exact .celln 3 ag47 rfl rfl rfl | exact .cell1 3 ag47 rfl rfl rfl | exact .celln 4 ag47 rfl rfl rfl | exact .cell1 4 ag47 rfl rfl rfl) (.cons (.tmp _) .nil)), HLe.skip _ (HLe.refl _), rfl, rfl⟩
set_option maxHeartbeats 1000000 in
set_option maxRecDepth 100000 in
theorem sepc_c (lat ver : Int) (hs : Hp) : AC P 63 [.d (.agg [.int .i64 (lat), .int .i64 (ver)])] hs (fun r h => r = .d (.int .i64 (sepC lat ver)) ∧ h = hs) := by
  refine AC.of 21 Tryz.func63 rfl rfl rfl ?_
  refine W.reg ?_
  refine XOps.loud rfl (L.boxn rfl rfl) ?_
  rintro _ _ ⟨b1, rfl, rfl⟩
  refine XOps.s rfl rfl rfl (Q.assign_d rfl) ?_
  refine XOps.nil ?_
  refine W.seq ?_
  refine W.reg ?_
  refine XOps.s rfl rfl rfl (Q.fld_ptr fl23_0 rfl) ?_
  refine XOps.s rfl rfl rfl (Q.ld_ptr (k := 0) ag3 rfl rfl rfl) ?_
  refine XOps.s rfl rfl rfl (Q.lss rfl rfl) ?_
  refine XOps.s rfl rfl rfl (Q.move_d rfl) ?_
  refine XOps.gs rfl rfl rfl rfl rfl rfl rfl (fun hg => Q.fld_ptr fl23_0 rfl) ?_
  refine XOps.gs rfl rfl rfl rfl rfl rfl rfl (fun hg => Quiet.open 7 hg rfl (Q.ld_ptr (k := 0) ag3 rfl rfl rfl)) ?_
  refine XOps.gs rfl rfl rfl rfl rfl rfl rfl (fun hg => Quiet.open 8 hg rfl (Q.gtr rfl rfl)) ?_
  refine XOps.s rfl rfl rfl (Q.pick_or rfl rfl rfl (fun h => by first | (rw [h]; rfl) | (rw [hg, h]; rfl) | (simp [h, hg]; done))) ?_
  refine XOps.s rfl rfl rfl (Q.move_d rfl) ?_
  refine XOps.gs rfl rfl rfl rfl rfl rfl rfl (fun hg => Q.fld_ptr fl23_1 rfl) ?_
  refine XOps.gs rfl rfl rfl rfl rfl rfl rfl (fun hg => Quiet.open 12 hg rfl (Q.ld_ptr (k := 0) ag3 rfl rfl rfl)) ?_
  refine XOps.gs rfl rfl rfl rfl rfl rfl rfl (fun hg => Quiet.open 13 hg rfl (Q.lss rfl rfl)) ?_
  refine XOps.s rfl rfl rfl (Q.pick_or rfl rfl rfl (fun h => by first | (rw [h]; rfl) | (rw [hg, h]; rfl) | (simp [h, hg]; done))) ?_
  refine XOps.s rfl rfl rfl (Q.move_d rfl) ?_
  refine XOps.gs rfl rfl rfl rfl rfl rfl rfl (fun hg => Q.fld_ptr fl23_1 rfl) ?_
  refine XOps.gs rfl rfl rfl rfl rfl rfl rfl (fun hg => Quiet.open 17 hg rfl (Q.ld_ptr (k := 0) ag3 rfl rfl rfl)) ?_
  refine XOps.gs rfl rfl rfl rfl rfl rfl rfl (fun hg => Quiet.open 18 hg rfl (Q.gtr rfl rfl)) ?_
  refine XOps.s rfl rfl rfl (Q.pick_or rfl rfl rfl (fun h => by first | (rw [h]; rfl) | (rw [hg, h]; rfl) | (simp [h, hg]; done))) ?_
  refine XOps.nil ?_
  refine W.cond rfl (fun hc20 => ?_) (fun hc20 => ?_)
  · try simp only [Bool.or_eq_true, Bool.or_eq_false_iff, Bool.and_eq_true, Bool.and_eq_false_iff, decide_eq_true_eq, decide_eq_false_iff_not, Bool.not_eq_true', Bool.not_eq_false', Int.not_lt, Int.not_le, List.length_map] at hc20
    have hE : sepC lat ver = 4 := if_pos (by omega)
    rw [hE]
    refine W.reg ?_
    refine XOps.s rfl rfl rfl (Q.assign_d rfl) ?_
    refine XOps.nil ?_
    refine W.ret ?_
    exact ⟨_, hs, rfl, HLe.skip _ (HLe.refl _), rfl, rfl⟩
  · try simp only [Bool.or_eq_true, Bool.or_eq_false_iff, Bool.and_eq_true, Bool.and_eq_false_iff, decide_eq_true_eq, decide_eq_false_iff_not, Bool.not_eq_true', Bool.not_eq_false', Int.not_lt, Int.not_le, List.length_map] at hc20
    have hE : sepC lat ver = 0 := if_neg (by omega)
    rw [hE]
    refine W.skip ?_
    refine W.reg ?_
    refine XOps.s rfl rfl rfl (Q.assign_d rfl) ?_
    refine XOps.nil ?_
    refine W.ret ?_
    exact ⟨_, hs, rfl, HLe.skip _ (HLe.refl _), rfl, rfl⟩
set_option maxHeartbeats 1000000 in
set_option maxRecDepth 100000 in
theorem surplus_c (a b : Nd) (hs : Hp) (oa : NdOk a) (ob : NdOk b) : AC P 76 [.d (.agg (Nd.enc a)), .d (.agg (Nd.enc b))] hs (fun r h => r = .d (.int .i64 (rootI (sqI a.x a.y b.x b.y) - a.r - b.r)) ∧ h = hs) := by
  obtain ⟨s0, s1⟩ := sqI_bd oa.p ob.p
  obtain ⟨r0, r1, r2⟩ := root_bd2 s0 s1
  have q1 := oa.r0
  have q2 := oa.r1
  have q3 := ob.r0
  have q4 := ob.r1
  refine AC.of 24 Tryz.func76 rfl rfl rfl ?_
  refine W.reg ?_
  refine XOps.loud rfl (L.boxn rfl rfl) ?_
  rintro _ _ ⟨b2, rfl, rfl⟩
  refine XOps.loud rfl (L.boxn rfl rfl) ?_
  rintro _ _ ⟨b3, rfl, rfl⟩
  refine XOps.s rfl rfl rfl (Q.assign_d rfl) ?_
  refine XOps.nil ?_
  refine W.reg ?_
  refine XOps.s rfl rfl rfl (Q.fld_ptr fl47_0 rfl) ?_
  refine XOps.s rfl rfl rfl (Q.fld_ptr fl45_1 rfl) ?_
  refine XOps.s rfl rfl rfl (Q.ld_ptrn (k := 1) ag43 rfl rfl rfl) ?_
  refine XOps.s rfl rfl rfl (Q.fld_ptr fl47_0 rfl) ?_
  refine XOps.s rfl rfl rfl (Q.fld_ptr fl45_1 rfl) ?_
  refine XOps.s rfl rfl rfl (Q.ld_ptrn (k := 0) ag43 rfl rfl rfl) ?_
  refine XOps.s rfl rfl rfl (Q.call rfl Tryz.func44 go44 rfl (dist_c a.x a.y b.x b.y _ oa.p ob.p)) ?_
  refine XOps.s rfl rfl rfl (Q.move_tup rfl) ?_
  refine XOps.s rfl rfl rfl (Q.extract rfl rfl) ?_
  refine XOps.s rfl rfl rfl (Q.extract rfl rfl) ?_
  refine XOps.s rfl rfl rfl (Q.assign_d rfl) ?_
  refine XOps.s rfl rfl rfl (Q.assign_d rfl) ?_
  refine XOps.nil ?_
  refine W.reg ?_
  refine XOps.s rfl rfl rfl (Q.move_d rfl) ?_
  refine XOps.s rfl rfl rfl (Q.fld_ptr fl47_1 rfl) ?_
  refine XOps.s rfl rfl rfl (Q.ld_ptr (k := 1) ag3 rfl rfl rfl) ?_
  refine XOps.s rfl rfl rfl (Q.sub rfl rfl (wi64 (by first | omega | (dsimp only; omega) | (simp only [List.length_map]; omega)) (by first | omega | (dsimp only; omega) | (simp only [List.length_map]; omega)))) ?_
  refine XOps.s rfl rfl rfl (Q.fld_ptr fl47_1 rfl) ?_
  refine XOps.s rfl rfl rfl (Q.ld_ptr (k := 0) ag3 rfl rfl rfl) ?_
  refine XOps.s rfl rfl rfl (Q.sub rfl rfl (wi64 (by first | omega | (dsimp only; omega) | (simp only [List.length_map]; omega)) (by first | omega | (dsimp only; omega) | (simp only [List.length_map]; omega)))) ?_
  refine XOps.s rfl rfl rfl (Q.assign_d rfl) ?_
  refine XOps.nil ?_
  refine W.ret ?_
  exact ⟨_, hs, rfl, HLe.skip _ (HLe.skip _ (HLe.refl _)), rfl, rfl⟩
set_option maxHeartbeats 1000000 in
set_option maxRecDepth 100000 in
theorem sepd_c (a b : Nd) (lat ver : Int) (hs : Hp) (oa : NdOk a) (ob : NdOk b) : AC P 48 [.d (.agg (Nd.enc a)), .d (.agg (Nd.enc b)), .d (.agg [.int .i64 (lat), .int .i64 (ver)])] hs (fun r h => r = .d (.bool (sepdB a b lat ver)) ∧ h = hs) := by
  have q1 := oa.h0
  have q2 := oa.h1
  have q3 := ob.h0
  have q4 := ob.h1
  have q5 := oa.b0
  have q6 := oa.b1
  have q7 := ob.b0
  have q8 := ob.b1
  refine AC.of 39 Tryz.func48 rfl rfl rfl ?_
  refine W.reg ?_
  refine XOps.loud rfl (L.boxn rfl rfl) ?_
  rintro _ _ ⟨b3, rfl, rfl⟩
  refine XOps.loud rfl (L.boxn rfl rfl) ?_
  rintro _ _ ⟨b4, rfl, rfl⟩
  refine XOps.loud rfl (L.boxn rfl rfl) ?_
  rintro _ _ ⟨b5, rfl, rfl⟩
  refine XOps.s rfl rfl rfl (Q.assign_d rfl) ?_
  refine XOps.nil ?_
  refine W.drawreg 32 follows (by kernel_rfl) ?_
  refine Chain.cons _ (GQ.q rfl (Q.fld_ptr fl47_0 rfl)) rfl ?_
  refine Chain.cons _ (GQ.q rfl (Q.fld_ptr fl45_2 rfl)) rfl ?_
  refine Chain.cons _ (GQ.q rfl (Q.ld_ptr (k := 2) ag3 rfl rfl rfl)) rfl ?_
  refine Chain.cons _ (GQ.q rfl (Q.fld_ptr fl47_0 rfl)) rfl ?_
  refine Chain.cons _ (GQ.q rfl (Q.fld_ptr fl45_2 rfl)) rfl ?_
  refine Chain.cons _ (GQ.q rfl (Q.ld_ptr (k := 1) ag3 rfl rfl rfl)) rfl ?_
  refine Chain.cons _ (GQ.q rfl (Q.sub rfl rfl (wi64 (by first | omega | (dsimp only; omega) | (simp only [List.length_map]; omega)) (by first | omega | (dsimp only; omega) | (simp only [List.length_map]; omega))))) rfl ?_
  refine Chain.cons _ (GQ.q rfl (Q.fld_ptr fl47_0 rfl)) rfl ?_
  refine Chain.cons _ (GQ.q rfl (Q.fld_ptr fl45_2 rfl)) rfl ?_
  refine Chain.cons _ (GQ.q rfl (Q.ld_ptr (k := 1) ag3 rfl rfl rfl)) rfl ?_
  refine Chain.cons _ (GQ.q rfl (Q.fld_ptr fl47_0 rfl)) rfl ?_
  refine Chain.cons _ (GQ.q rfl (Q.fld_ptr fl45_2 rfl)) rfl ?_
  refine Chain.cons _ (GQ.q rfl (Q.ld_ptr (k := 2) ag3 rfl rfl rfl)) rfl ?_
  refine Chain.cons _ (GQ.q rfl (Q.sub rfl rfl (wi64 (by first | omega | (dsimp only; omega) | (simp only [List.length_map]; omega)) (by first | omega | (dsimp only; omega) | (simp only [List.length_map]; omega))))) rfl ?_
  refine Chain.cons _ (GQ.q rfl (Q.maxi rfl rfl)) rfl ?_
  refine Chain.cons _ (GQ.q rfl (Q.fld_ptr fl47_2 rfl)) rfl ?_
  refine Chain.cons _ (GQ.q rfl (Q.ld_ptr (k := 2) ag3 rfl rfl rfl)) rfl ?_
  refine Chain.cons _ (GQ.q rfl (Q.sub rfl rfl (wi64 (by first | omega | (dsimp only; omega) | (simp only [List.length_map]; omega)) (by first | omega | (dsimp only; omega) | (simp only [List.length_map]; omega))))) rfl ?_
  refine Chain.cons _ (GQ.q rfl (Q.fld_ptr fl47_2 rfl)) rfl ?_
  refine Chain.cons _ (GQ.q rfl (Q.ld_ptr (k := 1) ag3 rfl rfl rfl)) rfl ?_
  refine Chain.cons _ (GQ.q rfl (Q.sub rfl rfl (wi64 (by first | omega | (dsimp only; omega) | (simp only [List.length_map]; omega)) (by first | omega | (dsimp only; omega) | (simp only [List.length_map]; omega))))) rfl ?_
  refine Chain.cons _ (GQ.q rfl (Q.fld_ptr fl23_1 rfl)) rfl ?_
  refine Chain.cons _ (GQ.q rfl (Q.ld_ptr (k := 0) ag3 rfl rfl rfl)) rfl ?_
  refine Chain.cons _ (GQ.q rfl (Q.geq rfl rfl)) rfl ?_
  refine Chain.cons _ (GQ.q rfl (Q.move_d rfl)) rfl ?_
  refine Chain.cons _ (GQ.g rfl rfl rfl rfl rfl (fun hg => Q.ld_ptrn (k := 2) ag47 rfl rfl rfl)) rfl ?_
  refine Chain.cons _ (GQ.g rfl rfl rfl rfl rfl (fun hg => Q.ld_ptrn (k := 1) ag47 rfl rfl rfl)) rfl ?_
  refine Chain.cons _ (GQ.g rfl rfl rfl rfl rfl (fun hg => Quiet.open 32 hg rfl (Quiet.open 33 hg rfl (Q.call rfl Tryz.func76 go76 rfl (surplus_c a b _ oa ob))))) rfl ?_
  refine Chain.cons _ (GQ.g rfl rfl rfl rfl rfl (fun hg => Q.fld_ptr fl23_0 rfl)) rfl ?_
  refine Chain.cons _ (GQ.g rfl rfl rfl rfl rfl (fun hg => Quiet.open 35 hg rfl (Q.ld_ptr (k := 0) ag3 rfl rfl rfl))) rfl ?_
  refine Chain.cons _ (GQ.g rfl rfl rfl rfl rfl (fun hg => Quiet.open 34 hg rfl (Quiet.open 36 hg rfl (Q.geq rfl rfl)))) rfl ?_
  refine Chain.cons _ (GQ.q rfl (Q.pick_or rfl rfl rfl (fun h => by first | (rw [h]; rfl) | (rw [hg, h]; rfl) | (simp [h, hg]; done)))) rfl ?_
  refine Chain.nil ?_
  refine XOps.s rfl rfl rfl (Q.assign_d rfl) ?_
  refine XOps.nil ?_
  refine W.ret ?_
  exact ⟨_, hs, rfl, HLe.skip _ (HLe.skip _ (HLe.skip _ (HLe.refl _))), rfl, rfl⟩
set_option maxHeartbeats 1000000 in
set_option maxRecDepth 100000 in
theorem pchk_c (lat ver : Int) (ts : List (List Nd)) (hs : Hp) (hT : ∀ l ∈ ts, l.length ≤ 4611686018427387904) (hn : ts.length ≤ 4611686018427387904) : AC P 47 [.d (.agg [.int .i64 (lat), .int .i64 (ver)]), .d (.sl 1 (ts.map tuR))] hs (fun r h => r = .d (.int .i64 (pcC lat ver ts)) ∧ h = hs) := by
  refine AC.of 26 Tryz.func47 rfl rfl rfl ?_
  refine W.reg ?_
  refine XOps.loud rfl (L.boxn rfl rfl) ?_
  rintro _ _ ⟨b2, rfl, rfl⟩
  refine XOps.s rfl rfl rfl (Q.assign_d rfl) ?_
  refine XOps.nil ?_
  refine W.seq ?_
  refine W.reg ?_
  refine XOps.s rfl rfl rfl (Q.ld_ptrn (k := 0) ag23 rfl rfl rfl) ?_
  refine XOps.s rfl rfl rfl (Q.call rfl Tryz.func63 go63 rfl (sepc_c lat ver _)) ?_
  refine XOps.s rfl rfl rfl (Q.assign_d rfl) ?_
  refine XOps.nil ?_
  refine W.reg ?_
  refine XOps.s rfl rfl rfl (Q.move_d rfl) ?_
  refine XOps.s rfl rfl rfl (Q.neq rfl rfl) ?_
  refine XOps.nil ?_
  refine W.cond rfl (fun hc12 => ?_) (fun hc12 => ?_)
  · try simp only [Bool.or_eq_true, Bool.or_eq_false_iff, Bool.and_eq_true, Bool.and_eq_false_iff, decide_eq_true_eq, decide_eq_false_iff_not, Bool.not_eq_true', Bool.not_eq_false', Int.not_lt, Int.not_le, List.length_map] at hc12
    have h12 : sepC lat ver ≠ 0 := by first | exact hc12 | (simpa using hc12)
    have hE : pcC lat ver ts = sepC lat ver := if_pos h12
    rw [hE]
    refine W.reg ?_
    refine XOps.s rfl rfl rfl (Q.move_d rfl) ?_
    refine XOps.s rfl rfl rfl (Q.assign_d rfl) ?_
    refine XOps.nil ?_
    refine W.ret ?_
    exact ⟨_, hs, rfl, HLe.skip _ (HLe.refl _), rfl, rfl⟩
  · try simp only [Bool.or_eq_true, Bool.or_eq_false_iff, Bool.and_eq_true, Bool.and_eq_false_iff, decide_eq_true_eq, decide_eq_false_iff_not, Bool.not_eq_true', Bool.not_eq_false', Int.not_lt, Int.not_le, List.length_map] at hc12
    have h12 : sepC lat ver = 0 := by first | exact hc12 | (simpa using hc12)
    have hE : pcC lat ver ts = pcF ts := if_neg (by omega)
    rw [hE]
    refine W.skip ?_
    refine W.seq ?_
    refine W.reg ?_
    refine XOps.s rfl rfl rfl (Q.move_d rfl) ?_
    refine XOps.s rfl rfl rfl (Q.len_sl isl39 rfl) ?_
    refine XOps.s rfl rfl rfl (Q.move_d rfl) ?_
    refine XOps.nil ?_
    refine W.block ?_
    refine W.loop (ι := Nat) (fun k => [(14, .d (.sl 1 (ts.map tuR))), (15, .d (.int .i64 ts.length)), (16, .d (.int .i64 (k : Nat)))]) (fun k => hs) (fun k => k ≤ ts.length ∧ pcF ts = pcF (ts.drop k)) (fun k => ts.length - k) 0 ?_ ?_ ?_ ?_
    · exact ⟨Nat.zero_le _, rfl⟩
    · exact ⟨by first | rfl | exact int_eq (by omega) | exact len_eq (by simp) | exact int_eq (by simp; done), by exact int_eq (by rw [List.length_map]), by first | rfl | exact int_eq (by omega) | exact len_eq (by simp) | exact int_eq (by simp; done), trivial⟩
    · exact HLe.skip _ (HLe.refl _)
    · rintro k ⟨hk, hI⟩
      refine W.reg ?_
      refine XOps.s rfl rfl rfl (Q.lss rfl rfl) ?_
      refine XOps.nil ?_
      refine W.seq ?_
      refine W.cond rfl (fun hc17 => ?_) (fun hc17 => ?_)
      · try simp only [Bool.or_eq_true, Bool.or_eq_false_iff, Bool.and_eq_true, Bool.and_eq_false_iff, decide_eq_true_eq, decide_eq_false_iff_not, Bool.not_eq_true', Bool.not_eq_false', Int.not_lt, Int.not_le, List.length_map] at hc17
        obtain ⟨x, hx⟩ : ∃ x, ts[k]? = some x := ⟨_, List.getElem?_eq_getElem (by omega)⟩
        have hst : pcF (ts.drop k) = if tubeC x ≠ 0 then tubeC x else pcF (ts.drop (k + 1)) := by rw [drop_cons hx, pcF]
        refine W.skip ?_
        refine W.seq ?_
        refine W.block ?_
        refine W.reg ?_
        refine XOps.s rfl rfl rfl (Q.idx_sl sl39 (by decide) rfl rfl (by first | omega | (simp only [List.length_map]; omega)) (by first | exact map_at hx | exact map_at0 hx | assumption)) ?_
        refine XOps.s rfl rfl rfl (Q.ld_dp ag33 rfl rfl) ?_
        refine XOps.s rfl rfl rfl (Q.assign_d rfl) ?_
        refine XOps.nil ?_
        refine W.reg ?_
        refine XOps.s rfl rfl rfl (Q.move_d rfl) ?_
        refine XOps.s rfl rfl rfl (Q.call rfl Tryz.func41 go41 rfl (tube_c x _ (hT x (List.mem_of_getElem? hx)))) ?_
        refine XOps.s rfl rfl rfl (Q.assign_d rfl) ?_
        refine XOps.nil ?_
        refine W.reg ?_
        refine XOps.s rfl rfl rfl (Q.move_d rfl) ?_
        refine XOps.s rfl rfl rfl (Q.neq rfl rfl) ?_
        refine XOps.nil ?_
        refine W.cond rfl (fun hc23 => ?_) (fun hc23 => ?_)
        · try simp only [Bool.or_eq_true, Bool.or_eq_false_iff, Bool.and_eq_true, Bool.and_eq_false_iff, decide_eq_true_eq, decide_eq_false_iff_not, Bool.not_eq_true', Bool.not_eq_false', Int.not_lt, Int.not_le, List.length_map] at hc23
          have h23 : tubeC x ≠ 0 := by first | exact hc23 | (simpa using hc23)
          rw [if_pos h23] at hst
          rw [hI, hst]
          refine W.reg ?_
          refine XOps.s rfl rfl rfl (Q.move_d rfl) ?_
          refine XOps.s rfl rfl rfl (Q.assign_d rfl) ?_
          refine XOps.nil ?_
          refine W.ret ?_
          exact ⟨_, hs, rfl, HLe.refl _, rfl, rfl⟩
        · try simp only [Bool.or_eq_true, Bool.or_eq_false_iff, Bool.and_eq_true, Bool.and_eq_false_iff, decide_eq_true_eq, decide_eq_false_iff_not, Bool.not_eq_true', Bool.not_eq_false', Int.not_lt, Int.not_le, List.length_map] at hc23
          have h23 : tubeC x = 0 := by first | exact hc23 | (simpa using hc23)
          rw [if_neg (by omega)] at hst
          refine W.skip ?_
          refine W.region ?_
          refine XOps.s rfl rfl rfl (Q.add rfl rfl (wi64 (by first | omega | (dsimp only; omega) | (simp only [List.length_map]; omega)) (by first | omega | (dsimp only; omega) | (simp only [List.length_map]; omega)))) ?_
          refine XOps.s rfl rfl rfl (Q.move_d rfl) ?_
          refine XOps.nil ?_
          refine ⟨k + 1, ?_, ?_, ?_, ?_⟩
          · exact ⟨by omega, by rw [hI, hst]⟩
          · omega
          · exact ⟨by first | rfl | exact int_eq (by omega) | exact len_eq (by simp) | exact int_eq (by simp; done), by first | rfl | exact int_eq (by omega) | exact len_eq (by simp) | exact int_eq (by simp; done), by first | rfl | exact int_eq (by omega) | exact len_eq (by simp) | exact int_eq (by simp; done), trivial⟩
          · exact HLe.refl _
      · try simp only [Bool.or_eq_true, Bool.or_eq_false_iff, Bool.and_eq_true, Bool.and_eq_false_iff, decide_eq_true_eq, decide_eq_false_iff_not, Bool.not_eq_true', Bool.not_eq_false', Int.not_lt, Int.not_le, List.length_map] at hc17
        obtain rfl : k = ts.length := by omega
        rw [List.drop_length] at hI
        rw [hI, pcF]
        refine W.exit ?_
        refine W.reg ?_
        refine XOps.s rfl rfl rfl (Q.assign_d rfl) ?_
        refine XOps.nil ?_
        refine W.ret ?_
        exact ⟨_, hs, rfl, HLe.refl _, rfl, rfl⟩
set_option maxHeartbeats 4000000 in
set_option maxRecDepth 100000 in
theorem Sep_c (a b : Nd) (lat ver : Int) (hs : Hp) : AC P 25 [.d (.agg (Nd.enc a)), .d (.agg (Nd.enc b)), .d (.agg [.int .i64 (lat), .int .i64 (ver)])] hs (fun r h => r = .tup [.d (.bool (SepB a b lat ver)), .d (.int .i64 (SepE a b lat ver))] ∧ h = hs) := by
  refine AC.of 30 Tryz.func25 rfl rfl rfl ?_
  refine W.reg ?_
  refine XOps.loud rfl (L.boxn rfl rfl) ?_
  rintro _ _ ⟨b3, rfl, rfl⟩
  refine XOps.loud rfl (L.boxn rfl rfl) ?_
  rintro _ _ ⟨b4, rfl, rfl⟩
  refine XOps.loud rfl (L.boxn rfl rfl) ?_
  rintro _ _ ⟨b5, rfl, rfl⟩
  refine XOps.s rfl rfl rfl (Q.assign_d rfl) ?_
  refine XOps.s rfl rfl rfl (Q.assign_d rfl) ?_
  refine XOps.nil ?_
  refine W.seq ?_
  refine W.reg ?_
  refine XOps.s rfl rfl rfl (Q.ld_ptrn (k := 0) ag23 rfl rfl rfl) ?_
  refine XOps.s rfl rfl rfl (Q.ld_ptrn (k := 2) ag47 rfl rfl rfl) ?_
  refine XOps.s rfl rfl rfl (Q.bsl1n sl33 (by decide) zr33 rfl zrd33 rfl rfl (by decide)) ?_
  refine XOps.s rfl rfl rfl (Q.ld_ptrn (k := 1) ag47 rfl rfl rfl) ?_
  refine XOps.s rfl rfl rfl (Q.bsl1n sl33 (by decide) zr33 rfl zrd33 rfl rfl (by decide)) ?_
  refine XOps.s rfl rfl rfl (Q.bsl sl39 (by decide) zr39 rfl zrd39 (by decide) rfl rfl) ?_
  refine XOps.s rfl rfl rfl (Q.call rfl Tryz.func47 go47 rfl (pchk_c lat ver [[a], [b]] _ (by simp) (by simp))) ?_
  refine XOps.s rfl rfl rfl (Q.assign_d rfl) ?_
  refine XOps.nil ?_
  refine W.reg ?_
  refine XOps.s rfl rfl rfl (Q.move_d rfl) ?_
  refine XOps.s rfl rfl rfl (Q.neq rfl rfl) ?_
  refine XOps.nil ?_
  refine W.cond rfl (fun hc17 => ?_) (fun hc17 => ?_)
  · try simp only [Bool.or_eq_true, Bool.or_eq_false_iff, Bool.and_eq_true, Bool.and_eq_false_iff, decide_eq_true_eq, decide_eq_false_iff_not, Bool.not_eq_true', Bool.not_eq_false', Int.not_lt, Int.not_le, List.length_map] at hc17
    have h17 : pcC lat ver [[a], [b]] ≠ 0 := by first | exact hc17 | (simpa using hc17)
    have hE : SepE a b lat ver = pcC lat ver [[a], [b]] := if_pos h17
    have hB : SepB a b lat ver = false := if_pos (by rw [hE]; exact h17)
    rw [hE, hB]
    refine W.reg ?_
    refine XOps.s rfl rfl rfl (Q.move_d rfl) ?_
    refine XOps.s rfl rfl rfl (Q.assign_d rfl) ?_
    refine XOps.s rfl rfl rfl (Q.assign_d rfl) ?_
    refine XOps.nil ?_
    refine W.ret ?_
    exact ⟨_, hs, rfl, HLe.skip _ (HLe.skip _ (HLe.skip _ (HLe.refl _))), rfl, rfl⟩
  · try simp only [Bool.or_eq_true, Bool.or_eq_false_iff, Bool.and_eq_true, Bool.and_eq_false_iff, decide_eq_true_eq, decide_eq_false_iff_not, Bool.not_eq_true', Bool.not_eq_false', Int.not_lt, Int.not_le, List.length_map] at hc17
    have h17a : pcC lat ver [[a], [b]] = 0 := by first | exact hc17 | (simpa using hc17)
    have h17 := pc2 h17a
    refine W.skip ?_
    refine W.seq ?_
    refine W.reg ?_
    refine XOps.s rfl rfl rfl (Q.fld_ptr fl47_0 rfl) ?_
    refine XOps.s rfl rfl rfl (Q.fld_ptr fl45_0 rfl) ?_
    refine XOps.s rfl rfl rfl (Q.ld_ptr (k := 2) ag3 rfl rfl rfl) ?_
    refine XOps.s rfl rfl rfl (Q.fld_ptr fl47_0 rfl) ?_
    refine XOps.s rfl rfl rfl (Q.fld_ptr fl45_0 rfl) ?_
    refine XOps.s rfl rfl rfl (Q.ld_ptr (k := 1) ag3 rfl rfl rfl) ?_
    refine XOps.s rfl rfl rfl (Q.neq rfl rfl) ?_
    refine XOps.nil ?_
    refine W.cond rfl (fun hc25 => ?_) (fun hc25 => ?_)
    · try simp only [Bool.or_eq_true, Bool.or_eq_false_iff, Bool.and_eq_true, Bool.and_eq_false_iff, decide_eq_true_eq, decide_eq_false_iff_not, Bool.not_eq_true', Bool.not_eq_false', Int.not_lt, Int.not_le, List.length_map] at hc25
      have hE : SepE a b lat ver = 12 := by unfold SepE; rw [if_neg (by omega), if_pos (by omega)]
      have hB : SepB a b lat ver = false := if_pos (by omega)
      rw [hE, hB]
      refine W.reg ?_
      refine XOps.s rfl rfl rfl (Q.assign_d rfl) ?_
      refine XOps.s rfl rfl rfl (Q.assign_d rfl) ?_
      refine XOps.nil ?_
      refine W.ret ?_
      exact ⟨_, hs, rfl, HLe.skip _ (HLe.skip _ (HLe.skip _ (HLe.refl _))), rfl, rfl⟩
    · try simp only [Bool.or_eq_true, Bool.or_eq_false_iff, Bool.and_eq_true, Bool.and_eq_false_iff, decide_eq_true_eq, decide_eq_false_iff_not, Bool.not_eq_true', Bool.not_eq_false', Int.not_lt, Int.not_le, List.length_map] at hc25
      have hE : SepE a b lat ver = 0 := by unfold SepE; rw [if_neg (by omega), if_neg (by omega)]
      have hB : SepB a b lat ver = sepdB a b lat ver := if_neg (by omega)
      rw [hE, hB]
      refine W.skip ?_
      refine W.reg ?_
      refine XOps.s rfl rfl rfl (Q.ld_ptrn (k := 2) ag47 rfl rfl rfl) ?_
      refine XOps.s rfl rfl rfl (Q.ld_ptrn (k := 1) ag47 rfl rfl rfl) ?_
      refine XOps.s rfl rfl rfl (Q.ld_ptrn (k := 0) ag23 rfl rfl rfl) ?_
      refine XOps.s rfl rfl rfl (Q.call rfl Tryz.func48 go48 rfl (sepd_c a b lat ver _ h17.1 h17.2.1)) ?_
      refine XOps.s rfl rfl rfl (Q.assign_d rfl) ?_
      refine XOps.s rfl rfl rfl (Q.assign_d rfl) ?_
      refine XOps.nil ?_
      refine W.ret ?_
      exact ⟨_, hs, rfl, HLe.skip _ (HLe.skip _ (HLe.skip _ (HLe.refl _))), rfl, rfl⟩
set_option maxHeartbeats 1000000 in
set_option maxRecDepth 100000 in
theorem all_c (l : List Nd) (hs : Hp) : AC P 43 [.d (tuD l)] hs (fun r h => ∃ b, r = .fn 70 [.ptr b 0] ∧ h = (b, .cells [.d (tuD l)]) :: hs) := by
  refine AC.of 4 Tryz.func43 rfl rfl rfl ?_
  refine W.reg ?_
  refine XOps.loud rfl (L.box rfl rfl rfl) ?_
  rintro _ _ ⟨b1, rfl, rfl⟩
  refine XOps.s rfl rfl rfl (Q.assign rfl) ?_
  refine XOps.nil ?_
  refine W.reg ?_
  refine XOps.s rfl rfl rfl (Q.mkfn rfl) ?_
  refine XOps.s rfl rfl rfl (Q.assign_fn rfl) ?_
  refine XOps.nil ?_
  refine W.ret ?_
  exact ⟨_, (b1, .cells [.d (tuD l)]) :: hs, rfl, HLe.refl _, b1, rfl, rfl⟩
theorem yperm2 {α : Type} (a b c : α) (H : List α) : ([a, b, c] ++ H).Perm (b :: (H ++ [a, c])) :=
  (List.Perm.swap b a (c :: H)).trans (List.Perm.cons b ((List.perm_append_comm (l₁ := [a, c]) (l₂ := H))))
theorem yle (a b c : Nat × HO) (H : Hp) : HLe (b :: c :: H) (b :: (H ++ [a, c])) :=
  HLe.trans (HLe.skip a (HLe.refl _)) (HLe.perm (yperm2 a b c H))
set_option maxHeartbeats 8000000 in
set_option maxRecDepth 100000 in
theorem allit_c (l : List Nd) (ok : TuOk l) (id bb : Nat) (o : HO) (J : Nat → Hp → Prop) (Fq : Hp → Prop) (H : Hp) (h0 : J 0 H) (hy : ∀ (k : Nat) (H priv : Hp), J k H → k < cntT l → YC P id [.d (.agg (Nd.enc (atN l (hdT l + (k : Nat)))))] ((id, o) :: (H ++ priv)) (fun r h => ∃ q : Bool, r = .d (.bool q) ∧ ∃ H2, (if q = true then J (k + 1) H2 else Fq H2) ∧ h = (id, bif q then o else o.retd) :: (H2 ++ priv))) : AC P 70 [.yl id, .ptr bb 0] ((id, o) :: (bb, .cells [.d (tuD l)]) :: H) (fun r h => r = .tup [] ∧ ∃ (q : Bool) (H2 : Hp), (if q = true then J (cntT l) H2 else Fq H2) ∧ h = (id, bif q then o else o.retd) :: H2) := by
  have p0 := hd_row ok.ne
  have pl := la_row ok.ne
  have hml : (l.map Nd.enc).length = l.length := List.length_map _
  have hlen := ok.len
  have hl0 : l.length ≠ 0 := fun e => ok.ne (List.eq_nil_of_length_eq_zero e)
  have hz := tubeC_zero.2 ok
  have hbd := hd_bd ok
  have hle := hd_le_la ok
  have hcn : ((cntT l : Nat) : Int) = laT l - hdT l + 1 := by unfold cntT; omega
  refine AC.of 36 Tryz.func70 rfl rfl rfl ?_
  refine W.seq ?_
  refine W.reg ?_
  refine XOps.s rfl rfl rfl (Q.ld_ptr (k := 1) ag33 rfl rfl rfl) ?_
  refine XOps.s rfl rfl rfl (Q.call rfl Tryz.func41 go41 rfl (tube_c l _ (by omega))) ?_
  refine XOps.s rfl rfl rfl (Q.neq rfl rfl) ?_
  refine XOps.nil ?_
  refine W.cond rfl (fun hc8 => ?_) (fun hc8 => ?_)
  · skip
    exact absurd hc8 (by rw [hz]; simp)
  · skip
    refine W.skip ?_
    refine W.reg ?_
    refine XOps.s rfl rfl rfl (Q.ld_ptr (k := 1) ag33 rfl rfl rfl) ?_
    refine XOps.s rfl rfl rfl (Q.idx_sl sl33 (by decide) rfl rfl (by first | omega | (simp only [List.length_map]; omega)) (by first | exact p0 | exact pl)) ?_
    refine XOps.s rfl rfl rfl (Q.fld_dp fl47_0 rfl) ?_
    refine XOps.s rfl rfl rfl (Q.fld_dp fl45_0 rfl) ?_
    refine XOps.s rfl rfl rfl (Q.ld_dp ag3 rfl rfl) ?_
    refine XOps.s rfl rfl rfl (Q.assign_d rfl) ?_
    refine XOps.nil ?_
    refine W.block ?_
    refine W.loop (ι := Nat × Hp) (fun p => [(0, .yl id), (1, .ptr bb 0), (3, .d (.int .i64 (hdT l + (p.1 : Nat))))]) (fun p => (id, o) :: (bb, .cells [.d (tuD l)]) :: p.2) (fun p => p.1 ≤ cntT l ∧ J p.1 p.2) (fun p => cntT l - p.1) (0, H) ?_ ?_ ?_ ?_
    · exact ⟨Nat.zero_le _, h0⟩
    · exact ⟨by first | rfl | exact int_eq (by omega) | exact len_eq (by simp) | exact int_eq (by simp; done), by first | rfl | exact int_eq (by omega) | exact len_eq (by simp) | exact int_eq (by simp; done), by exact int_eq (by unfold hdT; simp), trivial⟩
    · exact HLe.refl _
    · rintro ⟨k, H1⟩ ⟨hk, hJ⟩
      dsimp only at hk hJ ⊢
      refine W.seq ?_
      refine W.reg ?_
      refine XOps.s rfl rfl rfl (Q.move_d rfl) ?_
      refine XOps.s rfl rfl rfl (Q.ld_ptr (k := 1) ag33 rfl rfl rfl) ?_
      refine XOps.s rfl rfl rfl (Q.ld_ptr (k := 1) ag33 rfl rfl rfl) ?_
      refine XOps.s rfl rfl rfl (Q.len_sl isl33 rfl) ?_
      refine XOps.s rfl rfl rfl (Q.sub rfl rfl (wi64 (by first | omega | (dsimp only; omega) | (simp only [List.length_map]; omega)) (by first | omega | (dsimp only; omega) | (simp only [List.length_map]; omega)))) ?_
      refine XOps.s rfl rfl rfl (Q.idx_sl sl33 (by decide) rfl rfl (by first | omega | (simp only [List.length_map]; omega)) (by first | exact p0 | exact pl)) ?_
      refine XOps.s rfl rfl rfl (Q.fld_dp fl47_0 rfl) ?_
      refine XOps.s rfl rfl rfl (Q.fld_dp fl45_0 rfl) ?_
      refine XOps.s rfl rfl rfl (Q.ld_dp ag3 rfl rfl) ?_
      refine XOps.s rfl rfl rfl (Q.leq rfl rfl) ?_
      refine XOps.nil ?_
      refine W.cond rfl (fun hc23 => ?_) (fun hc23 => ?_)
      · skip
        have hkc : k < cntT l := by
          have h := of_decide_eq_true hc23
          have h2 : hdT l + (k : Nat) ≤ laT l := h
          omega
        refine W.skip ?_
        refine W.seq ?_
        refine W.block ?_
        refine W.reg ?_
        refine XOps.s rfl rfl rfl (Q.ld_ptr (k := 1) ag33 rfl rfl rfl) ?_
        refine XOps.s rfl rfl rfl (Q.move_d rfl) ?_
        refine XOps.s rfl rfl rfl (Q.call rfl Tryz.func42 go42 rfl (at_c l (hdT l + (k : Nat)) _ ok)) ?_
        refine XOps.s rfl rfl rfl (Q.move_tup rfl) ?_
        refine XOps.s rfl rfl rfl (Q.extract rfl rfl) ?_
        refine XOps.s rfl rfl rfl (Q.extract rfl rfl) ?_
        (refine XOps.loud rfl (L.alloc tz47 rfl rfl) ?_; rintro _ _ ⟨b4, rfl, rfl⟩)
        refine XOps.loud rfl (L.storen (k := 0) ag47 rfl rfl rfl rfl rfl) ?_
        rintro _ _ ⟨rfl, rfl⟩
        refine XOps.s rfl rfl rfl (Q.assign_d rfl) ?_
        refine XOps.nil ?_
        refine W.reg ?_
        refine XOps.s rfl rfl rfl (Q.move rfl) ?_
        refine XOps.s rfl rfl rfl (Q.ld_ptrn (k := 0) ag47 rfl rfl rfl) ?_
        (refine XOps.loud rfl (L.ycall rfl rfl (YC.le (hy k H1 [(b4, .cells ((atN l (hdT l + (k : Nat))).enc.map .d)), (bb, .cells [.d (tuD l)])] hJ hkc) (HLe.perm (yperm2 _ _ _ _).symm)) rfl) ?_; rintro _ _ ⟨_, rfl, q, rfl, H2, hq, rfl⟩)
        refine XOps.s rfl rfl rfl (Q.not rfl) ?_
        refine XOps.nil ?_
        refine W.heap ((id, bif q then o else o.retd) :: (bb, .cells [.d (tuD l)]) :: H2) (yle _ _ _ _) ?_
        refine W.cond rfl (fun hc35 => ?_) (fun hc35 => ?_)
        · skip
          have hqf : q = false := by simpa using hc35
          subst hqf
          rw [if_neg (by simp)] at hq
          refine W.ret ?_
          exact ⟨_, (id, o.retd) :: H2, rfl, HLe.cons _ (HLe.skip _ (HLe.refl _)), rfl, false, H2, by rw [if_neg (by simp)]; exact hq, rfl⟩
        · skip
          have hqt : q = true := by simpa using hc35
          subst hqt
          rw [if_pos rfl] at hq
          have hJ2 := hq
          refine W.skip ?_
          refine W.region ?_
          refine XOps.s rfl rfl rfl (Q.move_d rfl) ?_
          refine XOps.s rfl rfl rfl (Q.add rfl rfl (wi64 (by first | omega | (dsimp only; omega) | (simp only [List.length_map]; omega)) (by first | omega | (dsimp only; omega) | (simp only [List.length_map]; omega)))) ?_
          refine XOps.s rfl rfl rfl (Q.assign_d rfl) ?_
          refine XOps.nil ?_
          refine ⟨(k + 1, H2), ?_, ?_, ?_, ?_⟩
          · exact ⟨by dsimp only; omega, hJ2⟩
          · dsimp only; omega
          · exact ⟨by first | rfl | exact int_eq (by omega) | exact len_eq (by simp) | exact int_eq (by simp; done), by first | rfl | exact int_eq (by omega) | exact len_eq (by simp) | exact int_eq (by simp; done), by exact int_eq (by dsimp only; omega), trivial⟩
          · exact HLe.refl _
      · skip
        have hke : k = cntT l := by
          have h := of_decide_eq_false hc23
          have h2 : ¬ hdT l + (k : Nat) ≤ laT l := h
          omega
        rw [hke] at hJ
        refine W.exit ?_
        exact ⟨_, (id, o) :: H1, rfl, HLe.cons _ (HLe.skip _ (HLe.refl _)), rfl, true, H1, by rw [if_pos rfl]; exact hJ, rfl⟩
end Go.Proofs.YtaegeaajhbfkgaaGreatDoorA

