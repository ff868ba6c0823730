/- R.Cut, R.Inside, label.Meet, the law LabelMeets. -/
import Derived.Test.YtgfmogfjemigmaaBase
import Derived.Test.YtgfmogfjemigmaaSpec
set_option linter.unusedVariables false
set_option linter.unusedSimpArgs false
set_option linter.unnecessarySimpa false
namespace Go.Proofs.YtgfmogfjemigmaaA.FWalkA
open Go
theorem ag23 : tAgg P 23 = some ((true, 4)) := by kernel_rfl
theorem ag3 : tAgg P 3 = some ((false, 1)) := by kernel_rfl
theorem ar25 : tArr P 25 = some ((2, 1)) := by kernel_rfl
theorem are25 : tEl P 25 = some ((false, 1)) := by kernel_rfl
theorem fl23_0 : tFld P 23 0 = some (0) := by kernel_rfl
theorem fl23_1 : tFld P 23 1 = some (1) := by kernel_rfl
theorem fl23_2 : tFld P 23 2 = some (2) := by kernel_rfl
theorem fl23_3 : tFld P 23 3 = some (3) := by kernel_rfl
theorem go6 : callGo Go.Proofs.Try.f6 = true := by kernel_rfl
theorem go7 : callGo Go.Proofs.Try.f7 = true := by kernel_rfl
theorem go8 : callGo Go.Proofs.Try.f8 = true := by kernel_rfl
theorem isb4 : isB P 4 = true := by kernel_rfl
theorem pl23 : tPl P 23 = some ([(0, 1), (1, 1), (2, 1), (3, 1)]) := by kernel_rfl
theorem tz23 : tZero P 23 = some ([.int .i64 0, .int .i64 0, .int .i64 0, .int .i64 0]) := by kernel_rfl
theorem tz25 : tZero P 25 = some ([.pointer none, .pointer none]) := by kernel_rfl
theorem tzd23 : cellsD [.int .i64 0, .int .i64 0, .int .i64 0, .int .i64 0] = some ([.int .i64 0, .int .i64 0, .int .i64 0, .int .i64 0]) := rfl
end Go.Proofs.YtgfmogfjemigmaaA.FWalkA
namespace Go.Proofs.YtgfmogfjemigmaaA
open Go FWalkA
set_option maxHeartbeats 1000000 in
set_option maxRecDepth 100000 in
theorem cut_c (n lo hi : Int) (hs : Hp) (h0 : -1000000000000 ≤ lo) (h1 : lo ≤ hi) (h2 : hi ≤ 1000000000000) : AC P 6 [.d (.int .i64 n), .d (.int .i64 lo), .d (.int .i64 hi)] hs (fun r h => r = .d (.int .i64 (cutI n lo hi)) ∧ h = hs) := by
  refine AC.of 23 Try.func6 rfl rfl rfl ?_
  refine W.reg ?_
  refine XOps.s rfl rfl rfl (Q.assign_d rfl) ?_
  refine XOps.nil ?_
  refine W.reg ?_
  refine XOps.s rfl rfl rfl (Q.move_d rfl) ?_
  refine XOps.s rfl rfl rfl (Q.move_d rfl) ?_
  refine XOps.s rfl rfl rfl (Q.sub rfl rfl (wi64 (by first | omega | (dsimp only; omega) | (simp only [List.length_map]; omega)) (by first | omega | (dsimp only; omega) | (simp only [List.length_map]; omega)))) ?_
  refine XOps.s rfl rfl rfl (Q.add rfl rfl (wi64 (by first | omega | (dsimp only; omega) | (simp only [List.length_map]; omega)) (by first | omega | (dsimp only; omega) | (simp only [List.length_map]; omega)))) ?_
  refine XOps.s rfl rfl rfl (Q.assign_d rfl) ?_
  refine XOps.nil ?_
  refine W.reg ?_
  refine XOps.s rfl rfl rfl (Q.move_d rfl) ?_
  refine XOps.s rfl rfl rfl (Q.move_d rfl) ?_
  refine XOps.s rfl rfl rfl (Q.rem rfl rfl (by omega) rfl) ?_
  refine XOps.s rfl rfl rfl (Q.assign_d rfl) ?_
  refine XOps.nil ?_
  refine W.seq ?_
  have hm := cut_mod (n := n) (m := hi - lo + 1) (by omega) rfl
  have hm0 := Int.emod_nonneg n (by omega : hi - lo + 1 ≠ 0)
  have hm1 := Int.emod_lt_of_pos n (by omega : 0 < hi - lo + 1)
  generalize hT : n.tmod (hi - lo + 1) = t at hm ⊢
  refine W.reg ?_
  refine XOps.s rfl rfl rfl (Q.move_d rfl) ?_
  refine XOps.s rfl rfl rfl (Q.lss rfl rfl) ?_
  refine XOps.nil ?_
  refine W.cond rfl (fun hc16 => ?_) (fun hc16 => ?_)
  · try simp only [Bool.or_eq_true, Bool.or_eq_false_iff, Bool.and_eq_true, Bool.and_eq_false_iff, decide_eq_true_eq, decide_eq_false_iff_not, Bool.not_eq_true', Bool.not_eq_false', Int.not_lt, Int.not_le, List.length_map] at hc16
    rw [if_pos hc16] at hm
    refine W.region ?_
    refine XOps.s rfl rfl rfl (Q.move_d rfl) ?_
    refine XOps.s rfl rfl rfl (Q.move_d rfl) ?_
    refine XOps.s rfl rfl rfl (Q.add rfl rfl (wi64 (by first | omega | (dsimp only; omega) | (simp only [List.length_map]; omega)) (by first | omega | (dsimp only; omega) | (simp only [List.length_map]; omega)))) ?_
    refine XOps.s rfl rfl rfl (Q.assign_d rfl) ?_
    refine XOps.nil ?_
    refine W.reg ?_
    refine XOps.s rfl rfl rfl (Q.move_d rfl) ?_
    refine XOps.s rfl rfl rfl (Q.move_d rfl) ?_
    refine XOps.s rfl rfl rfl (Q.add rfl rfl (wi64 (by first | omega | (dsimp only; omega) | (simp only [List.length_map]; omega)) (by first | omega | (dsimp only; omega) | (simp only [List.length_map]; omega)))) ?_
    refine XOps.s rfl rfl rfl (Q.assign_d rfl) ?_
    refine XOps.nil ?_
    refine W.ret ?_
    refine ⟨_, hs, rfl, by repeat (first | exact HLe.refl _ | refine HLe.cons' (by first | rfl | (simp; done)) ?_ | refine HLe.pick 1 rfl (by first | rfl | (simp; done)) ?_ | refine HLe.pick 2 rfl (by first | rfl | (simp; done)) ?_ | refine HLe.pick 3 rfl (by first | rfl | (simp; done)) ?_ | refine HLe.pick 4 rfl (by first | rfl | (simp; done)) ?_ | refine HLe.pick 5 rfl (by first | rfl | (simp; done)) ?_ | refine HLe.skip _ ?_), ?_, rfl⟩
    exact int_eq (by unfold cutI; omega)
  · try simp only [Bool.or_eq_true, Bool.or_eq_false_iff, Bool.and_eq_true, Bool.and_eq_false_iff, decide_eq_true_eq, decide_eq_false_iff_not, Bool.not_eq_true', Bool.not_eq_false', Int.not_lt, Int.not_le, List.length_map] at hc16
    rw [if_neg (by omega)] at hm
    refine W.skip ?_
    refine W.reg ?_
    refine XOps.s rfl rfl rfl (Q.move_d rfl) ?_
    refine XOps.s rfl rfl rfl (Q.move_d rfl) ?_
    refine XOps.s rfl rfl rfl (Q.add rfl rfl (wi64 (by first | omega | (dsimp only; omega) | (simp only [List.length_map]; omega)) (by first | omega | (dsimp only; omega) | (simp only [List.length_map]; omega)))) ?_
    refine XOps.s rfl rfl rfl (Q.assign_d rfl) ?_
    refine XOps.nil ?_
    refine W.ret ?_
    refine ⟨_, hs, rfl, by repeat (first | exact HLe.refl _ | refine HLe.cons' (by first | rfl | (simp; done)) ?_ | refine HLe.pick 1 rfl (by first | rfl | (simp; done)) ?_ | refine HLe.pick 2 rfl (by first | rfl | (simp; done)) ?_ | refine HLe.pick 3 rfl (by first | rfl | (simp; done)) ?_ | refine HLe.pick 4 rfl (by first | rfl | (simp; done)) ?_ | refine HLe.pick 5 rfl (by first | rfl | (simp; done)) ?_ | refine HLe.skip _ ?_), ?_, rfl⟩
    exact int_eq (by unfold cutI; omega)

set_option maxHeartbeats 1000000 in
set_option maxRecDepth 100000 in
theorem inside_c (b : LB) (x y : Int) (hs : Hp) (hb : b.ok) : AC P 7 [.d (.agg b.enc), .d (.int .i64 x), .d (.int .i64 y)] hs (fun r h => r = .d (.bool (insideS b x y)) ∧ h = hs) := by
  unfold LB.ok at hb
  refine AC.of 35 Try.func7 rfl rfl rfl ?_
  refine W.reg ?_
  refine XOps.loud rfl (L.boxn rfl rfl) ?_
  rintro _ _ ⟨b3, rfl, rfl⟩
  refine XOps.s rfl rfl rfl (Q.assign_d rfl) ?_
  refine XOps.nil ?_
  refine W.reg ?_
  refine XOps.s rfl rfl rfl (Q.move_d rfl) ?_
  refine XOps.s rfl rfl rfl (Q.fld_ptr fl23_0 rfl) ?_
  refine XOps.s rfl rfl rfl (Q.ld_ptr (k := 0) ag3 rfl rfl rfl) ?_
  refine XOps.s rfl rfl rfl (Q.geq rfl rfl) ?_
  refine XOps.s rfl rfl rfl (Q.move_d rfl) ?_
  refine XOps.gs rfl rfl rfl rfl rfl rfl rfl (fun hg => Q.move_d rfl) ?_
  refine XOps.gs rfl rfl rfl rfl rfl rfl rfl (fun hg => Q.fld_ptr fl23_0 rfl) ?_
  refine XOps.gs rfl rfl rfl rfl rfl rfl rfl (fun hg => Quiet.open 13 hg rfl (Q.ld_ptr (k := 0) ag3 rfl rfl rfl)) ?_
  refine XOps.gs rfl rfl rfl rfl rfl rfl rfl (fun hg => Q.fld_ptr fl23_2 rfl) ?_
  refine XOps.gs rfl rfl rfl rfl rfl rfl rfl (fun hg => Quiet.open 15 hg rfl (Q.ld_ptr (k := 0) ag3 rfl rfl rfl)) ?_
  refine XOps.gs rfl rfl rfl rfl rfl rfl rfl (fun hg => Quiet.open 14 hg rfl (Quiet.open 16 hg rfl (Q.add rfl rfl (wi64 (by first | omega | (dsimp only; omega) | (simp only [List.length_map]; omega)) (by first | omega | (dsimp only; omega) | (simp only [List.length_map]; omega)))))) ?_
  refine XOps.gs rfl rfl rfl rfl rfl rfl rfl (fun hg => Quiet.open 12 hg rfl (Quiet.open 17 hg rfl (Q.lss rfl rfl))) ?_
  refine XOps.s rfl rfl rfl (Q.pick_and rfl rfl rfl (fun h => by first | (rw [h]; rfl) | (rw [hg, h]; rfl) | (simp [h, hg]; done))) ?_
  refine XOps.s rfl rfl rfl (Q.move_d rfl) ?_
  refine XOps.gs rfl rfl rfl rfl rfl rfl rfl (fun hg => Q.move_d rfl) ?_
  refine XOps.gs rfl rfl rfl rfl rfl rfl rfl (fun hg => Q.fld_ptr fl23_1 rfl) ?_
  refine XOps.gs rfl rfl rfl rfl rfl rfl rfl (fun hg => Quiet.open 22 hg rfl (Q.ld_ptr (k := 0) ag3 rfl rfl rfl)) ?_
  refine XOps.gs rfl rfl rfl rfl rfl rfl rfl (fun hg => Quiet.open 21 hg rfl (Quiet.open 23 hg rfl (Q.geq rfl rfl))) ?_
  refine XOps.s rfl rfl rfl (Q.pick_and rfl rfl rfl (fun h => by first | (rw [h]; rfl) | (rw [hg, h]; rfl) | (simp [h, hg]; done))) ?_
  refine XOps.s rfl rfl rfl (Q.move_d rfl) ?_
  refine XOps.gs rfl rfl rfl rfl rfl rfl rfl (fun hg => Q.move_d rfl) ?_
  refine XOps.gs rfl rfl rfl rfl rfl rfl rfl (fun hg => Q.fld_ptr fl23_1 rfl) ?_
  refine XOps.gs rfl rfl rfl rfl rfl rfl rfl (fun hg => Quiet.open 28 hg rfl (Q.ld_ptr (k := 0) ag3 rfl rfl rfl)) ?_
  refine XOps.gs rfl rfl rfl rfl rfl rfl rfl (fun hg => Q.fld_ptr fl23_3 rfl) ?_
  refine XOps.gs rfl rfl rfl rfl rfl rfl rfl (fun hg => Quiet.open 30 hg rfl (Q.ld_ptr (k := 0) ag3 rfl rfl rfl)) ?_
  refine XOps.gs rfl rfl rfl rfl rfl rfl rfl (fun hg => Quiet.open 29 hg rfl (Quiet.open 31 hg rfl (Q.add rfl rfl (wi64 (by first | omega | (dsimp only; omega) | (simp only [List.length_map]; omega)) (by first | omega | (dsimp only; omega) | (simp only [List.length_map]; omega)))))) ?_
  refine XOps.gs rfl rfl rfl rfl rfl rfl rfl (fun hg => Quiet.open 27 hg rfl (Quiet.open 32 hg rfl (Q.lss rfl rfl))) ?_
  refine XOps.s rfl rfl rfl (Q.pick_and rfl rfl rfl (fun h => by first | (rw [h]; rfl) | (rw [hg, h]; rfl) | (simp [h, hg]; done))) ?_
  refine XOps.s rfl rfl rfl (Q.assign_d rfl) ?_
  refine XOps.nil ?_
  refine W.ret ?_
  refine ⟨_, hs, rfl, by repeat (first | exact HLe.refl _ | refine HLe.cons' (by first | rfl | (simp; done)) ?_ | refine HLe.pick 1 rfl (by first | rfl | (simp; done)) ?_ | refine HLe.pick 2 rfl (by first | rfl | (simp; done)) ?_ | refine HLe.pick 3 rfl (by first | rfl | (simp; done)) ?_ | refine HLe.pick 4 rfl (by first | rfl | (simp; done)) ?_ | refine HLe.pick 5 rfl (by first | rfl | (simp; done)) ?_ | refine HLe.skip _ ?_), ?_, rfl⟩
  rfl

set_option maxHeartbeats 1000000 in
set_option maxRecDepth 100000 in
theorem meet_c (a b : LB) (hs : Hp) (ha : a.ok) (hb : b.ok) : AC P 8 [.d (.agg a.enc), .d (.agg b.enc)] hs (fun r h => r = .d (.bool (meetS a b)) ∧ h = hs) := by
  unfold LB.ok at ha hb
  refine AC.of 43 Try.func8 rfl rfl rfl ?_
  refine W.reg ?_
  refine XOps.loud rfl (L.boxn rfl rfl) ?_
  rintro _ _ ⟨b2, rfl, rfl⟩
  refine XOps.loud rfl (L.boxn rfl rfl) ?_
  rintro _ _ ⟨b3, rfl, rfl⟩
  refine XOps.s rfl rfl rfl (Q.assign_d rfl) ?_
  refine XOps.nil ?_
  refine W.reg ?_
  refine XOps.s rfl rfl rfl (Q.fld_ptr fl23_0 rfl) ?_
  refine XOps.s rfl rfl rfl (Q.ld_ptr (k := 1) ag3 rfl rfl rfl) ?_
  refine XOps.s rfl rfl rfl (Q.fld_ptr fl23_0 rfl) ?_
  refine XOps.s rfl rfl rfl (Q.ld_ptr (k := 0) ag3 rfl rfl rfl) ?_
  refine XOps.s rfl rfl rfl (Q.fld_ptr fl23_2 rfl) ?_
  refine XOps.s rfl rfl rfl (Q.ld_ptr (k := 0) ag3 rfl rfl rfl) ?_
  refine XOps.s rfl rfl rfl (Q.add rfl rfl (wi64 (by first | omega | (dsimp only; omega) | (simp only [List.length_map]; omega)) (by first | omega | (dsimp only; omega) | (simp only [List.length_map]; omega)))) ?_
  refine XOps.s rfl rfl rfl (Q.lss rfl rfl) ?_
  refine XOps.s rfl rfl rfl (Q.move_d rfl) ?_
  refine XOps.gs rfl rfl rfl rfl rfl rfl rfl (fun hg => Q.fld_ptr fl23_0 rfl) ?_
  refine XOps.gs rfl rfl rfl rfl rfl rfl rfl (fun hg => Quiet.open 14 hg rfl (Q.ld_ptr (k := 0) ag3 rfl rfl rfl)) ?_
  refine XOps.gs rfl rfl rfl rfl rfl rfl rfl (fun hg => Q.fld_ptr fl23_0 rfl) ?_
  refine XOps.gs rfl rfl rfl rfl rfl rfl rfl (fun hg => Quiet.open 16 hg rfl (Q.ld_ptr (k := 1) ag3 rfl rfl rfl)) ?_
  refine XOps.gs rfl rfl rfl rfl rfl rfl rfl (fun hg => Q.fld_ptr fl23_2 rfl) ?_
  refine XOps.gs rfl rfl rfl rfl rfl rfl rfl (fun hg => Quiet.open 18 hg rfl (Q.ld_ptr (k := 1) ag3 rfl rfl rfl)) ?_
  refine XOps.gs rfl rfl rfl rfl rfl rfl rfl (fun hg => Quiet.open 17 hg rfl (Quiet.open 19 hg rfl (Q.add rfl rfl (wi64 (by first | omega | (dsimp only; omega) | (simp only [List.length_map]; omega)) (by first | omega | (dsimp only; omega) | (simp only [List.length_map]; omega)))))) ?_
  refine XOps.gs rfl rfl rfl rfl rfl rfl rfl (fun hg => Quiet.open 15 hg rfl (Quiet.open 20 hg rfl (Q.lss rfl rfl))) ?_
  refine XOps.s rfl rfl rfl (Q.pick_and rfl rfl rfl (fun h => by first | (rw [h]; rfl) | (rw [hg, h]; rfl) | (simp [h, hg]; done))) ?_
  refine XOps.s rfl rfl rfl (Q.move_d rfl) ?_
  refine XOps.gs rfl rfl rfl rfl rfl rfl rfl (fun hg => Q.fld_ptr fl23_1 rfl) ?_
  refine XOps.gs rfl rfl rfl rfl rfl rfl rfl (fun hg => Quiet.open 24 hg rfl (Q.ld_ptr (k := 1) ag3 rfl rfl rfl)) ?_
  refine XOps.gs rfl rfl rfl rfl rfl rfl rfl (fun hg => Q.fld_ptr fl23_1 rfl) ?_
  refine XOps.gs rfl rfl rfl rfl rfl rfl rfl (fun hg => Quiet.open 26 hg rfl (Q.ld_ptr (k := 0) ag3 rfl rfl rfl)) ?_
  refine XOps.gs rfl rfl rfl rfl rfl rfl rfl (fun hg => Q.fld_ptr fl23_3 rfl) ?_
  refine XOps.gs rfl rfl rfl rfl rfl rfl rfl (fun hg => Quiet.open 28 hg rfl (Q.ld_ptr (k := 0) ag3 rfl rfl rfl)) ?_
  refine XOps.gs rfl rfl rfl rfl rfl rfl rfl (fun hg => Quiet.open 27 hg rfl (Quiet.open 29 hg rfl (Q.add rfl rfl (wi64 (by first | omega | (dsimp only; omega) | (simp only [List.length_map]; omega)) (by first | omega | (dsimp only; omega) | (simp only [List.length_map]; omega)))))) ?_
  refine XOps.gs rfl rfl rfl rfl rfl rfl rfl (fun hg => Quiet.open 25 hg rfl (Quiet.open 30 hg rfl (Q.lss rfl rfl))) ?_
  refine XOps.s rfl rfl rfl (Q.pick_and rfl rfl rfl (fun h => by first | (rw [h]; rfl) | (rw [hg, h]; rfl) | (simp [h, hg]; done))) ?_
  refine XOps.s rfl rfl rfl (Q.move_d rfl) ?_
  refine XOps.gs rfl rfl rfl rfl rfl rfl rfl (fun hg => Q.fld_ptr fl23_1 rfl) ?_
  refine XOps.gs rfl rfl rfl rfl rfl rfl rfl (fun hg => Quiet.open 34 hg rfl (Q.ld_ptr (k := 0) ag3 rfl rfl rfl)) ?_
  refine XOps.gs rfl rfl rfl rfl rfl rfl rfl (fun hg => Q.fld_ptr fl23_1 rfl) ?_
  refine XOps.gs rfl rfl rfl rfl rfl rfl rfl (fun hg => Quiet.open 36 hg rfl (Q.ld_ptr (k := 1) ag3 rfl rfl rfl)) ?_
  refine XOps.gs rfl rfl rfl rfl rfl rfl rfl (fun hg => Q.fld_ptr fl23_3 rfl) ?_
  refine XOps.gs rfl rfl rfl rfl rfl rfl rfl (fun hg => Quiet.open 38 hg rfl (Q.ld_ptr (k := 1) ag3 rfl rfl rfl)) ?_
  refine XOps.gs rfl rfl rfl rfl rfl rfl rfl (fun hg => Quiet.open 37 hg rfl (Quiet.open 39 hg rfl (Q.add rfl rfl (wi64 (by first | omega | (dsimp only; omega) | (simp only [List.length_map]; omega)) (by first | omega | (dsimp only; omega) | (simp only [List.length_map]; omega)))))) ?_
  refine XOps.gs rfl rfl rfl rfl rfl rfl rfl (fun hg => Quiet.open 35 hg rfl (Quiet.open 40 hg rfl (Q.lss rfl rfl))) ?_
  refine XOps.s rfl rfl rfl (Q.pick_and rfl rfl rfl (fun h => by first | (rw [h]; rfl) | (rw [hg, h]; rfl) | (simp [h, hg]; done))) ?_
  refine XOps.s rfl rfl rfl (Q.assign_d rfl) ?_
  refine XOps.nil ?_
  refine W.ret ?_
  refine ⟨_, hs, rfl, by repeat (first | exact HLe.refl _ | refine HLe.cons' (by first | rfl | (simp; done)) ?_ | refine HLe.pick 1 rfl (by first | rfl | (simp; done)) ?_ | refine HLe.pick 2 rfl (by first | rfl | (simp; done)) ?_ | refine HLe.pick 3 rfl (by first | rfl | (simp; done)) ?_ | refine HLe.pick 4 rfl (by first | rfl | (simp; done)) ?_ | refine HLe.pick 5 rfl (by first | rfl | (simp; done)) ?_ | refine HLe.skip _ ?_), ?_, rfl⟩
  rfl

set_option maxHeartbeats 1000000 in
set_option maxRecDepth 100000 in
theorem meets_c (a b : LB) (hs : Hp) : AC P 3 [.d (.agg a.enc), .d (.agg b.enc)] hs (fun r _ => r = .d (.bool true)) := by
  refine AC.of 93 Try.func3 rfl rfl rfl ?_
  refine W.reg ?_
  refine XOps.loud rfl (L.boxn rfl rfl) ?_
  rintro _ _ ⟨b2, rfl, rfl⟩
  refine XOps.loud rfl (L.boxn rfl rfl) ?_
  rintro _ _ ⟨b3, rfl, rfl⟩
  refine XOps.s rfl rfl rfl (Q.assign_d rfl) ?_
  refine XOps.nil ?_
  refine W.seq ?_
  refine W.reg ?_
  refine XOps.s rfl rfl rfl (Q.buildv ar25 tz25 rfl rfl) ?_
  refine XOps.s rfl rfl rfl (Q.move_d rfl) ?_
  refine XOps.nil ?_
  refine W.block ?_
  refine W.loop (ι := Nat) (fun k => [(2, .ptr b2 0), (3, .ptr b3 0), (10, .aggv [.ptr b2 0, .ptr b3 0]), (11, .d (.int .i64 (k : Nat)))]) (fun k => (b3, .cells ((if 2 ≤ k then b.cut else b).enc.map .d)) :: (b2, .cells ((if 1 ≤ k then a.cut else a).enc.map .d)) :: hs) (fun k => k ≤ 2) (fun k => 2 - k) 0 ?_ ?_ ?_ ?_
  · exact Nat.zero_le _
  · exact ⟨by first | rfl | exact int_eq (by omega) | exact len_eq (by simp) | exact int_eq (by simp; done), by first | rfl | exact int_eq (by omega) | exact len_eq (by simp) | exact int_eq (by simp; done), by first | rfl | exact int_eq (by omega) | exact len_eq (by simp) | exact int_eq (by simp; done), by first | rfl | exact int_eq (by omega) | exact len_eq (by simp) | exact int_eq (by simp; done), trivial⟩
  · repeat (first | exact HLe.refl _ | refine HLe.cons' (by first | rfl | (simp [LB.enc, LB.cut]; done)) ?_ | refine HLe.pick 1 rfl (by first | rfl | (simp [LB.enc, LB.cut]; done)) ?_ | refine HLe.pick 2 rfl (by first | rfl | (simp [LB.enc, LB.cut]; done)) ?_ | refine HLe.pick 3 rfl (by first | rfl | (simp [LB.enc, LB.cut]; done)) ?_ | refine HLe.pick 4 rfl (by first | rfl | (simp [LB.enc, LB.cut]; done)) ?_ | refine HLe.pick 5 rfl (by first | rfl | (simp [LB.enc, LB.cut]; done)) ?_ | refine HLe.skip _ ?_)
  · rintro k hk
    try dsimp only
    rcases (show k = 0 ∨ k = 1 ∨ k = 2 by omega) with rfl | rfl | rfl
    · skip
      refine W.reg ?_
      refine XOps.s rfl rfl rfl (Q.lss rfl rfl) ?_
      refine XOps.nil ?_
      refine W.seq ?_
      refine W.cond_t rfl ?_
      refine W.skip ?_
      refine W.seq ?_
      refine W.block ?_
      refine W.reg ?_
      refine XOps.s rfl rfl rfl (Q.idx_aggv ar25 are25 rfl rfl (by omega) (by omega) rfl) ?_
      refine XOps.s rfl rfl rfl (Q.assign_ptr rfl) ?_
      refine XOps.nil ?_
      refine W.drawT 36 [26, 29, 32, 35] follows (by kernel_rfl) (by decide) ?_
      apply DT.moreS [.new, .new, .new, .new, .new, .new, .new, .new, .new, .new, .new, .new, .new, .new, .new, .new, .new, .new, .new, .new, .new, .new, .new, .new, .new, .new, .now, .later, .later, .later, .later, .later, .later, .later, .later, .later] (by kernel_rfl)
      refine PC.new _ rfl (GQ.q rfl (Q.move_ptr rfl)) rfl ?_
      refine PC.new _ rfl (GQ.q rfl (Q.move_ptr rfl)) rfl ?_
      refine PC.new _ rfl (GQ.q rfl (Q.move_ptr rfl)) rfl ?_
      refine PC.new _ rfl (GQ.q rfl (Q.move_ptr rfl)) rfl ?_
      refine PC.new _ rfl (GQ.q rfl (Q.move_ptr rfl)) rfl ?_
      refine PC.new _ rfl (GQ.q rfl (Q.nil_ptr rfl)) rfl ?_
      refine PC.new _ rfl (GQ.q rfl (Q.fld_ptr fl23_0 rfl)) rfl ?_
      refine PC.new _ rfl (GQ.q rfl (Q.ld_ptr (k := 1) ag3 rfl rfl rfl)) rfl ?_
      refine PC.new _ rfl (GQ.q rfl (Q.call rfl Try.func6 go6 rfl (cut_c a.x (-9) 9 _ (by decide) (by decide) (by decide)))) rfl ?_
      refine PC.new _ rfl (GQ.q rfl (Q.move_ptr rfl)) rfl ?_
      refine PC.new _ rfl (GQ.q rfl (Q.nil_ptr rfl)) rfl ?_
      refine PC.new _ rfl (GQ.q rfl (Q.fld_ptr fl23_1 rfl)) rfl ?_
      refine PC.new _ rfl (GQ.q rfl (Q.ld_ptr (k := 1) ag3 rfl rfl rfl)) rfl ?_
      refine PC.new _ rfl (GQ.q rfl (Q.call rfl Try.func6 go6 rfl (cut_c a.y (-9) 9 _ (by decide) (by decide) (by decide)))) rfl ?_
      refine PC.new _ rfl (GQ.q rfl (Q.move_ptr rfl)) rfl ?_
      refine PC.new _ rfl (GQ.q rfl (Q.nil_ptr rfl)) rfl ?_
      refine PC.new _ rfl (GQ.q rfl (Q.fld_ptr fl23_2 rfl)) rfl ?_
      refine PC.new _ rfl (GQ.q rfl (Q.ld_ptr (k := 1) ag3 rfl rfl rfl)) rfl ?_
      refine PC.new _ rfl (GQ.q rfl (Q.call rfl Try.func6 go6 rfl (cut_c a.w 1 7 _ (by decide) (by decide) (by decide)))) rfl ?_
      refine PC.new _ rfl (GQ.q rfl (Q.move_ptr rfl)) rfl ?_
      refine PC.new _ rfl (GQ.q rfl (Q.nil_ptr rfl)) rfl ?_
      refine PC.new _ rfl (GQ.q rfl (Q.fld_ptr fl23_3 rfl)) rfl ?_
      refine PC.new _ rfl (GQ.q rfl (Q.ld_ptr (k := 1) ag3 rfl rfl rfl)) rfl ?_
      refine PC.new _ rfl (GQ.q rfl (Q.call rfl Try.func6 go6 rfl (cut_c a.h 1 7 _ (by decide) (by decide) (by decide)))) rfl ?_
      refine PC.new _ rfl (GQ.q rfl (Q.nil_ptr rfl)) rfl ?_
      refine PC.new _ rfl (GQ.q rfl (Q.fld_ptr fl23_0 rfl)) rfl ?_
      refine PC.now rfl rfl (fun τ => Loud.to (L.store (k := 1) ag3 ((oev_app rfl).trans rfl) rfl rfl ((oev_app rfl).trans rfl) rfl) (fun _ _ h => ⟨.any, h.1, h.2⟩)) ?_
      refine PC.later rfl ?_
      refine PC.later rfl ?_
      refine PC.later rfl ?_
      refine PC.later rfl ?_
      refine PC.later rfl ?_
      refine PC.later rfl ?_
      refine PC.later rfl ?_
      refine PC.later rfl ?_
      refine PC.later rfl ?_
      refine PC.nil ?_
      rintro _ _ rfl
      apply DT.moreS [.did, .old, .old, .old, .did, .did, .did, .did, .did, .did, .did, .did, .did, .did, .did, .did, .did, .did, .did, .did, .did, .did, .did, .did, .did, .did, .did, .new, .new, .now, .later, .later, .later, .later, .later, .later] (by kernel_rfl)
      refine PC.did rfl ?_
      refine PC.old rfl (GQ.q rfl (Q.move_ptr rfl)) rfl ?_
      refine PC.old rfl (GQ.q rfl (Q.move_ptr rfl)) rfl ?_
      refine PC.old rfl (GQ.q rfl (Q.move_ptr rfl)) rfl ?_
      refine PC.did rfl ?_
      refine PC.did rfl ?_
      refine PC.did rfl ?_
      refine PC.did rfl ?_
      refine PC.did rfl ?_
      refine PC.did rfl ?_
      refine PC.did rfl ?_
      refine PC.did rfl ?_
      refine PC.did rfl ?_
      refine PC.did rfl ?_
      refine PC.did rfl ?_
      refine PC.did rfl ?_
      refine PC.did rfl ?_
      refine PC.did rfl ?_
      refine PC.did rfl ?_
      refine PC.did rfl ?_
      refine PC.did rfl ?_
      refine PC.did rfl ?_
      refine PC.did rfl ?_
      refine PC.did rfl ?_
      refine PC.did rfl ?_
      refine PC.did rfl ?_
      refine PC.did rfl ?_
      refine PC.new _ rfl (GQ.q rfl (Q.nil_ptr rfl)) rfl ?_
      refine PC.new _ rfl (GQ.q rfl (Q.fld_ptr fl23_1 rfl)) rfl ?_
      refine PC.now rfl rfl (fun τ => Loud.to (L.store (k := 1) ag3 ((oev_app rfl).trans rfl) rfl rfl ((oev_app rfl).trans rfl) rfl) (fun _ _ h => ⟨.any, h.1, h.2⟩)) ?_
      refine PC.later rfl ?_
      refine PC.later rfl ?_
      refine PC.later rfl ?_
      refine PC.later rfl ?_
      refine PC.later rfl ?_
      refine PC.later rfl ?_
      refine PC.nil ?_
      rintro _ _ rfl
      apply DT.moreS [.did, .did, .old, .old, .did, .did, .did, .did, .did, .did, .did, .did, .did, .did, .did, .did, .did, .did, .did, .did, .did, .did, .did, .did, .did, .did, .did, .did, .did, .did, .new, .new, .now, .later, .later, .later] (by kernel_rfl)
      refine PC.did rfl ?_
      refine PC.did rfl ?_
      refine PC.old rfl (GQ.q rfl (Q.move_ptr rfl)) rfl ?_
      refine PC.old rfl (GQ.q rfl (Q.move_ptr rfl)) rfl ?_
      refine PC.did rfl ?_
      refine PC.did rfl ?_
      refine PC.did rfl ?_
      refine PC.did rfl ?_
      refine PC.did rfl ?_
      refine PC.did rfl ?_
      refine PC.did rfl ?_
      refine PC.did rfl ?_
      refine PC.did rfl ?_
      refine PC.did rfl ?_
      refine PC.did rfl ?_
      refine PC.did rfl ?_
      refine PC.did rfl ?_
      refine PC.did rfl ?_
      refine PC.did rfl ?_
      refine PC.did rfl ?_
      refine PC.did rfl ?_
      refine PC.did rfl ?_
      refine PC.did rfl ?_
      refine PC.did rfl ?_
      refine PC.did rfl ?_
      refine PC.did rfl ?_
      refine PC.did rfl ?_
      refine PC.did rfl ?_
      refine PC.did rfl ?_
      refine PC.did rfl ?_
      refine PC.new _ rfl (GQ.q rfl (Q.nil_ptr rfl)) rfl ?_
      refine PC.new _ rfl (GQ.q rfl (Q.fld_ptr fl23_2 rfl)) rfl ?_
      refine PC.now rfl rfl (fun τ => Loud.to (L.store (k := 1) ag3 ((oev_app rfl).trans rfl) rfl rfl ((oev_app rfl).trans rfl) rfl) (fun _ _ h => ⟨.any, h.1, h.2⟩)) ?_
      refine PC.later rfl ?_
      refine PC.later rfl ?_
      refine PC.later rfl ?_
      refine PC.nil ?_
      rintro _ _ rfl
      apply DT.moreS [.did, .did, .did, .old, .did, .did, .did, .did, .did, .did, .did, .did, .did, .did, .did, .did, .did, .did, .did, .did, .did, .did, .did, .did, .did, .did, .did, .did, .did, .did, .did, .did, .did, .new, .new, .now] (by kernel_rfl)
      refine PC.did rfl ?_
      refine PC.did rfl ?_
      refine PC.did rfl ?_
      refine PC.old rfl (GQ.q rfl (Q.move_ptr rfl)) rfl ?_
      refine PC.did rfl ?_
      refine PC.did rfl ?_
      refine PC.did rfl ?_
      refine PC.did rfl ?_
      refine PC.did rfl ?_
      refine PC.did rfl ?_
      refine PC.did rfl ?_
      refine PC.did rfl ?_
      refine PC.did rfl ?_
      refine PC.did rfl ?_
      refine PC.did rfl ?_
      refine PC.did rfl ?_
      refine PC.did rfl ?_
      refine PC.did rfl ?_
      refine PC.did rfl ?_
      refine PC.did rfl ?_
      refine PC.did rfl ?_
      refine PC.did rfl ?_
      refine PC.did rfl ?_
      refine PC.did rfl ?_
      refine PC.did rfl ?_
      refine PC.did rfl ?_
      refine PC.did rfl ?_
      refine PC.did rfl ?_
      refine PC.did rfl ?_
      refine PC.did rfl ?_
      refine PC.did rfl ?_
      refine PC.did rfl ?_
      refine PC.did rfl ?_
      refine PC.new _ rfl (GQ.q rfl (Q.nil_ptr rfl)) rfl ?_
      refine PC.new _ rfl (GQ.q rfl (Q.fld_ptr fl23_3 rfl)) rfl ?_
      refine PC.now rfl rfl (fun τ => Loud.to (L.store (k := 1) ag3 ((oev_app rfl).trans rfl) rfl rfl ((oev_app rfl).trans rfl) rfl) (fun _ _ h => ⟨.any, h.1, h.2⟩)) ?_
      refine PC.nil ?_
      rintro _ _ rfl
      refine DT.last [.did, .did, .did, .did, .did, .did, .did, .did, .did, .did, .did, .did, .did, .did, .did, .did, .did, .did, .did, .did, .did, .did, .did, .did, .did, .did, .did, .did, .did, .did, .did, .did, .did, .did, .did, .did] (by kernel_rfl) ?_
      refine PC.did rfl ?_
      refine PC.did rfl ?_
      refine PC.did rfl ?_
      refine PC.did rfl ?_
      refine PC.did rfl ?_
      refine PC.did rfl ?_
      refine PC.did rfl ?_
      refine PC.did rfl ?_
      refine PC.did rfl ?_
      refine PC.did rfl ?_
      refine PC.did rfl ?_
      refine PC.did rfl ?_
      refine PC.did rfl ?_
      refine PC.did rfl ?_
      refine PC.did rfl ?_
      refine PC.did rfl ?_
      refine PC.did rfl ?_
      refine PC.did rfl ?_
      refine PC.did rfl ?_
      refine PC.did rfl ?_
      refine PC.did rfl ?_
      refine PC.did rfl ?_
      refine PC.did rfl ?_
      refine PC.did rfl ?_
      refine PC.did rfl ?_
      refine PC.did rfl ?_
      refine PC.did rfl ?_
      refine PC.did rfl ?_
      refine PC.did rfl ?_
      refine PC.did rfl ?_
      refine PC.did rfl ?_
      refine PC.did rfl ?_
      refine PC.did rfl ?_
      refine PC.did rfl ?_
      refine PC.did rfl ?_
      refine PC.did rfl ?_
      refine PC.nil ?_
      refine XOps.nil ?_
      refine W.region ?_
      refine XOps.s rfl rfl rfl (Q.add rfl rfl (wi64 (by first | omega | (dsimp only; omega) | (simp only [List.length_map]; omega)) (by first | omega | (dsimp only; omega) | (simp only [List.length_map]; omega)))) ?_
      refine XOps.s rfl rfl rfl (Q.move_d rfl) ?_
      refine XOps.nil ?_
      refine ⟨1, ?_, ?_, ?_, ?_⟩
      · omega
      · omega
      · exact ⟨by first | rfl | exact int_eq (by omega) | exact len_eq (by simp) | exact int_eq (by simp; done), by first | rfl | exact int_eq (by omega) | exact len_eq (by simp) | exact int_eq (by simp; done), by first | rfl | exact int_eq (by omega) | exact len_eq (by simp) | exact int_eq (by simp; done), by first | rfl | exact int_eq (by omega) | exact len_eq (by simp) | exact int_eq (by simp; done), trivial⟩
      · repeat (first | exact HLe.refl _ | refine HLe.cons' (by first | rfl | (simp [LB.enc, LB.cut]; done)) ?_ | refine HLe.pick 1 rfl (by first | rfl | (simp [LB.enc, LB.cut]; done)) ?_ | refine HLe.pick 2 rfl (by first | rfl | (simp [LB.enc, LB.cut]; done)) ?_ | refine HLe.pick 3 rfl (by first | rfl | (simp [LB.enc, LB.cut]; done)) ?_ | refine HLe.pick 4 rfl (by first | rfl | (simp [LB.enc, LB.cut]; done)) ?_ | refine HLe.pick 5 rfl (by first | rfl | (simp [LB.enc, LB.cut]; done)) ?_ | refine HLe.skip _ ?_)
    · skip
      refine W.reg ?_
      refine XOps.s rfl rfl rfl (Q.lss rfl rfl) ?_
      refine XOps.nil ?_
      refine W.seq ?_
      refine W.cond_t rfl ?_
      refine W.skip ?_
      refine W.seq ?_
      refine W.block ?_
      refine W.reg ?_
      refine XOps.s rfl rfl rfl (Q.idx_aggv ar25 are25 rfl rfl (by omega) (by omega) rfl) ?_
      refine XOps.s rfl rfl rfl (Q.assign_ptr rfl) ?_
      refine XOps.nil ?_
      refine W.drawT 36 [26, 29, 32, 35] follows (by kernel_rfl) (by decide) ?_
      apply DT.moreS [.new, .new, .new, .new, .new, .new, .new, .new, .new, .new, .new, .new, .new, .new, .new, .new, .new, .new, .new, .new, .new, .new, .new, .new, .new, .new, .now, .later, .later, .later, .later, .later, .later, .later, .later, .later] (by kernel_rfl)
      refine PC.new _ rfl (GQ.q rfl (Q.move_ptr rfl)) rfl ?_
      refine PC.new _ rfl (GQ.q rfl (Q.move_ptr rfl)) rfl ?_
      refine PC.new _ rfl (GQ.q rfl (Q.move_ptr rfl)) rfl ?_
      refine PC.new _ rfl (GQ.q rfl (Q.move_ptr rfl)) rfl ?_
      refine PC.new _ rfl (GQ.q rfl (Q.move_ptr rfl)) rfl ?_
      refine PC.new _ rfl (GQ.q rfl (Q.nil_ptr rfl)) rfl ?_
      refine PC.new _ rfl (GQ.q rfl (Q.fld_ptr fl23_0 rfl)) rfl ?_
      refine PC.new _ rfl (GQ.q rfl (Q.ld_ptr (k := 0) ag3 rfl rfl rfl)) rfl ?_
      refine PC.new _ rfl (GQ.q rfl (Q.call rfl Try.func6 go6 rfl (cut_c b.x (-9) 9 _ (by decide) (by decide) (by decide)))) rfl ?_
      refine PC.new _ rfl (GQ.q rfl (Q.move_ptr rfl)) rfl ?_
      refine PC.new _ rfl (GQ.q rfl (Q.nil_ptr rfl)) rfl ?_
      refine PC.new _ rfl (GQ.q rfl (Q.fld_ptr fl23_1 rfl)) rfl ?_
      refine PC.new _ rfl (GQ.q rfl (Q.ld_ptr (k := 0) ag3 rfl rfl rfl)) rfl ?_
      refine PC.new _ rfl (GQ.q rfl (Q.call rfl Try.func6 go6 rfl (cut_c b.y (-9) 9 _ (by decide) (by decide) (by decide)))) rfl ?_
      refine PC.new _ rfl (GQ.q rfl (Q.move_ptr rfl)) rfl ?_
      refine PC.new _ rfl (GQ.q rfl (Q.nil_ptr rfl)) rfl ?_
      refine PC.new _ rfl (GQ.q rfl (Q.fld_ptr fl23_2 rfl)) rfl ?_
      refine PC.new _ rfl (GQ.q rfl (Q.ld_ptr (k := 0) ag3 rfl rfl rfl)) rfl ?_
      refine PC.new _ rfl (GQ.q rfl (Q.call rfl Try.func6 go6 rfl (cut_c b.w 1 7 _ (by decide) (by decide) (by decide)))) rfl ?_
      refine PC.new _ rfl (GQ.q rfl (Q.move_ptr rfl)) rfl ?_
      refine PC.new _ rfl (GQ.q rfl (Q.nil_ptr rfl)) rfl ?_
      refine PC.new _ rfl (GQ.q rfl (Q.fld_ptr fl23_3 rfl)) rfl ?_
      refine PC.new _ rfl (GQ.q rfl (Q.ld_ptr (k := 0) ag3 rfl rfl rfl)) rfl ?_
      refine PC.new _ rfl (GQ.q rfl (Q.call rfl Try.func6 go6 rfl (cut_c b.h 1 7 _ (by decide) (by decide) (by decide)))) rfl ?_
      refine PC.new _ rfl (GQ.q rfl (Q.nil_ptr rfl)) rfl ?_
      refine PC.new _ rfl (GQ.q rfl (Q.fld_ptr fl23_0 rfl)) rfl ?_
      refine PC.now rfl rfl (fun τ => Loud.to (L.store (k := 0) ag3 ((oev_app rfl).trans rfl) rfl rfl ((oev_app rfl).trans rfl) rfl) (fun _ _ h => ⟨.any, h.1, h.2⟩)) ?_
      refine PC.later rfl ?_
      refine PC.later rfl ?_
      refine PC.later rfl ?_
      refine PC.later rfl ?_
      refine PC.later rfl ?_
      refine PC.later rfl ?_
      refine PC.later rfl ?_
      refine PC.later rfl ?_
      refine PC.later rfl ?_
      refine PC.nil ?_
      rintro _ _ rfl
      apply DT.moreS [.did, .old, .old, .old, .did, .did, .did, .did, .did, .did, .did, .did, .did, .did, .did, .did, .did, .did, .did, .did, .did, .did, .did, .did, .did, .did, .did, .new, .new, .now, .later, .later, .later, .later, .later, .later] (by kernel_rfl)
      refine PC.did rfl ?_
      refine PC.old rfl (GQ.q rfl (Q.move_ptr rfl)) rfl ?_
      refine PC.old rfl (GQ.q rfl (Q.move_ptr rfl)) rfl ?_
      refine PC.old rfl (GQ.q rfl (Q.move_ptr rfl)) rfl ?_
      refine PC.did rfl ?_
      refine PC.did rfl ?_
      refine PC.did rfl ?_
      refine PC.did rfl ?_
      refine PC.did rfl ?_
      refine PC.did rfl ?_
      refine PC.did rfl ?_
      refine PC.did rfl ?_
      refine PC.did rfl ?_
      refine PC.did rfl ?_
      refine PC.did rfl ?_
      refine PC.did rfl ?_
      refine PC.did rfl ?_
      refine PC.did rfl ?_
      refine PC.did rfl ?_
      refine PC.did rfl ?_
      refine PC.did rfl ?_
      refine PC.did rfl ?_
      refine PC.did rfl ?_
      refine PC.did rfl ?_
      refine PC.did rfl ?_
      refine PC.did rfl ?_
      refine PC.did rfl ?_
      refine PC.new _ rfl (GQ.q rfl (Q.nil_ptr rfl)) rfl ?_
      refine PC.new _ rfl (GQ.q rfl (Q.fld_ptr fl23_1 rfl)) rfl ?_
      refine PC.now rfl rfl (fun τ => Loud.to (L.store (k := 0) ag3 ((oev_app rfl).trans rfl) rfl rfl ((oev_app rfl).trans rfl) rfl) (fun _ _ h => ⟨.any, h.1, h.2⟩)) ?_
      refine PC.later rfl ?_
      refine PC.later rfl ?_
      refine PC.later rfl ?_
      refine PC.later rfl ?_
      refine PC.later rfl ?_
      refine PC.later rfl ?_
      refine PC.nil ?_
      rintro _ _ rfl
      apply DT.moreS [.did, .did, .old, .old, .did, .did, .did, .did, .did, .did, .did, .did, .did, .did, .did, .did, .did, .did, .did, .did, .did, .did, .did, .did, .did, .did, .did, .did, .did, .did, .new, .new, .now, .later, .later, .later] (by kernel_rfl)
      refine PC.did rfl ?_
      refine PC.did rfl ?_
      refine PC.old rfl (GQ.q rfl (Q.move_ptr rfl)) rfl ?_
      refine PC.old rfl (GQ.q rfl (Q.move_ptr rfl)) rfl ?_
      refine PC.did rfl ?_
      refine PC.did rfl ?_
      refine PC.did rfl ?_
      refine PC.did rfl ?_
      refine PC.did rfl ?_
      refine PC.did rfl ?_
      refine PC.did rfl ?_
      refine PC.did rfl ?_
      refine PC.did rfl ?_
      refine PC.did rfl ?_
      refine PC.did rfl ?_
      refine PC.did rfl ?_
      refine PC.did rfl ?_
      refine PC.did rfl ?_
      refine PC.did rfl ?_
      refine PC.did rfl ?_
      refine PC.did rfl ?_
      refine PC.did rfl ?_
      refine PC.did rfl ?_
      refine PC.did rfl ?_
      refine PC.did rfl ?_
      refine PC.did rfl ?_
      refine PC.did rfl ?_
      refine PC.did rfl ?_
      refine PC.did rfl ?_
      refine PC.did rfl ?_
      refine PC.new _ rfl (GQ.q rfl (Q.nil_ptr rfl)) rfl ?_
      refine PC.new _ rfl (GQ.q rfl (Q.fld_ptr fl23_2 rfl)) rfl ?_
      refine PC.now rfl rfl (fun τ => Loud.to (L.store (k := 0) ag3 ((oev_app rfl).trans rfl) rfl rfl ((oev_app rfl).trans rfl) rfl) (fun _ _ h => ⟨.any, h.1, h.2⟩)) ?_
      refine PC.later rfl ?_
      refine PC.later rfl ?_
      refine PC.later rfl ?_
      refine PC.nil ?_
      rintro _ _ rfl
      apply DT.moreS [.did, .did, .did, .old, .did, .did, .did, .did, .did, .did, .did, .did, .did, .did, .did, .did, .did, .did, .did, .did, .did, .did, .did, .did, .did, .did, .did, .did, .did, .did, .did, .did, .did, .new, .new, .now] (by kernel_rfl)
      refine PC.did rfl ?_
      refine PC.did rfl ?_
      refine PC.did rfl ?_
      refine PC.old rfl (GQ.q rfl (Q.move_ptr rfl)) rfl ?_
      refine PC.did rfl ?_
      refine PC.did rfl ?_
      refine PC.did rfl ?_
      refine PC.did rfl ?_
      refine PC.did rfl ?_
      refine PC.did rfl ?_
      refine PC.did rfl ?_
      refine PC.did rfl ?_
      refine PC.did rfl ?_
      refine PC.did rfl ?_
      refine PC.did rfl ?_
      refine PC.did rfl ?_
      refine PC.did rfl ?_
      refine PC.did rfl ?_
      refine PC.did rfl ?_
      refine PC.did rfl ?_
      refine PC.did rfl ?_
      refine PC.did rfl ?_
      refine PC.did rfl ?_
      refine PC.did rfl ?_
      refine PC.did rfl ?_
      refine PC.did rfl ?_
      refine PC.did rfl ?_
      refine PC.did rfl ?_
      refine PC.did rfl ?_
      refine PC.did rfl ?_
      refine PC.did rfl ?_
      refine PC.did rfl ?_
      refine PC.did rfl ?_
      refine PC.new _ rfl (GQ.q rfl (Q.nil_ptr rfl)) rfl ?_
      refine PC.new _ rfl (GQ.q rfl (Q.fld_ptr fl23_3 rfl)) rfl ?_
      refine PC.now rfl rfl (fun τ => Loud.to (L.store (k := 0) ag3 ((oev_app rfl).trans rfl) rfl rfl ((oev_app rfl).trans rfl) rfl) (fun _ _ h => ⟨.any, h.1, h.2⟩)) ?_
      refine PC.nil ?_
      rintro _ _ rfl
      refine DT.last [.did, .did, .did, .did, .did, .did, .did, .did, .did, .did, .did, .did, .did, .did, .did, .did, .did, .did, .did, .did, .did, .did, .did, .did, .did, .did, .did, .did, .did, .did, .did, .did, .did, .did, .did, .did] (by kernel_rfl) ?_
      refine PC.did rfl ?_
      refine PC.did rfl ?_
      refine PC.did rfl ?_
      refine PC.did rfl ?_
      refine PC.did rfl ?_
      refine PC.did rfl ?_
      refine PC.did rfl ?_
      refine PC.did rfl ?_
      refine PC.did rfl ?_
      refine PC.did rfl ?_
      refine PC.did rfl ?_
      refine PC.did rfl ?_
      refine PC.did rfl ?_
      refine PC.did rfl ?_
      refine PC.did rfl ?_
      refine PC.did rfl ?_
      refine PC.did rfl ?_
      refine PC.did rfl ?_
      refine PC.did rfl ?_
      refine PC.did rfl ?_
      refine PC.did rfl ?_
      refine PC.did rfl ?_
      refine PC.did rfl ?_
      refine PC.did rfl ?_
      refine PC.did rfl ?_
      refine PC.did rfl ?_
      refine PC.did rfl ?_
      refine PC.did rfl ?_
      refine PC.did rfl ?_
      refine PC.did rfl ?_
      refine PC.did rfl ?_
      refine PC.did rfl ?_
      refine PC.did rfl ?_
      refine PC.did rfl ?_
      refine PC.did rfl ?_
      refine PC.did rfl ?_
      refine PC.nil ?_
      refine XOps.nil ?_
      refine W.region ?_
      refine XOps.s rfl rfl rfl (Q.add rfl rfl (wi64 (by first | omega | (dsimp only; omega) | (simp only [List.length_map]; omega)) (by first | omega | (dsimp only; omega) | (simp only [List.length_map]; omega)))) ?_
      refine XOps.s rfl rfl rfl (Q.move_d rfl) ?_
      refine XOps.nil ?_
      refine ⟨2, ?_, ?_, ?_, ?_⟩
      · omega
      · omega
      · exact ⟨by first | rfl | exact int_eq (by omega) | exact len_eq (by simp) | exact int_eq (by simp; done), by first | rfl | exact int_eq (by omega) | exact len_eq (by simp) | exact int_eq (by simp; done), by first | rfl | exact int_eq (by omega) | exact len_eq (by simp) | exact int_eq (by simp; done), by first | rfl | exact int_eq (by omega) | exact len_eq (by simp) | exact int_eq (by simp; done), trivial⟩
      · repeat (first | exact HLe.refl _ | refine HLe.cons' (by first | rfl | (simp [LB.enc, LB.cut]; done)) ?_ | refine HLe.pick 1 rfl (by first | rfl | (simp [LB.enc, LB.cut]; done)) ?_ | refine HLe.pick 2 rfl (by first | rfl | (simp [LB.enc, LB.cut]; done)) ?_ | refine HLe.pick 3 rfl (by first | rfl | (simp [LB.enc, LB.cut]; done)) ?_ | refine HLe.pick 4 rfl (by first | rfl | (simp [LB.enc, LB.cut]; done)) ?_ | refine HLe.pick 5 rfl (by first | rfl | (simp [LB.enc, LB.cut]; done)) ?_ | refine HLe.skip _ ?_)
    · skip
      refine W.reg ?_
      refine XOps.s rfl rfl rfl (Q.lss rfl rfl) ?_
      refine XOps.nil ?_
      refine W.seq ?_
      refine W.cond_f rfl ?_
      refine W.exit ?_
      have hca := LB.cut_ok a
      have hcb := LB.cut_ok b
      generalize a.cut = A at *
      generalize b.cut = B at *
      have ha2 := hca
      have hb2 := hcb
      unfold LB.ok at ha2 hb2
      refine W.reg ?_
      refine XOps.s rfl rfl rfl (Q.assign_d rfl) ?_
      refine XOps.nil ?_
      refine W.seq ?_
      refine W.reg ?_
      refine XOps.s rfl rfl rfl (Q.fld_ptr fl23_1 rfl) ?_
      refine XOps.s rfl rfl rfl (Q.ld_ptr (k := 1) ag3 rfl rfl rfl) ?_
      refine XOps.s rfl rfl rfl (Q.assign_d rfl) ?_
      refine XOps.nil ?_
      refine W.block ?_
      refine W.loop (ι := Nat) (fun k => [(2, .ptr b2 0), (3, .ptr b3 0), (7, .d (.bool (boxAny B A.x A.y A.w.toNat k))), (8, .d (.int .i64 (A.y + k)))]) (fun k => (b3, .cells (B.enc.map .d)) :: (b2, .cells (A.enc.map .d)) :: hs) (fun k => k ≤ A.h.toNat) (fun k => A.h.toNat - k) 0 ?_ ?_ ?_ ?_
      · exact Nat.zero_le _
      · exact ⟨by first | rfl | exact int_eq (by omega) | exact len_eq (by simp) | exact int_eq (by simp; done), by first | rfl | exact int_eq (by omega) | exact len_eq (by simp) | exact int_eq (by simp; done), by first | rfl | exact int_eq (by omega) | exact len_eq (by simp) | exact int_eq (by simp; done), by first | rfl | exact int_eq (by omega) | exact len_eq (by simp) | exact int_eq (by simp; done), trivial⟩
      · repeat (first | exact HLe.refl _ | refine HLe.cons' (by first | rfl | (simp [LB.enc, LB.cut]; done)) ?_ | refine HLe.pick 1 rfl (by first | rfl | (simp [LB.enc, LB.cut]; done)) ?_ | refine HLe.pick 2 rfl (by first | rfl | (simp [LB.enc, LB.cut]; done)) ?_ | refine HLe.pick 3 rfl (by first | rfl | (simp [LB.enc, LB.cut]; done)) ?_ | refine HLe.pick 4 rfl (by first | rfl | (simp [LB.enc, LB.cut]; done)) ?_ | refine HLe.pick 5 rfl (by first | rfl | (simp [LB.enc, LB.cut]; done)) ?_ | refine HLe.skip _ ?_)
      · rintro k hk
        try dsimp only
        refine W.seq ?_
        refine W.reg ?_
        refine XOps.s rfl rfl rfl (Q.move_d rfl) ?_
        refine XOps.s rfl rfl rfl (Q.fld_ptr fl23_1 rfl) ?_
        refine XOps.s rfl rfl rfl (Q.ld_ptr (k := 1) ag3 rfl rfl rfl) ?_
        refine XOps.s rfl rfl rfl (Q.fld_ptr fl23_3 rfl) ?_
        refine XOps.s rfl rfl rfl (Q.ld_ptr (k := 1) ag3 rfl rfl rfl) ?_
        refine XOps.s rfl rfl rfl (Q.add rfl rfl (wi64 (by first | omega | (dsimp only; omega) | (simp only [List.length_map]; omega)) (by first | omega | (dsimp only; omega) | (simp only [List.length_map]; omega)))) ?_
        refine XOps.s rfl rfl rfl (Q.lss rfl rfl) ?_
        refine XOps.nil ?_
        refine W.cond rfl (fun hc55 => ?_) (fun hc55 => ?_)
        · try simp only [Bool.or_eq_true, Bool.or_eq_false_iff, Bool.and_eq_true, Bool.and_eq_false_iff, decide_eq_true_eq, decide_eq_false_iff_not, Bool.not_eq_true', Bool.not_eq_false', Int.not_lt, Int.not_le, List.length_map] at hc55
          refine W.skip ?_
          refine W.seq ?_
          refine W.block ?_
          refine W.reg ?_
          refine XOps.s rfl rfl rfl (Q.fld_ptr fl23_0 rfl) ?_
          refine XOps.s rfl rfl rfl (Q.ld_ptr (k := 1) ag3 rfl rfl rfl) ?_
          refine XOps.s rfl rfl rfl (Q.assign_d rfl) ?_
          refine XOps.nil ?_
          refine W.block ?_
          refine W.loop (ι := Nat) (fun j => [(2, .ptr b2 0), (3, .ptr b3 0), (7, .d (.bool (boxAny B A.x A.y A.w.toNat k || rowAny B A.x (A.y + k) j))), (8, .d (.int .i64 (A.y + k))), (9, .d (.int .i64 (A.x + j)))]) (fun j => (b3, .cells (B.enc.map .d)) :: (b2, .cells (A.enc.map .d)) :: hs) (fun j => j ≤ A.w.toNat) (fun j => A.w.toNat - j) 0 ?_ ?_ ?_ ?_
          · exact Nat.zero_le _
          · exact ⟨by first | rfl | exact int_eq (by omega) | exact len_eq (by simp) | exact int_eq (by simp; done), by first | rfl | exact int_eq (by omega) | exact len_eq (by simp) | exact int_eq (by simp; done), by (rw [show rowAny B A.x (A.y + k) 0 = false from rfl, Bool.or_false]; rfl), by first | rfl | exact int_eq (by omega) | exact len_eq (by simp) | exact int_eq (by simp; done), by first | rfl | exact int_eq (by omega) | exact len_eq (by simp) | exact int_eq (by simp; done), trivial⟩
          · repeat (first | exact HLe.refl _ | refine HLe.cons' (by first | rfl | (simp [LB.enc, LB.cut]; done)) ?_ | refine HLe.pick 1 rfl (by first | rfl | (simp [LB.enc, LB.cut]; done)) ?_ | refine HLe.pick 2 rfl (by first | rfl | (simp [LB.enc, LB.cut]; done)) ?_ | refine HLe.pick 3 rfl (by first | rfl | (simp [LB.enc, LB.cut]; done)) ?_ | refine HLe.pick 4 rfl (by first | rfl | (simp [LB.enc, LB.cut]; done)) ?_ | refine HLe.pick 5 rfl (by first | rfl | (simp [LB.enc, LB.cut]; done)) ?_ | refine HLe.skip _ ?_)
          · rintro j hj
            try dsimp only
            refine W.seq ?_
            refine W.reg ?_
            refine XOps.s rfl rfl rfl (Q.move_d rfl) ?_
            refine XOps.s rfl rfl rfl (Q.fld_ptr fl23_0 rfl) ?_
            refine XOps.s rfl rfl rfl (Q.ld_ptr (k := 1) ag3 rfl rfl rfl) ?_
            refine XOps.s rfl rfl rfl (Q.fld_ptr fl23_2 rfl) ?_
            refine XOps.s rfl rfl rfl (Q.ld_ptr (k := 1) ag3 rfl rfl rfl) ?_
            refine XOps.s rfl rfl rfl (Q.add rfl rfl (wi64 (by first | omega | (dsimp only; omega) | (simp only [List.length_map]; omega)) (by first | omega | (dsimp only; omega) | (simp only [List.length_map]; omega)))) ?_
            refine XOps.s rfl rfl rfl (Q.lss rfl rfl) ?_
            refine XOps.nil ?_
            refine W.cond rfl (fun hc66 => ?_) (fun hc66 => ?_)
            · try simp only [Bool.or_eq_true, Bool.or_eq_false_iff, Bool.and_eq_true, Bool.and_eq_false_iff, decide_eq_true_eq, decide_eq_false_iff_not, Bool.not_eq_true', Bool.not_eq_false', Int.not_lt, Int.not_le, List.length_map] at hc66
              refine W.skip ?_
              refine W.seq ?_
              refine W.block ?_
              refine W.region ?_
              refine XOps.s rfl rfl rfl (Q.move_d rfl) ?_
              refine XOps.s rfl rfl rfl (Q.move_d rfl) ?_
              refine XOps.gs rfl rfl rfl rfl rfl rfl rfl (fun hg => Q.ld_ptrn (k := 0) ag23 rfl rfl rfl) ?_
              refine XOps.gs rfl rfl rfl rfl rfl rfl rfl (fun hg => Q.move_d rfl) ?_
              refine XOps.gs rfl rfl rfl rfl rfl rfl rfl (fun hg => Q.move_d rfl) ?_
              refine XOps.gs rfl rfl rfl rfl rfl rfl rfl (fun hg => Quiet.open 71 hg rfl (Quiet.open 72 hg rfl (Quiet.open 73 hg rfl (Q.call rfl Try.func7 go7 rfl (inside_c B _ _ _ hcb))))) ?_
              refine XOps.s rfl rfl rfl (Q.pick_or rfl rfl rfl (fun h => by first | (rw [h]; rfl) | (rw [hg, h]; rfl) | (simp [h, hg]; done))) ?_
              refine XOps.s rfl rfl rfl (Q.assign_d rfl) ?_
              refine XOps.nil ?_
              refine W.region ?_
              refine XOps.s rfl rfl rfl (Q.move_d rfl) ?_
              refine XOps.s rfl rfl rfl (Q.add rfl rfl (wi64 (by first | omega | (dsimp only; omega) | (simp only [List.length_map]; omega)) (by first | omega | (dsimp only; omega) | (simp only [List.length_map]; omega)))) ?_
              refine XOps.s rfl rfl rfl (Q.assign_d rfl) ?_
              refine XOps.nil ?_
              refine ⟨j + 1, ?_, ?_, ?_, ?_⟩
              · omega
              · omega
              · exact ⟨by first | rfl | exact int_eq (by omega) | exact len_eq (by simp) | exact int_eq (by simp; done), by first | rfl | exact int_eq (by omega) | exact len_eq (by simp) | exact int_eq (by simp; done), by (rw [rowAny_succ, ← Bool.or_assoc]; rfl), by first | rfl | exact int_eq (by omega) | exact len_eq (by simp) | exact int_eq (by simp; done), by first | rfl | exact int_eq (by omega) | exact len_eq (by simp) | exact int_eq (by simp; done), trivial⟩
              · repeat (first | exact HLe.refl _ | refine HLe.cons' (by first | rfl | (simp [LB.enc, LB.cut]; done)) ?_ | refine HLe.pick 1 rfl (by first | rfl | (simp [LB.enc, LB.cut]; done)) ?_ | refine HLe.pick 2 rfl (by first | rfl | (simp [LB.enc, LB.cut]; done)) ?_ | refine HLe.pick 3 rfl (by first | rfl | (simp [LB.enc, LB.cut]; done)) ?_ | refine HLe.pick 4 rfl (by first | rfl | (simp [LB.enc, LB.cut]; done)) ?_ | refine HLe.pick 5 rfl (by first | rfl | (simp [LB.enc, LB.cut]; done)) ?_ | refine HLe.skip _ ?_)
            · try simp only [Bool.or_eq_true, Bool.or_eq_false_iff, Bool.and_eq_true, Bool.and_eq_false_iff, decide_eq_true_eq, decide_eq_false_iff_not, Bool.not_eq_true', Bool.not_eq_false', Int.not_lt, Int.not_le, List.length_map] at hc66
              refine W.exit ?_
              refine W.region ?_
              refine XOps.s rfl rfl rfl (Q.move_d rfl) ?_
              refine XOps.s rfl rfl rfl (Q.add rfl rfl (wi64 (by first | omega | (dsimp only; omega) | (simp only [List.length_map]; omega)) (by first | omega | (dsimp only; omega) | (simp only [List.length_map]; omega)))) ?_
              refine XOps.s rfl rfl rfl (Q.assign_d rfl) ?_
              refine XOps.nil ?_
              refine ⟨k + 1, ?_, ?_, ?_, ?_⟩
              · omega
              · omega
              · exact ⟨by first | rfl | exact int_eq (by omega) | exact len_eq (by simp) | exact int_eq (by simp; done), by first | rfl | exact int_eq (by omega) | exact len_eq (by simp) | exact int_eq (by simp; done), by (rw [boxAny_succ, show A.w.toNat = j by omega]; rfl), by first | rfl | exact int_eq (by omega) | exact len_eq (by simp) | exact int_eq (by simp; done), trivial⟩
              · repeat (first | exact HLe.refl _ | refine HLe.cons' (by first | rfl | (simp [LB.enc, LB.cut]; done)) ?_ | refine HLe.pick 1 rfl (by first | rfl | (simp [LB.enc, LB.cut]; done)) ?_ | refine HLe.pick 2 rfl (by first | rfl | (simp [LB.enc, LB.cut]; done)) ?_ | refine HLe.pick 3 rfl (by first | rfl | (simp [LB.enc, LB.cut]; done)) ?_ | refine HLe.pick 4 rfl (by first | rfl | (simp [LB.enc, LB.cut]; done)) ?_ | refine HLe.pick 5 rfl (by first | rfl | (simp [LB.enc, LB.cut]; done)) ?_ | refine HLe.skip _ ?_)
        · try simp only [Bool.or_eq_true, Bool.or_eq_false_iff, Bool.and_eq_true, Bool.and_eq_false_iff, decide_eq_true_eq, decide_eq_false_iff_not, Bool.not_eq_true', Bool.not_eq_false', Int.not_lt, Int.not_le, List.length_map] at hc55
          refine W.exit ?_
          refine W.reg ?_
          refine XOps.s rfl rfl rfl (Q.build pl23 tz23 tzd23 rfl) ?_
          refine XOps.s rfl rfl rfl (Q.build pl23 tz23 tzd23 rfl) ?_
          refine XOps.s rfl rfl rfl (Q.call rfl Try.func8 go8 rfl (meet_c ⟨0, 0, 1, 1⟩ ⟨0, 0, 1, 1⟩ _ (by unfold LB.ok; decide) (by unfold LB.ok; decide))) ?_
          refine XOps.s rfl rfl rfl (Q.move_d rfl) ?_
          refine XOps.gs rfl rfl rfl rfl rfl rfl rfl (fun hg => Q.ld_ptrn (k := 1) ag23 rfl rfl rfl) ?_
          refine XOps.gs rfl rfl rfl rfl rfl rfl rfl (fun hg => Q.ld_ptrn (k := 0) ag23 rfl rfl rfl) ?_
          refine XOps.gs rfl rfl rfl rfl rfl rfl rfl (fun hg => Quiet.open 80 hg rfl (Quiet.open 81 hg rfl (Q.call rfl Try.func8 go8 rfl (meet_c A B _ hca hcb)))) ?_
          refine XOps.gs rfl rfl rfl rfl rfl rfl rfl (fun hg => Q.move_d rfl) ?_
          refine XOps.gs rfl rfl rfl rfl rfl rfl rfl (fun hg => Quiet.open 82 hg rfl (Quiet.open 83 hg rfl (Q.eql_bool isb4 rfl rfl))) ?_
          refine XOps.s rfl rfl rfl (Q.pick_and rfl rfl rfl (fun h => by first | (rw [h]; rfl) | (rw [hg, h]; rfl) | (simp [h, hg]; done))) ?_
          refine XOps.s rfl rfl rfl (Q.move_d rfl) ?_
          refine XOps.gs rfl rfl rfl rfl rfl rfl rfl (fun hg => Q.ld_ptrn (k := 0) ag23 rfl rfl rfl) ?_
          refine XOps.gs rfl rfl rfl rfl rfl rfl rfl (fun hg => Q.ld_ptrn (k := 1) ag23 rfl rfl rfl) ?_
          refine XOps.gs rfl rfl rfl rfl rfl rfl rfl (fun hg => Quiet.open 87 hg rfl (Quiet.open 88 hg rfl (Q.call rfl Try.func8 go8 rfl (meet_c B A _ hcb hca)))) ?_
          refine XOps.gs rfl rfl rfl rfl rfl rfl rfl (fun hg => Q.move_d rfl) ?_
          refine XOps.gs rfl rfl rfl rfl rfl rfl rfl (fun hg => Quiet.open 89 hg rfl (Quiet.open 90 hg rfl (Q.eql_bool isb4 rfl rfl))) ?_
          refine XOps.s rfl rfl rfl (Q.pick_and rfl rfl rfl (fun h => by first | (rw [h]; rfl) | (rw [hg, h]; rfl) | (simp [h, hg]; done))) ?_
          refine XOps.s rfl rfl rfl (Q.assign_d rfl) ?_
          refine XOps.nil ?_
          refine W.ret ?_
          refine ⟨_, hs, rfl, by repeat (first | exact HLe.refl _ | refine HLe.cons' (by first | rfl | (simp [LB.enc, LB.cut]; done)) ?_ | refine HLe.pick 1 rfl (by first | rfl | (simp [LB.enc, LB.cut]; done)) ?_ | refine HLe.pick 2 rfl (by first | rfl | (simp [LB.enc, LB.cut]; done)) ?_ | refine HLe.pick 3 rfl (by first | rfl | (simp [LB.enc, LB.cut]; done)) ?_ | refine HLe.pick 4 rfl (by first | rfl | (simp [LB.enc, LB.cut]; done)) ?_ | refine HLe.pick 5 rfl (by first | rfl | (simp [LB.enc, LB.cut]; done)) ?_ | refine HLe.skip _ ?_), ?_⟩
          obtain rfl : k = A.h.toNat := by omega
          rw [boxAny_meet hca hcb, meetS_comm B A]
          cases meetS A B <;> rfl
end Go.Proofs.YtgfmogfjemigmaaA
