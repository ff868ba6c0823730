/- Cells and lines of package screen. -/
import Derived.Test.YtijgdgkfimnkbaaBase
import Derived.Test.YtijgdgkfimnkbaaSpec
import Derived.Test.YtijgdgkfimnkbaaAbs16
import Derived.Test.YtijgdgkfimnkbaaAbs31
set_option linter.unusedVariables false
set_option linter.unusedSimpArgs false
set_option linter.unnecessarySimpa false
namespace Go.Proofs.YtijgdgkfimnkbaaA.FWalkA
open Go
theorem ag23 : tAgg P 23 = some ((true, 2)) := by kernel_rfl
theorem ag25 : tAgg P 25 = some ((true, 5)) := by kernel_rfl
theorem ag27 : tAgg P 27 = some ((true, 2)) := by kernel_rfl
theorem ag3 : tAgg P 3 = some ((false, 1)) := by kernel_rfl
theorem ap42 : tApp P 42 = some ((2, 16)) := by kernel_rfl
theorem ar70 : tArr P 70 = some ((4, 1)) := by kernel_rfl
theorem are70 : tEl P 70 = some ((false, 1)) := by kernel_rfl
theorem eqt27 : tEq P 27 = some ([.int .i64, .int .i64]) := by kernel_rfl
theorem fl23_0 : tFld P 23 0 = some (0) := by kernel_rfl
theorem fl23_1 : tFld P 23 1 = some (1) := by kernel_rfl
theorem fl25_0 : tFld P 25 0 = some (0) := by kernel_rfl
theorem fl25_1 : tFld P 25 1 = some (2) := by kernel_rfl
theorem fl25_2 : tFld P 25 2 = some (3) := by kernel_rfl
theorem fl25_3 : tFld P 25 3 = some (4) := by kernel_rfl
theorem fl27_0 : tFld P 27 0 = some (0) := by kernel_rfl
theorem fl27_1 : tFld P 27 1 = some (1) := by kernel_rfl
theorem go21 : callGo Go.Proofs.Try.f21 = true := by kernel_rfl
theorem go22 : callGo Go.Proofs.Try.f22 = true := by kernel_rfl
theorem go23 : callGo Go.Proofs.Try.f23 = true := by kernel_rfl
theorem go24 : callGo Go.Proofs.Try.f24 = true := by kernel_rfl
theorem go33 : callGo Go.Proofs.Try.f33 = true := by kernel_rfl
theorem go41 : callGo Go.Proofs.Try.f41 = true := by kernel_rfl
theorem go8 : callGo Go.Proofs.Try.f8 = true := by kernel_rfl
theorem isl42 : isSl P 42 = true := by kernel_rfl
theorem pl27 : tPl P 27 = some ([(0, 1), (1, 1)]) := by kernel_rfl
theorem sl42 : tSl P 42 = some (2) := by kernel_rfl
theorem tz27 : tZero P 27 = some ([.int .i64 0, .int .i64 0]) := by kernel_rfl
theorem tz70 : tZero P 70 = some ([.int .i64 0, .int .i64 0, .int .i64 0, .int .i64 0]) := by kernel_rfl
theorem tzd27 : cellsD [.int .i64 0, .int .i64 0] = some ([.int .i64 0, .int .i64 0]) := rfl
theorem tzd70 : cellsD [.int .i64 0, .int .i64 0, .int .i64 0, .int .i64 0] = some ([.int .i64 0, .int .i64 0, .int .i64 0, .int .i64 0]) := rfl
theorem zr42 : tZrow P 42 = some ([.int .i64 0, .int .i64 0]) := by kernel_rfl
theorem zrd42 : cellsD [.int .i64 0, .int .i64 0] = some ([.int .i64 0, .int .i64 0]) := rfl
end Go.Proofs.YtijgdgkfimnkbaaA.FWalkA
namespace Go.Proofs.YtijgdgkfimnkbaaA
open Go FWalkA
set_option maxHeartbeats 1000000 in
set_option maxRecDepth 100000 in
theorem cut_c (n lo hi : Int) (hs : Hp) (h0 : -1000000000000 ≤ lo) (h1 : lo ≤ hi) (h2 : hi ≤ 1000000000000) : AC P 8 [.d (.int .i64 n), .d (.int .i64 lo), .d (.int .i64 hi)] hs (fun r h => r = .d (.int .i64 (cutI n lo hi)) ∧ h = hs) := by
  refine AC.of 23 Try.func8 rfl rfl rfl ?_
  refine W.reg ?_
  refine XOps.s rfl rfl rfl (Q.assign_d rfl) ?_
  refine XOps.nil ?_
  refine W.reg ?_
  refine XOps.s rfl rfl rfl (Q.move_d rfl) ?_
  refine XOps.s rfl rfl rfl (Q.move_d rfl) ?_
  refine XOps.s rfl rfl rfl (Q.sub rfl rfl (wi64 (by first | omega | (dsimp only; omega) | (simp only [List.length_map]; omega)) (by first | omega | (dsimp only; omega) | (simp only [List.length_map]; omega)))) ?_
  refine XOps.s rfl rfl rfl (Q.add rfl rfl (wi64 (by first | omega | (dsimp only; omega) | (simp only [List.length_map]; omega)) (by first | omega | (dsimp only; omega) | (simp only [List.length_map]; omega)))) ?_
  refine XOps.s rfl rfl rfl (Q.assign_d rfl) ?_
  refine XOps.nil ?_
  refine W.reg ?_
  refine XOps.s rfl rfl rfl (Q.move_d rfl) ?_
  refine XOps.s rfl rfl rfl (Q.move_d rfl) ?_
  refine XOps.s rfl rfl rfl (Q.rem rfl rfl (by omega) rfl) ?_
  refine XOps.s rfl rfl rfl (Q.assign_d rfl) ?_
  refine XOps.nil ?_
  refine W.seq ?_
  have hm := cut_mod (n := n) (m := hi - lo + 1) (by omega) rfl
  have hm0 := Int.emod_nonneg n (by omega : hi - lo + 1 ≠ 0)
  have hm1 := Int.emod_lt_of_pos n (by omega : 0 < hi - lo + 1)
  generalize hT : n.tmod (hi - lo + 1) = t at hm ⊢
  refine W.reg ?_
  refine XOps.s rfl rfl rfl (Q.move_d rfl) ?_
  refine XOps.s rfl rfl rfl (Q.lss rfl rfl) ?_
  refine XOps.nil ?_
  refine W.cond rfl (fun hc16 => ?_) (fun hc16 => ?_)
  · try simp only [Bool.or_eq_true, Bool.or_eq_false_iff, Bool.and_eq_true, Bool.and_eq_false_iff, decide_eq_true_eq, decide_eq_false_iff_not, Bool.not_eq_true', Bool.not_eq_false', Int.not_lt, Int.not_le, List.length_map] at hc16
    rw [if_pos hc16] at hm
    refine W.region ?_
    refine XOps.s rfl rfl rfl (Q.move_d rfl) ?_
    refine XOps.s rfl rfl rfl (Q.move_d rfl) ?_
    refine XOps.s rfl rfl rfl (Q.add rfl rfl (wi64 (by first | omega | (dsimp only; omega) | (simp only [List.length_map]; omega)) (by first | omega | (dsimp only; omega) | (simp only [List.length_map]; omega)))) ?_
    refine XOps.s rfl rfl rfl (Q.assign_d rfl) ?_
    refine XOps.nil ?_
    refine W.reg ?_
    refine XOps.s rfl rfl rfl (Q.move_d rfl) ?_
    refine XOps.s rfl rfl rfl (Q.move_d rfl) ?_
    refine XOps.s rfl rfl rfl (Q.add rfl rfl (wi64 (by first | omega | (dsimp only; omega) | (simp only [List.length_map]; omega)) (by first | omega | (dsimp only; omega) | (simp only [List.length_map]; omega)))) ?_
    refine XOps.s rfl rfl rfl (Q.assign_d rfl) ?_
    refine XOps.nil ?_
    refine W.ret ?_
    refine ⟨_, hs, rfl, by repeat (first | exact HLe.refl _ | refine HLe.cons' (by first | rfl | (simp [ceE, Vw.enc]; done)) ?_ | refine HLe.pick 1 rfl (by first | rfl | (simp [ceE, Vw.enc]; done)) ?_ | refine HLe.pick 2 rfl (by first | rfl | (simp [ceE, Vw.enc]; done)) ?_ | refine HLe.pick 3 rfl (by first | rfl | (simp [ceE, Vw.enc]; done)) ?_ | refine HLe.pick 4 rfl (by first | rfl | (simp [ceE, Vw.enc]; done)) ?_ | refine HLe.pick 5 rfl (by first | rfl | (simp [ceE, Vw.enc]; done)) ?_ | refine HLe.skip _ ?_), ?_, rfl⟩
    exact int_eq (by unfold cutI; omega)
  · try simp only [Bool.or_eq_true, Bool.or_eq_false_iff, Bool.and_eq_true, Bool.and_eq_false_iff, decide_eq_true_eq, decide_eq_false_iff_not, Bool.not_eq_true', Bool.not_eq_false', Int.not_lt, Int.not_le, List.length_map] at hc16
    rw [if_neg (by omega)] at hm
    refine W.skip ?_
    refine W.reg ?_
    refine XOps.s rfl rfl rfl (Q.move_d rfl) ?_
    refine XOps.s rfl rfl rfl (Q.move_d rfl) ?_
    refine XOps.s rfl rfl rfl (Q.add rfl rfl (wi64 (by first | omega | (dsimp only; omega) | (simp only [List.length_map]; omega)) (by first | omega | (dsimp only; omega) | (simp only [List.length_map]; omega)))) ?_
    refine XOps.s rfl rfl rfl (Q.assign_d rfl) ?_
    refine XOps.nil ?_
    refine W.ret ?_
    refine ⟨_, hs, rfl, by repeat (first | exact HLe.refl _ | refine HLe.cons' (by first | rfl | (simp [ceE, Vw.enc]; done)) ?_ | refine HLe.pick 1 rfl (by first | rfl | (simp [ceE, Vw.enc]; done)) ?_ | refine HLe.pick 2 rfl (by first | rfl | (simp [ceE, Vw.enc]; done)) ?_ | refine HLe.pick 3 rfl (by first | rfl | (simp [ceE, Vw.enc]; done)) ?_ | refine HLe.pick 4 rfl (by first | rfl | (simp [ceE, Vw.enc]; done)) ?_ | refine HLe.pick 5 rfl (by first | rfl | (simp [ceE, Vw.enc]; done)) ?_ | refine HLe.skip _ ?_), ?_, rfl⟩
    exact int_eq (by unfold cutI; omega)

set_option maxHeartbeats 1000000 in
set_option maxRecDepth 100000 in
theorem down_c (x y : Int) (hs : Hp) (hy : 0 < y) (h1 : -100000000 ≤ x) (h2 : x ≤ 100000000) : AC P 41 [.d (.int .i64 x), .d (.int .i64 y)] hs (fun r h => r = .d (.int .i64 (x / y)) ∧ h = hs) := by
  have hde := down_eq (x := x) hy
  have htb := tdiv_bound (x := x) (y := y) (B := 100000000) (by omega) (by omega) h2 (by omega)
  refine AC.of 16 Try.func41 rfl rfl rfl ?_
  refine W.reg ?_
  refine XOps.s rfl rfl rfl (Q.assign_d rfl) ?_
  refine XOps.nil ?_
  refine W.reg ?_
  refine XOps.s rfl rfl rfl (Q.move_d rfl) ?_
  refine XOps.s rfl rfl rfl (Q.move_d rfl) ?_
  refine XOps.s rfl rfl rfl (Q.quo rfl rfl (by omega) (wi64 (by omega) (by omega))) ?_
  refine XOps.s rfl rfl rfl (Q.assign_d rfl) ?_
  refine XOps.nil ?_
  refine W.seq ?_
  refine W.reg ?_
  refine XOps.s rfl rfl rfl (Q.move_d rfl) ?_
  refine XOps.s rfl rfl rfl (Q.move_d rfl) ?_
  refine XOps.s rfl rfl rfl (Q.rem rfl rfl (by omega) rfl) ?_
  refine XOps.s rfl rfl rfl (Q.lss rfl rfl) ?_
  refine XOps.nil ?_
  refine W.cond rfl (fun hc12 => ?_) (fun hc12 => ?_)
  · try simp only [Bool.or_eq_true, Bool.or_eq_false_iff, Bool.and_eq_true, Bool.and_eq_false_iff, decide_eq_true_eq, decide_eq_false_iff_not, Bool.not_eq_true', Bool.not_eq_false', Int.not_lt, Int.not_le, List.length_map] at hc12
    have hr := hde.1 hc12
    refine W.region ?_
    refine XOps.s rfl rfl rfl (Q.move_d rfl) ?_
    refine XOps.s rfl rfl rfl (Q.sub rfl rfl (wi64 (by first | omega | (dsimp only; omega) | (simp only [List.length_map]; omega)) (by first | omega | (dsimp only; omega) | (simp only [List.length_map]; omega)))) ?_
    refine XOps.s rfl rfl rfl (Q.assign_d rfl) ?_
    refine XOps.nil ?_
    refine W.reg ?_
    refine XOps.s rfl rfl rfl (Q.move_d rfl) ?_
    refine XOps.s rfl rfl rfl (Q.assign_d rfl) ?_
    refine XOps.nil ?_
    refine W.ret ?_
    refine ⟨_, hs, rfl, by repeat (first | exact HLe.refl _ | refine HLe.cons' (by first | rfl | (simp [ceE, Vw.enc]; done)) ?_ | refine HLe.pick 1 rfl (by first | rfl | (simp [ceE, Vw.enc]; done)) ?_ | refine HLe.pick 2 rfl (by first | rfl | (simp [ceE, Vw.enc]; done)) ?_ | refine HLe.pick 3 rfl (by first | rfl | (simp [ceE, Vw.enc]; done)) ?_ | refine HLe.pick 4 rfl (by first | rfl | (simp [ceE, Vw.enc]; done)) ?_ | refine HLe.pick 5 rfl (by first | rfl | (simp [ceE, Vw.enc]; done)) ?_ | refine HLe.skip _ ?_), ?_, rfl⟩
    exact int_eq hr
  · try simp only [Bool.or_eq_true, Bool.or_eq_false_iff, Bool.and_eq_true, Bool.and_eq_false_iff, decide_eq_true_eq, decide_eq_false_iff_not, Bool.not_eq_true', Bool.not_eq_false', Int.not_lt, Int.not_le, List.length_map] at hc12
    have hr := hde.2 (by omega)
    refine W.skip ?_
    refine W.reg ?_
    refine XOps.s rfl rfl rfl (Q.move_d rfl) ?_
    refine XOps.s rfl rfl rfl (Q.assign_d rfl) ?_
    refine XOps.nil ?_
    refine W.ret ?_
    refine ⟨_, hs, rfl, by repeat (first | exact HLe.refl _ | refine HLe.cons' (by first | rfl | (simp [ceE, Vw.enc]; done)) ?_ | refine HLe.pick 1 rfl (by first | rfl | (simp [ceE, Vw.enc]; done)) ?_ | refine HLe.pick 2 rfl (by first | rfl | (simp [ceE, Vw.enc]; done)) ?_ | refine HLe.pick 3 rfl (by first | rfl | (simp [ceE, Vw.enc]; done)) ?_ | refine HLe.pick 4 rfl (by first | rfl | (simp [ceE, Vw.enc]; done)) ?_ | refine HLe.pick 5 rfl (by first | rfl | (simp [ceE, Vw.enc]; done)) ?_ | refine HLe.skip _ ?_), ?_, rfl⟩
    exact int_eq hr

set_option maxHeartbeats 1000000 in
set_option maxRecDepth 100000 in
theorem point_c (p : Ce) (hs : Hp) : AC P 22 [.d (.agg (ceE p))] hs (fun r h => r = .d (.bool (pointS p)) ∧ h = hs) := by
  refine AC.of 21 Try.func22 rfl rfl rfl ?_
  refine W.reg ?_
  refine XOps.loud rfl (L.boxn rfl rfl) ?_
  rintro _ _ ⟨b1, rfl, rfl⟩
  refine XOps.s rfl rfl rfl (Q.assign_d rfl) ?_
  refine XOps.nil ?_
  refine W.reg ?_
  refine XOps.s rfl rfl rfl (Q.fld_ptr fl23_0 rfl) ?_
  refine XOps.s rfl rfl rfl (Q.ld_ptr (k := 0) ag3 rfl rfl rfl) ?_
  refine XOps.s rfl rfl rfl (Q.geq rfl rfl) ?_
  refine XOps.s rfl rfl rfl (Q.move_d rfl) ?_
  refine XOps.gs rfl rfl rfl rfl rfl rfl rfl (fun hg => Q.fld_ptr fl23_0 rfl) ?_
  refine XOps.gs rfl rfl rfl rfl rfl rfl rfl (fun hg => Quiet.open 7 hg rfl (Q.ld_ptr (k := 0) ag3 rfl rfl rfl)) ?_
  refine XOps.gs rfl rfl rfl rfl rfl rfl rfl (fun hg => Quiet.open 8 hg rfl (Q.leq rfl rfl)) ?_
  refine XOps.s rfl rfl rfl (Q.pick_and rfl rfl rfl (fun h => by first | (rw [h]; rfl) | (rw [hg, h]; rfl) | (simp [h, hg]; done))) ?_
  refine XOps.s rfl rfl rfl (Q.move_d rfl) ?_
  refine XOps.gs rfl rfl rfl rfl rfl rfl rfl (fun hg => Q.fld_ptr fl23_1 rfl) ?_
  refine XOps.gs rfl rfl rfl rfl rfl rfl rfl (fun hg => Quiet.open 12 hg rfl (Q.ld_ptr (k := 0) ag3 rfl rfl rfl)) ?_
  refine XOps.gs rfl rfl rfl rfl rfl rfl rfl (fun hg => Quiet.open 13 hg rfl (Q.geq rfl rfl)) ?_
  refine XOps.s rfl rfl rfl (Q.pick_and rfl rfl rfl (fun h => by first | (rw [h]; rfl) | (rw [hg, h]; rfl) | (simp [h, hg]; done))) ?_
  refine XOps.s rfl rfl rfl (Q.move_d rfl) ?_
  refine XOps.gs rfl rfl rfl rfl rfl rfl rfl (fun hg => Q.fld_ptr fl23_1 rfl) ?_
  refine XOps.gs rfl rfl rfl rfl rfl rfl rfl (fun hg => Quiet.open 17 hg rfl (Q.ld_ptr (k := 0) ag3 rfl rfl rfl)) ?_
  refine XOps.gs rfl rfl rfl rfl rfl rfl rfl (fun hg => Quiet.open 18 hg rfl (Q.leq rfl rfl)) ?_
  refine XOps.s rfl rfl rfl (Q.pick_and rfl rfl rfl (fun h => by first | (rw [h]; rfl) | (rw [hg, h]; rfl) | (simp [h, hg]; done))) ?_
  refine XOps.s rfl rfl rfl (Q.assign_d rfl) ?_
  refine XOps.nil ?_
  refine W.ret ?_
  refine ⟨_, hs, rfl, by repeat (first | exact HLe.refl _ | refine HLe.cons' (by first | rfl | (simp [ceE, Vw.enc]; done)) ?_ | refine HLe.pick 1 rfl (by first | rfl | (simp [ceE, Vw.enc]; done)) ?_ | refine HLe.pick 2 rfl (by first | rfl | (simp [ceE, Vw.enc]; done)) ?_ | refine HLe.pick 3 rfl (by first | rfl | (simp [ceE, Vw.enc]; done)) ?_ | refine HLe.pick 4 rfl (by first | rfl | (simp [ceE, Vw.enc]; done)) ?_ | refine HLe.pick 5 rfl (by first | rfl | (simp [ceE, Vw.enc]; done)) ?_ | refine HLe.skip _ ?_), ?_, rfl⟩
  rfl

set_option maxHeartbeats 1000000 in
set_option maxRecDepth 100000 in
theorem near_c (p : Ce) (hs : Hp) : AC P 45 [.d (.agg (ceE p))] hs (fun r h => r = .d (.bool (nearS p)) ∧ h = hs) := by
  refine AC.of 21 Try.func45 rfl rfl rfl ?_
  refine W.reg ?_
  refine XOps.loud rfl (L.boxn rfl rfl) ?_
  rintro _ _ ⟨b1, rfl, rfl⟩
  refine XOps.s rfl rfl rfl (Q.assign_d rfl) ?_
  refine XOps.nil ?_
  refine W.reg ?_
  refine XOps.s rfl rfl rfl (Q.fld_ptr fl27_0 rfl) ?_
  refine XOps.s rfl rfl rfl (Q.ld_ptr (k := 0) ag3 rfl rfl rfl) ?_
  refine XOps.s rfl rfl rfl (Q.geq rfl rfl) ?_
  refine XOps.s rfl rfl rfl (Q.move_d rfl) ?_
  refine XOps.gs rfl rfl rfl rfl rfl rfl rfl (fun hg => Q.fld_ptr fl27_0 rfl) ?_
  refine XOps.gs rfl rfl rfl rfl rfl rfl rfl (fun hg => Quiet.open 7 hg rfl (Q.ld_ptr (k := 0) ag3 rfl rfl rfl)) ?_
  refine XOps.gs rfl rfl rfl rfl rfl rfl rfl (fun hg => Quiet.open 8 hg rfl (Q.leq rfl rfl)) ?_
  refine XOps.s rfl rfl rfl (Q.pick_and rfl rfl rfl (fun h => by first | (rw [h]; rfl) | (rw [hg, h]; rfl) | (simp [h, hg]; done))) ?_
  refine XOps.s rfl rfl rfl (Q.move_d rfl) ?_
  refine XOps.gs rfl rfl rfl rfl rfl rfl rfl (fun hg => Q.fld_ptr fl27_1 rfl) ?_
  refine XOps.gs rfl rfl rfl rfl rfl rfl rfl (fun hg => Quiet.open 12 hg rfl (Q.ld_ptr (k := 0) ag3 rfl rfl rfl)) ?_
  refine XOps.gs rfl rfl rfl rfl rfl rfl rfl (fun hg => Quiet.open 13 hg rfl (Q.geq rfl rfl)) ?_
  refine XOps.s rfl rfl rfl (Q.pick_and rfl rfl rfl (fun h => by first | (rw [h]; rfl) | (rw [hg, h]; rfl) | (simp [h, hg]; done))) ?_
  refine XOps.s rfl rfl rfl (Q.move_d rfl) ?_
  refine XOps.gs rfl rfl rfl rfl rfl rfl rfl (fun hg => Q.fld_ptr fl27_1 rfl) ?_
  refine XOps.gs rfl rfl rfl rfl rfl rfl rfl (fun hg => Quiet.open 17 hg rfl (Q.ld_ptr (k := 0) ag3 rfl rfl rfl)) ?_
  refine XOps.gs rfl rfl rfl rfl rfl rfl rfl (fun hg => Quiet.open 18 hg rfl (Q.leq rfl rfl)) ?_
  refine XOps.s rfl rfl rfl (Q.pick_and rfl rfl rfl (fun h => by first | (rw [h]; rfl) | (rw [hg, h]; rfl) | (simp [h, hg]; done))) ?_
  refine XOps.s rfl rfl rfl (Q.assign_d rfl) ?_
  refine XOps.nil ?_
  refine W.ret ?_
  refine ⟨_, hs, rfl, by repeat (first | exact HLe.refl _ | refine HLe.cons' (by first | rfl | (simp [ceE, Vw.enc]; done)) ?_ | refine HLe.pick 1 rfl (by first | rfl | (simp [ceE, Vw.enc]; done)) ?_ | refine HLe.pick 2 rfl (by first | rfl | (simp [ceE, Vw.enc]; done)) ?_ | refine HLe.pick 3 rfl (by first | rfl | (simp [ceE, Vw.enc]; done)) ?_ | refine HLe.pick 4 rfl (by first | rfl | (simp [ceE, Vw.enc]; done)) ?_ | refine HLe.pick 5 rfl (by first | rfl | (simp [ceE, Vw.enc]; done)) ?_ | refine HLe.skip _ ?_), ?_, rfl⟩
  rfl

set_option maxHeartbeats 1000000 in
set_option maxRecDepth 100000 in
theorem vis_c (v : Vw) (c : Ce) (hs : Hp) : AC P 24 [.d (.agg v.enc), .d (.agg (ceE c))] hs (fun r h => r = .d (.bool (visS v c)) ∧ h = hs) := by
  refine AC.of 27 Try.func24 rfl rfl rfl ?_
  refine W.reg ?_
  refine XOps.loud rfl (L.boxn rfl rfl) ?_
  rintro _ _ ⟨b2, rfl, rfl⟩
  refine XOps.loud rfl (L.boxn rfl rfl) ?_
  rintro _ _ ⟨b3, rfl, rfl⟩
  refine XOps.s rfl rfl rfl (Q.assign_d rfl) ?_
  refine XOps.nil ?_
  refine W.reg ?_
  refine XOps.s rfl rfl rfl (Q.fld_ptr fl27_0 rfl) ?_
  refine XOps.s rfl rfl rfl (Q.ld_ptr (k := 0) ag3 rfl rfl rfl) ?_
  refine XOps.s rfl rfl rfl (Q.geq rfl rfl) ?_
  refine XOps.s rfl rfl rfl (Q.move_d rfl) ?_
  refine XOps.gs rfl rfl rfl rfl rfl rfl rfl (fun hg => Q.fld_ptr fl27_0 rfl) ?_
  refine XOps.gs rfl rfl rfl rfl rfl rfl rfl (fun hg => Quiet.open 9 hg rfl (Q.ld_ptr (k := 0) ag3 rfl rfl rfl)) ?_
  refine XOps.gs rfl rfl rfl rfl rfl rfl rfl (fun hg => Q.fld_ptr fl25_2 rfl) ?_
  refine XOps.gs rfl rfl rfl rfl rfl rfl rfl (fun hg => Quiet.open 11 hg rfl (Q.ld_ptr (k := 1) ag3 rfl rfl rfl)) ?_
  refine XOps.gs rfl rfl rfl rfl rfl rfl rfl (fun hg => Quiet.open 10 hg rfl (Quiet.open 12 hg rfl (Q.lss rfl rfl))) ?_
  refine XOps.s rfl rfl rfl (Q.pick_and rfl rfl rfl (fun h => by first | (rw [h]; rfl) | (rw [hg, h]; rfl) | (simp [h, hg]; done))) ?_
  refine XOps.s rfl rfl rfl (Q.move_d rfl) ?_
  refine XOps.gs rfl rfl rfl rfl rfl rfl rfl (fun hg => Q.fld_ptr fl27_1 rfl) ?_
  refine XOps.gs rfl rfl rfl rfl rfl rfl rfl (fun hg => Quiet.open 16 hg rfl (Q.ld_ptr (k := 0) ag3 rfl rfl rfl)) ?_
  refine XOps.gs rfl rfl rfl rfl rfl rfl rfl (fun hg => Quiet.open 17 hg rfl (Q.geq rfl rfl)) ?_
  refine XOps.s rfl rfl rfl (Q.pick_and rfl rfl rfl (fun h => by first | (rw [h]; rfl) | (rw [hg, h]; rfl) | (simp [h, hg]; done))) ?_
  refine XOps.s rfl rfl rfl (Q.move_d rfl) ?_
  refine XOps.gs rfl rfl rfl rfl rfl rfl rfl (fun hg => Q.fld_ptr fl27_1 rfl) ?_
  refine XOps.gs rfl rfl rfl rfl rfl rfl rfl (fun hg => Quiet.open 21 hg rfl (Q.ld_ptr (k := 0) ag3 rfl rfl rfl)) ?_
  refine XOps.gs rfl rfl rfl rfl rfl rfl rfl (fun hg => Q.fld_ptr fl25_3 rfl) ?_
  refine XOps.gs rfl rfl rfl rfl rfl rfl rfl (fun hg => Quiet.open 23 hg rfl (Q.ld_ptr (k := 1) ag3 rfl rfl rfl)) ?_
  refine XOps.gs rfl rfl rfl rfl rfl rfl rfl (fun hg => Quiet.open 22 hg rfl (Quiet.open 24 hg rfl (Q.lss rfl rfl))) ?_
  refine XOps.s rfl rfl rfl (Q.pick_and rfl rfl rfl (fun h => by first | (rw [h]; rfl) | (rw [hg, h]; rfl) | (simp [h, hg]; done))) ?_
  refine XOps.s rfl rfl rfl (Q.assign_d rfl) ?_
  refine XOps.nil ?_
  refine W.ret ?_
  refine ⟨_, hs, rfl, by repeat (first | exact HLe.refl _ | refine HLe.cons' (by first | rfl | (simp [ceE, Vw.enc]; done)) ?_ | refine HLe.pick 1 rfl (by first | rfl | (simp [ceE, Vw.enc]; done)) ?_ | refine HLe.pick 2 rfl (by first | rfl | (simp [ceE, Vw.enc]; done)) ?_ | refine HLe.pick 3 rfl (by first | rfl | (simp [ceE, Vw.enc]; done)) ?_ | refine HLe.pick 4 rfl (by first | rfl | (simp [ceE, Vw.enc]; done)) ?_ | refine HLe.pick 5 rfl (by first | rfl | (simp [ceE, Vw.enc]; done)) ?_ | refine HLe.skip _ ?_), ?_, rfl⟩
  rfl

set_option maxHeartbeats 1000000 in
set_option maxRecDepth 100000 in
theorem check_c (v : Vw) (hs : Hp) : AC P 21 [.d (.agg v.enc)] hs (fun r h => r = .d (.int .i64 (checkV v)) ∧ h = hs) := by
  refine AC.of 55 Try.func21 rfl rfl rfl ?_
  refine W.reg ?_
  refine XOps.loud rfl (L.boxn rfl rfl) ?_
  rintro _ _ ⟨b1, rfl, rfl⟩
  refine XOps.s rfl rfl rfl (Q.assign_d rfl) ?_
  refine XOps.nil ?_
  refine W.seq ?_
  refine W.block ?_
  refine W.reg ?_
  refine XOps.s rfl rfl rfl (Q.fld_ptr fl25_0 rfl) ?_
  refine XOps.s rfl rfl rfl (Q.fld_ptr fl23_0 rfl) ?_
  refine XOps.s rfl rfl rfl (Q.ld_ptr (k := 0) ag3 rfl rfl rfl) ?_
  refine XOps.s rfl rfl rfl (Q.lss rfl rfl) ?_
  refine XOps.s rfl rfl rfl (Q.move_d rfl) ?_
  refine XOps.gs rfl rfl rfl rfl rfl rfl rfl (fun hg => Q.fld_ptr fl25_0 rfl) ?_
  refine XOps.gs rfl rfl rfl rfl rfl rfl rfl (fun hg => Quiet.open 9 hg rfl (Q.fld_ptr fl23_0 rfl)) ?_
  refine XOps.gs rfl rfl rfl rfl rfl rfl rfl (fun hg => Quiet.open 10 hg rfl (Q.ld_ptr (k := 0) ag3 rfl rfl rfl)) ?_
  refine XOps.gs rfl rfl rfl rfl rfl rfl rfl (fun hg => Quiet.open 11 hg rfl (Q.gtr rfl rfl)) ?_
  refine XOps.s rfl rfl rfl (Q.pick_or rfl rfl rfl (fun h => by first | (rw [h]; rfl) | (rw [hg, h]; rfl) | (simp [h, hg]; done))) ?_
  refine XOps.s rfl rfl rfl (Q.move_d rfl) ?_
  refine XOps.gs rfl rfl rfl rfl rfl rfl rfl (fun hg => Q.fld_ptr fl25_0 rfl) ?_
  refine XOps.gs rfl rfl rfl rfl rfl rfl rfl (fun hg => Quiet.open 15 hg rfl (Q.fld_ptr fl23_1 rfl)) ?_
  refine XOps.gs rfl rfl rfl rfl rfl rfl rfl (fun hg => Quiet.open 16 hg rfl (Q.ld_ptr (k := 0) ag3 rfl rfl rfl)) ?_
  refine XOps.gs rfl rfl rfl rfl rfl rfl rfl (fun hg => Quiet.open 17 hg rfl (Q.lss rfl rfl)) ?_
  refine XOps.s rfl rfl rfl (Q.pick_or rfl rfl rfl (fun h => by first | (rw [h]; rfl) | (rw [hg, h]; rfl) | (simp [h, hg]; done))) ?_
  refine XOps.s rfl rfl rfl (Q.move_d rfl) ?_
  refine XOps.gs rfl rfl rfl rfl rfl rfl rfl (fun hg => Q.fld_ptr fl25_0 rfl) ?_
  refine XOps.gs rfl rfl rfl rfl rfl rfl rfl (fun hg => Quiet.open 21 hg rfl (Q.fld_ptr fl23_1 rfl)) ?_
  refine XOps.gs rfl rfl rfl rfl rfl rfl rfl (fun hg => Quiet.open 22 hg rfl (Q.ld_ptr (k := 0) ag3 rfl rfl rfl)) ?_
  refine XOps.gs rfl rfl rfl rfl rfl rfl rfl (fun hg => Quiet.open 23 hg rfl (Q.gtr rfl rfl)) ?_
  refine XOps.s rfl rfl rfl (Q.pick_or rfl rfl rfl (fun h => by first | (rw [h]; rfl) | (rw [hg, h]; rfl) | (simp [h, hg]; done))) ?_
  refine XOps.s rfl rfl rfl (Q.assign_d rfl) ?_
  refine XOps.nil ?_
  refine W.cond rfl (fun hc3 => ?_) (fun hc3 => ?_)
  · try simp only [Bool.or_eq_true, Bool.or_eq_false_iff, Bool.and_eq_true, Bool.and_eq_false_iff, decide_eq_true_eq, decide_eq_false_iff_not, Bool.not_eq_true', Bool.not_eq_false', Int.not_lt, Int.not_le, List.length_map] at hc3
    have hE : checkV v = 4 := by unfold checkV; rw [if_pos (by unfold badM; omega)]
    rw [hE]
    refine W.reg ?_
    refine XOps.s rfl rfl rfl (Q.assign_d rfl) ?_
    refine XOps.nil ?_
    refine W.ret ?_
    refine ⟨_, hs, rfl, by repeat (first | exact HLe.refl _ | refine HLe.cons' (by first | rfl | (simp [ceE, Vw.enc]; done)) ?_ | refine HLe.pick 1 rfl (by first | rfl | (simp [ceE, Vw.enc]; done)) ?_ | refine HLe.pick 2 rfl (by first | rfl | (simp [ceE, Vw.enc]; done)) ?_ | refine HLe.pick 3 rfl (by first | rfl | (simp [ceE, Vw.enc]; done)) ?_ | refine HLe.pick 4 rfl (by first | rfl | (simp [ceE, Vw.enc]; done)) ?_ | refine HLe.pick 5 rfl (by first | rfl | (simp [ceE, Vw.enc]; done)) ?_ | refine HLe.skip _ ?_), ?_, rfl⟩
    rfl
  · try simp only [Bool.or_eq_true, Bool.or_eq_false_iff, Bool.and_eq_true, Bool.and_eq_false_iff, decide_eq_true_eq, decide_eq_false_iff_not, Bool.not_eq_true', Bool.not_eq_false', Int.not_lt, Int.not_le, List.length_map] at hc3
    refine W.reg ?_
    refine XOps.s rfl rfl rfl (Q.fld_ptr fl25_1 rfl) ?_
    refine XOps.s rfl rfl rfl (Q.ld_ptr (k := 0) ag3 rfl rfl rfl) ?_
    refine XOps.s rfl rfl rfl (Q.lss rfl rfl) ?_
    refine XOps.s rfl rfl rfl (Q.move_d rfl) ?_
    refine XOps.gs rfl rfl rfl rfl rfl rfl rfl (fun hg => Q.fld_ptr fl25_1 rfl) ?_
    refine XOps.gs rfl rfl rfl rfl rfl rfl rfl (fun hg => Quiet.open 31 hg rfl (Q.ld_ptr (k := 0) ag3 rfl rfl rfl)) ?_
    refine XOps.gs rfl rfl rfl rfl rfl rfl rfl (fun hg => Quiet.open 32 hg rfl (Q.gtr rfl rfl)) ?_
    refine XOps.s rfl rfl rfl (Q.pick_or rfl rfl rfl (fun h => by first | (rw [h]; rfl) | (rw [hg, h]; rfl) | (simp [h, hg]; done))) ?_
    refine XOps.s rfl rfl rfl (Q.move_d rfl) ?_
    refine XOps.gs rfl rfl rfl rfl rfl rfl rfl (fun hg => Q.fld_ptr fl25_2 rfl) ?_
    refine XOps.gs rfl rfl rfl rfl rfl rfl rfl (fun hg => Quiet.open 36 hg rfl (Q.ld_ptr (k := 0) ag3 rfl rfl rfl)) ?_
    refine XOps.gs rfl rfl rfl rfl rfl rfl rfl (fun hg => Quiet.open 37 hg rfl (Q.lss rfl rfl)) ?_
    refine XOps.s rfl rfl rfl (Q.pick_or rfl rfl rfl (fun h => by first | (rw [h]; rfl) | (rw [hg, h]; rfl) | (simp [h, hg]; done))) ?_
    refine XOps.s rfl rfl rfl (Q.move_d rfl) ?_
    refine XOps.gs rfl rfl rfl rfl rfl rfl rfl (fun hg => Q.fld_ptr fl25_2 rfl) ?_
    refine XOps.gs rfl rfl rfl rfl rfl rfl rfl (fun hg => Quiet.open 41 hg rfl (Q.ld_ptr (k := 0) ag3 rfl rfl rfl)) ?_
    refine XOps.gs rfl rfl rfl rfl rfl rfl rfl (fun hg => Quiet.open 42 hg rfl (Q.gtr rfl rfl)) ?_
    refine XOps.s rfl rfl rfl (Q.pick_or rfl rfl rfl (fun h => by first | (rw [h]; rfl) | (rw [hg, h]; rfl) | (simp [h, hg]; done))) ?_
    refine XOps.s rfl rfl rfl (Q.move_d rfl) ?_
    refine XOps.gs rfl rfl rfl rfl rfl rfl rfl (fun hg => Q.fld_ptr fl25_3 rfl) ?_
    refine XOps.gs rfl rfl rfl rfl rfl rfl rfl (fun hg => Quiet.open 46 hg rfl (Q.ld_ptr (k := 0) ag3 rfl rfl rfl)) ?_
    refine XOps.gs rfl rfl rfl rfl rfl rfl rfl (fun hg => Quiet.open 47 hg rfl (Q.lss rfl rfl)) ?_
    refine XOps.s rfl rfl rfl (Q.pick_or rfl rfl rfl (fun h => by first | (rw [h]; rfl) | (rw [hg, h]; rfl) | (simp [h, hg]; done))) ?_
    refine XOps.s rfl rfl rfl (Q.move_d rfl) ?_
    refine XOps.gs rfl rfl rfl rfl rfl rfl rfl (fun hg => Q.fld_ptr fl25_3 rfl) ?_
    refine XOps.gs rfl rfl rfl rfl rfl rfl rfl (fun hg => Quiet.open 51 hg rfl (Q.ld_ptr (k := 0) ag3 rfl rfl rfl)) ?_
    refine XOps.gs rfl rfl rfl rfl rfl rfl rfl (fun hg => Quiet.open 52 hg rfl (Q.gtr rfl rfl)) ?_
    refine XOps.s rfl rfl rfl (Q.pick_or rfl rfl rfl (fun h => by first | (rw [h]; rfl) | (rw [hg, h]; rfl) | (simp [h, hg]; done))) ?_
    refine XOps.s rfl rfl rfl (Q.assign_d rfl) ?_
    refine XOps.nil ?_
    refine W.cond rfl (fun hc26 => ?_) (fun hc26 => ?_)
    · try simp only [Bool.or_eq_true, Bool.or_eq_false_iff, Bool.and_eq_true, Bool.and_eq_false_iff, decide_eq_true_eq, decide_eq_false_iff_not, Bool.not_eq_true', Bool.not_eq_false', Int.not_lt, Int.not_le, List.length_map] at hc26
      have hE : checkV v = 4 := by unfold checkV; rw [if_neg (by unfold badM; omega), if_pos (by unfold badR; omega)]
      rw [hE]
      refine W.reg ?_
      refine XOps.s rfl rfl rfl (Q.assign_d rfl) ?_
      refine XOps.nil ?_
      refine W.ret ?_
      refine ⟨_, hs, rfl, by repeat (first | exact HLe.refl _ | refine HLe.cons' (by first | rfl | (simp [ceE, Vw.enc]; done)) ?_ | refine HLe.pick 1 rfl (by first | rfl | (simp [ceE, Vw.enc]; done)) ?_ | refine HLe.pick 2 rfl (by first | rfl | (simp [ceE, Vw.enc]; done)) ?_ | refine HLe.pick 3 rfl (by first | rfl | (simp [ceE, Vw.enc]; done)) ?_ | refine HLe.pick 4 rfl (by first | rfl | (simp [ceE, Vw.enc]; done)) ?_ | refine HLe.pick 5 rfl (by first | rfl | (simp [ceE, Vw.enc]; done)) ?_ | refine HLe.skip _ ?_), ?_, rfl⟩
      rfl
    · try simp only [Bool.or_eq_true, Bool.or_eq_false_iff, Bool.and_eq_true, Bool.and_eq_false_iff, decide_eq_true_eq, decide_eq_false_iff_not, Bool.not_eq_true', Bool.not_eq_false', Int.not_lt, Int.not_le, List.length_map] at hc26
      have hE : checkV v = 0 := by unfold checkV; rw [if_neg (by unfold badM; omega), if_neg (by unfold badR; omega)]
      rw [hE]
      refine W.skip ?_
      refine W.reg ?_
      refine XOps.s rfl rfl rfl (Q.assign_d rfl) ?_
      refine XOps.nil ?_
      refine W.ret ?_
      refine ⟨_, hs, rfl, by repeat (first | exact HLe.refl _ | refine HLe.cons' (by first | rfl | (simp [ceE, Vw.enc]; done)) ?_ | refine HLe.pick 1 rfl (by first | rfl | (simp [ceE, Vw.enc]; done)) ?_ | refine HLe.pick 2 rfl (by first | rfl | (simp [ceE, Vw.enc]; done)) ?_ | refine HLe.pick 3 rfl (by first | rfl | (simp [ceE, Vw.enc]; done)) ?_ | refine HLe.pick 4 rfl (by first | rfl | (simp [ceE, Vw.enc]; done)) ?_ | refine HLe.pick 5 rfl (by first | rfl | (simp [ceE, Vw.enc]; done)) ?_ | refine HLe.skip _ ?_), ?_, rfl⟩
      rfl

set_option maxHeartbeats 1000000 in
set_option maxRecDepth 100000 in
theorem cell_c (v : Vw) (p : Ce) (hs : Hp) (hv : v.ok) (hp : pointS p = true) : AC P 23 [.d (.agg v.enc), .d (.agg (ceE p))] hs (fun r h => r = .d (.agg (ceE (cellS v p))) ∧ h = hs) := by
  rw [pointS_iff] at hp
  obtain ⟨v1, v2, v3, v4, v5⟩ := hv
  have hx := ediv_bound (a := p.1 - v.mx) (B := 2000000) v3.1 (by omega) (by omega) (by omega)
  have hy := ediv_bound (a := p.2 - v.my) (B := 2000000) v3.1 (by omega) (by omega) (by omega)
  refine AC.ofc 32 Try.func23 rfl rfl rfl ?_
  refine W.reg ?_
  refine XOps.loud rfl (L.boxn rfl rfl) ?_
  rintro _ _ ⟨b2, rfl, rfl⟩
  refine XOps.loud rfl (L.boxn rfl rfl) ?_
  rintro _ _ ⟨b3, rfl, rfl⟩
  (refine XOps.loud rfl (L.alloc tz27 rfl rfl) ?_; rintro _ _ ⟨b4, rfl, rfl⟩)
  refine XOps.nil ?_
  refine W.drawreg 27 follows (by kernel_rfl) ?_
  refine Chain.cons _ (GQ.q rfl (Q.fld_ptr fl23_0 rfl)) rfl ?_
  refine Chain.cons _ (GQ.q rfl (Q.ld_ptr (k := 1) ag3 rfl rfl rfl)) rfl ?_
  refine Chain.cons _ (GQ.q rfl (Q.fld_ptr fl25_0 rfl)) rfl ?_
  refine Chain.cons _ (GQ.q rfl (Q.fld_ptr fl23_0 rfl)) rfl ?_
  refine Chain.cons _ (GQ.q rfl (Q.ld_ptr (k := 2) ag3 rfl rfl rfl)) rfl ?_
  refine Chain.cons _ (GQ.q rfl (Q.sub rfl rfl (wi64 (by first | omega | (dsimp only; omega) | (simp only [List.length_map]; omega)) (by first | omega | (dsimp only; omega) | (simp only [List.length_map]; omega))))) rfl ?_
  refine Chain.cons _ (GQ.q rfl (Q.fld_ptr fl25_1 rfl)) rfl ?_
  refine Chain.cons _ (GQ.q rfl (Q.ld_ptr (k := 2) ag3 rfl rfl rfl)) rfl ?_
  refine Chain.cons _ (GQ.q rfl (Q.call rfl Try.func41 go41 rfl (down_c (p.1 - v.mx) v.res _ (by omega) (by omega) (by omega)))) rfl ?_
  refine Chain.cons _ (GQ.q rfl (Q.fld_ptr fl25_2 rfl)) rfl ?_
  refine Chain.cons _ (GQ.q rfl (Q.ld_ptr (k := 2) ag3 rfl rfl rfl)) rfl ?_
  refine Chain.cons _ (GQ.q rfl (Q.quo rfl rfl (by first | omega | (simp at hg; omega)) (wquo (by first | omega | (simp at hg; omega)) (by first | omega | (simp at hg; omega)) (by first | omega | (simp at hg; omega))))) rfl ?_
  refine Chain.cons _ (GQ.q rfl (Q.add rfl rfl (wi64 (by first | omega | (dsimp only; omega) | (simp only [List.length_map]; omega)) (by first | omega | (dsimp only; omega) | (simp only [List.length_map]; omega))))) rfl ?_
  refine Chain.cons _ (GQ.q rfl (Q.fld_ptr fl23_1 rfl)) rfl ?_
  refine Chain.cons _ (GQ.q rfl (Q.ld_ptr (k := 1) ag3 rfl rfl rfl)) rfl ?_
  refine Chain.cons _ (GQ.q rfl (Q.fld_ptr fl25_0 rfl)) rfl ?_
  refine Chain.cons _ (GQ.q rfl (Q.fld_ptr fl23_1 rfl)) rfl ?_
  refine Chain.cons _ (GQ.q rfl (Q.ld_ptr (k := 2) ag3 rfl rfl rfl)) rfl ?_
  refine Chain.cons _ (GQ.q rfl (Q.sub rfl rfl (wi64 (by first | omega | (dsimp only; omega) | (simp only [List.length_map]; omega)) (by first | omega | (dsimp only; omega) | (simp only [List.length_map]; omega))))) rfl ?_
  refine Chain.cons _ (GQ.q rfl (Q.fld_ptr fl25_1 rfl)) rfl ?_
  refine Chain.cons _ (GQ.q rfl (Q.ld_ptr (k := 2) ag3 rfl rfl rfl)) rfl ?_
  refine Chain.cons _ (GQ.q rfl (Q.call rfl Try.func41 go41 rfl (down_c (p.2 - v.my) v.res _ (by omega) (by omega) (by omega)))) rfl ?_
  refine Chain.cons _ (GQ.q rfl (Q.fld_ptr fl25_3 rfl)) rfl ?_
  refine Chain.cons _ (GQ.q rfl (Q.ld_ptr (k := 2) ag3 rfl rfl rfl)) rfl ?_
  refine Chain.cons _ (GQ.q rfl (Q.quo rfl rfl (by first | omega | (simp at hg; omega)) (wquo (by first | omega | (simp at hg; omega)) (by first | omega | (simp at hg; omega)) (by first | omega | (simp at hg; omega))))) rfl ?_
  refine Chain.cons _ (GQ.q rfl (Q.add rfl rfl (wi64 (by first | omega | (dsimp only; omega) | (simp only [List.length_map]; omega)) (by first | omega | (dsimp only; omega) | (simp only [List.length_map]; omega))))) rfl ?_
  refine Chain.cons _ (GQ.q rfl (Q.build pl27 tz27 tzd27 rfl)) rfl ?_
  refine Chain.nil ?_
  refine XOps.loud rfl (L.storen (k := 0) ag27 rfl rfl rfl rfl rfl) ?_
  rintro _ _ ⟨rfl, rfl⟩
  refine XOps.nil ?_
  refine W.ret ?_
  exact ⟨_, hs, (.cons (by first | exact .celln 0 ag27 rfl rfl rfl | exact .cell1 0 ag27 rfl rfl rfl | exact .celln 1 ag27 rfl rfl rfl | exact .cell1 1 ag27 rfl rfl rfl | exact .celln 2 ag27 rfl rfl rfl | exact .cell1 2 ag27 rfl rfl rfl | exact .celln 3 ag27 rfl rfl rfl | exact .cell1 3 ag27 rfl rfl rfl) .nil), by repeat (first | exact HLe.refl _ | refine HLe.cons' (by first | rfl | (simp [ceE, Vw.enc]; done)) ?_ | refine HLe.pick 1 rfl (by first | rfl | (simp [ceE, Vw.enc]; done)) ?_ | refine HLe.pick 2 rfl (by first | rfl | (simp [ceE, Vw.enc]; done)) ?_ | refine HLe.pick 3 rfl (by first | rfl | (simp [ceE, Vw.enc]; done)) ?_ | refine HLe.pick 4 rfl (by first | rfl | (simp [ceE, Vw.enc]; done)) ?_ | refine HLe.pick 5 rfl (by first | rfl | (simp [ceE, Vw.enc]; done)) ?_ | refine HLe.skip _ ?_), rfl, rfl⟩

set_option maxHeartbeats 1000000 in
set_option maxRecDepth 100000 in
theorem cell9_c (v : Vw) (p : Ce) (hs : Hp) : AC P 9 [.d (.agg v.enc), .d (.agg (ceE p))] hs (fun r h => r = .tup [.d (.agg (ceE (cellA1 v p))), .d (.bool (cellB1 v p)), .d (.int .i64 (cellE1 v p))] ∧ h = hs) := by
  refine AC.ofc 26 Try.func9 rfl rfl rfl ?_
  refine W.reg ?_
  refine XOps.loud rfl (L.boxn rfl rfl) ?_
  rintro _ _ ⟨b2, rfl, rfl⟩
  refine XOps.loud rfl (L.boxn rfl rfl) ?_
  rintro _ _ ⟨b3, rfl, rfl⟩
  (refine XOps.loud rfl (L.alloc tz27 rfl rfl) ?_; rintro _ _ ⟨b4, rfl, rfl⟩)
  refine XOps.s rfl rfl rfl (Q.assign_d rfl) ?_
  refine XOps.s rfl rfl rfl (Q.assign_d rfl) ?_
  refine XOps.nil ?_
  refine W.seq ?_
  refine W.reg ?_
  refine XOps.s rfl rfl rfl (Q.ld_ptrn (k := 2) ag25 rfl rfl rfl) ?_
  refine XOps.s rfl rfl rfl (Q.call rfl Try.func21 go21 rfl (check_c v _)) ?_
  refine XOps.s rfl rfl rfl (Q.assign_d rfl) ?_
  refine XOps.nil ?_
  refine W.reg ?_
  refine XOps.s rfl rfl rfl (Q.move_d rfl) ?_
  refine XOps.s rfl rfl rfl (Q.neq rfl rfl) ?_
  refine XOps.nil ?_
  refine W.cond rfl (fun hc12 => ?_) (fun hc12 => ?_)
  · try simp only [Bool.or_eq_true, Bool.or_eq_false_iff, Bool.and_eq_true, Bool.and_eq_false_iff, decide_eq_true_eq, decide_eq_false_iff_not, Bool.not_eq_true', Bool.not_eq_false', Int.not_lt, Int.not_le, List.length_map] at hc12
    have hA : cellA1 v p = (0, 0) := by unfold cellA1; rw [if_neg (fun h => hc12 h.1)]
    have hB : cellB1 v p = false := by unfold cellB1; rw [if_neg (fun h => hc12 h.1)]
    have hE : cellE1 v p = checkV v := by unfold cellE1; rw [if_neg hc12]
    rw [hA, hB, hE]
    refine W.reg ?_
    refine XOps.s rfl rfl rfl (Q.build pl27 tz27 tzd27 rfl) ?_
    refine XOps.s rfl rfl rfl (Q.move_d rfl) ?_
    refine XOps.loud rfl (L.storen (k := 0) ag27 rfl rfl rfl rfl rfl) ?_
    rintro _ _ ⟨rfl, rfl⟩
    refine XOps.s rfl rfl rfl (Q.assign_d rfl) ?_
    refine XOps.s rfl rfl rfl (Q.assign_d rfl) ?_
    refine XOps.nil ?_
    refine W.ret ?_
    exact ⟨_, hs, (.cons (by first | exact .celln 0 ag27 rfl rfl rfl | exact .cell1 0 ag27 rfl rfl rfl | exact .celln 1 ag27 rfl rfl rfl | exact .cell1 1 ag27 rfl rfl rfl | exact .celln 2 ag27 rfl rfl rfl | exact .cell1 2 ag27 rfl rfl rfl | exact .celln 3 ag27 rfl rfl rfl | exact .cell1 3 ag27 rfl rfl rfl) (.cons (.tmp _) (.cons (.tmp _) .nil))), by repeat (first | exact HLe.refl _ | refine HLe.cons' (by first | rfl | (simp [ceE, Vw.enc]; done)) ?_ | refine HLe.pick 1 rfl (by first | rfl | (simp [ceE, Vw.enc]; done)) ?_ | refine HLe.pick 2 rfl (by first | rfl | (simp [ceE, Vw.enc]; done)) ?_ | refine HLe.pick 3 rfl (by first | rfl | (simp [ceE, Vw.enc]; done)) ?_ | refine HLe.pick 4 rfl (by first | rfl | (simp [ceE, Vw.enc]; done)) ?_ | refine HLe.pick 5 rfl (by first | rfl | (simp [ceE, Vw.enc]; done)) ?_ | refine HLe.skip _ ?_), rfl, rfl⟩
  · try simp only [Bool.or_eq_true, Bool.or_eq_false_iff, Bool.and_eq_true, Bool.and_eq_false_iff, decide_eq_true_eq, decide_eq_false_iff_not, Bool.not_eq_true', Bool.not_eq_false', Int.not_lt, Int.not_le, List.length_map] at hc12
    have h12 : checkV v = 0 := by omega
    have hok := checkV_ok h12
    refine W.skip ?_
    refine W.seq ?_
    refine W.reg ?_
    refine XOps.s rfl rfl rfl (Q.ld_ptrn (k := 1) ag23 rfl rfl rfl) ?_
    refine XOps.s rfl rfl rfl (Q.call rfl Try.func22 go22 rfl (point_c p _)) ?_
    refine XOps.s rfl rfl rfl (Q.not rfl) ?_
    refine XOps.nil ?_
    refine W.cond rfl (fun hc17 => ?_) (fun hc17 => ?_)
    · try simp only [Bool.or_eq_true, Bool.or_eq_false_iff, Bool.and_eq_true, Bool.and_eq_false_iff, decide_eq_true_eq, decide_eq_false_iff_not, Bool.not_eq_true', Bool.not_eq_false', Int.not_lt, Int.not_le, List.length_map] at hc17
      have h17 : ¬ pointS p = true := by simpa using hc17
      have hA : cellA1 v p = (0, 0) := by unfold cellA1; rw [if_neg (fun h => h17 h.2)]
      have hB : cellB1 v p = false := by unfold cellB1; rw [if_neg (fun h => h17 h.2)]
      have hE : cellE1 v p = 4 := by unfold cellE1; rw [if_pos h12, if_neg h17]
      rw [hA, hB, hE]
      refine W.reg ?_
      refine XOps.s rfl rfl rfl (Q.build pl27 tz27 tzd27 rfl) ?_
      refine XOps.loud rfl (L.storen (k := 0) ag27 rfl rfl rfl rfl rfl) ?_
      rintro _ _ ⟨rfl, rfl⟩
      refine XOps.s rfl rfl rfl (Q.assign_d rfl) ?_
      refine XOps.s rfl rfl rfl (Q.assign_d rfl) ?_
      refine XOps.nil ?_
      refine W.ret ?_
      exact ⟨_, hs, (.cons (by first | exact .celln 0 ag27 rfl rfl rfl | exact .cell1 0 ag27 rfl rfl rfl | exact .celln 1 ag27 rfl rfl rfl | exact .cell1 1 ag27 rfl rfl rfl | exact .celln 2 ag27 rfl rfl rfl | exact .cell1 2 ag27 rfl rfl rfl | exact .celln 3 ag27 rfl rfl rfl | exact .cell1 3 ag27 rfl rfl rfl) (.cons (.tmp _) (.cons (.tmp _) .nil))), by repeat (first | exact HLe.refl _ | refine HLe.cons' (by first | rfl | (simp [ceE, Vw.enc]; done)) ?_ | refine HLe.pick 1 rfl (by first | rfl | (simp [ceE, Vw.enc]; done)) ?_ | refine HLe.pick 2 rfl (by first | rfl | (simp [ceE, Vw.enc]; done)) ?_ | refine HLe.pick 3 rfl (by first | rfl | (simp [ceE, Vw.enc]; done)) ?_ | refine HLe.pick 4 rfl (by first | rfl | (simp [ceE, Vw.enc]; done)) ?_ | refine HLe.pick 5 rfl (by first | rfl | (simp [ceE, Vw.enc]; done)) ?_ | refine HLe.skip _ ?_), rfl, rfl⟩
    · try simp only [Bool.or_eq_true, Bool.or_eq_false_iff, Bool.and_eq_true, Bool.and_eq_false_iff, decide_eq_true_eq, decide_eq_false_iff_not, Bool.not_eq_true', Bool.not_eq_false', Int.not_lt, Int.not_le, List.length_map] at hc17
      have hpt : pointS p = true := by simpa using hc17
      have hA : cellA1 v p = cellS v p := by unfold cellA1; rw [if_pos ⟨h12, hpt⟩]
      have hB : cellB1 v p = visS v (cellS v p) := by unfold cellB1; rw [if_pos ⟨h12, hpt⟩]
      have hE : cellE1 v p = 0 := by unfold cellE1; rw [if_pos h12, if_pos hpt]
      rw [hA, hB, hE]
      refine W.skip ?_
      refine W.reg ?_
      refine XOps.s rfl rfl rfl (Q.ld_ptrn (k := 2) ag25 rfl rfl rfl) ?_
      refine XOps.s rfl rfl rfl (Q.ld_ptrn (k := 1) ag23 rfl rfl rfl) ?_
      refine XOps.s rfl rfl rfl (Q.call rfl Try.func23 go23 rfl (cell_c v p _ hok hpt)) ?_
      (refine XOps.loud rfl (L.alloc tz27 rfl rfl) ?_; rintro _ _ ⟨b8, rfl, rfl⟩)
      refine XOps.loud rfl (L.storen (k := 0) ag27 rfl rfl rfl rfl rfl) ?_
      rintro _ _ ⟨rfl, rfl⟩
      refine XOps.nil ?_
      refine W.drawTreg 5 [4] follows (by kernel_rfl) (by decide) ?_
      apply DT.moreS [.new, .new, .new, .new, .now] (by kernel_rfl)
      refine PC.new _ rfl (GQ.q rfl (Q.ld_ptrn (k := 0) ag27 rfl rfl rfl)) rfl ?_
      refine PC.new _ rfl (GQ.q rfl (Q.ld_ptrn (k := 3) ag25 rfl rfl rfl)) rfl ?_
      refine PC.new _ rfl (GQ.q rfl (Q.ld_ptrn (k := 0) ag27 rfl rfl rfl)) rfl ?_
      refine PC.new _ rfl (GQ.q rfl (Q.call rfl Try.func24 go24 rfl (vis_c v (cellS v p) _))) rfl ?_
      refine PC.now rfl rfl (fun τ => Loud.to (L.storen (k := 1) ag27 ((oev_app rfl).trans rfl) rfl ((oev_app rfl).trans rfl) rfl rfl) (fun _ _ h => ⟨.any, h.1, h.2⟩)) ?_
      refine PC.nil ?_
      rintro _ _ rfl
      refine DT.last [.did, .did, .did, .did, .did] (by kernel_rfl) ?_
      refine PC.did rfl ?_
      refine PC.did rfl ?_
      refine PC.did rfl ?_
      refine PC.did rfl ?_
      refine PC.did rfl ?_
      refine PC.nil ?_
      refine XOps.s rfl rfl rfl (Q.assign_d rfl) ?_
      refine XOps.s rfl rfl rfl (Q.assign_d rfl) ?_
      refine XOps.nil ?_
      refine W.ret ?_
      exact ⟨_, hs, (.cons (by first | exact .celln 0 ag27 rfl rfl rfl | exact .cell1 0 ag27 rfl rfl rfl | exact .celln 1 ag27 rfl rfl rfl | exact .cell1 1 ag27 rfl rfl rfl | exact .celln 2 ag27 rfl rfl rfl | exact .cell1 2 ag27 rfl rfl rfl | exact .celln 3 ag27 rfl rfl rfl | exact .cell1 3 ag27 rfl rfl rfl) (.cons (.tmp _) (.cons (.tmp _) .nil))), by repeat (first | exact HLe.refl _ | refine HLe.cons' (by first | rfl | (simp [ceE, Vw.enc]; done)) ?_ | refine HLe.pick 1 rfl (by first | rfl | (simp [ceE, Vw.enc]; done)) ?_ | refine HLe.pick 2 rfl (by first | rfl | (simp [ceE, Vw.enc]; done)) ?_ | refine HLe.pick 3 rfl (by first | rfl | (simp [ceE, Vw.enc]; done)) ?_ | refine HLe.pick 4 rfl (by first | rfl | (simp [ceE, Vw.enc]; done)) ?_ | refine HLe.pick 5 rfl (by first | rfl | (simp [ceE, Vw.enc]; done)) ?_ | refine HLe.skip _ ?_), rfl, rfl⟩

set_option maxHeartbeats 1000000 in
set_option maxRecDepth 100000 in
theorem line_own (a b : Ce) (hs : Hp) (ha : -2000 ≤ a.1 ∧ a.1 ≤ 2000 ∧ -2000 ≤ a.2 ∧ a.2 ≤ 2000) (hb : -2000 ≤ b.1 ∧ b.1 ≤ 2000 ∧ -2000 ≤ b.2 ∧ b.2 ≤ 2000) : AC P 33 [.d (.agg (ceE a)), .d (.agg (ceE b))] hs (fun r h => ∃ v, r = .vs v 0 (lineS a b).length 2 ∧ h = (v, .lst 2 ((lineS a b).map ceE)) :: hs) := by
  have hn0 := longS_nn a b
  have hnd : longS a b = max (max (max (b.1 - a.1) (-(b.1 - a.1))) (b.2 - a.2)) (-(b.2 - a.2)) := rfl
  have hnb : longS a b ≤ 4000 ∧ -longS a b ≤ b.1 - a.1 ∧ b.1 - a.1 ≤ longS a b ∧ -longS a b ≤ b.2 - a.2 ∧ b.2 - a.2 ≤ longS a b := by omega
  refine AC.of 63 Try.func33 rfl rfl rfl ?_
  refine W.reg ?_
  refine XOps.loud rfl (L.boxn rfl rfl) ?_
  rintro _ _ ⟨b2, rfl, rfl⟩
  refine XOps.loud rfl (L.boxn rfl rfl) ?_
  rintro _ _ ⟨b3, rfl, rfl⟩
  refine XOps.s rfl rfl rfl (Q.assign_nilsl rfl) ?_
  refine XOps.nil ?_
  refine W.drawreg 11 follows (by kernel_rfl) ?_
  refine Chain.cons _ (GQ.q rfl (Q.fld_ptr fl27_0 rfl)) rfl ?_
  refine Chain.cons _ (GQ.q rfl (Q.ld_ptr (k := 0) ag3 rfl rfl rfl)) rfl ?_
  refine Chain.cons _ (GQ.q rfl (Q.fld_ptr fl27_0 rfl)) rfl ?_
  refine Chain.cons _ (GQ.q rfl (Q.ld_ptr (k := 1) ag3 rfl rfl rfl)) rfl ?_
  refine Chain.cons _ (GQ.q rfl (Q.sub rfl rfl (wi64 (by first | omega | (dsimp only; omega) | (simp only [List.length_map]; omega)) (by first | omega | (dsimp only; omega) | (simp only [List.length_map]; omega))))) rfl ?_
  refine Chain.cons _ (GQ.q rfl (Q.fld_ptr fl27_1 rfl)) rfl ?_
  refine Chain.cons _ (GQ.q rfl (Q.ld_ptr (k := 0) ag3 rfl rfl rfl)) rfl ?_
  refine Chain.cons _ (GQ.q rfl (Q.fld_ptr fl27_1 rfl)) rfl ?_
  refine Chain.cons _ (GQ.q rfl (Q.ld_ptr (k := 1) ag3 rfl rfl rfl)) rfl ?_
  refine Chain.cons _ (GQ.q rfl (Q.sub rfl rfl (wi64 (by first | omega | (dsimp only; omega) | (simp only [List.length_map]; omega)) (by first | omega | (dsimp only; omega) | (simp only [List.length_map]; omega))))) rfl ?_
  refine Chain.cons _ (GQ.q rfl (Q.assign_d rfl)) rfl ?_
  refine Chain.nil ?_
  refine XOps.s rfl rfl rfl (Q.assign_d rfl) ?_
  refine XOps.nil ?_
  refine W.reg ?_
  refine XOps.s rfl rfl rfl (Q.move_d rfl) ?_
  refine XOps.s rfl rfl rfl (Q.move_d rfl) ?_
  refine XOps.s rfl rfl rfl (Q.neg rfl (wi64 (by first | omega | (dsimp only; omega) | (simp only [List.length_map]; omega)) (by first | omega | (dsimp only; omega) | (simp only [List.length_map]; omega)))) ?_
  refine XOps.s rfl rfl rfl (Q.move_d rfl) ?_
  refine XOps.s rfl rfl rfl (Q.move_d rfl) ?_
  refine XOps.s rfl rfl rfl (Q.neg rfl (wi64 (by first | omega | (dsimp only; omega) | (simp only [List.length_map]; omega)) (by first | omega | (dsimp only; omega) | (simp only [List.length_map]; omega)))) ?_
  refine XOps.s rfl rfl rfl (Q.max4 rfl rfl rfl rfl) ?_
  refine XOps.s rfl rfl rfl (Q.assign_d rfl) ?_
  refine XOps.nil ?_
  rw [← hnd]
  clear hnd
  refine W.reg ?_
  refine XOps.s rfl rfl rfl (Q.ld_ptrn (k := 1) ag27 rfl rfl rfl) ?_
  (refine XOps.loud rfl (L.bslo sl42 (by decide) zr42 rfl zrd42 (by decide) rfl rfl rfl) ?_; rintro _ _ ⟨v28, rfl, rfl⟩)
  refine XOps.s rfl rfl rfl (Q.assign_vs rfl) ?_
  refine XOps.nil ?_
  refine W.seq ?_
  refine W.reg ?_
  refine XOps.s rfl rfl rfl (Q.assign_d rfl) ?_
  refine XOps.nil ?_
  refine W.block ?_
  refine W.loop (ι := Nat × Nat) (fun p => [(2, .ptr b2 0), (5, .d (.int .i64 (b.1 - a.1))), (6, .d (.int .i64 (b.2 - a.2))), (7, .d (.int .i64 (longS a b))), (8, .vs p.2 0 (p.1 + 1) 2), (9, .d (.int .i64 ((p.1 + 1 : Nat) : Int)))]) (fun p => (p.2, .lst 2 ((lineK a b p.1).map ceE)) :: (b2, .cells ((ceE a).map .d)) :: hs) (fun p => (p.1 : Int) ≤ longS a b) (fun p => (longS a b).toNat - p.1) (0, v28) ?_ ?_ ?_ ?_
  · dsimp only; omega
  · exact ⟨by first | rfl | exact int_eq (by omega) | exact len_eq (by simp) | exact int_eq (by simp; done), by first | rfl | exact int_eq (by omega) | exact len_eq (by simp) | exact int_eq (by simp; done), by first | rfl | exact int_eq (by omega) | exact len_eq (by simp) | exact int_eq (by simp; done), by first | rfl | exact int_eq (by omega) | exact len_eq (by simp) | exact int_eq (by simp; done), by first | rfl | exact int_eq (by omega) | exact len_eq (by simp) | exact int_eq (by simp; done), by first | rfl | exact int_eq (by omega) | exact len_eq (by simp) | exact int_eq (by simp; done), trivial⟩
  · exact HLe.cons _ (HLe.pick 1 rfl rfl (HLe.skip _ (HLe.refl _)))
  · rintro ⟨k, v⟩ hk
    try dsimp only at hk ⊢
    refine W.seq ?_
    refine W.reg ?_
    refine XOps.s rfl rfl rfl (Q.move_d rfl) ?_
    refine XOps.s rfl rfl rfl (Q.move_d rfl) ?_
    refine XOps.s rfl rfl rfl (Q.leq rfl rfl) ?_
    refine XOps.nil ?_
    refine W.cond rfl (fun hc31 => ?_) (fun hc31 => ?_)
    · try simp only [Bool.or_eq_true, Bool.or_eq_false_iff, Bool.and_eq_true, Bool.and_eq_false_iff, decide_eq_true_eq, decide_eq_false_iff_not, Bool.not_eq_true', Bool.not_eq_false', Int.not_lt, Int.not_le, List.length_map] at hc31
      have hm1 := mul_abs (x := b.1 - a.1) (k := ((k + 1 : Nat) : Int)) (n := longS a b) (by omega) (by omega) (by omega) (by omega) (by omega)
      have hm2 := mul_abs (x := b.2 - a.2) (k := ((k + 1 : Nat) : Int)) (n := longS a b) (by omega) (by omega) (by omega) (by omega) (by omega)
      have he1 := mul2_assoc (k + 1) (b.1 - a.1)
      have he2 := mul2_assoc (k + 1) (b.2 - a.2)
      have hd1 := ediv_bound (a := 2 * ((k + 1 : Nat) : Int) * (b.1 - a.1) + longS a b) (r := 2 * longS a b) (B := 100000000) (by omega) (by omega) (by omega) (by omega)
      have hd2 := ediv_bound (a := 2 * ((k + 1 : Nat) : Int) * (b.2 - a.2) + longS a b) (r := 2 * longS a b) (B := 100000000) (by omega) (by omega) (by omega) (by omega)
      refine W.skip ?_
      refine W.seq ?_
      refine W.block ?_
      refine W.drawT 28 [27] follows (by kernel_rfl) (by decide) ?_
      apply DT.moreE [.new, .new, .new, .new, .new, .new, .new, .new, .new, .new, .new, .new, .new, .new, .new, .new, .new, .new, .new, .new, .new, .new, .new, .new, .new, .new, .new, .now] (by kernel_rfl)
      refine PC.new _ rfl (GQ.q rfl (Q.move_vs rfl)) rfl ?_
      refine PC.new _ rfl (GQ.q rfl (Q.fld_ptr fl27_0 rfl)) rfl ?_
      refine PC.new _ rfl (GQ.q rfl (Q.ld_ptr (k := 1) ag3 rfl rfl rfl)) rfl ?_
      refine PC.new _ rfl (GQ.q rfl (Q.move_d rfl)) rfl ?_
      refine PC.new _ rfl (GQ.q rfl (Q.mul rfl rfl (wi64 (by first | omega | (dsimp only; omega) | (simp only [List.length_map]; omega)) (by first | omega | (dsimp only; omega) | (simp only [List.length_map]; omega))))) rfl ?_
      refine PC.new _ rfl (GQ.q rfl (Q.move_d rfl)) rfl ?_
      refine PC.new _ rfl (GQ.q rfl (Q.mul rfl rfl (wi64 (by first | omega | (dsimp only; omega) | (simp only [List.length_map]; omega)) (by first | omega | (dsimp only; omega) | (simp only [List.length_map]; omega))))) rfl ?_
      refine PC.new _ rfl (GQ.q rfl (Q.move_d rfl)) rfl ?_
      refine PC.new _ rfl (GQ.q rfl (Q.add rfl rfl (wi64 (by first | omega | (dsimp only; omega) | (simp only [List.length_map]; omega)) (by first | omega | (dsimp only; omega) | (simp only [List.length_map]; omega))))) rfl ?_
      refine PC.new _ rfl (GQ.q rfl (Q.move_d rfl)) rfl ?_
      refine PC.new _ rfl (GQ.q rfl (Q.mul rfl rfl (wi64 (by first | omega | (dsimp only; omega) | (simp only [List.length_map]; omega)) (by first | omega | (dsimp only; omega) | (simp only [List.length_map]; omega))))) rfl ?_
      refine PC.new _ rfl (GQ.q rfl (Q.call rfl Try.func41 go41 rfl (down_c (2 * ((k + 1 : Nat) : Int) * (b.1 - a.1) + longS a b) (2 * longS a b) _ (by omega) (by omega) (by omega)))) rfl ?_
      refine PC.new _ rfl (GQ.q rfl (Q.add rfl rfl (wi64 (by first | omega | (dsimp only; omega) | (simp only [List.length_map]; omega)) (by first | omega | (dsimp only; omega) | (simp only [List.length_map]; omega))))) rfl ?_
      refine PC.new _ rfl (GQ.q rfl (Q.fld_ptr fl27_1 rfl)) rfl ?_
      refine PC.new _ rfl (GQ.q rfl (Q.ld_ptr (k := 1) ag3 rfl rfl rfl)) rfl ?_
      refine PC.new _ rfl (GQ.q rfl (Q.move_d rfl)) rfl ?_
      refine PC.new _ rfl (GQ.q rfl (Q.mul rfl rfl (wi64 (by first | omega | (dsimp only; omega) | (simp only [List.length_map]; omega)) (by first | omega | (dsimp only; omega) | (simp only [List.length_map]; omega))))) rfl ?_
      refine PC.new _ rfl (GQ.q rfl (Q.move_d rfl)) rfl ?_
      refine PC.new _ rfl (GQ.q rfl (Q.mul rfl rfl (wi64 (by first | omega | (dsimp only; omega) | (simp only [List.length_map]; omega)) (by first | omega | (dsimp only; omega) | (simp only [List.length_map]; omega))))) rfl ?_
      refine PC.new _ rfl (GQ.q rfl (Q.move_d rfl)) rfl ?_
      refine PC.new _ rfl (GQ.q rfl (Q.add rfl rfl (wi64 (by first | omega | (dsimp only; omega) | (simp only [List.length_map]; omega)) (by first | omega | (dsimp only; omega) | (simp only [List.length_map]; omega))))) rfl ?_
      refine PC.new _ rfl (GQ.q rfl (Q.move_d rfl)) rfl ?_
      refine PC.new _ rfl (GQ.q rfl (Q.mul rfl rfl (wi64 (by first | omega | (dsimp only; omega) | (simp only [List.length_map]; omega)) (by first | omega | (dsimp only; omega) | (simp only [List.length_map]; omega))))) rfl ?_
      refine PC.new _ rfl (GQ.q rfl (Q.call rfl Try.func41 go41 rfl (down_c (2 * ((k + 1 : Nat) : Int) * (b.2 - a.2) + longS a b) (2 * longS a b) _ (by omega) (by omega) (by omega)))) rfl ?_
      refine PC.new _ rfl (GQ.q rfl (Q.add rfl rfl (wi64 (by first | omega | (dsimp only; omega) | (simp only [List.length_map]; omega)) (by first | omega | (dsimp only; omega) | (simp only [List.length_map]; omega))))) rfl ?_
      refine PC.new _ rfl (GQ.q rfl (Q.build pl27 tz27 tzd27 rfl)) rfl ?_
      refine PC.new _ rfl (GQ.q rfl (Q.bsl1n sl42 (by decide) zr42 rfl zrd42 rfl rfl (by decide))) rfl ?_
      refine PC.now rfl rfl (fun τ => Loud.to (L.app (k := 0) ap42 rfl rfl (by first | rfl | (simp [List.length_map, lineK_len]; done)) rfl (by simp [lineK_len]; omega) rfl) (fun _ _ ⟨v, h1, h2⟩ => ⟨_, h1, v, rfl, h2⟩)) ?_
      refine PC.nil ?_
      rintro _ _ ⟨v61, rfl, rfl⟩
      refine DT.last [.did, .did, .did, .did, .did, .did, .did, .did, .did, .did, .did, .did, .did, .did, .did, .did, .did, .did, .did, .did, .did, .did, .did, .did, .did, .did, .did, .did] (by kernel_rfl) ?_
      refine PC.did rfl ?_
      refine PC.did rfl ?_
      refine PC.did rfl ?_
      refine PC.did rfl ?_
      refine PC.did rfl ?_
      refine PC.did rfl ?_
      refine PC.did rfl ?_
      refine PC.did rfl ?_
      refine PC.did rfl ?_
      refine PC.did rfl ?_
      refine PC.did rfl ?_
      refine PC.did rfl ?_
      refine PC.did rfl ?_
      refine PC.did rfl ?_
      refine PC.did rfl ?_
      refine PC.did rfl ?_
      refine PC.did rfl ?_
      refine PC.did rfl ?_
      refine PC.did rfl ?_
      refine PC.did rfl ?_
      refine PC.did rfl ?_
      refine PC.did rfl ?_
      refine PC.did rfl ?_
      refine PC.did rfl ?_
      refine PC.did rfl ?_
      refine PC.did rfl ?_
      refine PC.did rfl ?_
      refine PC.did rfl ?_
      refine PC.nil ?_
      refine XOps.s rfl rfl rfl (Q.assign_vs rfl) ?_
      refine XOps.nil ?_
      refine W.region ?_
      refine XOps.s rfl rfl rfl (Q.move_d rfl) ?_
      refine XOps.s rfl rfl rfl (Q.add rfl rfl (wi64 (by first | omega | (dsimp only; omega) | (simp only [List.length_map]; omega)) (by first | omega | (dsimp only; omega) | (simp only [List.length_map]; omega)))) ?_
      refine XOps.s rfl rfl rfl (Q.assign_d rfl) ?_
      refine XOps.nil ?_
      refine ⟨(k + 1, v61), ?_, ?_, ?_, ?_⟩
      · dsimp only; omega
      · dsimp only; omega
      · exact ⟨by first | rfl | exact int_eq (by omega) | exact len_eq (by simp) | exact int_eq (by simp; done), by first | rfl | exact int_eq (by omega) | exact len_eq (by simp) | exact int_eq (by simp; done), by first | rfl | exact int_eq (by omega) | exact len_eq (by simp) | exact int_eq (by simp; done), by first | rfl | exact int_eq (by omega) | exact len_eq (by simp) | exact int_eq (by simp; done), by (show AV.vs v61 0 _ 2 = AV.vs v61 0 (k + 1 + 1) 2; exact vs_eq (by simp [lineK_len])), by exact int_eq (by dsimp only; omega), trivial⟩
      · exact HLe.cons' (by rw [lineK, List.map_append]; rfl) (HLe.refl _)
    · try simp only [Bool.or_eq_true, Bool.or_eq_false_iff, Bool.and_eq_true, Bool.and_eq_false_iff, decide_eq_true_eq, decide_eq_false_iff_not, Bool.not_eq_true', Bool.not_eq_false', Int.not_lt, Int.not_le, List.length_map] at hc31
      have hkn : k = (longS a b).toNat := by omega
      subst hkn
      refine W.exit ?_
      refine W.reg ?_
      refine XOps.s rfl rfl rfl (Q.move_vs rfl) ?_
      refine XOps.s rfl rfl rfl (Q.assign_vs rfl) ?_
      refine XOps.nil ?_
      refine W.ret ?_
      exact ⟨_, (v, .lst 2 ((lineS a b).map ceE)) :: hs, rfl, HLe.cons _ (HLe.skip _ (HLe.refl _)), v, vs_eq (by unfold lineS; rw [lineK_len]), rfl⟩

theorem line_c (a b : Ce) (hs : Hp) (ha : -2000 ≤ a.1 ∧ a.1 ≤ 2000 ∧ -2000 ≤ a.2 ∧ a.2 ≤ 2000) (hb : -2000 ≤ b.1 ∧ b.1 ≤ 2000 ∧ -2000 ≤ b.2 ∧ b.2 ≤ 2000) : AC P 33 [.d (.agg (ceE a)), .d (.agg (ceE b))] hs (fun r h => r = .d (.sl 2 ((lineS a b).map ceE)) ∧ h = hs) :=
  AC.frz ((line_own a b hs ha hb).mono fun r h ⟨v, h1, h2⟩ => ⟨v, h2, h1 ▸ .vs (by simp)⟩)

set_option maxHeartbeats 1000000 in
set_option maxRecDepth 100000 in
theorem lineL_c (a b : Ce) (hs : Hp) : AC P 15 [.d (.agg (ceE a)), .d (.agg (ceE b))] hs (fun r h => ∃ v, r = .tup [.vs v 0 (lineL a b).length 2, .d (.int .i64 (lineE a b))] ∧ h = (v, .lst 2 ((lineL a b).map ceE)) :: hs) := by
  refine AC.of 30 Try.func15 rfl rfl rfl ?_
  refine W.reg ?_
  refine XOps.loud rfl (L.boxn rfl rfl) ?_
  rintro _ _ ⟨b2, rfl, rfl⟩
  refine XOps.loud rfl (L.boxn rfl rfl) ?_
  rintro _ _ ⟨b3, rfl, rfl⟩
  refine XOps.s rfl rfl rfl (Q.assign_nilsl rfl) ?_
  refine XOps.s rfl rfl rfl (Q.assign_d rfl) ?_
  refine XOps.nil ?_
  refine W.seq ?_
  refine W.reg ?_
  refine XOps.s rfl rfl rfl (Q.fld_ptr fl27_0 rfl) ?_
  refine XOps.s rfl rfl rfl (Q.ld_ptr (k := 1) ag3 rfl rfl rfl) ?_
  refine XOps.s rfl rfl rfl (Q.fld_ptr fl27_1 rfl) ?_
  refine XOps.s rfl rfl rfl (Q.ld_ptr (k := 1) ag3 rfl rfl rfl) ?_
  refine XOps.s rfl rfl rfl (Q.fld_ptr fl27_0 rfl) ?_
  refine XOps.s rfl rfl rfl (Q.ld_ptr (k := 0) ag3 rfl rfl rfl) ?_
  refine XOps.s rfl rfl rfl (Q.fld_ptr fl27_1 rfl) ?_
  refine XOps.s rfl rfl rfl (Q.ld_ptr (k := 0) ag3 rfl rfl rfl) ?_
  refine XOps.s rfl rfl rfl (Q.buildArr ar70 tz70 tzd70 rfl) ?_
  refine XOps.s rfl rfl rfl (Q.move_d rfl) ?_
  refine XOps.nil ?_
  refine W.block ?_
  refine W.loop (ι := Nat) (fun z => [(2, .ptr b2 0), (3, .ptr b3 0), (16, .d (.agg [.int .i64 a.1, .int .i64 a.2, .int .i64 b.1, .int .i64 b.2])), (17, .d (.int .i64 (z : Nat)))]) (fun z => (b3, .cells ((ceE b).map .d)) :: (b2, .cells ((ceE a).map .d)) :: hs) (fun z => z ≤ 4 ∧ (z < 1 ∨ (-2000 ≤ a.1 ∧ a.1 ≤ 2000)) ∧ (z < 2 ∨ (-2000 ≤ a.2 ∧ a.2 ≤ 2000)) ∧ (z < 3 ∨ (-2000 ≤ b.1 ∧ b.1 ≤ 2000)) ∧ (z < 4 ∨ (-2000 ≤ b.2 ∧ b.2 ≤ 2000))) (fun z => 4 - z) 0 ?_ ?_ ?_ ?_
  · omega
  · exact ⟨by first | rfl | exact int_eq (by omega) | exact len_eq (by simp) | exact int_eq (by simp; done), by first | rfl | exact int_eq (by omega) | exact len_eq (by simp) | exact int_eq (by simp; done), by first | rfl | exact int_eq (by omega) | exact len_eq (by simp) | exact int_eq (by simp; done), by first | rfl | exact int_eq (by omega) | exact len_eq (by simp) | exact int_eq (by simp; done), trivial⟩
  · repeat (first | exact HLe.refl _ | refine HLe.cons' (by first | rfl | (simp [ceE, Vw.enc]; done)) ?_ | refine HLe.pick 1 rfl (by first | rfl | (simp [ceE, Vw.enc]; done)) ?_ | refine HLe.pick 2 rfl (by first | rfl | (simp [ceE, Vw.enc]; done)) ?_ | refine HLe.pick 3 rfl (by first | rfl | (simp [ceE, Vw.enc]; done)) ?_ | refine HLe.pick 4 rfl (by first | rfl | (simp [ceE, Vw.enc]; done)) ?_ | refine HLe.pick 5 rfl (by first | rfl | (simp [ceE, Vw.enc]; done)) ?_ | refine HLe.skip _ ?_)
  · rintro z hI
    try dsimp only
    rcases (show z = 0 ∨ z = 1 ∨ z = 2 ∨ z = 3 ∨ z = 4 by omega) with rfl | rfl | rfl | rfl | rfl
    · skip
      refine W.reg ?_
      refine XOps.s rfl rfl rfl (Q.lss rfl rfl) ?_
      refine XOps.nil ?_
      refine W.seq ?_
      refine W.cond_t rfl ?_
      refine W.skip ?_
      refine W.seq ?_
      refine W.block ?_
      refine W.reg ?_
      refine XOps.s rfl rfl rfl (Q.idx_agg1 ar70 are70 rfl rfl (by first | omega | (simp at hg; omega)) (by first | omega | (simp at hg; omega)) rfl) ?_
      refine XOps.s rfl rfl rfl (Q.assign_d rfl) ?_
      refine XOps.nil ?_
      refine W.reg ?_
      refine XOps.s rfl rfl rfl (Q.move_d rfl) ?_
      refine XOps.s rfl rfl rfl (Q.lss rfl rfl) ?_
      refine XOps.s rfl rfl rfl (Q.move_d rfl) ?_
      refine XOps.gs rfl rfl rfl rfl rfl rfl rfl (fun hg => Q.move_d rfl) ?_
      refine XOps.gs rfl rfl rfl rfl rfl rfl rfl (fun hg => Quiet.open 23 hg rfl (Q.gtr rfl rfl)) ?_
      refine XOps.s rfl rfl rfl (Q.pick_or rfl rfl rfl (fun h => by first | (rw [h]; rfl) | (rw [hg, h]; rfl) | (simp [h, hg]; done))) ?_
      refine XOps.nil ?_
      refine W.cond rfl (fun hc25 => ?_) (fun hc25 => ?_)
      · try simp only [Bool.or_eq_true, Bool.or_eq_false_iff, Bool.and_eq_true, Bool.and_eq_false_iff, decide_eq_true_eq, decide_eq_false_iff_not, Bool.not_eq_true', Bool.not_eq_false', Int.not_lt, Int.not_le, List.length_map] at hc25
        have hE : lineE a b = 4 := by unfold lineE farB; rw [if_pos (by omega)]
        have hL : lineL a b = [] := by unfold lineL; rw [if_neg (by omega)]
        rw [hE, hL]
        refine W.reg ?_
        refine XOps.s rfl rfl rfl (Q.assign_nilsl rfl) ?_
        refine XOps.s rfl rfl rfl (Q.assign_d rfl) ?_
        refine XOps.nil ?_
        refine W.ghost 4 2 (by decide) rfl rfl (fun v4 => ?_)
        refine W.ret ?_
        exact ⟨_, (v4, .lst 2 []) :: hs, rfl, HLe.cons _ (HLe.skip _ (HLe.skip _ (HLe.refl _))), v4, rfl, rfl⟩
      · try simp only [Bool.or_eq_true, Bool.or_eq_false_iff, Bool.and_eq_true, Bool.and_eq_false_iff, decide_eq_true_eq, decide_eq_false_iff_not, Bool.not_eq_true', Bool.not_eq_false', Int.not_lt, Int.not_le, List.length_map] at hc25
        refine W.skip ?_
        refine W.region ?_
        refine XOps.s rfl rfl rfl (Q.add rfl rfl (wi64 (by first | omega | (dsimp only; omega) | (simp only [List.length_map]; omega)) (by first | omega | (dsimp only; omega) | (simp only [List.length_map]; omega)))) ?_
        refine XOps.s rfl rfl rfl (Q.move_d rfl) ?_
        refine XOps.nil ?_
        refine ⟨1, ?_, ?_, ?_, ?_⟩
        · omega
        · omega
        · exact ⟨by first | rfl | exact int_eq (by omega) | exact len_eq (by simp) | exact int_eq (by simp; done), by first | rfl | exact int_eq (by omega) | exact len_eq (by simp) | exact int_eq (by simp; done), by first | rfl | exact int_eq (by omega) | exact len_eq (by simp) | exact int_eq (by simp; done), by first | rfl | exact int_eq (by omega) | exact len_eq (by simp) | exact int_eq (by simp; done), trivial⟩
        · repeat (first | exact HLe.refl _ | refine HLe.cons' (by first | rfl | (simp [ceE, Vw.enc]; done)) ?_ | refine HLe.pick 1 rfl (by first | rfl | (simp [ceE, Vw.enc]; done)) ?_ | refine HLe.pick 2 rfl (by first | rfl | (simp [ceE, Vw.enc]; done)) ?_ | refine HLe.pick 3 rfl (by first | rfl | (simp [ceE, Vw.enc]; done)) ?_ | refine HLe.pick 4 rfl (by first | rfl | (simp [ceE, Vw.enc]; done)) ?_ | refine HLe.pick 5 rfl (by first | rfl | (simp [ceE, Vw.enc]; done)) ?_ | refine HLe.skip _ ?_)
    · skip
      refine W.reg ?_
      refine XOps.s rfl rfl rfl (Q.lss rfl rfl) ?_
      refine XOps.nil ?_
      refine W.seq ?_
      refine W.cond_t rfl ?_
      refine W.skip ?_
      refine W.seq ?_
      refine W.block ?_
      refine W.reg ?_
      refine XOps.s rfl rfl rfl (Q.idx_agg1 ar70 are70 rfl rfl (by first | omega | (simp at hg; omega)) (by first | omega | (simp at hg; omega)) rfl) ?_
      refine XOps.s rfl rfl rfl (Q.assign_d rfl) ?_
      refine XOps.nil ?_
      refine W.reg ?_
      refine XOps.s rfl rfl rfl (Q.move_d rfl) ?_
      refine XOps.s rfl rfl rfl (Q.lss rfl rfl) ?_
      refine XOps.s rfl rfl rfl (Q.move_d rfl) ?_
      refine XOps.gs rfl rfl rfl rfl rfl rfl rfl (fun hg => Q.move_d rfl) ?_
      refine XOps.gs rfl rfl rfl rfl rfl rfl rfl (fun hg => Quiet.open 23 hg rfl (Q.gtr rfl rfl)) ?_
      refine XOps.s rfl rfl rfl (Q.pick_or rfl rfl rfl (fun h => by first | (rw [h]; rfl) | (rw [hg, h]; rfl) | (simp [h, hg]; done))) ?_
      refine XOps.nil ?_
      refine W.cond rfl (fun hc25 => ?_) (fun hc25 => ?_)
      · try simp only [Bool.or_eq_true, Bool.or_eq_false_iff, Bool.and_eq_true, Bool.and_eq_false_iff, decide_eq_true_eq, decide_eq_false_iff_not, Bool.not_eq_true', Bool.not_eq_false', Int.not_lt, Int.not_le, List.length_map] at hc25
        have hE : lineE a b = 4 := by unfold lineE farB; rw [if_pos (by omega)]
        have hL : lineL a b = [] := by unfold lineL; rw [if_neg (by omega)]
        rw [hE, hL]
        refine W.reg ?_
        refine XOps.s rfl rfl rfl (Q.assign_nilsl rfl) ?_
        refine XOps.s rfl rfl rfl (Q.assign_d rfl) ?_
        refine XOps.nil ?_
        refine W.ghost 4 2 (by decide) rfl rfl (fun v4 => ?_)
        refine W.ret ?_
        exact ⟨_, (v4, .lst 2 []) :: hs, rfl, HLe.cons _ (HLe.skip _ (HLe.skip _ (HLe.refl _))), v4, rfl, rfl⟩
      · try simp only [Bool.or_eq_true, Bool.or_eq_false_iff, Bool.and_eq_true, Bool.and_eq_false_iff, decide_eq_true_eq, decide_eq_false_iff_not, Bool.not_eq_true', Bool.not_eq_false', Int.not_lt, Int.not_le, List.length_map] at hc25
        refine W.skip ?_
        refine W.region ?_
        refine XOps.s rfl rfl rfl (Q.add rfl rfl (wi64 (by first | omega | (dsimp only; omega) | (simp only [List.length_map]; omega)) (by first | omega | (dsimp only; omega) | (simp only [List.length_map]; omega)))) ?_
        refine XOps.s rfl rfl rfl (Q.move_d rfl) ?_
        refine XOps.nil ?_
        refine ⟨2, ?_, ?_, ?_, ?_⟩
        · omega
        · omega
        · exact ⟨by first | rfl | exact int_eq (by omega) | exact len_eq (by simp) | exact int_eq (by simp; done), by first | rfl | exact int_eq (by omega) | exact len_eq (by simp) | exact int_eq (by simp; done), by first | rfl | exact int_eq (by omega) | exact len_eq (by simp) | exact int_eq (by simp; done), by first | rfl | exact int_eq (by omega) | exact len_eq (by simp) | exact int_eq (by simp; done), trivial⟩
        · repeat (first | exact HLe.refl _ | refine HLe.cons' (by first | rfl | (simp [ceE, Vw.enc]; done)) ?_ | refine HLe.pick 1 rfl (by first | rfl | (simp [ceE, Vw.enc]; done)) ?_ | refine HLe.pick 2 rfl (by first | rfl | (simp [ceE, Vw.enc]; done)) ?_ | refine HLe.pick 3 rfl (by first | rfl | (simp [ceE, Vw.enc]; done)) ?_ | refine HLe.pick 4 rfl (by first | rfl | (simp [ceE, Vw.enc]; done)) ?_ | refine HLe.pick 5 rfl (by first | rfl | (simp [ceE, Vw.enc]; done)) ?_ | refine HLe.skip _ ?_)
    · skip
      refine W.reg ?_
      refine XOps.s rfl rfl rfl (Q.lss rfl rfl) ?_
      refine XOps.nil ?_
      refine W.seq ?_
      refine W.cond_t rfl ?_
      refine W.skip ?_
      refine W.seq ?_
      refine W.block ?_
      refine W.reg ?_
      refine XOps.s rfl rfl rfl (Q.idx_agg1 ar70 are70 rfl rfl (by first | omega | (simp at hg; omega)) (by first | omega | (simp at hg; omega)) rfl) ?_
      refine XOps.s rfl rfl rfl (Q.assign_d rfl) ?_
      refine XOps.nil ?_
      refine W.reg ?_
      refine XOps.s rfl rfl rfl (Q.move_d rfl) ?_
      refine XOps.s rfl rfl rfl (Q.lss rfl rfl) ?_
      refine XOps.s rfl rfl rfl (Q.move_d rfl) ?_
      refine XOps.gs rfl rfl rfl rfl rfl rfl rfl (fun hg => Q.move_d rfl) ?_
      refine XOps.gs rfl rfl rfl rfl rfl rfl rfl (fun hg => Quiet.open 23 hg rfl (Q.gtr rfl rfl)) ?_
      refine XOps.s rfl rfl rfl (Q.pick_or rfl rfl rfl (fun h => by first | (rw [h]; rfl) | (rw [hg, h]; rfl) | (simp [h, hg]; done))) ?_
      refine XOps.nil ?_
      refine W.cond rfl (fun hc25 => ?_) (fun hc25 => ?_)
      · try simp only [Bool.or_eq_true, Bool.or_eq_false_iff, Bool.and_eq_true, Bool.and_eq_false_iff, decide_eq_true_eq, decide_eq_false_iff_not, Bool.not_eq_true', Bool.not_eq_false', Int.not_lt, Int.not_le, List.length_map] at hc25
        have hE : lineE a b = 4 := by unfold lineE farB; rw [if_pos (by omega)]
        have hL : lineL a b = [] := by unfold lineL; rw [if_neg (by omega)]
        rw [hE, hL]
        refine W.reg ?_
        refine XOps.s rfl rfl rfl (Q.assign_nilsl rfl) ?_
        refine XOps.s rfl rfl rfl (Q.assign_d rfl) ?_
        refine XOps.nil ?_
        refine W.ghost 4 2 (by decide) rfl rfl (fun v4 => ?_)
        refine W.ret ?_
        exact ⟨_, (v4, .lst 2 []) :: hs, rfl, HLe.cons _ (HLe.skip _ (HLe.skip _ (HLe.refl _))), v4, rfl, rfl⟩
      · try simp only [Bool.or_eq_true, Bool.or_eq_false_iff, Bool.and_eq_true, Bool.and_eq_false_iff, decide_eq_true_eq, decide_eq_false_iff_not, Bool.not_eq_true', Bool.not_eq_false', Int.not_lt, Int.not_le, List.length_map] at hc25
        refine W.skip ?_
        refine W.region ?_
        refine XOps.s rfl rfl rfl (Q.add rfl rfl (wi64 (by first | omega | (dsimp only; omega) | (simp only [List.length_map]; omega)) (by first | omega | (dsimp only; omega) | (simp only [List.length_map]; omega)))) ?_
        refine XOps.s rfl rfl rfl (Q.move_d rfl) ?_
        refine XOps.nil ?_
        refine ⟨3, ?_, ?_, ?_, ?_⟩
        · omega
        · omega
        · exact ⟨by first | rfl | exact int_eq (by omega) | exact len_eq (by simp) | exact int_eq (by simp; done), by first | rfl | exact int_eq (by omega) | exact len_eq (by simp) | exact int_eq (by simp; done), by first | rfl | exact int_eq (by omega) | exact len_eq (by simp) | exact int_eq (by simp; done), by first | rfl | exact int_eq (by omega) | exact len_eq (by simp) | exact int_eq (by simp; done), trivial⟩
        · repeat (first | exact HLe.refl _ | refine HLe.cons' (by first | rfl | (simp [ceE, Vw.enc]; done)) ?_ | refine HLe.pick 1 rfl (by first | rfl | (simp [ceE, Vw.enc]; done)) ?_ | refine HLe.pick 2 rfl (by first | rfl | (simp [ceE, Vw.enc]; done)) ?_ | refine HLe.pick 3 rfl (by first | rfl | (simp [ceE, Vw.enc]; done)) ?_ | refine HLe.pick 4 rfl (by first | rfl | (simp [ceE, Vw.enc]; done)) ?_ | refine HLe.pick 5 rfl (by first | rfl | (simp [ceE, Vw.enc]; done)) ?_ | refine HLe.skip _ ?_)
    · skip
      refine W.reg ?_
      refine XOps.s rfl rfl rfl (Q.lss rfl rfl) ?_
      refine XOps.nil ?_
      refine W.seq ?_
      refine W.cond_t rfl ?_
      refine W.skip ?_
      refine W.seq ?_
      refine W.block ?_
      refine W.reg ?_
      refine XOps.s rfl rfl rfl (Q.idx_agg1 ar70 are70 rfl rfl (by first | omega | (simp at hg; omega)) (by first | omega | (simp at hg; omega)) rfl) ?_
      refine XOps.s rfl rfl rfl (Q.assign_d rfl) ?_
      refine XOps.nil ?_
      refine W.reg ?_
      refine XOps.s rfl rfl rfl (Q.move_d rfl) ?_
      refine XOps.s rfl rfl rfl (Q.lss rfl rfl) ?_
      refine XOps.s rfl rfl rfl (Q.move_d rfl) ?_
      refine XOps.gs rfl rfl rfl rfl rfl rfl rfl (fun hg => Q.move_d rfl) ?_
      refine XOps.gs rfl rfl rfl rfl rfl rfl rfl (fun hg => Quiet.open 23 hg rfl (Q.gtr rfl rfl)) ?_
      refine XOps.s rfl rfl rfl (Q.pick_or rfl rfl rfl (fun h => by first | (rw [h]; rfl) | (rw [hg, h]; rfl) | (simp [h, hg]; done))) ?_
      refine XOps.nil ?_
      refine W.cond rfl (fun hc25 => ?_) (fun hc25 => ?_)
      · try simp only [Bool.or_eq_true, Bool.or_eq_false_iff, Bool.and_eq_true, Bool.and_eq_false_iff, decide_eq_true_eq, decide_eq_false_iff_not, Bool.not_eq_true', Bool.not_eq_false', Int.not_lt, Int.not_le, List.length_map] at hc25
        have hE : lineE a b = 4 := by unfold lineE farB; rw [if_pos (by omega)]
        have hL : lineL a b = [] := by unfold lineL; rw [if_neg (by omega)]
        rw [hE, hL]
        refine W.reg ?_
        refine XOps.s rfl rfl rfl (Q.assign_nilsl rfl) ?_
        refine XOps.s rfl rfl rfl (Q.assign_d rfl) ?_
        refine XOps.nil ?_
        refine W.ghost 4 2 (by decide) rfl rfl (fun v4 => ?_)
        refine W.ret ?_
        exact ⟨_, (v4, .lst 2 []) :: hs, rfl, HLe.cons _ (HLe.skip _ (HLe.skip _ (HLe.refl _))), v4, rfl, rfl⟩
      · try simp only [Bool.or_eq_true, Bool.or_eq_false_iff, Bool.and_eq_true, Bool.and_eq_false_iff, decide_eq_true_eq, decide_eq_false_iff_not, Bool.not_eq_true', Bool.not_eq_false', Int.not_lt, Int.not_le, List.length_map] at hc25
        refine W.skip ?_
        refine W.region ?_
        refine XOps.s rfl rfl rfl (Q.add rfl rfl (wi64 (by first | omega | (dsimp only; omega) | (simp only [List.length_map]; omega)) (by first | omega | (dsimp only; omega) | (simp only [List.length_map]; omega)))) ?_
        refine XOps.s rfl rfl rfl (Q.move_d rfl) ?_
        refine XOps.nil ?_
        refine ⟨4, ?_, ?_, ?_, ?_⟩
        · omega
        · omega
        · exact ⟨by first | rfl | exact int_eq (by omega) | exact len_eq (by simp) | exact int_eq (by simp; done), by first | rfl | exact int_eq (by omega) | exact len_eq (by simp) | exact int_eq (by simp; done), by first | rfl | exact int_eq (by omega) | exact len_eq (by simp) | exact int_eq (by simp; done), by first | rfl | exact int_eq (by omega) | exact len_eq (by simp) | exact int_eq (by simp; done), trivial⟩
        · repeat (first | exact HLe.refl _ | refine HLe.cons' (by first | rfl | (simp [ceE, Vw.enc]; done)) ?_ | refine HLe.pick 1 rfl (by first | rfl | (simp [ceE, Vw.enc]; done)) ?_ | refine HLe.pick 2 rfl (by first | rfl | (simp [ceE, Vw.enc]; done)) ?_ | refine HLe.pick 3 rfl (by first | rfl | (simp [ceE, Vw.enc]; done)) ?_ | refine HLe.pick 4 rfl (by first | rfl | (simp [ceE, Vw.enc]; done)) ?_ | refine HLe.pick 5 rfl (by first | rfl | (simp [ceE, Vw.enc]; done)) ?_ | refine HLe.skip _ ?_)
    · skip
      refine W.reg ?_
      refine XOps.s rfl rfl rfl (Q.lss rfl rfl) ?_
      refine XOps.nil ?_
      refine W.seq ?_
      refine W.cond_f rfl ?_
      refine W.exit ?_
      have hE : lineE a b = 0 := by unfold lineE farB; rw [if_neg (by omega)]
      have hL : lineL a b = lineS a b := by unfold lineL; rw [if_pos hE]
      rw [hE, hL]
      refine W.reg ?_
      refine XOps.s rfl rfl rfl (Q.ld_ptrn (k := 1) ag27 rfl rfl rfl) ?_
      refine XOps.s rfl rfl rfl (Q.ld_ptrn (k := 0) ag27 rfl rfl rfl) ?_
      (refine XOps.loud rfl (L.call rfl Try.func33 go33 rfl (line_own a b _ (by omega) (by omega)) rfl) ?_; rintro _ _ ⟨_, rfl, v, rfl, rfl⟩)
      refine XOps.s rfl rfl rfl (Q.assign_vs rfl) ?_
      refine XOps.s rfl rfl rfl (Q.assign_d rfl) ?_
      refine XOps.nil ?_
      refine W.ret ?_
      exact ⟨_, (v, .lst 2 ((lineS a b).map ceE)) :: hs, rfl, HLe.cons _ (HLe.skip _ (HLe.skip _ (HLe.refl _))), v, rfl, rfl⟩

set_option maxHeartbeats 1000000 in
set_option maxRecDepth 100000 in
theorem equalC_c (a b : List Ce) (hs : Hp) (hl : a.length ≤ 4611686018427387904) : AC P 16 [.d (.sl 2 (a.map ceE)), .d (.sl 2 (b.map ceE))] hs (fun r h => r = .d (.bool (decide (a = b))) ∧ h = hs) := by
  refine AC.of 26 Try.func16 rfl rfl rfl ?_
  refine W.reg ?_
  refine XOps.s rfl rfl rfl (Q.assign_d rfl) ?_
  refine XOps.nil ?_
  refine W.seq ?_
  refine W.reg ?_
  refine XOps.s rfl rfl rfl (Q.move_d rfl) ?_
  refine XOps.s rfl rfl rfl (Q.len_sl isl42 rfl) ?_
  refine XOps.s rfl rfl rfl (Q.move_d rfl) ?_
  refine XOps.s rfl rfl rfl (Q.len_sl isl42 rfl) ?_
  refine XOps.s rfl rfl rfl (Q.neq rfl rfl) ?_
  refine XOps.nil ?_
  refine W.cond rfl (fun hc10 => ?_) (fun hc10 => ?_)
  · try simp only [decide_eq_true_eq, decide_eq_false_iff_not, Int.not_lt, Int.not_le, Bool.not_eq_true', Bool.not_eq_false', List.length_map] at hc10
    have hr : decide (a = b) = false := decide_eq_false fun h => by subst h; simp at hc10
    refine W.reg ?_
    refine XOps.s rfl rfl rfl (Q.assign_d rfl) ?_
    refine XOps.nil ?_
    refine W.ret ?_
    refine ⟨_, hs, rfl, by repeat (first | exact HLe.refl _ | refine HLe.cons' (by first | rfl | (simp [ceE, Vw.enc]; done)) ?_ | refine HLe.pick 1 rfl (by first | rfl | (simp [ceE, Vw.enc]; done)) ?_ | refine HLe.pick 2 rfl (by first | rfl | (simp [ceE, Vw.enc]; done)) ?_ | refine HLe.pick 3 rfl (by first | rfl | (simp [ceE, Vw.enc]; done)) ?_ | refine HLe.pick 4 rfl (by first | rfl | (simp [ceE, Vw.enc]; done)) ?_ | refine HLe.pick 5 rfl (by first | rfl | (simp [ceE, Vw.enc]; done)) ?_ | refine HLe.skip _ ?_), ?_, rfl⟩
    rw [hr]; rfl
  · try simp only [decide_eq_true_eq, decide_eq_false_iff_not, Int.not_lt, Int.not_le, Bool.not_eq_true', Bool.not_eq_false', List.length_map] at hc10
    have hlen : a.length = b.length := by omega
    refine W.skip ?_
    refine W.seq ?_
    refine W.reg ?_
    refine XOps.s rfl rfl rfl (Q.move_d rfl) ?_
    refine XOps.s rfl rfl rfl (Q.len_sl isl42 rfl) ?_
    refine XOps.s rfl rfl rfl (Q.move_d rfl) ?_
    refine XOps.nil ?_
    refine W.block ?_
    refine W.loop (ι := Nat) (fun k => [(0, .d (.sl 2 (a.map ceE))), (1, .d (.sl 2 (b.map ceE))), (11, .d (.sl 2 (a.map ceE))), (12, .d (.int .i64 a.length)), (13, .d (.int .i64 k))]) (fun k => hs) (fun k => k ≤ a.length ∧ ∀ i, i < k → a[i]? = b[i]?) (fun k => a.length - k) 0 ?_ ?_ ?_ ?_
    · exact ⟨Nat.zero_le _, fun i hi => absurd hi (Nat.not_lt_zero _)⟩
    · exact ⟨by first | rfl | exact int_eq (by omega) | exact len_eq (by simp) | exact int_eq (by simp; done), by first | rfl | exact int_eq (by omega) | exact len_eq (by simp) | exact int_eq (by simp; done), by first | rfl | exact int_eq (by omega) | exact len_eq (by simp) | exact int_eq (by simp; done), by first | rfl | exact int_eq (by omega) | exact len_eq (by simp) | exact int_eq (by simp; done), by first | rfl | exact int_eq (by omega) | exact len_eq (by simp) | exact int_eq (by simp; done), trivial⟩
    · repeat (first | exact HLe.refl _ | refine HLe.cons' (by first | rfl | (simp [ceE, Vw.enc]; done)) ?_ | refine HLe.pick 1 rfl (by first | rfl | (simp [ceE, Vw.enc]; done)) ?_ | refine HLe.pick 2 rfl (by first | rfl | (simp [ceE, Vw.enc]; done)) ?_ | refine HLe.pick 3 rfl (by first | rfl | (simp [ceE, Vw.enc]; done)) ?_ | refine HLe.pick 4 rfl (by first | rfl | (simp [ceE, Vw.enc]; done)) ?_ | refine HLe.pick 5 rfl (by first | rfl | (simp [ceE, Vw.enc]; done)) ?_ | refine HLe.skip _ ?_)
    · rintro k ⟨hk, hI⟩
      try dsimp only
      refine W.reg ?_
      refine XOps.s rfl rfl rfl (Q.lss rfl rfl) ?_
      refine XOps.nil ?_
      refine W.seq ?_
      refine W.cond rfl (fun hc14 => ?_) (fun hc14 => ?_)
      · try simp only [decide_eq_true_eq, decide_eq_false_iff_not, Int.not_lt, Int.not_le, Bool.not_eq_true', Bool.not_eq_false', List.length_map] at hc14
        obtain ⟨u, hu⟩ : ∃ u, a[k]? = some u := ⟨_, List.getElem?_eq_getElem (by omega)⟩
        obtain ⟨v, hv⟩ : ∃ v, b[k]? = some v := ⟨_, List.getElem?_eq_getElem (by omega)⟩
        have hsm : allD ((ceE u).take 2) ((ceE v).take 2) = decide (u = v) := same_ce u v
        refine W.skip ?_
        refine W.seq ?_
        refine W.block ?_
        refine W.reg ?_
        refine XOps.s rfl rfl rfl (Q.move_d rfl) ?_
        refine XOps.s rfl rfl rfl (Q.assign_d rfl) ?_
        refine XOps.nil ?_
        refine W.drawreg 9 follows (by kernel_rfl) ?_
        refine Chain.cons _ (GQ.q rfl (Q.move_d rfl)) rfl ?_
        refine Chain.cons _ (GQ.q rfl (Q.move_d rfl)) rfl ?_
        refine Chain.cons _ (GQ.q rfl (Q.idx_sl sl42 (by decide) rfl rfl (by first | omega | (simp only [List.length_map]; omega)) (by first | exact map_at hu | exact map_at hv))) rfl ?_
        refine Chain.cons _ (GQ.q rfl (Q.ld_dpn ag27 rfl rfl)) rfl ?_
        refine Chain.cons _ (GQ.q rfl (Q.move_d rfl)) rfl ?_
        refine Chain.cons _ (GQ.q rfl (Q.move_d rfl)) rfl ?_
        refine Chain.cons _ (GQ.q rfl (Q.idx_sl sl42 (by decide) rfl rfl (by first | omega | (simp only [List.length_map]; omega)) (by first | exact map_at hu | exact map_at hv))) rfl ?_
        refine Chain.cons _ (GQ.q rfl (Q.ld_dpn ag27 rfl rfl)) rfl ?_
        refine Chain.cons _ (GQ.q rfl (Q.neq_agg eqt27 rfl rfl rfl rfl rfl)) rfl ?_
        refine Chain.nil ?_
        refine XOps.nil ?_
        refine W.cond rfl (fun hc24 => ?_) (fun hc24 => ?_)
        · try simp only [decide_eq_true_eq, decide_eq_false_iff_not, Int.not_lt, Int.not_le, Bool.not_eq_true', Bool.not_eq_false', List.length_map] at hc24
          rw [hsm] at hc24
          have hr : decide (a = b) = false := decide_eq_false fun h => by subst h; rw [hu] at hv; obtain rfl := Option.some.inj hv; simp at hc24
          refine W.reg ?_
          refine XOps.s rfl rfl rfl (Q.assign_d rfl) ?_
          refine XOps.nil ?_
          refine W.ret ?_
          refine ⟨_, hs, rfl, by repeat (first | exact HLe.refl _ | refine HLe.cons' (by first | rfl | (simp [ceE, Vw.enc]; done)) ?_ | refine HLe.pick 1 rfl (by first | rfl | (simp [ceE, Vw.enc]; done)) ?_ | refine HLe.pick 2 rfl (by first | rfl | (simp [ceE, Vw.enc]; done)) ?_ | refine HLe.pick 3 rfl (by first | rfl | (simp [ceE, Vw.enc]; done)) ?_ | refine HLe.pick 4 rfl (by first | rfl | (simp [ceE, Vw.enc]; done)) ?_ | refine HLe.pick 5 rfl (by first | rfl | (simp [ceE, Vw.enc]; done)) ?_ | refine HLe.skip _ ?_), ?_, rfl⟩
          rw [hr]; rfl
        · try simp only [decide_eq_true_eq, decide_eq_false_iff_not, Int.not_lt, Int.not_le, Bool.not_eq_true', Bool.not_eq_false', List.length_map] at hc24
          rw [hsm] at hc24
          have huv : u = v := by simpa using hc24
          refine W.skip ?_
          refine W.region ?_
          refine XOps.s rfl rfl rfl (Q.add rfl rfl (wi64 (by first | omega | (dsimp only; omega) | (simp only [List.length_map]; omega)) (by first | omega | (dsimp only; omega) | (simp only [List.length_map]; omega)))) ?_
          refine XOps.s rfl rfl rfl (Q.move_d rfl) ?_
          refine XOps.nil ?_
          refine ⟨k + 1, ?_, ?_, ?_, ?_⟩
          · refine ⟨by omega, fun i hi => ?_⟩
            by_cases h : i = k
            · subst h; rw [hu, hv, huv]
            · exact hI i (by omega)
          · omega
          · exact ⟨by first | rfl | exact int_eq (by omega) | exact len_eq (by simp) | exact int_eq (by simp; done), by first | rfl | exact int_eq (by omega) | exact len_eq (by simp) | exact int_eq (by simp; done), by first | rfl | exact int_eq (by omega) | exact len_eq (by simp) | exact int_eq (by simp; done), by first | rfl | exact int_eq (by omega) | exact len_eq (by simp) | exact int_eq (by simp; done), by first | rfl | exact int_eq (by omega) | exact len_eq (by simp) | exact int_eq (by simp; done), trivial⟩
          · repeat (first | exact HLe.refl _ | refine HLe.cons' (by first | rfl | (simp [ceE, Vw.enc]; done)) ?_ | refine HLe.pick 1 rfl (by first | rfl | (simp [ceE, Vw.enc]; done)) ?_ | refine HLe.pick 2 rfl (by first | rfl | (simp [ceE, Vw.enc]; done)) ?_ | refine HLe.pick 3 rfl (by first | rfl | (simp [ceE, Vw.enc]; done)) ?_ | refine HLe.pick 4 rfl (by first | rfl | (simp [ceE, Vw.enc]; done)) ?_ | refine HLe.pick 5 rfl (by first | rfl | (simp [ceE, Vw.enc]; done)) ?_ | refine HLe.skip _ ?_)
      · try simp only [decide_eq_true_eq, decide_eq_false_iff_not, Int.not_lt, Int.not_le, Bool.not_eq_true', Bool.not_eq_false', List.length_map] at hc14
        have hr : decide (a = b) = true := decide_eq_true (List.ext_getElem? fun i => by
          rcases Nat.lt_or_ge i k with h | h
          · exact hI i h
          · rw [List.getElem?_eq_none (by omega), List.getElem?_eq_none (by omega)])
        refine W.exit ?_
        refine W.reg ?_
        refine XOps.s rfl rfl rfl (Q.assign_d rfl) ?_
        refine XOps.nil ?_
        refine W.ret ?_
        refine ⟨_, hs, rfl, by repeat (first | exact HLe.refl _ | refine HLe.cons' (by first | rfl | (simp [ceE, Vw.enc]; done)) ?_ | refine HLe.pick 1 rfl (by first | rfl | (simp [ceE, Vw.enc]; done)) ?_ | refine HLe.pick 2 rfl (by first | rfl | (simp [ceE, Vw.enc]; done)) ?_ | refine HLe.pick 3 rfl (by first | rfl | (simp [ceE, Vw.enc]; done)) ?_ | refine HLe.pick 4 rfl (by first | rfl | (simp [ceE, Vw.enc]; done)) ?_ | refine HLe.pick 5 rfl (by first | rfl | (simp [ceE, Vw.enc]; done)) ?_ | refine HLe.skip _ ?_), ?_, rfl⟩
        rw [hr]; rfl

set_option maxHeartbeats 1000000 in
set_option maxRecDepth 100000 in
theorem mv1_c (c : Ce) (hs : Hp) : AC P 17 [.d (.agg (ceE c))] hs (fun r h => r = .d (.agg (ceE (cutI c.1 (-40) 40, cutI c.2 (-40) 40))) ∧ h = hs) := by
  refine AC.ofc 10 Try.func17 rfl rfl rfl ?_
  refine W.reg ?_
  refine XOps.loud rfl (L.boxn rfl rfl) ?_
  rintro _ _ ⟨b1, rfl, rfl⟩
  (refine XOps.loud rfl (L.alloc tz27 rfl rfl) ?_; rintro _ _ ⟨b2, rfl, rfl⟩)
  refine XOps.nil ?_
  refine W.drawreg 7 follows (by kernel_rfl) ?_
  refine Chain.cons _ (GQ.q rfl (Q.fld_ptr fl27_0 rfl)) rfl ?_
  refine Chain.cons _ (GQ.q rfl (Q.ld_ptr (k := 1) ag3 rfl rfl rfl)) rfl ?_
  refine Chain.cons _ (GQ.q rfl (Q.call rfl Try.func8 go8 rfl (cut_c c.1 (-40) 40 _ (by decide) (by decide) (by decide)))) rfl ?_
  refine Chain.cons _ (GQ.q rfl (Q.fld_ptr fl27_1 rfl)) rfl ?_
  refine Chain.cons _ (GQ.q rfl (Q.ld_ptr (k := 1) ag3 rfl rfl rfl)) rfl ?_
  refine Chain.cons _ (GQ.q rfl (Q.call rfl Try.func8 go8 rfl (cut_c c.2 (-40) 40 _ (by decide) (by decide) (by decide)))) rfl ?_
  refine Chain.cons _ (GQ.q rfl (Q.build pl27 tz27 tzd27 rfl)) rfl ?_
  refine Chain.nil ?_
  refine XOps.loud rfl (L.storen (k := 0) ag27 rfl rfl rfl rfl rfl) ?_
  rintro _ _ ⟨rfl, rfl⟩
  refine XOps.nil ?_
  refine W.ret ?_
  exact ⟨_, hs, (.cons (by first | exact .celln 0 ag27 rfl rfl rfl | exact .cell1 0 ag27 rfl rfl rfl | exact .celln 1 ag27 rfl rfl rfl | exact .cell1 1 ag27 rfl rfl rfl | exact .celln 2 ag27 rfl rfl rfl | exact .cell1 2 ag27 rfl rfl rfl | exact .celln 3 ag27 rfl rfl rfl | exact .cell1 3 ag27 rfl rfl rfl) .nil), by repeat (first | exact HLe.refl _ | refine HLe.cons' (by first | rfl | (simp [ceE, Vw.enc]; done)) ?_ | refine HLe.pick 1 rfl (by first | rfl | (simp [ceE, Vw.enc]; done)) ?_ | refine HLe.pick 2 rfl (by first | rfl | (simp [ceE, Vw.enc]; done)) ?_ | refine HLe.pick 3 rfl (by first | rfl | (simp [ceE, Vw.enc]; done)) ?_ | refine HLe.pick 4 rfl (by first | rfl | (simp [ceE, Vw.enc]; done)) ?_ | refine HLe.pick 5 rfl (by first | rfl | (simp [ceE, Vw.enc]; done)) ?_ | refine HLe.skip _ ?_), rfl, rfl⟩
end Go.Proofs.YtijgdgkfimnkbaaA
