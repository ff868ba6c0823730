/- Runs of a centre. -/
import Derived.Test.YtaegeaajhbfkgaaGreatDoorFrB
import Derived.Test.YtaegeaajhbfkgaaGreatDoorCeV
import Derived.Test.YtaegeaajhbfkgaaGreatDoorCen8
set_option linter.unusedVariables false
set_option linter.unusedSimpArgs false
set_option linter.unnecessarySimpa false
namespace Go.Proofs.YtaegeaajhbfkgaaGreatDoorA.FCeW
open Go
theorem ag27 : tAgg P 27 = some ((true, 18)) := by kernel_rfl
theorem ag35 : tAgg P 35 = some ((true, 9)) := by kernel_rfl
theorem ag39 : tAgg P 39 = some ((false, 1)) := by kernel_rfl
theorem ag43 : tAgg P 43 = some ((true, 2)) := by kernel_rfl
theorem ag9 : tAgg P 9 = some ((false, 1)) := by kernel_rfl
theorem fl41_0 : tFld P 41 0 = some (0) := by kernel_rfl
theorem fl41_4 : tFld P 41 4 = some (4) := by kernel_rfl
theorem go14 : callGo Go.Proofs.Tryz.f14 = true := by kernel_rfl
theorem go35 : callGo Go.Proofs.Tryz.f35 = true := by kernel_rfl
theorem go36 : callGo Go.Proofs.Tryz.f36 = true := by kernel_rfl
theorem go38 : callGo Go.Proofs.Tryz.f38 = true := by kernel_rfl
theorem go39 : callGo Go.Proofs.Tryz.f39 = true := by kernel_rfl
theorem ipt31 : isPtr P 31 = true := by kernel_rfl
theorem isl28 : isSl P 28 = true := by kernel_rfl
theorem isl37 : isSl P 37 = true := by kernel_rfl
theorem isl39 : isSl P 39 = true := by kernel_rfl
theorem pl23 : tPl P 23 = some ([(0, 1), (1, 1)]) := by kernel_rfl
theorem pl27 : tPl P 27 = some ([(0, 2), (2, 16)]) := by kernel_rfl
theorem pl35 : tPl P 35 = some ([(0, 1), (1, 1), (2, 1), (3, 1), (4, 1), (5, 1), (6, 1), (7, 1), (8, 1)]) := by kernel_rfl
theorem pl43 : tPl P 43 = some ([(0, 1), (1, 1)]) := by kernel_rfl
theorem pl45 : tPl P 45 = some ([(0, 1), (1, 2), (3, 1)]) := by kernel_rfl
theorem pl47 : tPl P 47 = some ([(0, 4), (4, 1), (5, 1)]) := by kernel_rfl
theorem sl28 : tSl P 28 = some (9) := by kernel_rfl
theorem sl33 : tSl P 33 = some (6) := by kernel_rfl
theorem sl37 : tSl P 37 = some (8) := by kernel_rfl
theorem tz23 : tZero P 23 = some ([.int .i64 0, .int .i64 0]) := by kernel_rfl
theorem tz27 : tZero P 27 = some ([.int .i64 0, .int .i64 0, .int .i64 0, .int .i64 0, .int .i64 0, .int .i64 0, .int .i64 0, .int .i64 0, .int .i64 0, .int .i64 0, .int .i64 0, .int .i64 0, .int .i64 0, .int .i64 0, .int .i64 0, .int .i64 0, .int .i64 0, .int .i64 0]) := by kernel_rfl
theorem tz35 : tZero P 35 = some ([.int .i64 0, .int .i64 0, .string ⟨#[]⟩, .string ⟨#[]⟩, .string ⟨#[]⟩, .slice none 0 0, .int .i64 0, .int .i64 0, .bool false]) := by kernel_rfl
theorem tz43 : tZero P 43 = some ([.int .i64 0, .int .i64 0]) := by kernel_rfl
theorem tz45 : tZero P 45 = some ([.int .i64 0, .int .i64 0, .int .i64 0, .int .i64 0]) := by kernel_rfl
theorem tz47 : tZero P 47 = some ([.int .i64 0, .int .i64 0, .int .i64 0, .int .i64 0, .int .i64 0, .int .i64 0]) := by kernel_rfl
theorem tzd23 : cellsD [.int .i64 0, .int .i64 0] = some ([.int .i64 0, .int .i64 0]) := rfl
theorem tzd27 : cellsD [.int .i64 0, .int .i64 0, .int .i64 0, .int .i64 0, .int .i64 0, .int .i64 0, .int .i64 0, .int .i64 0, .int .i64 0, .int .i64 0, .int .i64 0, .int .i64 0, .int .i64 0, .int .i64 0, .int .i64 0, .int .i64 0, .int .i64 0, .int .i64 0] = some ([.int .i64 0, .int .i64 0, .int .i64 0, .int .i64 0, .int .i64 0, .int .i64 0, .int .i64 0, .int .i64 0, .int .i64 0, .int .i64 0, .int .i64 0, .int .i64 0, .int .i64 0, .int .i64 0, .int .i64 0, .int .i64 0, .int .i64 0, .int .i64 0]) := rfl
theorem tzd35 : cellsD [.int .i64 0, .int .i64 0, .string ⟨#[]⟩, .string ⟨#[]⟩, .string ⟨#[]⟩, .slice none 0 0, .int .i64 0, .int .i64 0, .bool false] = some ([.int .i64 0, .int .i64 0, .str ⟨#[]⟩, .str ⟨#[]⟩, .str ⟨#[]⟩, .sl 0 [], .int .i64 0, .int .i64 0, .bool false]) := rfl
theorem tzd43 : cellsD [.int .i64 0, .int .i64 0] = some ([.int .i64 0, .int .i64 0]) := rfl
theorem tzd45 : cellsD [.int .i64 0, .int .i64 0, .int .i64 0, .int .i64 0] = some ([.int .i64 0, .int .i64 0, .int .i64 0, .int .i64 0]) := rfl
theorem tzd47 : cellsD [.int .i64 0, .int .i64 0, .int .i64 0, .int .i64 0, .int .i64 0, .int .i64 0] = some ([.int .i64 0, .int .i64 0, .int .i64 0, .int .i64 0, .int .i64 0, .int .i64 0]) := rfl
theorem zr33 : tZrow P 33 = some ([.int .i64 0, .int .i64 0, .int .i64 0, .int .i64 0, .int .i64 0, .int .i64 0]) := by kernel_rfl
theorem zrd33 : cellsD [.int .i64 0, .int .i64 0, .int .i64 0, .int .i64 0, .int .i64 0, .int .i64 0] = some ([.int .i64 0, .int .i64 0, .int .i64 0, .int .i64 0, .int .i64 0, .int .i64 0]) := rfl
end Go.Proofs.YtaegeaajhbfkgaaGreatDoorA.FCeW
namespace Go.Proofs.YtaegeaajhbfkgaaGreatDoorA
open Go FCeW
attribute [local irreducible] XOps Quiet Loud W AC GQ DT
set_option maxHeartbeats 1000000 in
set_option maxRecDepth 100000 in
theorem straight_c (x y f u : Int) (hs : Hp) : AC P 38 [.d (.agg [.int .i64 (x), .int .i64 (y)]), .d (.int .i64 (f)), .d (.int .i64 (u))] hs (fun r h => r = .d (tuD [⟨f, x, y, 0, 1, 0⟩, ⟨u, x, y, 0, 1, 0⟩]) ∧ h = hs) := by
  refine AC.of 16 Tryz.func38 rfl rfl rfl ?_
  refine W.reg ?_
  refine XOps.loud rfl (L.boxn rfl rfl) ?_
  rintro _ _ ⟨b3, rfl, rfl⟩
  refine XOps.s rfl rfl rfl (Q.assign_nilsl rfl) ?_
  refine XOps.nil ?_
  refine W.reg ?_
  refine XOps.s rfl rfl rfl (Q.move_d rfl) ?_
  refine XOps.s rfl rfl rfl (Q.ld_ptrn (k := 0) ag43 rfl rfl rfl) ?_
  refine XOps.s rfl rfl rfl (Q.build pl45 tz45 tzd45 rfl) ?_
  refine XOps.s rfl rfl rfl (Q.build pl47 tz47 tzd47 rfl) ?_
  refine XOps.s rfl rfl rfl (Q.move_d rfl) ?_
  refine XOps.s rfl rfl rfl (Q.ld_ptrn (k := 0) ag43 rfl rfl rfl) ?_
  refine XOps.s rfl rfl rfl (Q.build pl45 tz45 tzd45 rfl) ?_
  refine XOps.s rfl rfl rfl (Q.build pl47 tz47 tzd47 rfl) ?_
  refine XOps.s rfl rfl rfl (Q.bsl sl33 (by decide) zr33 rfl zrd33 (by decide) rfl rfl) ?_
  refine XOps.s rfl rfl rfl (Q.assign_d rfl) ?_
  refine XOps.nil ?_
  refine W.ret ?_
  exact ⟨_, hs, rfl, HLe.skip _ (HLe.refl _), rfl, rfl⟩
set_option maxHeartbeats 4000000 in
set_option maxRecDepth 100000 in
theorem fact_c (gk gd : Nat) (hs : Hp) : AC P 11 [] ((gk, kiG) :: (gd, p10G) :: hs) (fun r h => r = .d (.bool (true)) ∧ h = (gk, kiG) :: (gd, p10G) :: hs) := by
  have hfo : ∀ f ∈ (stepS su0 (stepS su0 Stt.zero xA) xB).fl, FlOk f := (step_keep (step_keep (StOk.zero (suC_zero su0_ok).2))).fw.all
  refine AC.of 56 Tryz.func11 rfl rfl rfl ?_
  refine W.reg ?_
  refine XOps.s rfl rfl rfl (Q.assign_d rfl) ?_
  refine XOps.nil ?_
  refine W.reg ?_
  refine XOps.s rfl rfl rfl (Q.build pl23 tz23 tzd23 rfl) ?_
  refine XOps.s rfl rfl rfl (Q.build pl27 tz27 tzd27 rfl) ?_
  (refine XOps.loud rfl (L.call rfl Tryz.func35 go35 rfl (AC.le (cnew_c su0 gd ((gk, kiG) :: hs) su0_ok) (HLe.pick 1 rfl rfl (HLe.refl _))) rfl) ?_; rintro _ _ ⟨_, rfl, b, lb, f, rfl, rfl⟩)
  refine XOps.s rfl rfl rfl (Q.move_tup rfl) ?_
  refine XOps.s rfl rfl rfl (Q.extract rfl rfl) ?_
  refine XOps.s rfl rfl rfl (Q.extract rfl rfl) ?_
  refine XOps.s rfl rfl rfl (Q.assign_ptr rfl) ?_
  refine XOps.s rfl rfl rfl (Q.assign_d rfl) ?_
  refine XOps.nil ?_
  refine W.heap (ceH su0 Stt.zero b lb f gk gd hs) (HLe.pick 0 rfl rfl (HLe.pick 3 rfl rfl (HLe.refl _))) ?_
  refine W.seq ?_
  refine W.reg ?_
  refine XOps.s rfl rfl rfl (Q.move_d rfl) ?_
  refine XOps.s rfl rfl rfl (Q.neq rfl rfl) ?_
  refine XOps.s rfl rfl rfl (Q.move_d rfl) ?_
  refine XOps.gs rfl rfl rfl rfl rfl rfl rfl (fun hg => Q.move_ptr rfl) ?_
  refine XOps.gs rfl rfl rfl rfl rfl rfl rfl (fun hg => Quiet.open 15 hg rfl (Q.eql_ptr ipt31 rfl rfl)) ?_
  refine XOps.s rfl rfl rfl (Q.pick_or rfl rfl rfl (fun h => by first | (rw [h]; rfl) | (rw [hg, h]; rfl) | (simp [h, hg]; done))) ?_
  refine XOps.nil ?_
  refine W.cond rfl (fun hc17 => ?_) (fun hc17 => ?_)
  · try simp only [Bool.or_eq_true, Bool.or_eq_false_iff, Bool.and_eq_true, Bool.and_eq_false_iff, decide_eq_true_eq, decide_eq_false_iff_not, Bool.not_eq_true', Bool.not_eq_false', Int.not_lt, Int.not_le, List.length_map] at hc17
    exact absurd hc17 (by decide)
  · try simp only [Bool.or_eq_true, Bool.or_eq_false_iff, Bool.and_eq_true, Bool.and_eq_false_iff, decide_eq_true_eq, decide_eq_false_iff_not, Bool.not_eq_true', Bool.not_eq_false', Int.not_lt, Int.not_le, List.length_map] at hc17
    refine W.skip ?_
    refine W.reg ?_
    refine XOps.s rfl rfl rfl (Q.move_ptr rfl) ?_
    refine XOps.s rfl rfl rfl (Q.build pl43 tz43 tzd43 rfl) ?_
    refine XOps.s rfl rfl rfl (Q.call rfl Tryz.func38 go38 rfl (straight_c 0 0 0 9 _)) ?_
    refine XOps.s rfl rfl rfl (Q.build pl35 tz35 tzd35 rfl) ?_
    refine XOps.loud rfl (L.call rfl Tryz.func36 go36 rfl (step_c su0 Stt.zero xA b lb f gk gd hs (StOk.zero (suC_zero su0_ok).2) (by decide) (by decide) (by decide) (by decide)) rfl) ?_
    rintro _ _ ⟨_, rfl, f2, rfl, rfl⟩
    refine XOps.s rfl rfl rfl (Q.assign_d rfl) ?_
    refine XOps.nil ?_
    refine W.reg ?_
    refine XOps.s rfl rfl rfl (Q.move_ptr rfl) ?_
    refine XOps.s rfl rfl rfl (Q.build pl43 tz43 tzd43 rfl) ?_
    refine XOps.s rfl rfl rfl (Q.call rfl Tryz.func38 go38 rfl (straight_c 50 0 5 20 _)) ?_
    refine XOps.s rfl rfl rfl (Q.build pl35 tz35 tzd35 rfl) ?_
    refine XOps.loud rfl (L.call rfl Tryz.func36 go36 rfl (step_c su0 (stepS su0 Stt.zero xA) xB b lb f2 gk gd hs (step_keep (StOk.zero (suC_zero su0_ok).2)) (by decide) (by decide) (by decide) (by decide)) rfl) ?_
    rintro _ _ ⟨_, rfl, f3, rfl, rfl⟩
    refine XOps.s rfl rfl rfl (Q.assign_d rfl) ?_
    refine XOps.nil ?_
    rw [fact1, fact2]
    refine W.reg ?_
    refine XOps.s rfl rfl rfl (Q.move_ptr rfl) ?_
    refine XOps.s rfl rfl rfl (Q.call rfl Tryz.func14 go14 rfl (flights_c su0 _ (stepS su0 (stepS su0 Stt.zero xA) xB).fl _ lb b 0 _ rfl hfo (by rw [fact3]; decide))) ?_
    refine XOps.s rfl rfl rfl (Q.assign_d rfl) ?_
    refine XOps.nil ?_
    rw [fact3]
    refine W.reg ?_
    refine XOps.s rfl rfl rfl (Q.move_d rfl) ?_
    refine XOps.s rfl rfl rfl (Q.eql rfl rfl) ?_
    refine XOps.s rfl rfl rfl (Q.move_d rfl) ?_
    refine XOps.gs rfl rfl rfl rfl rfl rfl rfl (fun hg => Q.move_d rfl) ?_
    refine XOps.gs rfl rfl rfl rfl rfl rfl rfl (fun hg => Quiet.open 33 hg rfl (Q.eql rfl rfl)) ?_
    refine XOps.s rfl rfl rfl (Q.pick_and rfl rfl rfl (fun h => by first | (rw [h]; rfl) | (rw [hg, h]; rfl) | (simp [h, hg]; done))) ?_
    refine XOps.s rfl rfl rfl (Q.move_d rfl) ?_
    refine XOps.gs rfl rfl rfl rfl rfl rfl rfl (fun hg => Q.move_d rfl) ?_
    refine XOps.gs rfl rfl rfl rfl rfl rfl rfl (fun hg => Quiet.open 37 hg rfl (Q.len_sl isl37 rfl)) ?_
    refine XOps.gs rfl rfl rfl rfl rfl rfl rfl (fun hg => Quiet.open 38 hg rfl (Q.eql rfl rfl)) ?_
    refine XOps.s rfl rfl rfl (Q.pick_and rfl rfl rfl (fun h => by first | (rw [h]; rfl) | (rw [hg, h]; rfl) | (simp [h, hg]; done))) ?_
    refine XOps.s rfl rfl rfl (Q.move_d rfl) ?_
    refine XOps.gs rfl rfl rfl rfl rfl rfl rfl (fun hg => Q.move_d rfl) ?_
    refine XOps.gs rfl rfl rfl rfl rfl rfl rfl (fun hg => Quiet.open 42 hg rfl (Q.idx_sl sl37 (by decide) rfl rfl (by first | omega | (simp only [List.length_map]; omega)) (by rfl))) ?_
    refine XOps.gs rfl rfl rfl rfl rfl rfl rfl (fun hg => Quiet.open 43 hg rfl (Q.fld_dp fl41_0 rfl)) ?_
    refine XOps.gs rfl rfl rfl rfl rfl rfl rfl (fun hg => Quiet.open 44 hg rfl (Q.ld_dp ag9 rfl rfl)) ?_
    refine XOps.gs rfl rfl rfl rfl rfl rfl rfl (fun hg => Quiet.open 45 hg rfl (Q.eql_str rfl rfl)) ?_
    refine XOps.s rfl rfl rfl (Q.pick_and rfl rfl rfl (fun h => by first | (rw [h]; rfl) | (rw [hg, h]; rfl) | (simp [h, hg]; done))) ?_
    refine XOps.s rfl rfl rfl (Q.move_d rfl) ?_
    refine XOps.gs rfl rfl rfl rfl rfl rfl rfl (fun hg => Q.move_d rfl) ?_
    refine XOps.gs rfl rfl rfl rfl rfl rfl rfl (fun hg => Quiet.open 49 hg rfl (Q.idx_sl sl37 (by decide) rfl rfl (by first | omega | (simp only [List.length_map]; omega)) (by rfl))) ?_
    refine XOps.gs rfl rfl rfl rfl rfl rfl rfl (fun hg => Quiet.open 50 hg rfl (Q.fld_dp fl41_4 rfl)) ?_
    refine XOps.gs rfl rfl rfl rfl rfl rfl rfl (fun hg => Quiet.open 51 hg rfl (Q.ld_dp ag39 rfl rfl)) ?_
    refine XOps.gs rfl rfl rfl rfl rfl rfl rfl (fun hg => Quiet.open 52 hg rfl (Q.len_sl isl39 rfl)) ?_
    refine XOps.gs rfl rfl rfl rfl rfl rfl rfl (fun hg => Quiet.open 53 hg rfl (Q.eql rfl rfl)) ?_
    refine XOps.s rfl rfl rfl (Q.pick_and rfl rfl rfl (fun h => by first | (rw [h]; rfl) | (rw [hg, h]; rfl) | (simp [h, hg]; done))) ?_
    refine XOps.s rfl rfl rfl (Q.assign_d rfl) ?_
    refine XOps.nil ?_
    refine W.ret ?_
    refine ⟨_, (gk, kiG) :: (gd, p10G) :: hs, rfl, HLe.skip _ (HLe.cons _ (HLe.cons _ (HLe.skip _ (HLe.skip _ (HLe.refl _))))), ?_, rfl⟩
    show AV.d (.bool _) = _
    exact congrArg (fun b => AV.d (D.bool b)) (by decide +kernel)
set_option maxHeartbeats 8000000 in
set_option maxRecDepth 100000 in
theorem run_c (su : Su) (xs : List CI) (kf : FuncId) (fn : Func) (hkf : P.funcs[kf]? = some fn) (hgo : callGo fn = true) (caps : List AV) (J : Nat → Hp → Prop) (gk gd : Nat) (H0 : Hp) (h0 : suC su = 0) (hx : ∀ x ∈ xs, CiS x) (hlen : xs.length ≤ 4611686018427387904) (hJ0 : J 0 H0) (hf : ∀ (k : Nat) (x : CI) (b lb f : Nat) (H : Hp), k < 14 → xs[k]? = some x → J k H → AC P kf ([.ptr b 0, .d (.agg x.enc), .d (.int .i64 (stepE su (atS su xs k) x))] ++ caps) (ceH su (atS su xs (k + 1)) b lb f gk gd H) (fun r h => r = .d (.bool (true)) ∧ ∃ H2, J (k + 1) H2 ∧ h = ceH su (atS su xs (k + 1)) b lb f gk gd H2)) : AC P 12 [.d (.agg su.enc), .d (.sl 9 (xs.map CI.enc)), .fn kf caps] ((gk, kiG) :: (gd, p10G) :: H0) (fun r h => r = .d (.bool (true)) ∧ ∃ H2, J (min xs.length 14) H2 ∧ h = (gk, kiG) :: (gd, p10G) :: H2) := by
  have hml : (xs.map CI.enc).length = xs.length := List.length_map _
  have hR : (140737488351232 : Nat) ≤ 4611686018427387904 := by decide
  refine AC.of 47 Tryz.func12 rfl rfl rfl ?_
  refine W.reg ?_
  refine XOps.loud rfl (L.boxn rfl rfl) ?_
  rintro _ _ ⟨b3, rfl, rfl⟩
  refine XOps.s rfl rfl rfl (Q.assign_d rfl) ?_
  refine XOps.nil ?_
  refine W.reg ?_
  refine XOps.s rfl rfl rfl (Q.ld_ptrn (k := 0) ag27 rfl rfl rfl) ?_
  (refine XOps.loud rfl (L.call rfl Tryz.func35 go35 rfl (AC.le (cnew_c su gd ((gk, kiG) :: H0) h0) (HLe.pick 2 rfl rfl (HLe.pick 1 rfl rfl (HLe.skip _ (HLe.refl _))))) rfl) ?_; rintro _ _ ⟨_, rfl, b, lb, f, rfl, rfl⟩)
  refine XOps.s rfl rfl rfl (Q.move_tup rfl) ?_
  refine XOps.s rfl rfl rfl (Q.extract rfl rfl) ?_
  refine XOps.s rfl rfl rfl (Q.extract rfl rfl) ?_
  refine XOps.s rfl rfl rfl (Q.assign_ptr rfl) ?_
  refine XOps.s rfl rfl rfl (Q.assign_d rfl) ?_
  refine XOps.nil ?_
  refine W.heap (ceH su (atS su xs 0) b lb f gk gd H0) (by rw [atS_zero]; exact HLe.pick 0 rfl rfl (HLe.pick 3 rfl rfl (HLe.pick 0 rfl rfl (HLe.pick 0 rfl rfl (HLe.pick 0 rfl rfl (HLe.refl _)))))) ?_
  refine W.seq ?_
  refine W.reg ?_
  refine XOps.s rfl rfl rfl (Q.move_d rfl) ?_
  refine XOps.s rfl rfl rfl (Q.neq rfl rfl) ?_
  refine XOps.nil ?_
  refine W.cond rfl (fun hc17 => ?_) (fun hc17 => ?_)
  · try simp only [Bool.or_eq_true, Bool.or_eq_false_iff, Bool.and_eq_true, Bool.and_eq_false_iff, decide_eq_true_eq, decide_eq_false_iff_not, Bool.not_eq_true', Bool.not_eq_false', Int.not_lt, Int.not_le, List.length_map] at hc17
    exact absurd hc17 (by decide)
  · try simp only [Bool.or_eq_true, Bool.or_eq_false_iff, Bool.and_eq_true, Bool.and_eq_false_iff, decide_eq_true_eq, decide_eq_false_iff_not, Bool.not_eq_true', Bool.not_eq_false', Int.not_lt, Int.not_le, List.length_map] at hc17
    refine W.skip ?_
    refine W.seq ?_
    refine W.reg ?_
    refine XOps.s rfl rfl rfl (Q.move_ptr rfl) ?_
    refine XOps.s rfl rfl rfl (Q.eql_ptr ipt31 rfl rfl) ?_
    refine XOps.nil ?_
    refine W.cond rfl (fun hc27 => ?_) (fun hc27 => ?_)
    · try simp only [Bool.or_eq_true, Bool.or_eq_false_iff, Bool.and_eq_true, Bool.and_eq_false_iff, decide_eq_true_eq, decide_eq_false_iff_not, Bool.not_eq_true', Bool.not_eq_false', Int.not_lt, Int.not_le, List.length_map] at hc27
      exact absurd hc27 (by decide)
    · try simp only [Bool.or_eq_true, Bool.or_eq_false_iff, Bool.and_eq_true, Bool.and_eq_false_iff, decide_eq_true_eq, decide_eq_false_iff_not, Bool.not_eq_true', Bool.not_eq_false', Int.not_lt, Int.not_le, List.length_map] at hc27
      refine W.skip ?_
      refine W.seq ?_
      refine W.reg ?_
      refine XOps.s rfl rfl rfl (Q.move_d rfl) ?_
      refine XOps.s rfl rfl rfl (Q.move_d rfl) ?_
      refine XOps.s rfl rfl rfl (Q.len_sl isl28 rfl) ?_
      refine XOps.s rfl rfl rfl (Q.mini rfl rfl) ?_
      refine XOps.s rfl rfl rfl (Quiet.to (v' := .d (.sl 9 ((xs.take (min xs.length 14)).map CI.enc))) (Q.cut_slm sl28 rfl rfl rfl (by omega) (by omega) (by omega)) (fun _ _ _ _ h => by rw [show ((min ((xs.map CI.enc).length : Int) 14)).toNat = min xs.length 14 by omega] at h; exact h)) ?_
      refine XOps.s rfl rfl rfl (Q.len_sl isl28 rfl) ?_
      refine XOps.s rfl rfl rfl (Q.move_d rfl) ?_
      refine XOps.nil ?_
      refine W.block ?_
      refine W.loop (ι := Nat × Nat × Hp) (fun p => [(2, .fn kf caps), (7, .ptr b 0), (32, .d (.sl 9 ((xs.take (min xs.length 14)).map CI.enc))), (33, .d (.int .i64 (min xs.length 14 : Nat))), (34, .d (.int .i64 (p.1 : Nat)))]) (fun p => ceH su (atS su xs p.1) b lb p.2.1 gk gd p.2.2) (fun p => p.1 ≤ min xs.length 14 ∧ J p.1 p.2.2) (fun p => min xs.length 14 - p.1) (0, f, H0) ?_ ?_ ?_ ?_
      · exact ⟨Nat.zero_le _, hJ0⟩
      · exact ⟨by first | rfl | exact int_eq (by omega) | exact len_eq (by simp) | exact int_eq (by simp; done), by first | rfl | exact int_eq (by omega) | exact len_eq (by simp) | exact int_eq (by simp; done), by first | rfl | exact int_eq (by omega) | exact len_eq (by simp) | exact int_eq (by simp; done), by exact int_eq (by simp), by first | rfl | exact int_eq (by omega) | exact len_eq (by simp) | exact int_eq (by simp; done), trivial⟩
      · exact HLe.refl _
      · rintro ⟨k, f, H⟩ ⟨hk, hJ⟩
        dsimp only at hk hJ ⊢
        refine W.reg ?_
        refine XOps.s rfl rfl rfl (Q.lss rfl rfl) ?_
        refine XOps.nil ?_
        refine W.seq ?_
        refine W.cond rfl (fun hc35 => ?_) (fun hc35 => ?_)
        · try simp only [Bool.or_eq_true, Bool.or_eq_false_iff, Bool.and_eq_true, Bool.and_eq_false_iff, decide_eq_true_eq, decide_eq_false_iff_not, Bool.not_eq_true', Bool.not_eq_false', Int.not_lt, Int.not_le, List.length_map] at hc35
          obtain ⟨x, hxk⟩ : ∃ x, xs[k]? = some x := ⟨_, List.getElem?_eq_getElem (by omega)⟩
          have hxm : x ∈ xs := List.mem_of_getElem? hxk
          have hxt : (xs.take (min xs.length 14))[k]? = some x := by rw [List.getElem?_take, if_pos (by omega)]; exact hxk
          have hss := atS_succ su hxk
          refine W.skip ?_
          refine W.seq ?_
          refine W.block ?_
          refine W.reg ?_
          refine XOps.s rfl rfl rfl (Q.idx_sl sl28 (by decide) rfl rfl (by first | omega | (simp only [List.length_map]; omega)) (by exact map_at hxt)) ?_
          refine XOps.s rfl rfl rfl (Q.ld_dpn ag35 rfl rfl) ?_
          (refine XOps.loud rfl (L.alloc tz35 rfl rfl) ?_; rintro _ _ ⟨b10, rfl, rfl⟩)
          refine XOps.loud rfl (L.storen (k := 0) ag35 rfl rfl rfl rfl rfl) ?_
          rintro _ _ ⟨rfl, rfl⟩
          refine XOps.nil ?_
          refine W.drawTreg 8 [5, 6] follows (by kernel_rfl) (by decide) ?_
          apply DT.moreC [.new, .new, .new, .new, .new, .now, .later, .later] (by kernel_rfl)
          refine PC.new _ rfl (GQ.q rfl (Q.move_fn rfl)) rfl ?_
          refine PC.new _ rfl (GQ.q rfl (Q.move_ptr rfl)) rfl ?_
          refine PC.new _ rfl (GQ.q rfl (Q.ld_ptrn (k := 0) ag35 rfl rfl rfl)) rfl ?_
          refine PC.new _ rfl (GQ.q rfl (Q.move_ptr rfl)) rfl ?_
          refine PC.new _ rfl (GQ.q rfl (Q.ld_ptrn (k := 0) ag35 rfl rfl rfl)) rfl ?_
          refine PC.now rfl rfl (fun τ => Loud.to (L.call rfl Tryz.func36 go36 rfl (AC.le (step_c su (atS su xs k) x b lb f gk gd ((b10, .cells (x.enc.map .d)) :: H) (atS_ok h0 xs k) (by have := (hx x hxm).call; omega) (by have := (hx x hxm).by_; omega) (by have := (hx x hxm).to_; omega) (by have := (hx x hxm).tube; omega)) (HLe.pick 1 rfl rfl (HLe.pick 1 rfl rfl (HLe.pick 1 rfl rfl (HLe.pick 1 rfl rfl (HLe.pick 1 rfl rfl (HLe.refl _))))))) rfl) (fun _ _ ⟨r, h1, h2⟩ => ⟨r, h1, _, h2, rfl⟩)) ?_
          refine PC.later rfl ?_
          refine PC.later rfl ?_
          refine PC.nil ?_
          rintro _ _ ⟨_, ⟨f2, rfl, rfl⟩, rfl⟩
          apply DT.moreC [.old, .old, .old, .did, .did, .did, .now, .later] (by kernel_rfl)
          refine PC.old rfl (GQ.q rfl (Q.move_fn rfl)) rfl ?_
          refine PC.old rfl (GQ.q rfl (Q.move_ptr rfl)) rfl ?_
          refine PC.old rfl (GQ.q rfl (Q.ld_ptrn (k := 5) ag35 rfl rfl rfl)) rfl ?_
          refine PC.did rfl ?_
          refine PC.did rfl ?_
          refine PC.did rfl ?_
          refine PC.now rfl rfl (fun τ => Loud.to (L.call rfl hkf hgo rfl (AC.le (hf k x b lb f2 H (by omega) hxk hJ) (by rw [hss]; exact HLe.cons _ (HLe.cons _ (HLe.cons _ (HLe.cons _ (HLe.cons _ (HLe.skip _ (HLe.refl _)))))))) rfl) (fun _ _ ⟨r, h1, h2⟩ => ⟨r, h1, _, h2, rfl⟩)) ?_
          refine PC.later rfl ?_
          refine PC.nil ?_
          rintro _ _ ⟨_, ⟨rfl, H2, hJ2, rfl⟩, rfl⟩
          refine DT.last [.did, .did, .did, .did, .did, .did, .did, .new] (by kernel_rfl) ?_
          refine PC.did rfl ?_
          refine PC.did rfl ?_
          refine PC.did rfl ?_
          refine PC.did rfl ?_
          refine PC.did rfl ?_
          refine PC.did rfl ?_
          refine PC.did rfl ?_
          refine PC.new _ rfl (GQ.q rfl (Q.not rfl)) rfl ?_
          refine PC.nil ?_
          refine XOps.nil ?_
          refine W.cond rfl (fun hc45 => ?_) (fun hc45 => ?_)
          · try simp only [Bool.or_eq_true, Bool.or_eq_false_iff, Bool.and_eq_true, Bool.and_eq_false_iff, decide_eq_true_eq, decide_eq_false_iff_not, Bool.not_eq_true', Bool.not_eq_false', Int.not_lt, Int.not_le, List.length_map] at hc45
            exact absurd hc45 (by decide)
          · try simp only [Bool.or_eq_true, Bool.or_eq_false_iff, Bool.and_eq_true, Bool.and_eq_false_iff, decide_eq_true_eq, decide_eq_false_iff_not, Bool.not_eq_true', Bool.not_eq_false', Int.not_lt, Int.not_le, List.length_map] at hc45
            refine W.skip ?_
            refine W.region ?_
            refine XOps.s rfl rfl rfl (Q.add rfl rfl (wi64 (by first | omega | (dsimp only; omega) | (simp only [List.length_map]; omega)) (by first | omega | (dsimp only; omega) | (simp only [List.length_map]; omega)))) ?_
            refine XOps.s rfl rfl rfl (Q.move_d rfl) ?_
            refine XOps.nil ?_
            refine ⟨(k + 1, f2, H2), ?_, ?_, ?_, ?_⟩
            · exact ⟨(show k + 1 ≤ _ by omega), hJ2⟩
            · dsimp only; omega
            · exact ⟨by first | rfl | exact int_eq (by omega) | exact len_eq (by simp) | exact int_eq (by simp; done), by first | rfl | exact int_eq (by omega) | exact len_eq (by simp) | exact int_eq (by simp; done), by first | rfl | exact int_eq (by omega) | exact len_eq (by simp) | exact int_eq (by simp; done), by first | rfl | exact int_eq (by omega) | exact len_eq (by simp) | exact int_eq (by simp; done), by first | rfl | exact int_eq (by omega) | exact len_eq (by simp) | exact int_eq (by simp; done), trivial⟩
            · exact HLe.refl _
        · try simp only [Bool.or_eq_true, Bool.or_eq_false_iff, Bool.and_eq_true, Bool.and_eq_false_iff, decide_eq_true_eq, decide_eq_false_iff_not, Bool.not_eq_true', Bool.not_eq_false', Int.not_lt, Int.not_le, List.length_map] at hc35
          obtain rfl : k = min xs.length 14 := by omega
          refine W.exit ?_
          refine W.reg ?_
          refine XOps.s rfl rfl rfl (Q.assign_d rfl) ?_
          refine XOps.nil ?_
          refine W.ret ?_
          exact ⟨_, (gk, kiG) :: (gd, p10G) :: H, rfl, HLe.skip _ (HLe.cons _ (HLe.cons _ (HLe.skip _ (HLe.skip _ (HLe.refl _))))), rfl, H, hJ, rfl⟩
set_option maxHeartbeats 4000000 in
set_option maxRecDepth 100000 in
theorem runx_c (su : Su) (xs : List CI) (fv : AV) (hs : Hp) (h0 : suC su ≠ 0) : AC P 12 [.d (.agg su.enc), .d (.sl 9 (xs.map CI.enc)), fv] hs (fun r h => r = .d (.bool (true)) ∧ h = hs) := by
  refine AC.of 47 Tryz.func12 rfl rfl rfl ?_
  refine W.reg ?_
  refine XOps.loud rfl (L.boxn rfl rfl) ?_
  rintro _ _ ⟨b3, rfl, rfl⟩
  refine XOps.s rfl rfl rfl (Q.assign_d rfl) ?_
  refine XOps.nil ?_
  refine W.reg ?_
  refine XOps.s rfl rfl rfl (Q.ld_ptrn (k := 0) ag27 rfl rfl rfl) ?_
  refine XOps.s rfl rfl rfl (Q.call rfl Tryz.func35 go35 rfl (cnewx_c su _ h0)) ?_
  refine XOps.s rfl rfl rfl (Q.move_tup rfl) ?_
  refine XOps.s rfl rfl rfl (Q.extract rfl rfl) ?_
  refine XOps.s rfl rfl rfl (Q.extract rfl rfl) ?_
  refine XOps.s rfl rfl rfl (Q.assign_d rfl) ?_
  refine XOps.s rfl rfl rfl (Q.assign_d rfl) ?_
  refine XOps.nil ?_
  refine W.seq ?_
  refine W.reg ?_
  refine XOps.s rfl rfl rfl (Q.move_d rfl) ?_
  refine XOps.s rfl rfl rfl (Q.neq rfl rfl) ?_
  refine XOps.nil ?_
  refine W.cond rfl (fun hc17 => ?_) (fun hc17 => ?_)
  · try simp only [Bool.or_eq_true, Bool.or_eq_false_iff, Bool.and_eq_true, Bool.and_eq_false_iff, decide_eq_true_eq, decide_eq_false_iff_not, Bool.not_eq_true', Bool.not_eq_false', Int.not_lt, Int.not_le, List.length_map] at hc17
    refine W.reg ?_
    refine XOps.s rfl rfl rfl (Q.move_d rfl) ?_
    refine XOps.s rfl rfl rfl (Q.eql_nilp ipt31 rfl rfl) ?_
    refine XOps.s rfl rfl rfl (Q.move_d rfl) ?_
    refine XOps.gs rfl rfl rfl rfl rfl rfl rfl (fun hg => Q.ld_ptrn (k := 0) ag27 rfl rfl rfl) ?_
    refine XOps.gs rfl rfl rfl rfl rfl rfl rfl (fun hg => Quiet.open 21 hg rfl (Q.call rfl Tryz.func39 go39 rfl (suchk_c su _))) ?_
    refine XOps.gs rfl rfl rfl rfl rfl rfl rfl (fun hg => Q.move_d rfl) ?_
    refine XOps.gs rfl rfl rfl rfl rfl rfl rfl (fun hg => Quiet.open 22 hg rfl (Quiet.open 23 hg rfl (Q.eql rfl rfl))) ?_
    refine XOps.s rfl rfl rfl (Q.pick_and rfl rfl rfl (fun h => by first | (rw [h]; rfl) | (rw [hg, h]; rfl) | (simp [h, hg]; done))) ?_
    refine XOps.s rfl rfl rfl (Q.assign_d rfl) ?_
    refine XOps.nil ?_
    refine W.ret ?_
    refine ⟨_, hs, rfl, HLe.skip _ (HLe.refl _), ?_, rfl⟩
    show AV.d (.bool _) = _
    exact congrArg (fun b => AV.d (D.bool b)) (by simp)
  · try simp only [Bool.or_eq_true, Bool.or_eq_false_iff, Bool.and_eq_true, Bool.and_eq_false_iff, decide_eq_true_eq, decide_eq_false_iff_not, Bool.not_eq_true', Bool.not_eq_false', Int.not_lt, Int.not_le, List.length_map] at hc17
    exact absurd hc17 (by simpa using h0)
end Go.Proofs.YtaegeaajhbfkgaaGreatDoorA

