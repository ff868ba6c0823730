/- label.Place, labelFact, the law LabelShifted. -/
import Derived.Test.YtgfmogfjemigmaaBase
import Derived.Test.YtgfmogfjemigmaaWalkB
set_option linter.unusedVariables false
set_option linter.unusedSimpArgs false
set_option linter.unnecessarySimpa false
namespace Go.Proofs.YtgfmogfjemigmaaA.FWalkC
open Go
theorem ag3 : tAgg P 3 = some ((false, 1)) := by kernel_rfl
theorem fl31_0 : tFld P 31 0 = some (0) := by kernel_rfl
theorem fl31_1 : tFld P 31 1 = some (1) := by kernel_rfl
theorem go10 : callGo Go.Proofs.Try.f10 = true := by kernel_rfl
theorem go11 : callGo Go.Proofs.Try.f11 = true := by kernel_rfl
theorem go12 : callGo Go.Proofs.Try.f12 = true := by kernel_rfl
theorem go18 : callGo Go.Proofs.Try.f18 = true := by kernel_rfl
theorem go19 : callGo Go.Proofs.Try.f19 = true := by kernel_rfl
theorem go6 : callGo Go.Proofs.Try.f6 = true := by kernel_rfl
theorem go9 : callGo Go.Proofs.Try.f9 = true := by kernel_rfl
theorem isl29 : isSl P 29 = true := by kernel_rfl
theorem pl31 : tPl P 31 = some ([(0, 1), (1, 1), (2, 1), (3, 1)]) := by kernel_rfl
theorem sl29 : tSl P 29 = some (4) := by kernel_rfl
theorem sl32 : tSl P 32 = some (1) := by kernel_rfl
theorem tz31 : tZero P 31 = some ([.int .i64 0, .int .i64 0, .int .i64 0, .int .i64 0]) := by kernel_rfl
theorem tzd31 : cellsD [.int .i64 0, .int .i64 0, .int .i64 0, .int .i64 0] = some ([.int .i64 0, .int .i64 0, .int .i64 0, .int .i64 0]) := rfl
theorem zr29 : tZrow P 29 = some ([.int .i64 0, .int .i64 0, .int .i64 0, .int .i64 0]) := by kernel_rfl
theorem zr32 : tZrow P 32 = some ([.int .i64 0]) := by kernel_rfl
theorem zrd29 : cellsD [.int .i64 0, .int .i64 0, .int .i64 0, .int .i64 0] = some ([.int .i64 0, .int .i64 0, .int .i64 0, .int .i64 0]) := rfl
theorem zrd32 : cellsD [.int .i64 0] = some ([.int .i64 0]) := rfl
end Go.Proofs.YtgfmogfjemigmaaA.FWalkC
namespace Go.Proofs.YtgfmogfjemigmaaA
open Go FWalkC
set_option maxHeartbeats 1000000 in
set_option maxRecDepth 100000 in
theorem place_c (l : List LB) (hs : Hp) : AC P 10 [.d (.sl 4 (l.map LB.enc))] hs (fun r h => r = .tup [.d (slN (placeL l).1), .d (.int .i64 (placeL l).2)] ∧ h = hs) := by
  refine AC.of 22 Try.func10 rfl rfl rfl ?_
  refine W.reg ?_
  refine XOps.s rfl rfl rfl (Q.assign_nil 1 rfl) ?_
  refine XOps.s rfl rfl rfl (Q.assign_d rfl) ?_
  refine XOps.nil ?_
  refine W.seq ?_
  refine W.reg ?_
  refine XOps.s rfl rfl rfl (Q.move_d rfl) ?_
  refine XOps.s rfl rfl rfl (Q.call rfl Try.func18 go18 rfl (check_c l _)) ?_
  refine XOps.s rfl rfl rfl (Q.assign_d rfl) ?_
  refine XOps.nil ?_
  refine W.reg ?_
  refine XOps.s rfl rfl rfl (Q.move_d rfl) ?_
  refine XOps.s rfl rfl rfl (Q.neq rfl rfl) ?_
  refine XOps.nil ?_
  refine W.cond rfl (fun hc9 => ?_) (fun hc9 => ?_)
  · try simp only [Bool.or_eq_true, Bool.or_eq_false_iff, Bool.and_eq_true, Bool.and_eq_false_iff, decide_eq_true_eq, decide_eq_false_iff_not, Bool.not_eq_true', Bool.not_eq_false', Int.not_lt, Int.not_le, List.length_map] at hc9
    have hres : placeL l = ([], checkL l) := by unfold placeL; rw [if_pos hc9]
    refine W.reg ?_
    refine XOps.s rfl rfl rfl (Q.move_d rfl) ?_
    refine XOps.s rfl rfl rfl (Q.assign_nil 1 rfl) ?_
    refine XOps.s rfl rfl rfl (Q.assign_d rfl) ?_
    refine XOps.nil ?_
    refine W.ret ?_
    refine ⟨_, hs, rfl, by repeat (first | exact HLe.refl _ | refine HLe.cons' (by first | rfl | (simp [LB.enc, nE]; done)) ?_ | refine HLe.pick 1 rfl (by first | rfl | (simp [LB.enc, nE]; done)) ?_ | refine HLe.pick 2 rfl (by first | rfl | (simp [LB.enc, nE]; done)) ?_ | refine HLe.pick 3 rfl (by first | rfl | (simp [LB.enc, nE]; done)) ?_ | refine HLe.pick 4 rfl (by first | rfl | (simp [LB.enc, nE]; done)) ?_ | refine HLe.pick 5 rfl (by first | rfl | (simp [LB.enc, nE]; done)) ?_ | refine HLe.skip _ ?_), ?_, rfl⟩
    rw [hres]; rfl
  · try simp only [Bool.or_eq_true, Bool.or_eq_false_iff, Bool.and_eq_true, Bool.and_eq_false_iff, decide_eq_true_eq, decide_eq_false_iff_not, Bool.not_eq_true', Bool.not_eq_false', Int.not_lt, Int.not_le, List.length_map] at hc9
    have h0 : checkL l = 0 := by omega
    obtain ⟨hn, hl⟩ := checkL_zero h0
    refine W.skip ?_
    refine W.seq ?_
    refine W.reg ?_
    refine XOps.s rfl rfl rfl (Q.move_d rfl) ?_
    refine XOps.s rfl rfl rfl (Q.len_sl isl29 rfl) ?_
    refine XOps.s rfl rfl rfl (Q.gtr rfl rfl) ?_
    refine XOps.nil ?_
    refine W.cond rfl (fun hc13 => ?_) (fun hc13 => ?_)
    · try simp only [Bool.or_eq_true, Bool.or_eq_false_iff, Bool.and_eq_true, Bool.and_eq_false_iff, decide_eq_true_eq, decide_eq_false_iff_not, Bool.not_eq_true', Bool.not_eq_false', Int.not_lt, Int.not_le, List.length_map] at hc13
      have hres : placeL l = ([], 2) := by unfold placeL; rw [if_neg (by omega), if_pos (by omega)]
      refine W.reg ?_
      refine XOps.s rfl rfl rfl (Q.assign_nil 1 rfl) ?_
      refine XOps.s rfl rfl rfl (Q.assign_d rfl) ?_
      refine XOps.nil ?_
      refine W.ret ?_
      refine ⟨_, hs, rfl, by repeat (first | exact HLe.refl _ | refine HLe.cons' (by first | rfl | (simp [LB.enc, nE]; done)) ?_ | refine HLe.pick 1 rfl (by first | rfl | (simp [LB.enc, nE]; done)) ?_ | refine HLe.pick 2 rfl (by first | rfl | (simp [LB.enc, nE]; done)) ?_ | refine HLe.pick 3 rfl (by first | rfl | (simp [LB.enc, nE]; done)) ?_ | refine HLe.pick 4 rfl (by first | rfl | (simp [LB.enc, nE]; done)) ?_ | refine HLe.pick 5 rfl (by first | rfl | (simp [LB.enc, nE]; done)) ?_ | refine HLe.skip _ ?_), ?_, rfl⟩
      rw [hres]; rfl
    · try simp only [Bool.or_eq_true, Bool.or_eq_false_iff, Bool.and_eq_true, Bool.and_eq_false_iff, decide_eq_true_eq, decide_eq_false_iff_not, Bool.not_eq_true', Bool.not_eq_false', Int.not_lt, Int.not_le, List.length_map] at hc13
      refine W.skip ?_
      refine W.seq ?_
      refine W.reg ?_
      refine XOps.s rfl rfl rfl (Q.move_d rfl) ?_
      refine XOps.s rfl rfl rfl (Q.len_sl isl29 rfl) ?_
      refine XOps.s rfl rfl rfl (Q.eql rfl rfl) ?_
      refine XOps.nil ?_
      refine W.cond rfl (fun hc16 => ?_) (fun hc16 => ?_)
      · try simp only [Bool.or_eq_true, Bool.or_eq_false_iff, Bool.and_eq_true, Bool.and_eq_false_iff, decide_eq_true_eq, decide_eq_false_iff_not, Bool.not_eq_true', Bool.not_eq_false', Int.not_lt, Int.not_le, List.length_map] at hc16
        have hres : placeL l = ([], 0) := by unfold placeL; rw [if_neg (by omega), if_neg (by omega), if_pos (by omega)]
        refine W.reg ?_
        refine XOps.s rfl rfl rfl (Q.assign_nil 1 rfl) ?_
        refine XOps.s rfl rfl rfl (Q.assign_d rfl) ?_
        refine XOps.nil ?_
        refine W.ret ?_
        refine ⟨_, hs, rfl, by repeat (first | exact HLe.refl _ | refine HLe.cons' (by first | rfl | (simp [LB.enc, nE]; done)) ?_ | refine HLe.pick 1 rfl (by first | rfl | (simp [LB.enc, nE]; done)) ?_ | refine HLe.pick 2 rfl (by first | rfl | (simp [LB.enc, nE]; done)) ?_ | refine HLe.pick 3 rfl (by first | rfl | (simp [LB.enc, nE]; done)) ?_ | refine HLe.pick 4 rfl (by first | rfl | (simp [LB.enc, nE]; done)) ?_ | refine HLe.pick 5 rfl (by first | rfl | (simp [LB.enc, nE]; done)) ?_ | refine HLe.skip _ ?_), ?_, rfl⟩
        rw [hres]; rfl
      · try simp only [Bool.or_eq_true, Bool.or_eq_false_iff, Bool.and_eq_true, Bool.and_eq_false_iff, decide_eq_true_eq, decide_eq_false_iff_not, Bool.not_eq_true', Bool.not_eq_false', Int.not_lt, Int.not_le, List.length_map] at hc16
        have hne : ∀ r, ((srchL l l.length [] []).map (fun r => r.map nE)) = some r → r ≠ [] := fun r hr he => by
          subst he
          obtain ⟨r, h1, h2⟩ := Option.map_eq_some_iff.1 hr
          have := srchL_full _ _ _ _ (by simp) h1
          simp at h2
          subst h2
          simp at this
          omega
        refine W.skip ?_
        refine W.reg ?_
        refine XOps.s rfl rfl rfl (Q.move_d rfl) ?_
        refine XOps.s rfl rfl rfl (Q.call rfl Try.func19 go19 rfl (AC.args (search_c l hl hn l.length [] [] _ (by simp) rfl (by simp)) (.same (.nilsl 1 (.nilsl 4 .nil))))) ?_
        refine XOps.s rfl rfl rfl (Q.assign rfl) ?_
        refine XOps.nil ?_
        refine W.seq ?_
        refine W.reg ?_
        refine XOps.s rfl rfl rfl (Q.move rfl) ?_
        refine XOps.s rfl rfl rfl (Q.eqnil_opt sl32 (by decide) rfl rfl hne) ?_
        refine XOps.nil ?_
        refine W.cond rfl (fun hc20 => ?_) (fun hc20 => ?_)
        · try simp only [Bool.or_eq_true, Bool.or_eq_false_iff, Bool.and_eq_true, Bool.and_eq_false_iff, decide_eq_true_eq, decide_eq_false_iff_not, Bool.not_eq_true', Bool.not_eq_false', Int.not_lt, Int.not_le, List.length_map] at hc20
          have hno : srchL l l.length [] [] = none := by simpa using hc20
          have hres : placeL l = ([], 8) := by unfold placeL; rw [if_neg (by omega), if_neg (by omega), if_neg (by omega), hno]
          refine W.reg ?_
          refine XOps.s rfl rfl rfl (Q.assign_nil 1 rfl) ?_
          refine XOps.s rfl rfl rfl (Q.assign_d rfl) ?_
          refine XOps.nil ?_
          refine W.ret ?_
          refine ⟨_, hs, rfl, by repeat (first | exact HLe.refl _ | refine HLe.cons' (by first | rfl | (simp [LB.enc, nE]; done)) ?_ | refine HLe.pick 1 rfl (by first | rfl | (simp [LB.enc, nE]; done)) ?_ | refine HLe.pick 2 rfl (by first | rfl | (simp [LB.enc, nE]; done)) ?_ | refine HLe.pick 3 rfl (by first | rfl | (simp [LB.enc, nE]; done)) ?_ | refine HLe.pick 4 rfl (by first | rfl | (simp [LB.enc, nE]; done)) ?_ | refine HLe.pick 5 rfl (by first | rfl | (simp [LB.enc, nE]; done)) ?_ | refine HLe.skip _ ?_), ?_, rfl⟩
          rw [hres]; rfl
        · try simp only [Bool.or_eq_true, Bool.or_eq_false_iff, Bool.and_eq_true, Bool.and_eq_false_iff, decide_eq_true_eq, decide_eq_false_iff_not, Bool.not_eq_true', Bool.not_eq_false', Int.not_lt, Int.not_le, List.length_map] at hc20
          obtain ⟨o, hso⟩ : ∃ o, srchL l l.length [] [] = some o := by
            cases hx : srchL l l.length [] [] with
            | none => rw [hx] at hc20; cases hc20
            | some o => exact ⟨o, rfl⟩
          have hres : placeL l = (o, 0) := by unfold placeL; rw [if_neg (by omega), if_neg (by omega), if_neg (by omega), hso]
          rw [hso]
          refine W.skip ?_
          refine W.reg ?_
          refine XOps.s rfl rfl rfl (Q.move_d rfl) ?_
          refine XOps.s rfl rfl rfl (Q.assign_d rfl) ?_
          refine XOps.s rfl rfl rfl (Q.assign_d rfl) ?_
          refine XOps.nil ?_
          refine W.ret ?_
          refine ⟨_, hs, rfl, by repeat (first | exact HLe.refl _ | refine HLe.cons' (by first | rfl | (simp [LB.enc, nE]; done)) ?_ | refine HLe.pick 1 rfl (by first | rfl | (simp [LB.enc, nE]; done)) ?_ | refine HLe.pick 2 rfl (by first | rfl | (simp [LB.enc, nE]; done)) ?_ | refine HLe.pick 3 rfl (by first | rfl | (simp [LB.enc, nE]; done)) ?_ | refine HLe.pick 4 rfl (by first | rfl | (simp [LB.enc, nE]; done)) ?_ | refine HLe.pick 5 rfl (by first | rfl | (simp [LB.enc, nE]; done)) ?_ | refine HLe.skip _ ?_), ?_, rfl⟩
          rw [hres]; rfl

set_option maxHeartbeats 1000000 in
set_option maxRecDepth 100000 in
theorem fact_c (hs : Hp) : AC P 11 [] hs (fun r h => r = .d (.bool true) ∧ h = hs) := by
  refine AC.of 17 Try.func11 rfl rfl rfl ?_
  refine W.reg ?_
  refine XOps.s rfl rfl rfl (Q.assign_d rfl) ?_
  refine XOps.nil ?_
  refine W.reg ?_
  refine XOps.s rfl rfl rfl (Q.build pl31 tz31 tzd31 rfl) ?_
  refine XOps.s rfl rfl rfl (Q.build pl31 tz31 tzd31 rfl) ?_
  refine XOps.s rfl rfl rfl (Q.bsl sl29 (by decide) zr29 rfl zrd29 (by decide) rfl rfl) ?_
  refine XOps.s rfl rfl rfl (Q.call rfl Try.func10 go10 rfl (place_c [⟨0, 0, 2, 2⟩, ⟨9, 9, 2, 2⟩] _)) ?_
  refine XOps.s rfl rfl rfl (Q.move_tup rfl) ?_
  refine XOps.s rfl rfl rfl (Q.extract rfl rfl) ?_
  refine XOps.s rfl rfl rfl (Q.extract rfl rfl) ?_
  refine XOps.s rfl rfl rfl (Q.assign_d rfl) ?_
  refine XOps.s rfl rfl rfl (Q.assign_d rfl) ?_
  refine XOps.nil ?_
  refine W.reg ?_
  refine XOps.s rfl rfl rfl (Q.move_d rfl) ?_
  refine XOps.s rfl rfl rfl (Q.eql rfl rfl) ?_
  refine XOps.s rfl rfl rfl (Q.move_d rfl) ?_
  refine XOps.gs rfl rfl rfl rfl rfl rfl rfl (fun hg => Q.move_d rfl) ?_
  refine XOps.gs rfl rfl rfl rfl rfl rfl rfl (fun hg => Q.bsl sl32 (by decide) zr32 rfl zrd32 (by decide) rfl rfl) ?_
  refine XOps.gs rfl rfl rfl rfl rfl rfl rfl (fun hg => Quiet.open 13 hg rfl (Quiet.open 14 hg rfl (Q.call rfl Try.func12 go12 rfl (equalN_c (placeL [⟨0, 0, 2, 2⟩, ⟨9, 9, 2, 2⟩]).1 [0, 0] _ (by have := placeL_len [⟨0, 0, 2, 2⟩, ⟨9, 9, 2, 2⟩]; omega))))) ?_
  refine XOps.s rfl rfl rfl (Q.pick_and rfl rfl rfl (fun h => by first | (rw [h]; rfl) | (rw [hg, h]; rfl) | (simp [h, hg]; done))) ?_
  refine XOps.s rfl rfl rfl (Q.assign_d rfl) ?_
  refine XOps.nil ?_
  refine W.ret ?_
  refine ⟨_, hs, rfl, by repeat (first | exact HLe.refl _ | refine HLe.cons' (by first | rfl | (simp [LB.enc, nE]; done)) ?_ | refine HLe.pick 1 rfl (by first | rfl | (simp [LB.enc, nE]; done)) ?_ | refine HLe.pick 2 rfl (by first | rfl | (simp [LB.enc, nE]; done)) ?_ | refine HLe.pick 3 rfl (by first | rfl | (simp [LB.enc, nE]; done)) ?_ | refine HLe.pick 4 rfl (by first | rfl | (simp [LB.enc, nE]; done)) ?_ | refine HLe.pick 5 rfl (by first | rfl | (simp [LB.enc, nE]; done)) ?_ | refine HLe.skip _ ?_), ?_, rfl⟩
  rw [place_fact]; rfl

set_option maxHeartbeats 1000000 in
set_option maxRecDepth 100000 in
theorem shifted_c (l : List LB) (x y : Int) (hs : Hp) (hL : l.length * 32 ≤ 140737488351232) : AC P 4 [.d (.sl 4 (l.map LB.enc)), .d (.int .i64 x), .d (.int .i64 y)] hs (fun r _ => r = .d (.bool true)) := by
  have hA := cutI_bounds x (show (-100 : Int) ≤ 100 by decide)
  have hB := cutI_bounds y (show (-100 : Int) ≤ 100 by decide)
  have h4 : (l.take (min l.length 4)).length ≤ 4 := by rw [List.length_take]; omega
  refine AC.of 94 Try.func4 rfl rfl rfl ?_
  refine W.reg ?_
  refine XOps.s rfl rfl rfl (Q.assign_d rfl) ?_
  refine XOps.nil ?_
  refine W.reg ?_
  refine XOps.s rfl rfl rfl (Q.move_d rfl) ?_
  refine XOps.s rfl rfl rfl (Q.move_d rfl) ?_
  refine XOps.s rfl rfl rfl (Q.len_sl isl29 rfl) ?_
  refine XOps.s rfl rfl rfl (Q.mini rfl rfl) ?_
  refine XOps.s rfl rfl rfl (Q.cut_slm sl29 rfl rfl rfl (by omega) (by omega) (by simp; omega)) ?_
  refine XOps.loud rfl (L.call rfl Try.func9 go9 rfl (cloneI_c _ hs (by simp; omega)) rfl) ?_
  rintro _ _ ⟨_, rfl, v, rfl, rfl⟩
  refine XOps.s rfl rfl rfl (Q.assign_vs rfl) ?_
  refine XOps.nil ?_
  have hcl : ((l.take (min (((l.map LB.enc).length : Nat) : Int) 4).toNat).drop (0 : Int).toNat) = (l.take (min l.length 4)) := cutL (n := 4)
  rw [hcl]
  refine W.reg ?_
  refine XOps.s rfl rfl rfl (Q.move_d rfl) ?_
  refine XOps.s rfl rfl rfl (Q.call rfl Try.func6 go6 rfl (cut_c x (-100) 100 _ (by decide) (by decide) (by decide))) ?_
  refine XOps.s rfl rfl rfl (Q.move_d rfl) ?_
  refine XOps.s rfl rfl rfl (Q.call rfl Try.func6 go6 rfl (cut_c y (-100) 100 _ (by decide) (by decide) (by decide))) ?_
  refine XOps.s rfl rfl rfl (Q.assign_d rfl) ?_
  refine XOps.s rfl rfl rfl (Q.assign_d rfl) ?_
  refine XOps.nil ?_
  refine W.reg ?_
  refine XOps.s rfl rfl rfl (Q.move_vs rfl) ?_
  refine XOps.loud rfl (L.bcall rfl Try.func9 go9 rfl (.cons (.b1 (.b0 (.vs 0 rfl (by simp)))) .nil) (cloneI_c (l.take (min l.length 4)) [] (by omega)) (fun r h ⟨v, h1, h2⟩ => by subst h1; subst h2; exact ⟨by simp [OkR, Ok1], okH1 (by simp [LB.enc, D.flat])⟩) rfl) ?_
  rintro _ _ ⟨_, _, rfl, ⟨m, rfl, rfl⟩, rfl⟩
  refine XOps.s rfl rfl rfl (Q.assign_vs rfl) ?_
  refine XOps.nil ?_
  refine W.seq ?_
  refine W.reg ?_
  refine XOps.s rfl rfl rfl (Q.move_vs rfl) ?_
  refine XOps.s rfl rfl rfl (Q.len_vs isl29 rfl) ?_
  refine XOps.s rfl rfl rfl (Q.move_d rfl) ?_
  refine XOps.nil ?_
  refine W.block ?_
  refine W.loop (ι := Nat) (fun k => [(0, .vs v 0 (l.take (min l.length 4)).length 4), (1, .d (.int .i64 (cutI x (-100) 100))), (2, .d (.int .i64 (cutI y (-100) 100))), (7, .vs m 0 (l.take (min l.length 4)).length 4), (26, .d (.int .i64 ((l.take (min l.length 4)).length : Nat))), (27, .d (.int .i64 (k : Nat)))]) (fun k => (m, .lst 4 ((upd (fun b : LB => (LB.cut8 b).mv (cutI x (-100) 100) (cutI y (-100) 100)) k (l.take (min l.length 4))).map LB.enc)) :: (v, .lst 4 ((upd LB.cut8 k (l.take (min l.length 4))).map LB.enc)) :: hs) (fun k => k ≤ (l.take (min l.length 4)).length) (fun k => (l.take (min l.length 4)).length - k) 0 ?_ ?_ ?_ ?_
  · exact Nat.zero_le _
  · exact ⟨by first | rfl | exact int_eq (by omega) | exact len_eq (by simp) | exact int_eq (by simp; done), by first | rfl | exact int_eq (by omega) | exact len_eq (by simp) | exact int_eq (by simp; done), by first | rfl | exact int_eq (by omega) | exact len_eq (by simp) | exact int_eq (by simp; done), by first | rfl | exact int_eq (by omega) | exact len_eq (by simp) | exact int_eq (by simp; done), by first | rfl | exact int_eq (by omega) | exact len_eq (by simp) | exact int_eq (by simp; done), by first | rfl | exact int_eq (by omega) | exact len_eq (by simp) | exact int_eq (by simp; done), trivial⟩
  · exact HLe.cons' (by rw [upd_zero]) (HLe.cons' (by rw [upd_zero]) (HLe.refl _))
  · rintro k hk
    try dsimp only
    have hu1 := upd_length LB.cut8 k (l.take (min l.length 4))
    have hu2 := upd_length (fun b : LB => (LB.cut8 b).mv (cutI x (-100) 100) (cutI y (-100) 100)) k (l.take (min l.length 4))
    refine W.reg ?_
    refine XOps.s rfl rfl rfl (Q.lss rfl rfl) ?_
    refine XOps.nil ?_
    refine W.seq ?_
    refine W.cond rfl (fun hc28 => ?_) (fun hc28 => ?_)
    · try simp only [Bool.or_eq_true, Bool.or_eq_false_iff, Bool.and_eq_true, Bool.and_eq_false_iff, decide_eq_true_eq, decide_eq_false_iff_not, Bool.not_eq_true', Bool.not_eq_false', Int.not_lt, Int.not_le, List.length_map] at hc28
      obtain ⟨z, hz⟩ : ∃ z, (l.take (min l.length 4))[k]? = some z := ⟨_, List.getElem?_eq_getElem (by omega)⟩
      have hzx := cutI_bounds z.x (show (-800 : Int) ≤ 800 by decide)
      have hzy := cutI_bounds z.y (show (-800 : Int) ≤ 800 by decide)
      refine W.skip ?_
      refine W.seq ?_
      refine W.block ?_
      refine W.reg ?_
      refine XOps.s rfl rfl rfl (Q.move_d rfl) ?_
      refine XOps.s rfl rfl rfl (Q.assign_d rfl) ?_
      refine XOps.nil ?_
      refine W.drawTreg 22 [18, 21] follows (by kernel_rfl) (by decide) ?_
      apply DT.moreS [.new, .new, .new, .new, .new, .new, .new, .new, .new, .new, .new, .new, .new, .new, .new, .new, .new, .new, .now, .later, .later, .later] (by kernel_rfl)
      refine PC.new _ rfl (GQ.q rfl (Q.move_vs rfl)) rfl ?_
      refine PC.new _ rfl (GQ.q rfl (Q.move_d rfl)) rfl ?_
      refine PC.new _ rfl (GQ.q rfl (Q.move_vs rfl)) rfl ?_
      refine PC.new _ rfl (GQ.q rfl (Q.move_d rfl)) rfl ?_
      refine PC.new _ rfl (GQ.q rfl (Q.move_vs rfl)) rfl ?_
      refine PC.new _ rfl (GQ.q rfl (Q.move_d rfl)) rfl ?_
      refine PC.new _ rfl (GQ.q rfl (Q.idx_vs (kk := 1) sl29 rfl rfl rfl (by omega) (by first | omega | (dsimp only; omega)))) rfl ?_
      refine PC.new _ rfl (GQ.q rfl (Q.fld_ep fl31_0 rfl)) rfl ?_
      refine PC.new _ rfl (GQ.q rfl (Q.ld_ep (k := 1) ag3 rfl rfl (by first | exact upd_map_at _ _ hz | (exact set_at0 (by rw [List.length_map, upd_length]; omega)) | (rw [List.set_set]; exact set_at0 (by rw [List.length_map, upd_length]; omega))) rfl)) rfl ?_
      refine PC.new _ rfl (GQ.q rfl (Q.call rfl Try.func6 go6 rfl (cut_c z.x (-800) 800 _ (by decide) (by decide) (by decide)))) rfl ?_
      refine PC.new _ rfl (GQ.q rfl (Q.move_vs rfl)) rfl ?_
      refine PC.new _ rfl (GQ.q rfl (Q.move_d rfl)) rfl ?_
      refine PC.new _ rfl (GQ.q rfl (Q.idx_vs (kk := 1) sl29 rfl rfl rfl (by omega) (by first | omega | (dsimp only; omega)))) rfl ?_
      refine PC.new _ rfl (GQ.q rfl (Q.fld_ep fl31_1 rfl)) rfl ?_
      refine PC.new _ rfl (GQ.q rfl (Q.ld_ep (k := 1) ag3 rfl rfl (by first | exact upd_map_at _ _ hz | (exact set_at0 (by rw [List.length_map, upd_length]; omega)) | (rw [List.set_set]; exact set_at0 (by rw [List.length_map, upd_length]; omega))) rfl)) rfl ?_
      refine PC.new _ rfl (GQ.q rfl (Q.call rfl Try.func6 go6 rfl (cut_c z.y (-800) 800 _ (by decide) (by decide) (by decide)))) rfl ?_
      refine PC.new _ rfl (GQ.q rfl (Q.idx_vs (kk := 1) sl29 rfl rfl rfl (by omega) (by first | omega | (dsimp only; omega)))) rfl ?_
      refine PC.new _ rfl (GQ.q rfl (Q.fld_ep fl31_0 rfl)) rfl ?_
      refine PC.now rfl rfl (fun τ => Loud.to (L.store_ep (k := 1) ag3 ((oev_app rfl).trans rfl) rfl (by first | exact upd_map_at _ _ hz | (exact set_at0 (by rw [List.length_map, upd_length]; omega)) | (rw [List.set_set]; exact set_at0 (by rw [List.length_map, upd_length]; omega))) rfl ((oev_app rfl).trans rfl) rfl) (fun _ _ h => ⟨.any, h.1, h.2⟩)) ?_
      refine PC.later rfl ?_
      refine PC.later rfl ?_
      refine PC.later rfl ?_
      refine PC.nil ?_
      rintro _ _ rfl
      apply DT.moreS [.did, .did, .old, .old, .did, .did, .did, .did, .did, .did, .did, .did, .did, .did, .did, .did, .did, .did, .did, .new, .new, .now] (by kernel_rfl)
      refine PC.did rfl ?_
      refine PC.did rfl ?_
      refine PC.old rfl (GQ.q rfl (Q.move_vs rfl)) rfl ?_
      refine PC.old rfl (GQ.q rfl (Q.move_d rfl)) rfl ?_
      refine PC.did rfl ?_
      refine PC.did rfl ?_
      refine PC.did rfl ?_
      refine PC.did rfl ?_
      refine PC.did rfl ?_
      refine PC.did rfl ?_
      refine PC.did rfl ?_
      refine PC.did rfl ?_
      refine PC.did rfl ?_
      refine PC.did rfl ?_
      refine PC.did rfl ?_
      refine PC.did rfl ?_
      refine PC.did rfl ?_
      refine PC.did rfl ?_
      refine PC.did rfl ?_
      refine PC.new _ rfl (GQ.q rfl (Q.idx_vs (kk := 1) sl29 rfl rfl rfl (by omega) (by first | omega | (dsimp only; omega)))) rfl ?_
      refine PC.new _ rfl (GQ.q rfl (Q.fld_ep fl31_1 rfl)) rfl ?_
      refine PC.now rfl rfl (fun τ => Loud.to (L.store_ep (k := 1) ag3 ((oev_app rfl).trans rfl) rfl (by first | exact upd_map_at _ _ hz | (exact set_at0 (by rw [List.length_map, upd_length]; omega)) | (rw [List.set_set]; exact set_at0 (by rw [List.length_map, upd_length]; omega))) rfl ((oev_app rfl).trans rfl) rfl) (fun _ _ h => ⟨.any, h.1, h.2⟩)) ?_
      refine PC.nil ?_
      rintro _ _ rfl
      refine DT.last [.did, .did, .did, .did, .did, .did, .did, .did, .did, .did, .did, .did, .did, .did, .did, .did, .did, .did, .did, .did, .did, .did] (by kernel_rfl) ?_
      refine PC.did rfl ?_
      refine PC.did rfl ?_
      refine PC.did rfl ?_
      refine PC.did rfl ?_
      refine PC.did rfl ?_
      refine PC.did rfl ?_
      refine PC.did rfl ?_
      refine PC.did rfl ?_
      refine PC.did rfl ?_
      refine PC.did rfl ?_
      refine PC.did rfl ?_
      refine PC.did rfl ?_
      refine PC.did rfl ?_
      refine PC.did rfl ?_
      refine PC.did rfl ?_
      refine PC.did rfl ?_
      refine PC.did rfl ?_
      refine PC.did rfl ?_
      refine PC.did rfl ?_
      refine PC.did rfl ?_
      refine PC.did rfl ?_
      refine PC.did rfl ?_
      refine PC.nil ?_
      refine XOps.nil ?_
      refine W.drawT 24 [20, 23] follows (by kernel_rfl) (by decide) ?_
      apply DT.moreS [.new, .new, .new, .new, .new, .new, .new, .new, .new, .new, .new, .new, .new, .new, .new, .new, .new, .new, .new, .new, .now, .later, .later, .later] (by kernel_rfl)
      refine PC.new _ rfl (GQ.q rfl (Q.move_vs rfl)) rfl ?_
      refine PC.new _ rfl (GQ.q rfl (Q.move_d rfl)) rfl ?_
      refine PC.new _ rfl (GQ.q rfl (Q.move_vs rfl)) rfl ?_
      refine PC.new _ rfl (GQ.q rfl (Q.move_d rfl)) rfl ?_
      refine PC.new _ rfl (GQ.q rfl (Q.move_vs rfl)) rfl ?_
      refine PC.new _ rfl (GQ.q rfl (Q.move_d rfl)) rfl ?_
      refine PC.new _ rfl (GQ.q rfl (Q.idx_vs (kk := 1) sl29 rfl rfl rfl (by omega) (by first | omega | (dsimp only; omega)))) rfl ?_
      refine PC.new _ rfl (GQ.q rfl (Q.fld_ep fl31_0 rfl)) rfl ?_
      refine PC.new _ rfl (GQ.q rfl (Q.ld_ep (k := 1) ag3 rfl rfl (by first | exact upd_map_at _ _ hz | (exact set_at0 (by rw [List.length_map, upd_length]; omega)) | (rw [List.set_set]; exact set_at0 (by rw [List.length_map, upd_length]; omega))) rfl)) rfl ?_
      refine PC.new _ rfl (GQ.q rfl (Q.move_d rfl)) rfl ?_
      refine PC.new _ rfl (GQ.q rfl (Q.add rfl rfl (wi64 (by first | omega | (dsimp only; omega) | (simp only [List.length_map]; omega)) (by first | omega | (dsimp only; omega) | (simp only [List.length_map]; omega))))) rfl ?_
      refine PC.new _ rfl (GQ.q rfl (Q.move_vs rfl)) rfl ?_
      refine PC.new _ rfl (GQ.q rfl (Q.move_d rfl)) rfl ?_
      refine PC.new _ rfl (GQ.q rfl (Q.idx_vs (kk := 1) sl29 rfl rfl rfl (by omega) (by first | omega | (dsimp only; omega)))) rfl ?_
      refine PC.new _ rfl (GQ.q rfl (Q.fld_ep fl31_1 rfl)) rfl ?_
      refine PC.new _ rfl (GQ.q rfl (Q.ld_ep (k := 1) ag3 rfl rfl (by first | exact upd_map_at _ _ hz | (exact set_at0 (by rw [List.length_map, upd_length]; omega)) | (rw [List.set_set]; exact set_at0 (by rw [List.length_map, upd_length]; omega))) rfl)) rfl ?_
      refine PC.new _ rfl (GQ.q rfl (Q.move_d rfl)) rfl ?_
      refine PC.new _ rfl (GQ.q rfl (Q.add rfl rfl (wi64 (by first | omega | (dsimp only; omega) | (simp only [List.length_map]; omega)) (by first | omega | (dsimp only; omega) | (simp only [List.length_map]; omega))))) rfl ?_
      refine PC.new _ rfl (GQ.q rfl (Q.idx_vs (kk := 0) sl29 rfl rfl rfl (by omega) (by first | omega | (dsimp only; omega)))) rfl ?_
      refine PC.new _ rfl (GQ.q rfl (Q.fld_ep fl31_0 rfl)) rfl ?_
      refine PC.now rfl rfl (fun τ => Loud.to (L.store_ep (k := 0) ag3 ((oev_app rfl).trans rfl) rfl (by first | exact upd_map_at _ _ hz | (exact set_at0 (by rw [List.length_map, upd_length]; omega)) | (rw [List.set_set]; exact set_at0 (by rw [List.length_map, upd_length]; omega))) rfl ((oev_app rfl).trans rfl) rfl) (fun _ _ h => ⟨.any, h.1, h.2⟩)) ?_
      refine PC.later rfl ?_
      refine PC.later rfl ?_
      refine PC.later rfl ?_
      refine PC.nil ?_
      rintro _ _ rfl
      apply DT.moreS [.did, .did, .old, .old, .did, .did, .did, .did, .did, .did, .did, .did, .did, .did, .did, .did, .old, .old, .did, .did, .did, .new, .new, .now] (by kernel_rfl)
      refine PC.did rfl ?_
      refine PC.did rfl ?_
      refine PC.old rfl (GQ.q rfl (Q.move_vs rfl)) rfl ?_
      refine PC.old rfl (GQ.q rfl (Q.move_d rfl)) rfl ?_
      refine PC.did rfl ?_
      refine PC.did rfl ?_
      refine PC.did rfl ?_
      refine PC.did rfl ?_
      refine PC.did rfl ?_
      refine PC.did rfl ?_
      refine PC.did rfl ?_
      refine PC.did rfl ?_
      refine PC.did rfl ?_
      refine PC.did rfl ?_
      refine PC.did rfl ?_
      refine PC.did rfl ?_
      refine PC.old rfl (GQ.q rfl (Q.move_d rfl)) rfl ?_
      refine PC.old rfl (GQ.q rfl (Q.add rfl rfl (wi64 (by first | omega | (dsimp only; omega) | (simp only [List.length_map]; omega)) (by first | omega | (dsimp only; omega) | (simp only [List.length_map]; omega))))) rfl ?_
      refine PC.did rfl ?_
      refine PC.did rfl ?_
      refine PC.did rfl ?_
      refine PC.new _ rfl (GQ.q rfl (Q.idx_vs (kk := 0) sl29 rfl rfl rfl (by omega) (by first | omega | (dsimp only; omega)))) rfl ?_
      refine PC.new _ rfl (GQ.q rfl (Q.fld_ep fl31_1 rfl)) rfl ?_
      refine PC.now rfl rfl (fun τ => Loud.to (L.store_ep (k := 0) ag3 ((oev_app rfl).trans rfl) rfl (by first | exact upd_map_at _ _ hz | (exact set_at0 (by rw [List.length_map, upd_length]; omega)) | (rw [List.set_set]; exact set_at0 (by rw [List.length_map, upd_length]; omega))) rfl ((oev_app rfl).trans rfl) rfl) (fun _ _ h => ⟨.any, h.1, h.2⟩)) ?_
      refine PC.nil ?_
      rintro _ _ rfl
      refine DT.last [.did, .did, .did, .did, .did, .did, .did, .did, .did, .did, .did, .did, .did, .did, .did, .did, .did, .did, .did, .did, .did, .did, .did, .did] (by kernel_rfl) ?_
      refine PC.did rfl ?_
      refine PC.did rfl ?_
      refine PC.did rfl ?_
      refine PC.did rfl ?_
      refine PC.did rfl ?_
      refine PC.did rfl ?_
      refine PC.did rfl ?_
      refine PC.did rfl ?_
      refine PC.did rfl ?_
      refine PC.did rfl ?_
      refine PC.did rfl ?_
      refine PC.did rfl ?_
      refine PC.did rfl ?_
      refine PC.did rfl ?_
      refine PC.did rfl ?_
      refine PC.did rfl ?_
      refine PC.did rfl ?_
      refine PC.did rfl ?_
      refine PC.did rfl ?_
      refine PC.did rfl ?_
      refine PC.did rfl ?_
      refine PC.did rfl ?_
      refine PC.did rfl ?_
      refine PC.did rfl ?_
      refine PC.nil ?_
      refine XOps.nil ?_
      refine W.region ?_
      refine XOps.s rfl rfl rfl (Q.add rfl rfl (wi64 (by first | omega | (dsimp only; omega) | (simp only [List.length_map]; omega)) (by first | omega | (dsimp only; omega) | (simp only [List.length_map]; omega)))) ?_
      refine XOps.s rfl rfl rfl (Q.move_d rfl) ?_
      refine XOps.nil ?_
      refine ⟨k + 1, ?_, ?_, ?_, ?_⟩
      · omega
      · omega
      · exact ⟨by first | rfl | exact int_eq (by omega) | exact len_eq (by simp) | exact int_eq (by simp; done), by first | rfl | exact int_eq (by omega) | exact len_eq (by simp) | exact int_eq (by simp; done), by first | rfl | exact int_eq (by omega) | exact len_eq (by simp) | exact int_eq (by simp; done), by first | rfl | exact int_eq (by omega) | exact len_eq (by simp) | exact int_eq (by simp; done), by first | rfl | exact int_eq (by omega) | exact len_eq (by simp) | exact int_eq (by simp; done), by first | rfl | exact int_eq (by omega) | exact len_eq (by simp) | exact int_eq (by simp; done), trivial⟩
      · exact HLe.cons' (by rw [upd_map_succ _ _ hz, List.set_set]; rfl) (HLe.cons' (by rw [upd_map_succ _ _ hz, List.set_set]; rfl) (HLe.refl _))
    · try simp only [Bool.or_eq_true, Bool.or_eq_false_iff, Bool.and_eq_true, Bool.and_eq_false_iff, decide_eq_true_eq, decide_eq_false_iff_not, Bool.not_eq_true', Bool.not_eq_false', Int.not_lt, Int.not_le, List.length_map] at hc28
      refine W.exit ?_
      obtain rfl : k = (l.take (min l.length 4)).length := by omega
      refine W.freeze 0 1 rfl rfl (by simp [upd_length]) ?_
      refine W.freeze 7 0 rfl rfl (by simp [upd_length]) ?_
      rw [upd_all LB.cut8 (l.take (min l.length 4)) (Nat.le_refl _), upd_all (fun b : LB => (LB.cut8 b).mv (cutI x (-100) 100) (cutI y (-100) 100)) (l.take (min l.length 4)) (Nat.le_refl _)]
      refine W.reg ?_
      refine XOps.s rfl rfl rfl (Q.move_d rfl) ?_
      refine XOps.s rfl rfl rfl (Q.call rfl Try.func10 go10 rfl (place_c ((l.take (min l.length 4)).map LB.cut8) _)) ?_
      refine XOps.s rfl rfl rfl (Q.move_tup rfl) ?_
      refine XOps.s rfl rfl rfl (Q.extract rfl rfl) ?_
      refine XOps.s rfl rfl rfl (Q.extract rfl rfl) ?_
      refine XOps.s rfl rfl rfl (Q.assign_d rfl) ?_
      refine XOps.s rfl rfl rfl (Q.assign_d rfl) ?_
      refine XOps.nil ?_
      refine W.reg ?_
      refine XOps.s rfl rfl rfl (Q.move_d rfl) ?_
      refine XOps.s rfl rfl rfl (Q.call rfl Try.func10 go10 rfl (place_c ((l.take (min l.length 4)).map (fun b : LB => (LB.cut8 b).mv (cutI x (-100) 100) (cutI y (-100) 100))) _)) ?_
      refine XOps.s rfl rfl rfl (Q.move_tup rfl) ?_
      refine XOps.s rfl rfl rfl (Q.extract rfl rfl) ?_
      refine XOps.s rfl rfl rfl (Q.extract rfl rfl) ?_
      refine XOps.s rfl rfl rfl (Q.assign_d rfl) ?_
      refine XOps.s rfl rfl rfl (Q.assign_d rfl) ?_
      refine XOps.nil ?_
      refine W.reg ?_
      refine XOps.s rfl rfl rfl (Q.call rfl Try.func11 go11 rfl (fact_c _)) ?_
      refine XOps.s rfl rfl rfl (Q.move_d rfl) ?_
      refine XOps.gs rfl rfl rfl rfl rfl rfl rfl (fun hg => Q.move_d rfl) ?_
      refine XOps.gs rfl rfl rfl rfl rfl rfl rfl (fun hg => Q.move_d rfl) ?_
      refine XOps.gs rfl rfl rfl rfl rfl rfl rfl (fun hg => Quiet.open 85 hg rfl (Quiet.open 86 hg rfl (Q.eql rfl rfl))) ?_
      refine XOps.s rfl rfl rfl (Q.pick_and rfl rfl rfl (fun h => by first | (rw [h]; rfl) | (rw [hg, h]; rfl) | (simp [h, hg]; done))) ?_
      refine XOps.s rfl rfl rfl (Q.move_d rfl) ?_
      refine XOps.gs rfl rfl rfl rfl rfl rfl rfl (fun hg => Q.move_d rfl) ?_
      refine XOps.gs rfl rfl rfl rfl rfl rfl rfl (fun hg => Q.move_d rfl) ?_
      refine XOps.gs rfl rfl rfl rfl rfl rfl rfl (fun hg => Quiet.open 90 hg rfl (Quiet.open 91 hg rfl (Q.call rfl Try.func12 go12 rfl (equalN_c (placeL ((l.take (min l.length 4)).map LB.cut8)).1 (placeL ((l.take (min l.length 4)).map (fun b : LB => (LB.cut8 b).mv (cutI x (-100) 100) (cutI y (-100) 100)))).1 _ (by have := placeL_len ((l.take (min l.length 4)).map LB.cut8); omega))))) ?_
      refine XOps.s rfl rfl rfl (Q.pick_and rfl rfl rfl (fun h => by first | (rw [h]; rfl) | (rw [hg, h]; rfl) | (simp [h, hg]; done))) ?_
      refine XOps.s rfl rfl rfl (Q.assign_d rfl) ?_
      refine XOps.nil ?_
      refine W.ret ?_
      refine ⟨_, _, rfl, HLe.refl _, ?_⟩
      have hpm := placeL_mv (l.take (min l.length 4)) hA hB
      rw [List.map_map] at hpm
      refine bt ?_
      rw [show (fun b : LB => (LB.cut8 b).mv (cutI x (-100) 100) (cutI y (-100) 100)) = (fun z : LB => z.mv (cutI x (-100) 100) (cutI y (-100) 100)) ∘ LB.cut8 from rfl, hpm]
      simp
end Go.Proofs.YtgfmogfjemigmaaA
