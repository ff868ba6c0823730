/- The law ConsoleBack. -/
import Derived.Test.YtdddebheolmldaaDoorFrB
import Derived.Test.YtdddebheolmldaaDoorCoB
set_option linter.unusedVariables false
set_option linter.unusedSimpArgs false
set_option linter.unnecessarySimpa false
namespace Go.Proofs.YtdddebheolmldaaDoorA.FCoC
open Go
theorem ag23 : tAgg P 23 = some ((true, 4)) := by kernel_rfl
theorem eqt23 : tEq P 23 = some ([.str, .str, .int .i64, .str]) := by kernel_rfl
theorem go5 : callGo Go.Proofs.Tryd.f5 = true := by kernel_rfl
theorem go6 : callGo Go.Proofs.Tryd.f6 = true := by kernel_rfl
theorem go7 : callGo Go.Proofs.Tryd.f7 = true := by kernel_rfl
theorem go8 : callGo Go.Proofs.Tryd.f8 = true := by kernel_rfl
theorem pl23 : tPl P 23 = some ([(0, 1), (1, 1), (2, 1), (3, 1)]) := by kernel_rfl
theorem tz23 : tZero P 23 = some ([.string ⟨#[]⟩, .string ⟨#[]⟩, .int .i64 0, .string ⟨#[]⟩]) := by kernel_rfl
theorem tzd23 : cellsD [.string ⟨#[]⟩, .string ⟨#[]⟩, .int .i64 0, .string ⟨#[]⟩] = some ([.str ⟨#[]⟩, .str ⟨#[]⟩, .int .i64 0, .str ⟨#[]⟩]) := rfl
end Go.Proofs.YtdddebheolmldaaDoorA.FCoC
namespace Go.Proofs.YtdddebheolmldaaDoorA
open Go FCoC
attribute [local irreducible] XOps Quiet Loud W AC GQ DT
set_option maxHeartbeats 8000000 in
set_option maxRecDepth 100000 in
theorem back_c (c : CC) (s : ByteArray) (gd : Nat) (hs : Hp) (h1 : c.call.size ≤ 140737488351232) (h2 : c.fix.size ≤ 140737488351232) (hL : s.size ≤ 2000000) : AC P 3 [.d (.agg c.enc), .d (.str s)] ((gd, p10G) :: hs) (fun r h => r = .d (.bool true)) := by
  refine AC.of 66 Tryd.func3 rfl rfl rfl ?_
  refine W.reg ?_
  refine XOps.loud rfl (L.boxn rfl rfl) ?_
  rintro _ _ ⟨b2, rfl, rfl⟩
  refine XOps.s rfl rfl rfl (Q.assign_d rfl) ?_
  refine XOps.nil ?_
  refine W.reg ?_
  refine XOps.s rfl rfl rfl (Q.ld_ptrn (k := 0) ag23 rfl rfl rfl) ?_
  refine XOps.loud rfl (L.call rfl Tryd.func5 go5 rfl (AC.le (print_c c gd ((b2, .cells (c.enc.map .d)) :: hs) h1 h2) (HLe.pick 1 rfl rfl (HLe.refl _))) rfl) ?_
  rintro _ _ ⟨_, rfl, rfl, rfl⟩
  refine XOps.s rfl rfl rfl (Q.move_tup rfl) ?_
  refine XOps.s rfl rfl rfl (Q.extract rfl rfl) ?_
  refine XOps.s rfl rfl rfl (Q.extract rfl rfl) ?_
  refine XOps.s rfl rfl rfl (Q.assign_d rfl) ?_
  refine XOps.s rfl rfl rfl (Q.assign_d rfl) ?_
  refine XOps.nil ?_
  refine W.seq ?_
  refine W.reg ?_
  refine XOps.s rfl rfl rfl (Q.move_d rfl) ?_
  refine XOps.s rfl rfl rfl (Q.eql rfl rfl) ?_
  refine XOps.nil ?_
  refine W.cond rfl (fun hc19 => ?_) (fun hc19 => ?_)
  · try simp only [Bool.or_eq_true, Bool.or_eq_false_iff, Bool.and_eq_true, Bool.and_eq_false_iff, decide_eq_true_eq, decide_eq_false_iff_not, Bool.not_eq_true', Bool.not_eq_false', Int.not_lt, Int.not_le, List.length_map] at hc19
    have h19 : ckC c = 0 := by first | exact hc19 | (simpa using hc19)
    have hP : prS c = prT c := if_neg (by omega)
    have hpp := print_parse h19
    rw [← hP] at hpp
    refine W.reg ?_
    refine XOps.s rfl rfl rfl (Q.move_d rfl) ?_
    refine XOps.s rfl rfl rfl (Q.call rfl Tryd.func6 go6 rfl (parse_c (prS c) _ (by rw [hP]; have := prT_size h19; omega))) ?_
    refine XOps.s rfl rfl rfl (Q.move_tup rfl) ?_
    refine XOps.s rfl rfl rfl (Q.extract rfl rfl) ?_
    refine XOps.s rfl rfl rfl (Q.extract rfl rfl) ?_
    (refine XOps.loud rfl (L.alloc tz23 rfl rfl) ?_; rintro _ _ ⟨b7, rfl, rfl⟩)
    refine XOps.loud rfl (L.storen (k := 0) ag23 rfl rfl rfl rfl rfl) ?_
    rintro _ _ ⟨rfl, rfl⟩
    refine XOps.s rfl rfl rfl (Q.assign_d rfl) ?_
    refine XOps.nil ?_
    refine W.reg ?_
    refine XOps.s rfl rfl rfl (Q.move_d rfl) ?_
    refine XOps.s rfl rfl rfl (Q.neq rfl rfl) ?_
    refine XOps.s rfl rfl rfl (Q.move_d rfl) ?_
    refine XOps.gs rfl rfl rfl rfl rfl rfl rfl (fun hg => Q.ld_ptrn (k := 0) ag23 rfl rfl rfl) ?_
    refine XOps.gs rfl rfl rfl rfl rfl rfl rfl (fun hg => Q.ld_ptrn (k := 2) ag23 rfl rfl rfl) ?_
    refine XOps.gs rfl rfl rfl rfl rfl rfl rfl (fun hg => Quiet.open 28 hg rfl (Quiet.open 29 hg rfl (Q.neq_agg eqt23 rfl rfl rfl rfl rfl))) ?_
    refine XOps.s rfl rfl rfl (Q.pick_or rfl rfl rfl (fun h => by first | (rw [h]; rfl) | (rw [hg, h]; rfl) | (simp [h, hg]; done))) ?_
    refine XOps.nil ?_
    refine W.cond rfl (fun hc31 => ?_) (fun hc31 => ?_)
    · try simp only [Bool.or_eq_true, Bool.or_eq_false_iff, Bool.and_eq_true, Bool.and_eq_false_iff, decide_eq_true_eq, decide_eq_false_iff_not, Bool.not_eq_true', Bool.not_eq_false', Int.not_lt, Int.not_le, List.length_map] at hc31
      exfalso
      have hz := same_cc (paV (prS c)) c
      rw [hpp.2, decide_eq_true rfl] at hz
      rw [hpp.1, hpp.2] at hc31
      have hz2 : allD (c.enc.take 4) (c.enc.take 4) = true := hz
      simp at hc31
      exact absurd (show allD (c.enc.take 4) (c.enc.take 4) = false from hc31) (by rw [hz2]; simp) --done
    · try simp only [Bool.or_eq_true, Bool.or_eq_false_iff, Bool.and_eq_true, Bool.and_eq_false_iff, decide_eq_true_eq, decide_eq_false_iff_not, Bool.not_eq_true', Bool.not_eq_false', Int.not_lt, Int.not_le, List.length_map] at hc31
      refine W.skip ?_
      refine W.heap ((gd, p10G) :: (b2, .cells (c.enc.map .d)) :: hs) (HLe.skip _ (HLe.refl _)) ?_
      refine W.reg ?_
      refine XOps.s rfl rfl rfl (Q.move_d rfl) ?_
      refine XOps.s rfl rfl rfl (Q.call rfl Tryd.func6 go6 rfl (parse_c s _ hL)) ?_
      refine XOps.s rfl rfl rfl (Q.move_tup rfl) ?_
      refine XOps.s rfl rfl rfl (Q.extract rfl rfl) ?_
      refine XOps.s rfl rfl rfl (Q.extract rfl rfl) ?_
      (refine XOps.loud rfl (L.alloc tz23 rfl rfl) ?_; rintro _ _ ⟨b9, rfl, rfl⟩)
      refine XOps.loud rfl (L.storen (k := 0) ag23 rfl rfl rfl rfl rfl) ?_
      rintro _ _ ⟨rfl, rfl⟩
      refine XOps.s rfl rfl rfl (Q.assign_d rfl) ?_
      refine XOps.nil ?_
      refine W.seq ?_
      refine W.reg ?_
      refine XOps.s rfl rfl rfl (Q.move_d rfl) ?_
      refine XOps.s rfl rfl rfl (Q.neq rfl rfl) ?_
      refine XOps.nil ?_
      refine W.cond rfl (fun hc38 => ?_) (fun hc38 => ?_)
      · try simp only [Bool.or_eq_true, Bool.or_eq_false_iff, Bool.and_eq_true, Bool.and_eq_false_iff, decide_eq_true_eq, decide_eq_false_iff_not, Bool.not_eq_true', Bool.not_eq_false', Int.not_lt, Int.not_le, List.length_map] at hc38
        have h38 : paE s ≠ 0 := by first | exact hc38 | (simpa using hc38)
        have hV := paV_bad h38
        rw [hV]
        refine W.reg ?_
        refine XOps.s rfl rfl rfl (Q.call rfl Tryd.func7 go7 rfl (cfact_c _)) ?_
        refine XOps.s rfl rfl rfl (Q.move_d rfl) ?_
        refine XOps.gs rfl rfl rfl rfl rfl rfl rfl (fun hg => Q.move_d rfl) ?_
        refine XOps.gs rfl rfl rfl rfl rfl rfl rfl (fun hg => Q.ld_ptrn (k := 2) ag23 rfl rfl rfl) ?_
        refine XOps.gs rfl rfl rfl rfl rfl rfl rfl (fun hg => Quiet.open 42 hg rfl (Q.call rfl Tryd.func8 go8 rfl (check_c c _ h1 h2))) ?_
        refine XOps.gs rfl rfl rfl rfl rfl rfl rfl (fun hg => Quiet.open 41 hg rfl (Quiet.open 43 hg rfl (Q.eql rfl rfl))) ?_
        refine XOps.s rfl rfl rfl (Q.pick_and rfl rfl rfl (fun h => by first | (rw [h]; rfl) | (rw [hg, h]; rfl) | (simp [h, hg]; done))) ?_
        refine XOps.s rfl rfl rfl (Q.move_d rfl) ?_
        refine XOps.gs rfl rfl rfl rfl rfl rfl rfl (fun hg => Q.ld_ptrn (k := 0) ag23 rfl rfl rfl) ?_
        refine XOps.gs rfl rfl rfl rfl rfl rfl rfl (fun hg => Q.build pl23 tz23 tzd23 rfl) ?_
        refine XOps.gs rfl rfl rfl rfl rfl rfl rfl (fun hg => Quiet.open 47 hg rfl (Quiet.open 48 hg rfl (Q.eql_agg eqt23 rfl rfl rfl rfl rfl))) ?_
        refine XOps.s rfl rfl rfl (Q.pick_and rfl rfl rfl (fun h => by first | (rw [h]; rfl) | (rw [hg, h]; rfl) | (simp [h, hg]; done))) ?_
        refine XOps.s rfl rfl rfl (Q.assign_d rfl) ?_
        refine XOps.nil ?_
        refine W.ret ?_
        refine ⟨_, _, rfl, HLe.refl _, ?_⟩
        show AV.d (.bool _) = _
        refine congrArg (fun b => AV.d (D.bool b)) ?_
        (have hz := same_cc CC.zero CC.zero; rw [decide_eq_true rfl] at hz; have hz2 : allD [D.str CC.zero.verb, D.str CC.zero.call, D.int .i64 CC.zero.n, D.str CC.zero.fix] [D.str ⟨#[]⟩, D.str ⟨#[]⟩, D.int .i64 0, D.str ⟨#[]⟩] = true := hz; simp [hz2]; done)
      · try simp only [Bool.or_eq_true, Bool.or_eq_false_iff, Bool.and_eq_true, Bool.and_eq_false_iff, decide_eq_true_eq, decide_eq_false_iff_not, Bool.not_eq_true', Bool.not_eq_false', Int.not_lt, Int.not_le, List.length_map] at hc38
        have h38 : paE s = 0 := by first | exact hc38 | (simpa using hc38)
        obtain ⟨pp1, pp2⟩ := parse_print h38
        have hP2 : prS (paV s) = s := by unfold prS; rw [if_neg (by omega), pp2]
        refine W.skip ?_
        refine W.reg ?_
        refine XOps.s rfl rfl rfl (Q.ld_ptrn (k := 0) ag23 rfl rfl rfl) ?_
        refine XOps.loud rfl (L.call rfl Tryd.func5 go5 rfl (AC.le (print_c (paV s) gd ((b9, .cells ((paV s).enc.map .d)) :: (b2, .cells (c.enc.map .d)) :: hs) (by have := (paV_size s).1; omega) (by have := (paV_size s).2; omega)) (HLe.pick 1 rfl rfl (HLe.refl _))) rfl) ?_
        rintro _ _ ⟨_, rfl, rfl, rfl⟩
        refine XOps.s rfl rfl rfl (Q.move_tup rfl) ?_
        refine XOps.s rfl rfl rfl (Q.extract rfl rfl) ?_
        refine XOps.s rfl rfl rfl (Q.extract rfl rfl) ?_
        refine XOps.s rfl rfl rfl (Q.assign_d rfl) ?_
        refine XOps.s rfl rfl rfl (Q.assign_d rfl) ?_
        refine XOps.nil ?_
        refine W.reg ?_
        refine XOps.s rfl rfl rfl (Q.call rfl Tryd.func7 go7 rfl (cfact_c _)) ?_
        refine XOps.s rfl rfl rfl (Q.move_d rfl) ?_
        refine XOps.gs rfl rfl rfl rfl rfl rfl rfl (fun hg => Q.move_d rfl) ?_
        refine XOps.gs rfl rfl rfl rfl rfl rfl rfl (fun hg => Quiet.open 58 hg rfl (Q.eql rfl rfl)) ?_
        refine XOps.s rfl rfl rfl (Q.pick_and rfl rfl rfl (fun h => by first | (rw [h]; rfl) | (rw [hg, h]; rfl) | (simp [h, hg]; done))) ?_
        refine XOps.s rfl rfl rfl (Q.move_d rfl) ?_
        refine XOps.gs rfl rfl rfl rfl rfl rfl rfl (fun hg => Q.move_d rfl) ?_
        refine XOps.gs rfl rfl rfl rfl rfl rfl rfl (fun hg => Q.move_d rfl) ?_
        refine XOps.gs rfl rfl rfl rfl rfl rfl rfl (fun hg => Quiet.open 62 hg rfl (Quiet.open 63 hg rfl (Q.eql_str rfl rfl))) ?_
        refine XOps.s rfl rfl rfl (Q.pick_and rfl rfl rfl (fun h => by first | (rw [h]; rfl) | (rw [hg, h]; rfl) | (simp [h, hg]; done))) ?_
        refine XOps.s rfl rfl rfl (Q.assign_d rfl) ?_
        refine XOps.nil ?_
        refine W.ret ?_
        refine ⟨_, _, rfl, HLe.refl _, ?_⟩
        show AV.d (.bool _) = _
        refine congrArg (fun b => AV.d (D.bool b)) ?_
        (rw [pp1, hP2]; simp; done)
  · try simp only [Bool.or_eq_true, Bool.or_eq_false_iff, Bool.and_eq_true, Bool.and_eq_false_iff, decide_eq_true_eq, decide_eq_false_iff_not, Bool.not_eq_true', Bool.not_eq_false', Int.not_lt, Int.not_le, List.length_map] at hc19
    refine W.skip ?_
    skip
    refine W.reg ?_
    refine XOps.s rfl rfl rfl (Q.move_d rfl) ?_
    refine XOps.s rfl rfl rfl (Q.call rfl Tryd.func6 go6 rfl (parse_c s _ hL)) ?_
    refine XOps.s rfl rfl rfl (Q.move_tup rfl) ?_
    refine XOps.s rfl rfl rfl (Q.extract rfl rfl) ?_
    refine XOps.s rfl rfl rfl (Q.extract rfl rfl) ?_
    (refine XOps.loud rfl (L.alloc tz23 rfl rfl) ?_; rintro _ _ ⟨b9, rfl, rfl⟩)
    refine XOps.loud rfl (L.storen (k := 0) ag23 rfl rfl rfl rfl rfl) ?_
    rintro _ _ ⟨rfl, rfl⟩
    refine XOps.s rfl rfl rfl (Q.assign_d rfl) ?_
    refine XOps.nil ?_
    refine W.seq ?_
    refine W.reg ?_
    refine XOps.s rfl rfl rfl (Q.move_d rfl) ?_
    refine XOps.s rfl rfl rfl (Q.neq rfl rfl) ?_
    refine XOps.nil ?_
    refine W.cond rfl (fun hc38 => ?_) (fun hc38 => ?_)
    · try simp only [Bool.or_eq_true, Bool.or_eq_false_iff, Bool.and_eq_true, Bool.and_eq_false_iff, decide_eq_true_eq, decide_eq_false_iff_not, Bool.not_eq_true', Bool.not_eq_false', Int.not_lt, Int.not_le, List.length_map] at hc38
      have h38 : paE s ≠ 0 := by first | exact hc38 | (simpa using hc38)
      have hV := paV_bad h38
      rw [hV]
      refine W.reg ?_
      refine XOps.s rfl rfl rfl (Q.call rfl Tryd.func7 go7 rfl (cfact_c _)) ?_
      refine XOps.s rfl rfl rfl (Q.move_d rfl) ?_
      refine XOps.gs rfl rfl rfl rfl rfl rfl rfl (fun hg => Q.move_d rfl) ?_
      refine XOps.gs rfl rfl rfl rfl rfl rfl rfl (fun hg => Q.ld_ptrn (k := 2) ag23 rfl rfl rfl) ?_
      refine XOps.gs rfl rfl rfl rfl rfl rfl rfl (fun hg => Quiet.open 42 hg rfl (Q.call rfl Tryd.func8 go8 rfl (check_c c _ h1 h2))) ?_
      refine XOps.gs rfl rfl rfl rfl rfl rfl rfl (fun hg => Quiet.open 41 hg rfl (Quiet.open 43 hg rfl (Q.eql rfl rfl))) ?_
      refine XOps.s rfl rfl rfl (Q.pick_and rfl rfl rfl (fun h => by first | (rw [h]; rfl) | (rw [hg, h]; rfl) | (simp [h, hg]; done))) ?_
      refine XOps.s rfl rfl rfl (Q.move_d rfl) ?_
      refine XOps.gs rfl rfl rfl rfl rfl rfl rfl (fun hg => Q.ld_ptrn (k := 0) ag23 rfl rfl rfl) ?_
      refine XOps.gs rfl rfl rfl rfl rfl rfl rfl (fun hg => Q.build pl23 tz23 tzd23 rfl) ?_
      refine XOps.gs rfl rfl rfl rfl rfl rfl rfl (fun hg => Quiet.open 47 hg rfl (Quiet.open 48 hg rfl (Q.eql_agg eqt23 rfl rfl rfl rfl rfl))) ?_
      refine XOps.s rfl rfl rfl (Q.pick_and rfl rfl rfl (fun h => by first | (rw [h]; rfl) | (rw [hg, h]; rfl) | (simp [h, hg]; done))) ?_
      refine XOps.s rfl rfl rfl (Q.assign_d rfl) ?_
      refine XOps.nil ?_
      refine W.ret ?_
      refine ⟨_, _, rfl, HLe.refl _, ?_⟩
      show AV.d (.bool _) = _
      refine congrArg (fun b => AV.d (D.bool b)) ?_
      (have hz := same_cc CC.zero CC.zero; rw [decide_eq_true rfl] at hz; have hz2 : allD [D.str CC.zero.verb, D.str CC.zero.call, D.int .i64 CC.zero.n, D.str CC.zero.fix] [D.str ⟨#[]⟩, D.str ⟨#[]⟩, D.int .i64 0, D.str ⟨#[]⟩] = true := hz; simp [hz2]; done)
    · try simp only [Bool.or_eq_true, Bool.or_eq_false_iff, Bool.and_eq_true, Bool.and_eq_false_iff, decide_eq_true_eq, decide_eq_false_iff_not, Bool.not_eq_true', Bool.not_eq_false', Int.not_lt, Int.not_le, List.length_map] at hc38
      have h38 : paE s = 0 := by first | exact hc38 | (simpa using hc38)
      obtain ⟨pp1, pp2⟩ := parse_print h38
      have hP2 : prS (paV s) = s := by unfold prS; rw [if_neg (by omega), pp2]
      refine W.skip ?_
      refine W.reg ?_
      refine XOps.s rfl rfl rfl (Q.ld_ptrn (k := 0) ag23 rfl rfl rfl) ?_
      refine XOps.loud rfl (L.call rfl Tryd.func5 go5 rfl (AC.le (print_c (paV s) gd ((b9, .cells ((paV s).enc.map .d)) :: (b2, .cells (c.enc.map .d)) :: hs) (by have := (paV_size s).1; omega) (by have := (paV_size s).2; omega)) (HLe.pick 1 rfl rfl (HLe.refl _))) rfl) ?_
      rintro _ _ ⟨_, rfl, rfl, rfl⟩
      refine XOps.s rfl rfl rfl (Q.move_tup rfl) ?_
      refine XOps.s rfl rfl rfl (Q.extract rfl rfl) ?_
      refine XOps.s rfl rfl rfl (Q.extract rfl rfl) ?_
      refine XOps.s rfl rfl rfl (Q.assign_d rfl) ?_
      refine XOps.s rfl rfl rfl (Q.assign_d rfl) ?_
      refine XOps.nil ?_
      refine W.reg ?_
      refine XOps.s rfl rfl rfl (Q.call rfl Tryd.func7 go7 rfl (cfact_c _)) ?_
      refine XOps.s rfl rfl rfl (Q.move_d rfl) ?_
      refine XOps.gs rfl rfl rfl rfl rfl rfl rfl (fun hg => Q.move_d rfl) ?_
      refine XOps.gs rfl rfl rfl rfl rfl rfl rfl (fun hg => Quiet.open 58 hg rfl (Q.eql rfl rfl)) ?_
      refine XOps.s rfl rfl rfl (Q.pick_and rfl rfl rfl (fun h => by first | (rw [h]; rfl) | (rw [hg, h]; rfl) | (simp [h, hg]; done))) ?_
      refine XOps.s rfl rfl rfl (Q.move_d rfl) ?_
      refine XOps.gs rfl rfl rfl rfl rfl rfl rfl (fun hg => Q.move_d rfl) ?_
      refine XOps.gs rfl rfl rfl rfl rfl rfl rfl (fun hg => Q.move_d rfl) ?_
      refine XOps.gs rfl rfl rfl rfl rfl rfl rfl (fun hg => Quiet.open 62 hg rfl (Quiet.open 63 hg rfl (Q.eql_str rfl rfl))) ?_
      refine XOps.s rfl rfl rfl (Q.pick_and rfl rfl rfl (fun h => by first | (rw [h]; rfl) | (rw [hg, h]; rfl) | (simp [h, hg]; done))) ?_
      refine XOps.s rfl rfl rfl (Q.assign_d rfl) ?_
      refine XOps.nil ?_
      refine W.ret ?_
      refine ⟨_, _, rfl, HLe.refl _, ?_⟩
      show AV.d (.bool _) = _
      refine congrArg (fun b => AV.d (D.bool b)) ?_
      (rw [pp1, hP2]; simp; done)
end Go.Proofs.YtdddebheolmldaaDoorA
