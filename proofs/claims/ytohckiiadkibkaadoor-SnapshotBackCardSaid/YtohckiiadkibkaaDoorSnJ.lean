/- The law SnapshotBack. -/
import Derived.Test.YtohckiiadkibkaaDoorBase
import Derived.Test.YtohckiiadkibkaaDoorSnI
set_option linter.unusedVariables false
set_option linter.unusedSimpArgs false
set_option linter.unnecessarySimpa false
namespace Go.Proofs.YtohckiiadkibkaaDoorA.FSnJ
open Go
theorem go11 : callGo Go.Proofs.Tryd.f11 = true := by kernel_rfl
theorem go15 : callGo Go.Proofs.Tryd.f15 = true := by kernel_rfl
theorem go19 : callGo Go.Proofs.Tryd.f19 = true := by kernel_rfl
theorem go20 : callGo Go.Proofs.Tryd.f20 = true := by kernel_rfl
theorem go9 : callGo Go.Proofs.Tryd.f9 = true := by kernel_rfl
theorem isl22 : isSl P 22 = true := by kernel_rfl
end Go.Proofs.YtohckiiadkibkaaDoorA.FSnJ
namespace Go.Proofs.YtohckiiadkibkaaDoorA
open Go FSnJ
attribute [local irreducible] XOps Quiet Loud W AC GQ DT
theorem szR_ok {l : List SR} (h : checkL l = 0) : szR l := fun x hx => by
  have h2 := (checkL_zero.1 h).1.form x hx
  have h3 := (keyed_size h2.1).1
  have h4 := (valued_size h2.2).1
  exact ⟨by omega, by omega⟩

set_option maxHeartbeats 4000000 in
set_option maxRecDepth 100000 in
theorem back_c (l : List SR) (s : ByteArray) (gd : Nat) (hs : Hp) (hL : l.length ≤ 4398046511104) (hz : szR l) (hs1 : s.size ≤ 140737488351232) : AC P 7 [.d (.sl 2 (l.map SR.enc)), .d (.str s)] ((gd, dbG) :: hs) (fun r h => r = .d (.bool true)) := by
  refine AC.of 67 Tryd.func7 rfl rfl rfl ?_
  refine W.reg ?_
  refine XOps.s rfl rfl rfl (Q.assign_d rfl) ?_
  refine XOps.nil ?_
  refine W.reg ?_
  refine XOps.s rfl rfl rfl (Q.move_d rfl) ?_
  refine XOps.s rfl rfl rfl (Q.call rfl Tryd.func19 go19 rfl (text_c l gd hs (by omega) hz)) ?_
  refine XOps.s rfl rfl rfl (Q.move_tup rfl) ?_
  refine XOps.s rfl rfl rfl (Q.extract rfl rfl) ?_
  refine XOps.s rfl rfl rfl (Q.extract rfl rfl) ?_
  refine XOps.s rfl rfl rfl (Q.assign_d rfl) ?_
  refine XOps.s rfl rfl rfl (Q.assign_d rfl) ?_
  refine XOps.nil ?_
  refine W.seq ?_
  refine W.reg ?_
  refine XOps.s rfl rfl rfl (Q.move_d rfl) ?_
  refine XOps.s rfl rfl rfl (Q.eql rfl rfl) ?_
  refine XOps.nil ?_
  refine W.cond rfl (fun hc19 => ?_) (fun hc19 => ?_)
  · try simp only [Bool.or_eq_true, Bool.or_eq_false_iff, Bool.and_eq_true, Bool.and_eq_false_iff, decide_eq_true_eq, decide_eq_false_iff_not, Bool.not_eq_true', Bool.not_eq_false', Int.not_lt, Int.not_le, List.length_map] at hc19
    have h19 : checkL l = 0 := by first | omega | (simpa using hc19)
    obtain ⟨q1, q2⟩ := text_read h19
    have q3 := text_len h19
    refine W.reg ?_
    refine XOps.s rfl rfl rfl (Q.move_d rfl) ?_
    refine XOps.s rfl rfl rfl (Q.call rfl Tryd.func20 go20 rfl (read_c (textV l) gd hs (by omega))) ?_
    refine XOps.s rfl rfl rfl (Q.move_tup rfl) ?_
    refine XOps.s rfl rfl rfl (Q.extract rfl rfl) ?_
    refine XOps.s rfl rfl rfl (Q.extract rfl rfl) ?_
    refine XOps.s rfl rfl rfl (Q.assign_d rfl) ?_
    refine XOps.s rfl rfl rfl (Q.assign_d rfl) ?_
    refine XOps.nil ?_
    refine W.reg ?_
    refine XOps.s rfl rfl rfl (Q.move_d rfl) ?_
    refine XOps.s rfl rfl rfl (Q.neq rfl rfl) ?_
    refine XOps.s rfl rfl rfl (Q.move_d rfl) ?_
    refine XOps.gs rfl rfl rfl rfl rfl rfl rfl (fun hg => Q.move_d rfl) ?_
    refine XOps.gs rfl rfl rfl rfl rfl rfl rfl (fun hg => Q.move_d rfl) ?_
    refine XOps.gs rfl rfl rfl rfl rfl rfl rfl (fun hg => Quiet.open 28 hg rfl (Quiet.open 29 hg rfl (Q.call rfl Tryd.func11 go11 rfl (same_c l (readL (textV l)) _ (by omega))))) ?_
    refine XOps.gs rfl rfl rfl rfl rfl rfl rfl (fun hg => Quiet.open 30 hg rfl (Q.not rfl)) ?_
    refine XOps.s rfl rfl rfl (Q.pick_or rfl rfl rfl (fun h => by first | (rw [h]; rfl) | (rw [hg, h]; rfl) | (simp [h, hg]; done))) ?_
    refine XOps.nil ?_
    refine W.cond rfl (fun hc32 => ?_) (fun hc32 => ?_)
    · try simp only [Bool.or_eq_true, Bool.or_eq_false_iff, Bool.and_eq_true, Bool.and_eq_false_iff, decide_eq_true_eq, decide_eq_false_iff_not, Bool.not_eq_true', Bool.not_eq_false', Int.not_lt, Int.not_le, List.length_map] at hc32
      exfalso
      rw [q1, q2] at hc32
      simp at hc32 --done
    · try simp only [Bool.or_eq_true, Bool.or_eq_false_iff, Bool.and_eq_true, Bool.and_eq_false_iff, decide_eq_true_eq, decide_eq_false_iff_not, Bool.not_eq_true', Bool.not_eq_false', Int.not_lt, Int.not_le, List.length_map] at hc32
      refine W.skip ?_
      refine W.reg ?_
      refine XOps.s rfl rfl rfl (Q.move_d rfl) ?_
      refine XOps.s rfl rfl rfl (Q.call rfl Tryd.func20 go20 rfl (read_c s gd hs (by omega))) ?_
      refine XOps.s rfl rfl rfl (Q.move_tup rfl) ?_
      refine XOps.s rfl rfl rfl (Q.extract rfl rfl) ?_
      refine XOps.s rfl rfl rfl (Q.extract rfl rfl) ?_
      refine XOps.s rfl rfl rfl (Q.assign_d rfl) ?_
      refine XOps.s rfl rfl rfl (Q.assign_d rfl) ?_
      refine XOps.nil ?_
      refine W.seq ?_
      refine W.reg ?_
      refine XOps.s rfl rfl rfl (Q.move_d rfl) ?_
      refine XOps.s rfl rfl rfl (Q.neq rfl rfl) ?_
      refine XOps.nil ?_
      refine W.cond rfl (fun hc39 => ?_) (fun hc39 => ?_)
      · try simp only [Bool.or_eq_true, Bool.or_eq_false_iff, Bool.and_eq_true, Bool.and_eq_false_iff, decide_eq_true_eq, decide_eq_false_iff_not, Bool.not_eq_true', Bool.not_eq_false', Int.not_lt, Int.not_le, List.length_map] at hc39
        have h39 : readE s ≠ 0 := by first | exact hc39 | (simpa using hc39)
        have hV : readL s = [] := if_pos h39
        refine W.reg ?_
        refine XOps.s rfl rfl rfl (Q.call rfl Tryd.func9 go9 rfl (fact_c gd hs)) ?_
        refine XOps.s rfl rfl rfl (Q.move_d rfl) ?_
        refine XOps.gs rfl rfl rfl rfl rfl rfl rfl (fun hg => Q.move_d rfl) ?_
        refine XOps.gs rfl rfl rfl rfl rfl rfl rfl (fun hg => Quiet.open 42 hg rfl (Q.len_sl isl22 rfl)) ?_
        refine XOps.gs rfl rfl rfl rfl rfl rfl rfl (fun hg => Quiet.open 43 hg rfl (Q.eql rfl rfl)) ?_
        refine XOps.s rfl rfl rfl (Q.pick_and rfl rfl rfl (fun h => by first | (rw [h]; rfl) | (rw [hg, h]; rfl) | (simp [h, hg]; done))) ?_
        refine XOps.s rfl rfl rfl (Q.move_d rfl) ?_
        refine XOps.gs rfl rfl rfl rfl rfl rfl rfl (fun hg => Q.move_d rfl) ?_
        refine XOps.gs rfl rfl rfl rfl rfl rfl rfl (fun hg => Q.move_d rfl) ?_
        refine XOps.gs rfl rfl rfl rfl rfl rfl rfl (fun hg => Quiet.open 48 hg rfl (Q.call rfl Tryd.func15 go15 rfl (check_c l _ (by omega) hz))) ?_
        refine XOps.gs rfl rfl rfl rfl rfl rfl rfl (fun hg => Quiet.open 47 hg rfl (Quiet.open 49 hg rfl (Q.eql rfl rfl))) ?_
        refine XOps.s rfl rfl rfl (Q.pick_and rfl rfl rfl (fun h => by first | (rw [h]; rfl) | (rw [hg, h]; rfl) | (simp [h, hg]; done))) ?_
        refine XOps.s rfl rfl rfl (Q.assign_d rfl) ?_
        refine XOps.nil ?_
        refine W.ret ?_
        (refine ⟨_, _, rfl, HLe.refl _, ?_⟩; show AV.d (.bool _) = _; refine congrArg (fun b => AV.d (D.bool b)) ?_; first | (rw [hV]; simp; done) | (rw [r1, r2]; simp [seq_refl]; done) | (rw [r1, r2]; simp; done))
      · try simp only [Bool.or_eq_true, Bool.or_eq_false_iff, Bool.and_eq_true, Bool.and_eq_false_iff, decide_eq_true_eq, decide_eq_false_iff_not, Bool.not_eq_true', Bool.not_eq_false', Int.not_lt, Int.not_le, List.length_map] at hc39
        have h39 : readE s = 0 := by first | exact hc39 | (simpa using hc39)
        obtain ⟨r1, r2⟩ := read_ok h39
        have r3 := (checkL_zero.1 r1).2
        refine W.skip ?_
        refine W.reg ?_
        refine XOps.s rfl rfl rfl (Q.move_d rfl) ?_
        refine XOps.s rfl rfl rfl (Q.call rfl Tryd.func19 go19 rfl (text_c (readL s) gd hs (by omega) (szR_ok r1))) ?_
        refine XOps.s rfl rfl rfl (Q.move_tup rfl) ?_
        refine XOps.s rfl rfl rfl (Q.extract rfl rfl) ?_
        refine XOps.s rfl rfl rfl (Q.extract rfl rfl) ?_
        refine XOps.s rfl rfl rfl (Q.assign_d rfl) ?_
        refine XOps.s rfl rfl rfl (Q.assign_d rfl) ?_
        refine XOps.nil ?_
        refine W.reg ?_
        refine XOps.s rfl rfl rfl (Q.call rfl Tryd.func9 go9 rfl (fact_c gd hs)) ?_
        refine XOps.s rfl rfl rfl (Q.move_d rfl) ?_
        refine XOps.gs rfl rfl rfl rfl rfl rfl rfl (fun hg => Q.move_d rfl) ?_
        refine XOps.gs rfl rfl rfl rfl rfl rfl rfl (fun hg => Quiet.open 59 hg rfl (Q.eql rfl rfl)) ?_
        refine XOps.s rfl rfl rfl (Q.pick_and rfl rfl rfl (fun h => by first | (rw [h]; rfl) | (rw [hg, h]; rfl) | (simp [h, hg]; done))) ?_
        refine XOps.s rfl rfl rfl (Q.move_d rfl) ?_
        refine XOps.gs rfl rfl rfl rfl rfl rfl rfl (fun hg => Q.move_d rfl) ?_
        refine XOps.gs rfl rfl rfl rfl rfl rfl rfl (fun hg => Q.move_d rfl) ?_
        refine XOps.gs rfl rfl rfl rfl rfl rfl rfl (fun hg => Quiet.open 63 hg rfl (Quiet.open 64 hg rfl (Q.eql_str rfl rfl))) ?_
        refine XOps.s rfl rfl rfl (Q.pick_and rfl rfl rfl (fun h => by first | (rw [h]; rfl) | (rw [hg, h]; rfl) | (simp [h, hg]; done))) ?_
        refine XOps.s rfl rfl rfl (Q.assign_d rfl) ?_
        refine XOps.nil ?_
        refine W.ret ?_
        (refine ⟨_, _, rfl, HLe.refl _, ?_⟩; show AV.d (.bool _) = _; refine congrArg (fun b => AV.d (D.bool b)) ?_; first | (rw [hV]; simp; done) | (rw [r1, r2]; simp [seq_refl]; done) | (rw [r1, r2]; simp; done))
  · try simp only [Bool.or_eq_true, Bool.or_eq_false_iff, Bool.and_eq_true, Bool.and_eq_false_iff, decide_eq_true_eq, decide_eq_false_iff_not, Bool.not_eq_true', Bool.not_eq_false', Int.not_lt, Int.not_le, List.length_map] at hc19
    refine W.skip ?_
    refine W.reg ?_
    refine XOps.s rfl rfl rfl (Q.move_d rfl) ?_
    refine XOps.s rfl rfl rfl (Q.call rfl Tryd.func20 go20 rfl (read_c s gd hs (by omega))) ?_
    refine XOps.s rfl rfl rfl (Q.move_tup rfl) ?_
    refine XOps.s rfl rfl rfl (Q.extract rfl rfl) ?_
    refine XOps.s rfl rfl rfl (Q.extract rfl rfl) ?_
    refine XOps.s rfl rfl rfl (Q.assign_d rfl) ?_
    refine XOps.s rfl rfl rfl (Q.assign_d rfl) ?_
    refine XOps.nil ?_
    refine W.seq ?_
    refine W.reg ?_
    refine XOps.s rfl rfl rfl (Q.move_d rfl) ?_
    refine XOps.s rfl rfl rfl (Q.neq rfl rfl) ?_
    refine XOps.nil ?_
    refine W.cond rfl (fun hc39 => ?_) (fun hc39 => ?_)
    · try simp only [Bool.or_eq_true, Bool.or_eq_false_iff, Bool.and_eq_true, Bool.and_eq_false_iff, decide_eq_true_eq, decide_eq_false_iff_not, Bool.not_eq_true', Bool.not_eq_false', Int.not_lt, Int.not_le, List.length_map] at hc39
      have h39 : readE s ≠ 0 := by first | exact hc39 | (simpa using hc39)
      have hV : readL s = [] := if_pos h39
      refine W.reg ?_
      refine XOps.s rfl rfl rfl (Q.call rfl Tryd.func9 go9 rfl (fact_c gd hs)) ?_
      refine XOps.s rfl rfl rfl (Q.move_d rfl) ?_
      refine XOps.gs rfl rfl rfl rfl rfl rfl rfl (fun hg => Q.move_d rfl) ?_
      refine XOps.gs rfl rfl rfl rfl rfl rfl rfl (fun hg => Quiet.open 42 hg rfl (Q.len_sl isl22 rfl)) ?_
      refine XOps.gs rfl rfl rfl rfl rfl rfl rfl (fun hg => Quiet.open 43 hg rfl (Q.eql rfl rfl)) ?_
      refine XOps.s rfl rfl rfl (Q.pick_and rfl rfl rfl (fun h => by first | (rw [h]; rfl) | (rw [hg, h]; rfl) | (simp [h, hg]; done))) ?_
      refine XOps.s rfl rfl rfl (Q.move_d rfl) ?_
      refine XOps.gs rfl rfl rfl rfl rfl rfl rfl (fun hg => Q.move_d rfl) ?_
      refine XOps.gs rfl rfl rfl rfl rfl rfl rfl (fun hg => Q.move_d rfl) ?_
      refine XOps.gs rfl rfl rfl rfl rfl rfl rfl (fun hg => Quiet.open 48 hg rfl (Q.call rfl Tryd.func15 go15 rfl (check_c l _ (by omega) hz))) ?_
      refine XOps.gs rfl rfl rfl rfl rfl rfl rfl (fun hg => Quiet.open 47 hg rfl (Quiet.open 49 hg rfl (Q.eql rfl rfl))) ?_
      refine XOps.s rfl rfl rfl (Q.pick_and rfl rfl rfl (fun h => by first | (rw [h]; rfl) | (rw [hg, h]; rfl) | (simp [h, hg]; done))) ?_
      refine XOps.s rfl rfl rfl (Q.assign_d rfl) ?_
      refine XOps.nil ?_
      refine W.ret ?_
      (refine ⟨_, _, rfl, HLe.refl _, ?_⟩; show AV.d (.bool _) = _; refine congrArg (fun b => AV.d (D.bool b)) ?_; first | (rw [hV]; simp; done) | (rw [r1, r2]; simp [seq_refl]; done) | (rw [r1, r2]; simp; done))
    · try simp only [Bool.or_eq_true, Bool.or_eq_false_iff, Bool.and_eq_true, Bool.and_eq_false_iff, decide_eq_true_eq, decide_eq_false_iff_not, Bool.not_eq_true', Bool.not_eq_false', Int.not_lt, Int.not_le, List.length_map] at hc39
      have h39 : readE s = 0 := by first | exact hc39 | (simpa using hc39)
      obtain ⟨r1, r2⟩ := read_ok h39
      have r3 := (checkL_zero.1 r1).2
      refine W.skip ?_
      refine W.reg ?_
      refine XOps.s rfl rfl rfl (Q.move_d rfl) ?_
      refine XOps.s rfl rfl rfl (Q.call rfl Tryd.func19 go19 rfl (text_c (readL s) gd hs (by omega) (szR_ok r1))) ?_
      refine XOps.s rfl rfl rfl (Q.move_tup rfl) ?_
      refine XOps.s rfl rfl rfl (Q.extract rfl rfl) ?_
      refine XOps.s rfl rfl rfl (Q.extract rfl rfl) ?_
      refine XOps.s rfl rfl rfl (Q.assign_d rfl) ?_
      refine XOps.s rfl rfl rfl (Q.assign_d rfl) ?_
      refine XOps.nil ?_
      refine W.reg ?_
      refine XOps.s rfl rfl rfl (Q.call rfl Tryd.func9 go9 rfl (fact_c gd hs)) ?_
      refine XOps.s rfl rfl rfl (Q.move_d rfl) ?_
      refine XOps.gs rfl rfl rfl rfl rfl rfl rfl (fun hg => Q.move_d rfl) ?_
      refine XOps.gs rfl rfl rfl rfl rfl rfl rfl (fun hg => Quiet.open 59 hg rfl (Q.eql rfl rfl)) ?_
      refine XOps.s rfl rfl rfl (Q.pick_and rfl rfl rfl (fun h => by first | (rw [h]; rfl) | (rw [hg, h]; rfl) | (simp [h, hg]; done))) ?_
      refine XOps.s rfl rfl rfl (Q.move_d rfl) ?_
      refine XOps.gs rfl rfl rfl rfl rfl rfl rfl (fun hg => Q.move_d rfl) ?_
      refine XOps.gs rfl rfl rfl rfl rfl rfl rfl (fun hg => Q.move_d rfl) ?_
      refine XOps.gs rfl rfl rfl rfl rfl rfl rfl (fun hg => Quiet.open 63 hg rfl (Quiet.open 64 hg rfl (Q.eql_str rfl rfl))) ?_
      refine XOps.s rfl rfl rfl (Q.pick_and rfl rfl rfl (fun h => by first | (rw [h]; rfl) | (rw [hg, h]; rfl) | (simp [h, hg]; done))) ?_
      refine XOps.s rfl rfl rfl (Q.assign_d rfl) ?_
      refine XOps.nil ?_
      refine W.ret ?_
      (refine ⟨_, _, rfl, HLe.refl _, ?_⟩; show AV.d (.bool _) = _; refine congrArg (fun b => AV.d (D.bool b)) ?_; first | (rw [hV]; simp; done) | (rw [r1, r2]; simp [seq_refl]; done) | (rw [r1, r2]; simp; done))
end Go.Proofs.YtohckiiadkibkaaDoorA
