/- Numbers of counters; one entry applied. -/
import Derived.Test.YtodbcbojkfndiaaGreatDoorFrB
import Derived.Test.YtodbcbojkfndiaaGreatDoorRzB
import Derived.Test.YtodbcbojkfndiaaGreatDoorSnE
set_option linter.unusedVariables false
set_option linter.unusedSimpArgs false
set_option linter.unnecessarySimpa false
namespace Go.Proofs.YtodbcbojkfndiaaGreatDoorA.FRzF
open Go
theorem ag38 : tAgg P 38 = some ((true, 4)) := by kernel_rfl
theorem ag9 : tAgg P 9 = some ((false, 1)) := by kernel_rfl
theorem fl38_2 : tFld P 38 2 = some (2) := by kernel_rfl
theorem fl38_3 : tFld P 38 3 = some (3) := by kernel_rfl
theorem go21 : callGo Go.Proofs.Tryz.f21 = true := by kernel_rfl
theorem go22 : callGo Go.Proofs.Tryz.f22 = true := by kernel_rfl
theorem go23 : callGo Go.Proofs.Tryz.f23 = true := by kernel_rfl
theorem go24 : callGo Go.Proofs.Tryz.f24 = true := by kernel_rfl
theorem go28 : callGo Go.Proofs.Tryz.f28 = true := by kernel_rfl
theorem go29 : callGo Go.Proofs.Tryz.f29 = true := by kernel_rfl
theorem go30 : callGo Go.Proofs.Tryz.f30 = true := by kernel_rfl
theorem go31 : callGo Go.Proofs.Tryz.f31 = true := by kernel_rfl
theorem go43 : callGo Go.Proofs.Tryz.f43 = true := by kernel_rfl
theorem go44 : callGo Go.Proofs.Tryz.f44 = true := by kernel_rfl
theorem go60 : callGo Go.Proofs.Tryz.f60 = true := by kernel_rfl
end Go.Proofs.YtodbcbojkfndiaaGreatDoorA.FRzF
namespace Go.Proofs.YtodbcbojkfndiaaGreatDoorA
open Go FRzF
attribute [local irreducible] XOps Quiet Loud W AC GQ DT
abbrev gH (gd gs gr : Nat) (es er : Value) (hs : Hp) : Hp := (gd, p10G) :: (gs, .glob 4 [es]) :: (gr, .glob 5 [er]) :: hs
theorem sz_ok {l : List SR} (h : checkL l = 0) : szR l ∧ l.length ≤ 64 := by
  obtain ⟨o, hn⟩ := checkL_zero.1 h
  exact ⟨fun x hx => by have := o.form x hx; have h1 := (keyed_size this.1).1; have h2 := (valued_size this.2).1; exact ⟨by omega, by omega⟩, hn⟩
theorem app_nil {l : List SR} (h : checkL l = 0) : appE l [] = 0 ∧ appL l [] = l := by
  obtain ⟨o, hn⟩ := checkL_zero.1 h
  exact app_zero o hn (by simp) rfl hn
theorem getV_size {l : List SR} {k : ByteArray} (h : getE l k = 0) : (getV l k).size ≤ 40 := by
  have hc : checkL l = 0 := by
    unfold getE at h; split at h
    · exact absurd h ‹_›
    · omega
  obtain ⟨o, hn⟩ := checkL_zero.1 hc
  unfold getV
  rw [if_neg (by omega)]
  cases hg : getO l k with
  | none => exact Nat.zero_le _
  | some v => exact (valued_size (o.form _ ((getO_iff o k v).1 hg)).2).1

set_option maxHeartbeats 1000000 in
set_option maxRecDepth 100000 in
theorem count1_c (s : ByteArray) (gd gs gr : Nat) (ves ver : Value) (o1 : okE ves) (o2 : okE ver) (hs : Hp) (hL : s.size ≤ 140737488355328) (h : atoB s = true) : AC P 43 [.d (.str s)] (gH gd gs gr ves ver hs) (fun r h => r = .tup [.d (.int .i64 (atoN s)), .d (.bool (cntB s))] ∧ h = gH gd gs gr ves ver hs) := by
  refine AC.of 28 Tryz.func43 rfl rfl rfl ?_
  refine W.reg ?_
  refine XOps.s rfl rfl rfl (Q.assign_d rfl) ?_
  refine XOps.s rfl rfl rfl (Q.assign_d rfl) ?_
  refine XOps.nil ?_
  refine W.reg ?_
  refine XOps.s rfl rfl rfl (Q.move_d rfl) ?_
  refine XOps.s rfl rfl rfl (Q.call rfl Tryz.func60 go60 rfl (atoi_ok (f := 60) rfl s hL h _)) ?_
  refine XOps.s rfl rfl rfl (Q.move_tup rfl) ?_
  refine XOps.s rfl rfl rfl (Q.extract rfl rfl) ?_
  refine XOps.s rfl rfl rfl (Q.extract rfl rfl) ?_
  refine XOps.s rfl rfl rfl (Q.assign_d rfl) ?_
  refine XOps.s rfl rfl rfl (Q.assign_d rfl) ?_
  refine XOps.nil ?_
  refine W.reg ?_
  refine XOps.s rfl rfl rfl (Q.move_d rfl) ?_
  refine XOps.s rfl rfl rfl (Q.move_d rfl) ?_
  refine XOps.s rfl rfl rfl (Q.eql_nil1 (by kernel_rfl) rfl) ?_
  refine XOps.s rfl rfl rfl (Q.move_d rfl) ?_
  refine XOps.gs rfl rfl rfl rfl rfl rfl rfl (fun hg => Q.move_d rfl) ?_
  refine XOps.gs rfl rfl rfl rfl rfl rfl rfl (fun hg => Quiet.open 15 hg rfl (Q.call rfl Tryz.func24 go24 rfl (itoas_c (atoN s) gd _ (atoN_bd s).1 (atoN_bd s).2))) ?_
  refine XOps.gs rfl rfl rfl rfl rfl rfl rfl (fun hg => Q.move_d rfl) ?_
  refine XOps.gs rfl rfl rfl rfl rfl rfl rfl (fun hg => Quiet.open 16 hg rfl (Quiet.open 17 hg rfl (Q.eql_str rfl rfl))) ?_
  refine XOps.s rfl rfl rfl (Q.pick_and rfl rfl rfl (fun h => by first | (rw [h]; rfl) | (rw [hg, h]; rfl) | (simp [h, hg]; done))) ?_
  refine XOps.s rfl rfl rfl (Q.move_d rfl) ?_
  refine XOps.gs rfl rfl rfl rfl rfl rfl rfl (fun hg => Q.move_d rfl) ?_
  refine XOps.gs rfl rfl rfl rfl rfl rfl rfl (fun hg => Quiet.open 21 hg rfl (Q.geq rfl rfl)) ?_
  refine XOps.s rfl rfl rfl (Q.pick_and rfl rfl rfl (fun h => by first | (rw [h]; rfl) | (rw [hg, h]; rfl) | (simp [h, hg]; done))) ?_
  refine XOps.s rfl rfl rfl (Q.move_d rfl) ?_
  refine XOps.gs rfl rfl rfl rfl rfl rfl rfl (fun hg => Q.move_d rfl) ?_
  refine XOps.gs rfl rfl rfl rfl rfl rfl rfl (fun hg => Quiet.open 25 hg rfl (Q.leq rfl rfl)) ?_
  refine XOps.s rfl rfl rfl (Q.pick_and rfl rfl rfl (fun h => by first | (rw [h]; rfl) | (rw [hg, h]; rfl) | (simp [h, hg]; done))) ?_
  refine XOps.s rfl rfl rfl (Q.assign_d rfl) ?_
  refine XOps.s rfl rfl rfl (Q.assign_d rfl) ?_
  refine XOps.nil ?_
  refine W.ret ?_
  refine ⟨_, gH gd gs gr ves ver hs, rfl, HLe.refl _, ?_, rfl⟩
  unfold cntB; rw [h]; rfl

set_option maxHeartbeats 1000000 in
set_option maxRecDepth 100000 in
theorem count0_c (s : ByteArray) (gd gs gr : Nat) (ves ver : Value) (o1 : okE ves) (o2 : okE ver) (hs : Hp) (hL : s.size ≤ 140737488355328) (h : atoB s = false) : AC P 43 [.d (.str s)] (gH gd gs gr ves ver hs) (fun r h => r = .tup [.d (.int .i64 (atoN s)), .d (.bool (cntB s))] ∧ h = gH gd gs gr ves ver hs) := by
  refine AC.of 28 Tryz.func43 rfl rfl rfl ?_
  refine W.reg ?_
  refine XOps.s rfl rfl rfl (Q.assign_d rfl) ?_
  refine XOps.s rfl rfl rfl (Q.assign_d rfl) ?_
  refine XOps.nil ?_
  refine W.reg ?_
  refine XOps.s rfl rfl rfl (Q.move_d rfl) ?_
  refine XOps.s rfl rfl rfl (Q.call rfl Tryz.func60 go60 rfl (atoi_no (f := 60) (gS := 4) (gR := 5) rfl rfl rfl s hL h 1 2 gs gr rfl rfl o1 o2)) ?_
  refine XOps.s rfl rfl rfl (Q.move_tup rfl) ?_
  refine XOps.s rfl rfl rfl (Q.extract rfl rfl) ?_
  refine XOps.s rfl rfl rfl (Q.extract rfl rfl) ?_
  refine XOps.s rfl rfl rfl (Q.assign_d rfl) ?_
  refine XOps.s rfl rfl rfl (Q.assign rfl) ?_
  refine XOps.nil ?_
  refine W.reg ?_
  refine XOps.s rfl rfl rfl (Q.move_d rfl) ?_
  refine XOps.s rfl rfl rfl (Q.move rfl) ?_
  refine XOps.s rfl rfl rfl (Q.eql_nil0 (by kernel_rfl) rfl) ?_
  refine XOps.s rfl rfl rfl (Q.move_d rfl) ?_
  refine XOps.gs rfl rfl rfl rfl rfl rfl rfl (fun hg => Q.move_d rfl) ?_
  refine XOps.gs rfl rfl rfl rfl rfl rfl rfl (fun hg => Quiet.open 15 hg rfl (Q.call rfl Tryz.func24 go24 rfl (itoas_c (atoN s) gd _ (atoN_bd s).1 (atoN_bd s).2))) ?_
  refine XOps.gs rfl rfl rfl rfl rfl rfl rfl (fun hg => Q.move_d rfl) ?_
  refine XOps.gs rfl rfl rfl rfl rfl rfl rfl (fun hg => Quiet.open 16 hg rfl (Quiet.open 17 hg rfl (Q.eql_str rfl rfl))) ?_
  refine XOps.s rfl rfl rfl (Q.pick_and rfl rfl rfl (fun h => by first | (rw [h]; rfl) | (rw [hg, h]; rfl) | (simp [h, hg]; done))) ?_
  refine XOps.s rfl rfl rfl (Q.move_d rfl) ?_
  refine XOps.gs rfl rfl rfl rfl rfl rfl rfl (fun hg => Q.move_d rfl) ?_
  refine XOps.gs rfl rfl rfl rfl rfl rfl rfl (fun hg => Quiet.open 21 hg rfl (Q.geq rfl rfl)) ?_
  refine XOps.s rfl rfl rfl (Q.pick_and rfl rfl rfl (fun h => by first | (rw [h]; rfl) | (rw [hg, h]; rfl) | (simp [h, hg]; done))) ?_
  refine XOps.s rfl rfl rfl (Q.move_d rfl) ?_
  refine XOps.gs rfl rfl rfl rfl rfl rfl rfl (fun hg => Q.move_d rfl) ?_
  refine XOps.gs rfl rfl rfl rfl rfl rfl rfl (fun hg => Quiet.open 25 hg rfl (Q.leq rfl rfl)) ?_
  refine XOps.s rfl rfl rfl (Q.pick_and rfl rfl rfl (fun h => by first | (rw [h]; rfl) | (rw [hg, h]; rfl) | (simp [h, hg]; done))) ?_
  refine XOps.s rfl rfl rfl (Q.assign_d rfl) ?_
  refine XOps.s rfl rfl rfl (Q.assign_d rfl) ?_
  refine XOps.nil ?_
  refine W.ret ?_
  refine ⟨_, gH gd gs gr ves ver hs, rfl, HLe.refl _, ?_, rfl⟩
  unfold cntB; rw [h]; rfl

theorem count_c (s : ByteArray) (gd gs gr : Nat) (ves ver : Value) (o1 : okE ves) (o2 : okE ver) (hs : Hp) (hL : s.size ≤ 140737488355328) : AC P 43 [.d (.str s)] (gH gd gs gr ves ver hs) (fun r h => r = .tup [.d (.int .i64 (atoN s)), .d (.bool (cntB s))] ∧ h = gH gd gs gr ves ver hs) := by
  cases h : atoB s with
  | true => exact count1_c s gd gs gr ves ver o1 o2 hs hL h
  | false => exact count0_c s gd gs gr ves ver o1 o2 hs hL h
theorem grow_bad {l : List SR} {k d : ByteArray} (h : growE l k d ≠ 0) : growL l k d = [] := if_pos h

set_option maxHeartbeats 4000000 in
set_option maxRecDepth 100000 in
theorem grow_c (l : List SR) (k d : ByteArray) (gd gs gr : Nat) (ves ver : Value) (o1 : okE ves) (o2 : okE ver) (hs : Hp) (hL : l.length ≤ 4398046511104) (hz : szR l) (hk : k.size ≤ 140737488355000) (hd : d.size ≤ 140737488355000) : AC P 31 [.d (.sl 2 (l.map SR.enc)), .d (.str k), .d (.str d)] (gH gd gs gr ves ver hs) (fun r h => r = .tup [.d (.sl 2 ((growL l k d).map SR.enc)), .d (.int .i64 (growE l k d))] ∧ h = gH gd gs gr ves ver hs) := by
  refine AC.of 57 Tryz.func31 rfl rfl rfl ?_
  refine W.reg ?_
  refine XOps.s rfl rfl rfl (Q.assign_nilsl rfl) ?_
  refine XOps.s rfl rfl rfl (Q.assign_d rfl) ?_
  refine XOps.nil ?_
  refine W.reg ?_
  refine XOps.s rfl rfl rfl (Q.move_d rfl) ?_
  refine XOps.s rfl rfl rfl (Q.call rfl Tryz.func43 go43 rfl (count_c d gd gs gr ves ver o1 o2 hs (by omega))) ?_
  refine XOps.s rfl rfl rfl (Q.move_tup rfl) ?_
  refine XOps.s rfl rfl rfl (Q.extract rfl rfl) ?_
  refine XOps.s rfl rfl rfl (Q.extract rfl rfl) ?_
  refine XOps.s rfl rfl rfl (Q.assign_d rfl) ?_
  refine XOps.s rfl rfl rfl (Q.assign_d rfl) ?_
  refine XOps.nil ?_
  refine W.seq ?_
  refine W.reg ?_
  refine XOps.s rfl rfl rfl (Q.move_d rfl) ?_
  refine XOps.s rfl rfl rfl (Q.not rfl) ?_
  refine XOps.nil ?_
  refine W.cond rfl (fun hc19 => ?_) (fun hc19 => ?_)
  · try simp only [Bool.or_eq_true, Bool.or_eq_false_iff, Bool.and_eq_true, Bool.and_eq_false_iff, decide_eq_true_eq, decide_eq_false_iff_not, Bool.not_eq_true', Bool.not_eq_false', Int.not_lt, Int.not_le, List.length_map] at hc19
    have h19 : cntB d = false := by simpa using hc19
    have hE : growE l k d = 5 := by unfold growE; rw [if_pos h19]
    have hV := grow_bad (l := l) (k := k) (d := d) (by rw [hE]; omega)
    rw [hE, hV]
    refine W.reg ?_
    refine XOps.s rfl rfl rfl (Q.assign_nilsl rfl) ?_
    refine XOps.s rfl rfl rfl (Q.assign_d rfl) ?_
    refine XOps.nil ?_
    refine W.nild 6 2 rfl ?_
    refine W.ret ?_
    exact ⟨_, gH gd gs gr ves ver hs, rfl, HLe.refl _, rfl, rfl⟩
  · try simp only [Bool.or_eq_true, Bool.or_eq_false_iff, Bool.and_eq_true, Bool.and_eq_false_iff, decide_eq_true_eq, decide_eq_false_iff_not, Bool.not_eq_true', Bool.not_eq_false', Int.not_lt, Int.not_le, List.length_map] at hc19
    have h19 : cntB d = true := by simpa using hc19
    obtain ⟨d1, d2, d3⟩ := cnt_bd h19
    refine W.skip ?_
    refine W.reg ?_
    refine XOps.s rfl rfl rfl (Q.move_d rfl) ?_
    refine XOps.s rfl rfl rfl (Q.move_d rfl) ?_
    refine XOps.s rfl rfl rfl (Q.call rfl Tryz.func44 go44 rfl (get_c l k _ (by omega) hz)) ?_
    refine XOps.s rfl rfl rfl (Q.move_tup rfl) ?_
    refine XOps.s rfl rfl rfl (Q.extract rfl rfl) ?_
    refine XOps.s rfl rfl rfl (Q.extract rfl rfl) ?_
    refine XOps.s rfl rfl rfl (Q.assign_d rfl) ?_
    refine XOps.s rfl rfl rfl (Q.assign_d rfl) ?_
    refine XOps.nil ?_
    refine W.seq ?_
    refine W.reg ?_
    refine XOps.s rfl rfl rfl (Q.move_d rfl) ?_
    refine XOps.s rfl rfl rfl (Q.neq rfl rfl) ?_
    refine XOps.nil ?_
    refine W.cond rfl (fun hc27 => ?_) (fun hc27 => ?_)
    · try simp only [Bool.or_eq_true, Bool.or_eq_false_iff, Bool.and_eq_true, Bool.and_eq_false_iff, decide_eq_true_eq, decide_eq_false_iff_not, Bool.not_eq_true', Bool.not_eq_false', Int.not_lt, Int.not_le, List.length_map] at hc27
      have h27 : getE l k ≠ 0 := by first | exact hc27 | (simpa using hc27)
      have hE : growE l k d = getE l k := by unfold growE; rw [if_neg (by simp [h19]), if_pos h27]
      have hV := grow_bad (l := l) (k := k) (d := d) (by rw [hE]; exact h27)
      rw [hE, hV]
      refine W.reg ?_
      refine XOps.s rfl rfl rfl (Q.move_d rfl) ?_
      refine XOps.s rfl rfl rfl (Q.assign_nilsl rfl) ?_
      refine XOps.s rfl rfl rfl (Q.assign_d rfl) ?_
      refine XOps.nil ?_
      refine W.nild 6 2 rfl ?_
      refine W.ret ?_
      exact ⟨_, gH gd gs gr ves ver hs, rfl, HLe.refl _, rfl, rfl⟩
    · try simp only [Bool.or_eq_true, Bool.or_eq_false_iff, Bool.and_eq_true, Bool.and_eq_false_iff, decide_eq_true_eq, decide_eq_false_iff_not, Bool.not_eq_true', Bool.not_eq_false', Int.not_lt, Int.not_le, List.length_map] at hc27
      have h27 : getE l k = 0 := by first | exact hc27 | (simpa using hc27)
      have hgs := getV_size h27
      refine W.skip ?_
      refine W.reg ?_
      refine XOps.s rfl rfl rfl (Q.move_d rfl) ?_
      refine XOps.s rfl rfl rfl (Q.call rfl Tryz.func43 go43 rfl (count_c (getV l k) gd gs gr ves ver o1 o2 hs (by omega))) ?_
      refine XOps.s rfl rfl rfl (Q.move_tup rfl) ?_
      refine XOps.s rfl rfl rfl (Q.extract rfl rfl) ?_
      refine XOps.s rfl rfl rfl (Q.extract rfl rfl) ?_
      refine XOps.s rfl rfl rfl (Q.assign_d rfl) ?_
      refine XOps.s rfl rfl rfl (Q.assign_d rfl) ?_
      refine XOps.nil ?_
      refine W.seq ?_
      refine W.block ?_
      refine W.reg ?_
      refine XOps.s rfl rfl rfl (Q.move_d rfl) ?_
      refine XOps.s rfl rfl rfl (Q.not rfl) ?_
      refine XOps.s rfl rfl rfl (Q.assign_d rfl) ?_
      refine XOps.nil ?_
      refine W.cond rfl (fun hc34 => ?_) (fun hc34 => ?_)
      · try simp only [Bool.or_eq_true, Bool.or_eq_false_iff, Bool.and_eq_true, Bool.and_eq_false_iff, decide_eq_true_eq, decide_eq_false_iff_not, Bool.not_eq_true', Bool.not_eq_false', Int.not_lt, Int.not_le, List.length_map] at hc34
        have h34 : cntB (getV l k) = false := by simpa using hc34
        have hE : growE l k d = 11 := by unfold growE; rw [if_neg (by simp [h19]), if_neg (by omega), if_pos h34]
        have hV := grow_bad (l := l) (k := k) (d := d) (by rw [hE]; omega)
        rw [hE, hV]
        refine W.reg ?_
        refine XOps.s rfl rfl rfl (Q.assign_nilsl rfl) ?_
        refine XOps.s rfl rfl rfl (Q.assign_d rfl) ?_
        refine XOps.nil ?_
        refine W.nild 6 2 rfl ?_
        refine W.ret ?_
        exact ⟨_, gH gd gs gr ves ver hs, rfl, HLe.refl _, rfl, rfl⟩
      · try simp only [Bool.or_eq_true, Bool.or_eq_false_iff, Bool.and_eq_true, Bool.and_eq_false_iff, decide_eq_true_eq, decide_eq_false_iff_not, Bool.not_eq_true', Bool.not_eq_false', Int.not_lt, Int.not_le, List.length_map] at hc34
        have h34 : cntB (getV l k) = true := by simpa using hc34
        obtain ⟨v1, v2, v3⟩ := cnt_bd h34
        refine W.reg ?_
        refine XOps.s rfl rfl rfl (Q.move_d rfl) ?_
        refine XOps.s rfl rfl rfl (Q.move_d rfl) ?_
        refine XOps.s rfl rfl rfl (Q.add rfl rfl (wi64 (by first | omega | (dsimp only; omega) | (simp only [List.length_map]; omega)) (by first | omega | (dsimp only; omega) | (simp only [List.length_map]; omega)))) ?_
        refine XOps.s rfl rfl rfl (Q.lss rfl rfl) ?_
        refine XOps.s rfl rfl rfl (Q.move_d rfl) ?_
        refine XOps.gs rfl rfl rfl rfl rfl rfl rfl (fun hg => Q.move_d rfl) ?_
        refine XOps.gs rfl rfl rfl rfl rfl rfl rfl (fun hg => Q.move_d rfl) ?_
        refine XOps.gs rfl rfl rfl rfl rfl rfl rfl (fun hg => Quiet.open 43 hg rfl (Quiet.open 44 hg rfl (Q.add rfl rfl (wi64 (by first | omega | (dsimp only; omega) | (simp only [List.length_map]; omega)) (by first | omega | (dsimp only; omega) | (simp only [List.length_map]; omega)))))) ?_
        refine XOps.gs rfl rfl rfl rfl rfl rfl rfl (fun hg => Quiet.open 45 hg rfl (Q.gtr rfl rfl)) ?_
        refine XOps.s rfl rfl rfl (Q.pick_or rfl rfl rfl (fun h => by first | (rw [h]; rfl) | (rw [hg, h]; rfl) | (simp [h, hg]; done))) ?_
        refine XOps.s rfl rfl rfl (Q.assign_d rfl) ?_
        refine XOps.nil ?_
        refine W.cond rfl (fun hc37 => ?_) (fun hc37 => ?_)
        · try simp only [Bool.or_eq_true, Bool.or_eq_false_iff, Bool.and_eq_true, Bool.and_eq_false_iff, decide_eq_true_eq, decide_eq_false_iff_not, Bool.not_eq_true', Bool.not_eq_false', Int.not_lt, Int.not_le, List.length_map] at hc37
          have hE : growE l k d = 4 := by unfold growE sumN; rw [if_neg (by simp [h19]), if_neg (by omega), if_neg (by simp [h34]), if_pos (by omega)]
          have hV := grow_bad (l := l) (k := k) (d := d) (by rw [hE]; omega)
          rw [hE, hV]
          refine W.reg ?_
          refine XOps.s rfl rfl rfl (Q.assign_nilsl rfl) ?_
          refine XOps.s rfl rfl rfl (Q.assign_d rfl) ?_
          refine XOps.nil ?_
          refine W.nild 6 2 rfl ?_
          refine W.ret ?_
          exact ⟨_, gH gd gs gr ves ver hs, rfl, HLe.refl _, rfl, rfl⟩
        · try simp only [Bool.or_eq_true, Bool.or_eq_false_iff, Bool.and_eq_true, Bool.and_eq_false_iff, decide_eq_true_eq, decide_eq_false_iff_not, Bool.not_eq_true', Bool.not_eq_false', Int.not_lt, Int.not_le, List.length_map] at hc37
          have hiz := itoa_size (n := atoN (getV l k) + atoN d) (by omega) (by omega)
          have hE : growE l k d = setE l k (bs (Lib.itoa (atoN (getV l k) + atoN d))) := by unfold growE sumN; rw [if_neg (by simp [h19]), if_neg (by omega), if_neg (by simp [h34]), if_neg (by omega)]
          have hV : growL l k d = setL l k (bs (Lib.itoa (atoN (getV l k) + atoN d))) := by
            unfold growL
            by_cases h0 : growE l k d = 0
            · rw [if_neg (by omega)]; rfl
            · rw [if_pos h0]; exact (if_pos (by rw [← hE]; exact h0)).symm
          rw [hE, hV]
          refine W.skip ?_
          refine W.reg ?_
          refine XOps.s rfl rfl rfl (Q.move_d rfl) ?_
          refine XOps.s rfl rfl rfl (Q.move_d rfl) ?_
          refine XOps.s rfl rfl rfl (Q.move_d rfl) ?_
          refine XOps.s rfl rfl rfl (Q.move_d rfl) ?_
          refine XOps.s rfl rfl rfl (Q.add rfl rfl (wi64 (by first | omega | (dsimp only; omega) | (simp only [List.length_map]; omega)) (by first | omega | (dsimp only; omega) | (simp only [List.length_map]; omega)))) ?_
          refine XOps.s rfl rfl rfl (Q.call rfl Tryz.func24 go24 rfl (itoas_c (atoN (getV l k) + atoN d) gd _ (by omega) (by omega))) ?_
          refine XOps.s rfl rfl rfl (Q.call rfl Tryz.func29 go29 rfl (set_c l k (bs (Lib.itoa (atoN (getV l k) + atoN d))) _ hL hz hk (by omega))) ?_
          refine XOps.s rfl rfl rfl (Q.extract rfl rfl) ?_
          refine XOps.s rfl rfl rfl (Q.extract rfl rfl) ?_
          refine XOps.s rfl rfl rfl (Q.assign_d rfl) ?_
          refine XOps.s rfl rfl rfl (Q.assign_d rfl) ?_
          refine XOps.nil ?_
          refine W.ret ?_
          exact ⟨_, gH gd gs gr ves ver hs, rfl, HLe.refl _, rfl, rfl⟩

theorem copy_c (l : List SR) (hs : Hp) (hL : l.length ≤ 4398046511104) (hz : szR l) : AC P 22 [.d (.sl 2 (l.map SR.enc)), .nilsl] hs (fun r h => r = .tup [.d (.sl 2 ((appL l []).map SR.enc)), .d (.int .i64 (appE l []))] ∧ h = hs) :=
  AC.args (apply_c l [] hs hL hz (by decide) (fun x h => by cases h)) (.same (.nilsl 5 .nil))
theorem step_bad {l : List SR} {x : EN} (h : stepE l x ≠ 0) : stepL l x = [] := if_pos h
theorem set_bad {l : List SR} {c v : ByteArray} (h : setE l c v ≠ 0) : setL l c v = [] := if_pos h
theorem cut_bad {l : List SR} {c : ByteArray} (h : cutE l c ≠ 0) : cutLs l c = [] := if_pos h

set_option maxHeartbeats 8000000 in
set_option maxRecDepth 100000 in
theorem step_c (l : List SR) (x : EN) (gd gs gr : Nat) (ves ver : Value) (o1 : okE ves) (o2 : okE ver) (hs : Hp) (hL : l.length ≤ 4398046511104) (hz : szR l) (h1 : x.kind.size ≤ 140737488355000) (h2 : x.text.size ≤ 140737488355000) : AC P 18 [.d (.sl 2 (l.map SR.enc)), .d (.agg x.enc)] (gH gd gs gr ves ver hs) (fun r h => r = .tup [.d (.sl 2 ((stepL l x).map SR.enc)), .d (.int .i64 (stepE l x))] ∧ h = gH gd gs gr ves ver hs) := by
  have z1 := cutL_sz 32 x.text
  have z2 := cutR_sz 32 x.text
  refine AC.of 85 Tryz.func18 rfl rfl rfl ?_
  refine W.reg ?_
  refine XOps.loud rfl (L.boxn rfl rfl) ?_
  rintro _ _ ⟨b3, rfl, rfl⟩
  refine XOps.s rfl rfl rfl (Q.assign_nilsl rfl) ?_
  refine XOps.s rfl rfl rfl (Q.assign_d rfl) ?_
  refine XOps.nil ?_
  refine W.seq ?_
  refine W.reg ?_
  refine XOps.s rfl rfl rfl (Q.move_d rfl) ?_
  refine XOps.s rfl rfl rfl (Q.call rfl Tryz.func21 go21 rfl (check_c l _ (by omega) hz)) ?_
  refine XOps.s rfl rfl rfl (Q.assign_d rfl) ?_
  refine XOps.nil ?_
  refine W.reg ?_
  refine XOps.s rfl rfl rfl (Q.move_d rfl) ?_
  refine XOps.s rfl rfl rfl (Q.neq rfl rfl) ?_
  refine XOps.nil ?_
  refine W.cond rfl (fun hc14 => ?_) (fun hc14 => ?_)
  · try simp only [Bool.or_eq_true, Bool.or_eq_false_iff, Bool.and_eq_true, Bool.and_eq_false_iff, decide_eq_true_eq, decide_eq_false_iff_not, Bool.not_eq_true', Bool.not_eq_false', Int.not_lt, Int.not_le, List.length_map] at hc14
    have h14 : checkL l ≠ 0 := by first | exact hc14 | (simpa using hc14)
    have hE : stepE l x = checkL l := if_pos h14
    have hV := step_bad (l := l) (x := x) (by rw [hE]; exact h14)
    rw [hE, hV]
    refine W.reg ?_
    refine XOps.s rfl rfl rfl (Q.move_d rfl) ?_
    refine XOps.s rfl rfl rfl (Q.assign_nilsl rfl) ?_
    refine XOps.s rfl rfl rfl (Q.assign_d rfl) ?_
    refine XOps.nil ?_
    refine W.nild 4 2 rfl ?_
    refine W.ret ?_
    exact ⟨_, gH gd gs gr ves ver hs, rfl, HLe.skip _ (HLe.refl _), rfl, rfl⟩
  · try simp only [Bool.or_eq_true, Bool.or_eq_false_iff, Bool.and_eq_true, Bool.and_eq_false_iff, decide_eq_true_eq, decide_eq_false_iff_not, Bool.not_eq_true', Bool.not_eq_false', Int.not_lt, Int.not_le, List.length_map] at hc14
    have h14 : checkL l = 0 := by first | exact hc14 | (simpa using hc14)
    refine W.skip ?_
    refine W.seq ?_
    refine W.reg ?_
    refine XOps.s rfl rfl rfl (Q.ld_ptrn (k := 0) ag38 rfl rfl rfl) ?_
    refine XOps.s rfl rfl rfl (Q.call rfl Tryz.func23 go23 rfl (chk_c x _ (by omega) (by omega))) ?_
    refine XOps.s rfl rfl rfl (Q.assign_d rfl) ?_
    refine XOps.nil ?_
    refine W.reg ?_
    refine XOps.s rfl rfl rfl (Q.move_d rfl) ?_
    refine XOps.s rfl rfl rfl (Q.neq rfl rfl) ?_
    refine XOps.nil ?_
    refine W.cond rfl (fun hc19 => ?_) (fun hc19 => ?_)
    · try simp only [Bool.or_eq_true, Bool.or_eq_false_iff, Bool.and_eq_true, Bool.and_eq_false_iff, decide_eq_true_eq, decide_eq_false_iff_not, Bool.not_eq_true', Bool.not_eq_false', Int.not_lt, Int.not_le, List.length_map] at hc19
      have h19 : checkN x ≠ 0 := by first | exact hc19 | (simpa using hc19)
      have hE : stepE l x = checkN x := by unfold stepE; rw [if_neg (by omega), if_pos h19]
      have hV := step_bad (l := l) (x := x) (by rw [hE]; exact h19)
      rw [hE, hV]
      refine W.reg ?_
      refine XOps.s rfl rfl rfl (Q.move_d rfl) ?_
      refine XOps.s rfl rfl rfl (Q.assign_nilsl rfl) ?_
      refine XOps.s rfl rfl rfl (Q.assign_d rfl) ?_
      refine XOps.nil ?_
      refine W.nild 4 2 rfl ?_
      refine W.ret ?_
      exact ⟨_, gH gd gs gr ves ver hs, rfl, HLe.skip _ (HLe.refl _), rfl, rfl⟩
    · try simp only [Bool.or_eq_true, Bool.or_eq_false_iff, Bool.and_eq_true, Bool.and_eq_false_iff, decide_eq_true_eq, decide_eq_false_iff_not, Bool.not_eq_true', Bool.not_eq_false', Int.not_lt, Int.not_le, List.length_map] at hc19
      have h19 : checkN x = 0 := by first | exact hc19 | (simpa using hc19)
      refine W.skip ?_
      refine W.reg ?_
      refine XOps.s rfl rfl rfl (Q.fld_ptr fl38_3 rfl) ?_
      refine XOps.s rfl rfl rfl (Q.ld_ptr (k := 0) ag9 rfl rfl rfl) ?_
      refine XOps.s rfl rfl rfl (Q.call rfl Tryz.func28 go28 rfl (cut_c1 x.text 32 _ (by omega))) ?_
      refine XOps.s rfl rfl rfl (Q.move_tup rfl) ?_
      refine XOps.s rfl rfl rfl (Q.extract rfl rfl) ?_
      refine XOps.s rfl rfl rfl (Q.extract rfl rfl) ?_
      refine XOps.s rfl rfl rfl (Q.extract rfl rfl) ?_
      refine XOps.s rfl rfl rfl (Q.assign_d rfl) ?_
      refine XOps.s rfl rfl rfl (Q.assign_d rfl) ?_
      refine XOps.s rfl rfl rfl (Q.assign_d rfl) ?_
      refine XOps.nil ?_
      refine W.seq ?_
      refine W.block ?_
      refine W.reg ?_
      refine XOps.s rfl rfl rfl (Q.fld_ptr fl38_2 rfl) ?_
      refine XOps.s rfl rfl rfl (Q.ld_ptr (k := 0) ag9 rfl rfl rfl) ?_
      refine XOps.s rfl rfl rfl (Q.eql_str rfl rfl) ?_
      refine XOps.s rfl rfl rfl (Q.move_d rfl) ?_
      refine XOps.gs rfl rfl rfl rfl rfl rfl rfl (fun hg => Q.move_d rfl) ?_
      refine XOps.s rfl rfl rfl (Q.pick_and rfl rfl rfl (fun h => by first | (rw [h]; rfl) | (rw [hg, h]; rfl) | (simp [h, hg]; done))) ?_
      refine XOps.s rfl rfl rfl (Q.assign_d rfl) ?_
      refine XOps.nil ?_
      refine W.cond rfl (fun hc28 => ?_) (fun hc28 => ?_)
      · try simp only [Bool.or_eq_true, Bool.or_eq_false_iff, Bool.and_eq_true, Bool.and_eq_false_iff, decide_eq_true_eq, decide_eq_false_iff_not, Bool.not_eq_true', Bool.not_eq_false', Int.not_lt, Int.not_le, List.length_map] at hc28
        have c1 : seq x.kind setK = true ∧ cutB 32 x.text = true := ⟨hc28.1, hc28.2⟩
        have hE : stepE l x = setE l (cutL 32 x.text) (cutR 32 x.text) := by unfold stepE; rw [if_neg (by omega), if_neg (by omega), if_pos c1]
        have hV : stepL l x = setL l (cutL 32 x.text) (cutR 32 x.text) := by
          unfold stepL
          by_cases h0 : stepE l x = 0
          · rw [if_neg (by omega), if_pos c1]
          · rw [if_pos h0]; exact (set_bad (by rw [← hE]; exact h0)).symm
        rw [hE, hV]
        refine W.reg ?_
        refine XOps.s rfl rfl rfl (Q.move_d rfl) ?_
        refine XOps.s rfl rfl rfl (Q.move_d rfl) ?_
        refine XOps.s rfl rfl rfl (Q.move_d rfl) ?_
        refine XOps.s rfl rfl rfl (Q.call rfl Tryz.func29 go29 rfl (set_c l (cutL 32 x.text) (cutR 32 x.text) _ hL hz (by omega) (by omega))) ?_
        refine XOps.s rfl rfl rfl (Q.extract rfl rfl) ?_
        refine XOps.s rfl rfl rfl (Q.extract rfl rfl) ?_
        refine XOps.s rfl rfl rfl (Q.assign_d rfl) ?_
        refine XOps.s rfl rfl rfl (Q.assign_d rfl) ?_
        refine XOps.nil ?_
        refine W.ret ?_
        exact ⟨_, gH gd gs gr ves ver hs, rfl, HLe.skip _ (HLe.refl _), rfl, rfl⟩
      · try simp only [Bool.or_eq_true, Bool.or_eq_false_iff, Bool.and_eq_true, Bool.and_eq_false_iff, decide_eq_true_eq, decide_eq_false_iff_not, Bool.not_eq_true', Bool.not_eq_false', Int.not_lt, Int.not_le, List.length_map] at hc28
        have n1 : ¬ (seq x.kind setK = true ∧ cutB 32 x.text = true) := by
          rintro ⟨a, b⟩
          rcases hc28 with h | h
          · rw [show (x.kind.toList == (⟨#[115, 101, 116]⟩ : ByteArray).toList) = true from a] at h; cases h
          · rw [b] at h; cases h
        refine W.reg ?_
        refine XOps.s rfl rfl rfl (Q.fld_ptr fl38_2 rfl) ?_
        refine XOps.s rfl rfl rfl (Q.ld_ptr (k := 0) ag9 rfl rfl rfl) ?_
        refine XOps.s rfl rfl rfl (Q.eql_str rfl rfl) ?_
        refine XOps.s rfl rfl rfl (Q.move_d rfl) ?_
        refine XOps.gs rfl rfl rfl rfl rfl rfl rfl (fun hg => Q.move_d rfl) ?_
        refine XOps.gs rfl rfl rfl rfl rfl rfl rfl (fun hg => Quiet.open 46 hg rfl (Q.not rfl)) ?_
        refine XOps.s rfl rfl rfl (Q.pick_and rfl rfl rfl (fun h => by first | (rw [h]; rfl) | (rw [hg, h]; rfl) | (simp [h, hg]; done))) ?_
        refine XOps.s rfl rfl rfl (Q.assign_d rfl) ?_
        refine XOps.nil ?_
        refine W.cond rfl (fun hc41 => ?_) (fun hc41 => ?_)
        · try simp only [Bool.or_eq_true, Bool.or_eq_false_iff, Bool.and_eq_true, Bool.and_eq_false_iff, decide_eq_true_eq, decide_eq_false_iff_not, Bool.not_eq_true', Bool.not_eq_false', Int.not_lt, Int.not_le, List.length_map] at hc41
          have c2 : seq x.kind cutK = true ∧ cutB 32 x.text = false := ⟨hc41.1, by simpa using hc41.2⟩
          have hE : stepE l x = cutE l (cutL 32 x.text) := by unfold stepE; rw [if_neg (by omega), if_neg (by omega), if_neg n1, if_pos c2]
          have hV : stepL l x = cutLs l (cutL 32 x.text) := by
            unfold stepL
            by_cases h0 : stepE l x = 0
            · rw [if_neg (by omega), if_neg n1, if_pos c2]
            · rw [if_pos h0]; exact (cut_bad (by rw [← hE]; exact h0)).symm
          rw [hE, hV]
          refine W.reg ?_
          refine XOps.s rfl rfl rfl (Q.move_d rfl) ?_
          refine XOps.s rfl rfl rfl (Q.move_d rfl) ?_
          refine XOps.s rfl rfl rfl (Q.call rfl Tryz.func30 go30 rfl (cutS_c l (cutL 32 x.text) _ hL hz)) ?_
          refine XOps.s rfl rfl rfl (Q.extract rfl rfl) ?_
          refine XOps.s rfl rfl rfl (Q.extract rfl rfl) ?_
          refine XOps.s rfl rfl rfl (Q.assign_d rfl) ?_
          refine XOps.s rfl rfl rfl (Q.assign_d rfl) ?_
          refine XOps.nil ?_
          refine W.ret ?_
          exact ⟨_, gH gd gs gr ves ver hs, rfl, HLe.skip _ (HLe.refl _), rfl, rfl⟩
        · try simp only [Bool.or_eq_true, Bool.or_eq_false_iff, Bool.and_eq_true, Bool.and_eq_false_iff, decide_eq_true_eq, decide_eq_false_iff_not, Bool.not_eq_true', Bool.not_eq_false', Int.not_lt, Int.not_le, List.length_map] at hc41
          have n2 : ¬ (seq x.kind cutK = true ∧ cutB 32 x.text = false) := by
            rintro ⟨a, b⟩
            rcases hc41 with h | h
            · rw [show (x.kind.toList == (⟨#[99, 117, 116]⟩ : ByteArray).toList) = true from a] at h; cases h
            · rw [b] at h; simp at h
          refine W.reg ?_
          refine XOps.s rfl rfl rfl (Q.fld_ptr fl38_2 rfl) ?_
          refine XOps.s rfl rfl rfl (Q.ld_ptr (k := 0) ag9 rfl rfl rfl) ?_
          refine XOps.s rfl rfl rfl (Q.eql_str rfl rfl) ?_
          refine XOps.s rfl rfl rfl (Q.move_d rfl) ?_
          refine XOps.gs rfl rfl rfl rfl rfl rfl rfl (fun hg => Q.move_d rfl) ?_
          refine XOps.s rfl rfl rfl (Q.pick_and rfl rfl rfl (fun h => by first | (rw [h]; rfl) | (rw [hg, h]; rfl) | (simp [h, hg]; done))) ?_
          refine XOps.s rfl rfl rfl (Q.assign_d rfl) ?_
          refine XOps.nil ?_
          refine W.cond rfl (fun hc54 => ?_) (fun hc54 => ?_)
          · try simp only [Bool.or_eq_true, Bool.or_eq_false_iff, Bool.and_eq_true, Bool.and_eq_false_iff, decide_eq_true_eq, decide_eq_false_iff_not, Bool.not_eq_true', Bool.not_eq_false', Int.not_lt, Int.not_le, List.length_map] at hc54
            have c3 : seq x.kind growK = true ∧ cutB 32 x.text = true := ⟨hc54.1, hc54.2⟩
            have hE : stepE l x = growE l (cutL 32 x.text) (cutR 32 x.text) := by unfold stepE; rw [if_neg (by omega), if_neg (by omega), if_neg n1, if_neg n2, if_pos c3]
            have hV : stepL l x = growL l (cutL 32 x.text) (cutR 32 x.text) := by
              unfold stepL
              by_cases h0 : stepE l x = 0
              · rw [if_neg (by omega), if_neg n1, if_neg n2, if_pos c3]
              · rw [if_pos h0]; exact (grow_bad (by rw [← hE]; exact h0)).symm
            rw [hE, hV]
            refine W.reg ?_
            refine XOps.s rfl rfl rfl (Q.move_d rfl) ?_
            refine XOps.s rfl rfl rfl (Q.move_d rfl) ?_
            refine XOps.s rfl rfl rfl (Q.move_d rfl) ?_
            (refine XOps.loud rfl (L.call rfl Tryz.func31 go31 rfl (AC.le (grow_c l (cutL 32 x.text) (cutR 32 x.text) gd gs gr ves ver o1 o2 hs hL hz (by omega) (by omega)) (HLe.skip _ (HLe.refl _))) rfl) ?_; rintro _ _ ⟨_, rfl, rfl, rfl⟩)
            refine XOps.s rfl rfl rfl (Q.extract rfl rfl) ?_
            refine XOps.s rfl rfl rfl (Q.extract rfl rfl) ?_
            refine XOps.s rfl rfl rfl (Q.assign_d rfl) ?_
            refine XOps.s rfl rfl rfl (Q.assign_d rfl) ?_
            refine XOps.nil ?_
            refine W.ret ?_
            exact ⟨_, gH gd gs gr ves ver hs, rfl, HLe.refl _, rfl, rfl⟩
          · try simp only [Bool.or_eq_true, Bool.or_eq_false_iff, Bool.and_eq_true, Bool.and_eq_false_iff, decide_eq_true_eq, decide_eq_false_iff_not, Bool.not_eq_true', Bool.not_eq_false', Int.not_lt, Int.not_le, List.length_map] at hc54
            have n3 : ¬ (seq x.kind growK = true ∧ cutB 32 x.text = true) := by
              rintro ⟨a, b⟩
              rcases hc54 with h | h
              · rw [show (x.kind.toList == (⟨#[103, 114, 111, 119]⟩ : ByteArray).toList) = true from a] at h; cases h
              · rw [b] at h; cases h
            refine W.reg ?_
            refine XOps.s rfl rfl rfl (Q.fld_ptr fl38_2 rfl) ?_
            refine XOps.s rfl rfl rfl (Q.ld_ptr (k := 0) ag9 rfl rfl rfl) ?_
            refine XOps.s rfl rfl rfl (Q.eql_str rfl rfl) ?_
            refine XOps.s rfl rfl rfl (Q.move_d rfl) ?_
            refine XOps.gs rfl rfl rfl rfl rfl rfl rfl (fun hg => Q.fld_ptr fl38_2 rfl) ?_
            refine XOps.gs rfl rfl rfl rfl rfl rfl rfl (fun hg => Quiet.open 72 hg rfl (Q.ld_ptr (k := 0) ag9 rfl rfl rfl)) ?_
            refine XOps.gs rfl rfl rfl rfl rfl rfl rfl (fun hg => Quiet.open 73 hg rfl (Q.eql_str rfl rfl)) ?_
            refine XOps.s rfl rfl rfl (Q.pick_or rfl rfl rfl (fun h => by first | (rw [h]; rfl) | (rw [hg, h]; rfl) | (simp [h, hg]; done))) ?_
            refine XOps.s rfl rfl rfl (Q.move_d rfl) ?_
            refine XOps.gs rfl rfl rfl rfl rfl rfl rfl (fun hg => Q.fld_ptr fl38_2 rfl) ?_
            refine XOps.gs rfl rfl rfl rfl rfl rfl rfl (fun hg => Quiet.open 77 hg rfl (Q.ld_ptr (k := 0) ag9 rfl rfl rfl)) ?_
            refine XOps.gs rfl rfl rfl rfl rfl rfl rfl (fun hg => Quiet.open 78 hg rfl (Q.eql_str rfl rfl)) ?_
            refine XOps.s rfl rfl rfl (Q.pick_or rfl rfl rfl (fun h => by first | (rw [h]; rfl) | (rw [hg, h]; rfl) | (simp [h, hg]; done))) ?_
            refine XOps.s rfl rfl rfl (Q.assign_d rfl) ?_
            refine XOps.nil ?_
            refine W.cond rfl (fun hc67 => ?_) (fun hc67 => ?_)
            · try simp only [Bool.or_eq_true, Bool.or_eq_false_iff, Bool.and_eq_true, Bool.and_eq_false_iff, decide_eq_true_eq, decide_eq_false_iff_not, Bool.not_eq_true', Bool.not_eq_false', Int.not_lt, Int.not_le, List.length_map] at hc67
              have hm : mineK x.kind = true := by
                unfold mineK setK cutK growK seq
                rcases hc67 with (h | h) | h <;> rw [h] <;> simp
              have hE : stepE l x = 5 := by unfold stepE; rw [if_neg (by omega), if_neg (by omega), if_neg n1, if_neg n2, if_neg n3, if_pos hm]
              have hV := step_bad (l := l) (x := x) (by rw [hE]; omega)
              rw [hE, hV]
              refine W.reg ?_
              refine XOps.s rfl rfl rfl (Q.assign_nilsl rfl) ?_
              refine XOps.s rfl rfl rfl (Q.assign_d rfl) ?_
              refine XOps.nil ?_
              refine W.nild 4 2 rfl ?_
              refine W.ret ?_
              exact ⟨_, gH gd gs gr ves ver hs, rfl, HLe.skip _ (HLe.refl _), rfl, rfl⟩
            · try simp only [Bool.or_eq_true, Bool.or_eq_false_iff, Bool.and_eq_true, Bool.and_eq_false_iff, decide_eq_true_eq, decide_eq_false_iff_not, Bool.not_eq_true', Bool.not_eq_false', Int.not_lt, Int.not_le, List.length_map] at hc67
              have hm : ¬ mineK x.kind = true := by
                unfold mineK setK cutK growK
                obtain ⟨⟨a, b⟩, c⟩ := hc67
                have a2 : seq x.kind ⟨#[115, 101, 116]⟩ = false := a
                have b2 : seq x.kind ⟨#[99, 117, 116]⟩ = false := b
                have c2 : seq x.kind ⟨#[103, 114, 111, 119]⟩ = false := c
                rw [a2, b2, c2]; simp
              have hE : stepE l x = 0 := by unfold stepE; rw [if_neg (by omega), if_neg (by omega), if_neg n1, if_neg n2, if_neg n3, if_neg hm]
              have hV : stepL l x = l := by unfold stepL; rw [if_neg (by omega), if_neg n1, if_neg n2, if_neg n3]
              obtain ⟨ap1, ap2⟩ := app_nil h14
              rw [hE, hV]
              refine W.skip ?_
              refine W.reg ?_
              refine XOps.s rfl rfl rfl (Q.move_d rfl) ?_
              refine XOps.s rfl rfl rfl (Q.call rfl Tryz.func22 go22 rfl (copy_c l _ hL hz)) ?_
              refine XOps.s rfl rfl rfl (Q.extract rfl rfl) ?_
              refine XOps.s rfl rfl rfl (Q.extract rfl rfl) ?_
              refine XOps.s rfl rfl rfl (Q.assign_d rfl) ?_
              refine XOps.s rfl rfl rfl (Q.assign_d rfl) ?_
              refine XOps.nil ?_
              rw [ap1, ap2]
              refine W.ret ?_
              exact ⟨_, gH gd gs gr ves ver hs, rfl, HLe.skip _ (HLe.refl _), rfl, rfl⟩
end Go.Proofs.YtodbcbojkfndiaaGreatDoorA
