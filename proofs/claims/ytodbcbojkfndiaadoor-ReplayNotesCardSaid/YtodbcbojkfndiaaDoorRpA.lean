/- Numbers of counters, and their growing; record.Check. -/
import Derived.Test.YtodbcbojkfndiaaDoorFrB
import Derived.Test.YtodbcbojkfndiaaDoorRep2
import Derived.Test.YtodbcbojkfndiaaDoorSnB
set_option linter.unusedVariables false
set_option linter.unusedSimpArgs false
set_option linter.unnecessarySimpa false
namespace Go.Proofs.YtodbcbojkfndiaaDoorA.FRpA
open Go
theorem ag3 : tAgg P 3 = some ((false, 1)) := by kernel_rfl
theorem ag9 : tAgg P 9 = some ((false, 1)) := by kernel_rfl
theorem fl36_0 : tFld P 36 0 = some (0) := by kernel_rfl
theorem fl36_1 : tFld P 36 1 = some (1) := by kernel_rfl
theorem fl36_2 : tFld P 36 2 = some (2) := by kernel_rfl
theorem fl36_3 : tFld P 36 3 = some (3) := by kernel_rfl
theorem go14 : callGo Go.Proofs.Tryd.f14 = true := by kernel_rfl
theorem go26 : callGo Go.Proofs.Tryd.f26 = true := by kernel_rfl
theorem go34 : callGo Go.Proofs.Tryd.f34 = true := by kernel_rfl
theorem go36 : callGo Go.Proofs.Tryd.f36 = true := by kernel_rfl
theorem go37 : callGo Go.Proofs.Tryd.f37 = true := by kernel_rfl
theorem go49 : callGo Go.Proofs.Tryd.f49 = true := by kernel_rfl
theorem go50 : callGo Go.Proofs.Tryd.f50 = true := by kernel_rfl
theorem go63 : callGo Go.Proofs.Tryd.f63 = true := by kernel_rfl
theorem ist9 : isStr P 9 = true := by kernel_rfl
end Go.Proofs.YtodbcbojkfndiaaDoorA.FRpA
namespace Go.Proofs.YtodbcbojkfndiaaDoorA
open Go FRpA
attribute [local irreducible] XOps Quiet Loud W AC GQ DT
abbrev p10G : HO := .glob 5 p10T
theorem itoa_int (n : Int) (h : 0 ≤ n) : bs (Lib.itoa n) = bs (decL n.toNat) := by
  rw [show n = (n.toNat : Nat) by omega, itoa_nat, Int.toNat_natCast]

set_option maxHeartbeats 1000000 in
set_option maxRecDepth 100000 in
theorem itoai_c (m : Int) (gd : Nat) (hs : Hp) (h0 : -9223372036854775808 ≤ m) (h1 : m ≤ 9223372036854775807) : AC P 50 [.d (.int .i64 m)] ((gd, p10G) :: hs) (fun r h => r = .d (.str (bs (Lib.itoa m))) ∧ h = (gd, p10G) :: hs) := by
  refine AC.of 5 Tryd.func50 rfl rfl rfl ?_
  refine W.reg ?_
  refine XOps.s rfl rfl rfl (Q.assign_d rfl) ?_
  refine XOps.nil ?_
  refine W.reg ?_
  refine XOps.s rfl rfl rfl (Q.move_d rfl) ?_
  refine XOps.s rfl rfl rfl (Q.call rfl Tryd.func63 go63 rfl (fmt_c (f := 63) (g := 5) rfl (by kernel_rfl) m h0 h1 gd hs)) ?_
  refine XOps.s rfl rfl rfl (Q.assign_d rfl) ?_
  refine XOps.nil ?_
  refine W.ret ?_
  exact ⟨_, _, rfl, HLe.refl _, rfl, rfl⟩

set_option maxHeartbeats 1000000 in
set_option maxRecDepth 100000 in
theorem itoas_c (m : Int) (gd : Nat) (hs : Hp) (h0 : -9223372036854775808 ≤ m) (h1 : m ≤ 9223372036854775807) : AC P 37 [.d (.int .i64 m)] ((gd, p10G) :: hs) (fun r h => r = .d (.str (bs (Lib.itoa m))) ∧ h = (gd, p10G) :: hs) := by
  refine AC.of 5 Tryd.func37 rfl rfl rfl ?_
  refine W.reg ?_
  refine XOps.s rfl rfl rfl (Q.assign_d rfl) ?_
  refine XOps.nil ?_
  refine W.reg ?_
  refine XOps.s rfl rfl rfl (Q.move_d rfl) ?_
  refine XOps.s rfl rfl rfl (Q.call rfl Tryd.func50 go50 rfl (itoai_c m gd hs h0 h1)) ?_
  refine XOps.s rfl rfl rfl (Q.assign_d rfl) ?_
  refine XOps.nil ?_
  refine W.ret ?_
  exact ⟨_, _, rfl, HLe.refl _, rfl, rfl⟩

theorem itoa_c (m : Int) (gd : Nat) (hs : Hp) (h0 : 0 ≤ m) (h1 : m ≤ 9223372036854775807) : AC P 37 [.d (.int .i64 m)] ((gd, p10G) :: hs) (fun r h => r = .d (.str (bs (decL m.toNat))) ∧ h = (gd, p10G) :: hs) :=
  (itoas_c m gd hs (by omega) h1).mono fun r h hr => by rw [← itoa_int m h0]; exact hr

set_option maxHeartbeats 1000000 in
set_option maxRecDepth 100000 in
theorem chk_c (e : EN) (hs : Hp) (h1 : e.kind.size ≤ 140737488355000) (h2 : e.text.size ≤ 140737488355000) : AC P 24 [.d (.agg e.enc)] hs (fun r h => r = .d (.int .i64 (checkN e)) ∧ h = hs) := by
  refine AC.of 43 Tryd.func24 rfl rfl rfl ?_
  refine W.reg ?_
  refine XOps.loud rfl (L.boxn rfl rfl) ?_
  rintro _ _ ⟨b1, rfl, rfl⟩
  refine XOps.s rfl rfl rfl (Q.assign_d rfl) ?_
  refine XOps.nil ?_
  refine W.seq ?_
  refine W.block ?_
  refine W.reg ?_
  refine XOps.s rfl rfl rfl (Q.fld_ptr fl36_0 rfl) ?_
  refine XOps.s rfl rfl rfl (Q.ld_ptr (k := 0) ag3 rfl rfl rfl) ?_
  refine XOps.s rfl rfl rfl (Q.lss rfl rfl) ?_
  refine XOps.s rfl rfl rfl (Q.move_d rfl) ?_
  refine XOps.gs rfl rfl rfl rfl rfl rfl rfl (fun hg => Q.fld_ptr fl36_0 rfl) ?_
  refine XOps.gs rfl rfl rfl rfl rfl rfl rfl (fun hg => Quiet.open 8 hg rfl (Q.ld_ptr (k := 0) ag3 rfl rfl rfl)) ?_
  refine XOps.gs rfl rfl rfl rfl rfl rfl rfl (fun hg => Quiet.open 9 hg rfl (Q.gtr rfl rfl)) ?_
  refine XOps.s rfl rfl rfl (Q.pick_or rfl rfl rfl (fun h => by first | (rw [h]; rfl) | (rw [hg, h]; rfl) | (simp [h, hg]; done))) ?_
  refine XOps.s rfl rfl rfl (Q.move_d rfl) ?_
  refine XOps.gs rfl rfl rfl rfl rfl rfl rfl (fun hg => Q.fld_ptr fl36_1 rfl) ?_
  refine XOps.gs rfl rfl rfl rfl rfl rfl rfl (fun hg => Quiet.open 13 hg rfl (Q.ld_ptr (k := 0) ag3 rfl rfl rfl)) ?_
  refine XOps.gs rfl rfl rfl rfl rfl rfl rfl (fun hg => Quiet.open 14 hg rfl (Q.lss rfl rfl)) ?_
  refine XOps.s rfl rfl rfl (Q.pick_or rfl rfl rfl (fun h => by first | (rw [h]; rfl) | (rw [hg, h]; rfl) | (simp [h, hg]; done))) ?_
  refine XOps.s rfl rfl rfl (Q.move_d rfl) ?_
  refine XOps.gs rfl rfl rfl rfl rfl rfl rfl (fun hg => Q.fld_ptr fl36_1 rfl) ?_
  refine XOps.gs rfl rfl rfl rfl rfl rfl rfl (fun hg => Quiet.open 18 hg rfl (Q.ld_ptr (k := 0) ag3 rfl rfl rfl)) ?_
  refine XOps.gs rfl rfl rfl rfl rfl rfl rfl (fun hg => Quiet.open 19 hg rfl (Q.gtr rfl rfl)) ?_
  refine XOps.s rfl rfl rfl (Q.pick_or rfl rfl rfl (fun h => by first | (rw [h]; rfl) | (rw [hg, h]; rfl) | (simp [h, hg]; done))) ?_
  refine XOps.s rfl rfl rfl (Q.assign_d rfl) ?_
  refine XOps.nil ?_
  refine W.cond rfl (fun hc3 => ?_) (fun hc3 => ?_)
  · try simp only [Bool.or_eq_true, Bool.or_eq_false_iff, Bool.and_eq_true, Bool.and_eq_false_iff, decide_eq_true_eq, decide_eq_false_iff_not, Bool.not_eq_true', Bool.not_eq_false', Int.not_lt, Int.not_le, List.length_map] at hc3
    have hE : checkN e = 4 := if_pos (by omega)
    rw [hE]
    refine W.reg ?_
    refine XOps.s rfl rfl rfl (Q.assign_d rfl) ?_
    refine XOps.nil ?_
    refine W.ret ?_
    exact ⟨_, hs, rfl, HLe.skip _ (HLe.refl _), rfl, rfl⟩
  · try simp only [Bool.or_eq_true, Bool.or_eq_false_iff, Bool.and_eq_true, Bool.and_eq_false_iff, decide_eq_true_eq, decide_eq_false_iff_not, Bool.not_eq_true', Bool.not_eq_false', Int.not_lt, Int.not_le, List.length_map] at hc3
    have h3 : ¬ (e.num < 1 ∨ 500 < e.num ∨ e.tm < 0 ∨ 200000 < e.tm) := by omega
    refine W.reg ?_
    refine XOps.s rfl rfl rfl (Q.fld_ptr fl36_3 rfl) ?_
    refine XOps.s rfl rfl rfl (Q.ld_ptr (k := 0) ag9 rfl rfl rfl) ?_
    refine XOps.s rfl rfl rfl (Q.len_str ist9 rfl) ?_
    refine XOps.s rfl rfl rfl (Q.gtr rfl rfl) ?_
    refine XOps.s rfl rfl rfl (Q.move_d rfl) ?_
    refine XOps.gs rfl rfl rfl rfl rfl rfl rfl (fun hg => Q.fld_ptr fl36_2 rfl) ?_
    refine XOps.gs rfl rfl rfl rfl rfl rfl rfl (fun hg => Quiet.open 28 hg rfl (Q.ld_ptr (k := 0) ag9 rfl rfl rfl)) ?_
    refine XOps.gs rfl rfl rfl rfl rfl rfl rfl (fun hg => Quiet.open 29 hg rfl (Q.len_str ist9 rfl)) ?_
    refine XOps.gs rfl rfl rfl rfl rfl rfl rfl (fun hg => Quiet.open 30 hg rfl (Q.gtr rfl rfl)) ?_
    refine XOps.s rfl rfl rfl (Q.pick_or rfl rfl rfl (fun h => by first | (rw [h]; rfl) | (rw [hg, h]; rfl) | (simp [h, hg]; done))) ?_
    refine XOps.s rfl rfl rfl (Q.assign_d rfl) ?_
    refine XOps.nil ?_
    refine W.cond rfl (fun hc22 => ?_) (fun hc22 => ?_)
    · try simp only [Bool.or_eq_true, Bool.or_eq_false_iff, Bool.and_eq_true, Bool.and_eq_false_iff, decide_eq_true_eq, decide_eq_false_iff_not, Bool.not_eq_true', Bool.not_eq_false', Int.not_lt, Int.not_le, List.length_map] at hc22
      have hE : checkN e = 2 := by unfold checkN; rw [if_neg h3, if_pos (by omega)]
      rw [hE]
      refine W.reg ?_
      refine XOps.s rfl rfl rfl (Q.assign_d rfl) ?_
      refine XOps.nil ?_
      refine W.ret ?_
      exact ⟨_, hs, rfl, HLe.skip _ (HLe.refl _), rfl, rfl⟩
    · try simp only [Bool.or_eq_true, Bool.or_eq_false_iff, Bool.and_eq_true, Bool.and_eq_false_iff, decide_eq_true_eq, decide_eq_false_iff_not, Bool.not_eq_true', Bool.not_eq_false', Int.not_lt, Int.not_le, List.length_map] at hc22
      have h22 : ¬ (120 < e.text.size ∨ 8 < e.kind.size) := by omega
      refine W.reg ?_
      refine XOps.s rfl rfl rfl (Q.fld_ptr fl36_2 rfl) ?_
      refine XOps.s rfl rfl rfl (Q.ld_ptr (k := 0) ag9 rfl rfl rfl) ?_
      refine XOps.s rfl rfl rfl (Q.eql_str rfl rfl) ?_
      refine XOps.s rfl rfl rfl (Q.move_d rfl) ?_
      refine XOps.gs rfl rfl rfl rfl rfl rfl rfl (fun hg => Q.fld_ptr fl36_2 rfl) ?_
      refine XOps.gs rfl rfl rfl rfl rfl rfl rfl (fun hg => Quiet.open 38 hg rfl (Q.ld_ptr (k := 0) ag9 rfl rfl rfl)) ?_
      refine XOps.gs rfl rfl rfl rfl rfl rfl rfl (fun hg => Quiet.open 39 hg rfl (Q.call rfl Tryd.func34 go34 rfl (trim_c (f := 34) rfl (by kernel_rfl) e.kind h1 _))) ?_
      refine XOps.gs rfl rfl rfl rfl rfl rfl rfl (fun hg => Quiet.open 40 hg rfl (Q.neq_str rfl rfl)) ?_
      refine XOps.s rfl rfl rfl (Q.pick_or rfl rfl rfl (fun h => by first | (rw [h]; rfl) | (rw [hg, h]; rfl) | (simp [h, hg]; done))) ?_
      refine XOps.s rfl rfl rfl (Q.assign_d rfl) ?_
      refine XOps.nil ?_
      refine W.cond rfl (fun hc33 => ?_) (fun hc33 => ?_)
      · try simp only [Bool.or_eq_true, Bool.or_eq_false_iff, Bool.and_eq_true, Bool.and_eq_false_iff, decide_eq_true_eq, decide_eq_false_iff_not, Bool.not_eq_true', Bool.not_eq_false', Int.not_lt, Int.not_le, List.length_map] at hc33
        have h33 : e.kind.size = 0 ∨ lowS e.kind = false := by
          rcases hc33 with h | h
          · have h4 : e.kind = ⟨#[]⟩ := (seq_iff _ _).1 h
            rw [h4]; exact .inl rfl
          · refine .inr ?_
            rw [← trim_low]; exact h
        have hE : checkN e = 6 := by unfold checkN; rw [if_neg h3, if_neg h22, if_pos h33]
        rw [hE]
        refine W.reg ?_
        refine XOps.s rfl rfl rfl (Q.assign_d rfl) ?_
        refine XOps.nil ?_
        refine W.ret ?_
        exact ⟨_, hs, rfl, HLe.skip _ (HLe.refl _), rfl, rfl⟩
      · try simp only [Bool.or_eq_true, Bool.or_eq_false_iff, Bool.and_eq_true, Bool.and_eq_false_iff, decide_eq_true_eq, decide_eq_false_iff_not, Bool.not_eq_true', Bool.not_eq_false', Int.not_lt, Int.not_le, List.length_map] at hc33
        have h33 : ¬ (e.kind.size = 0 ∨ lowS e.kind = false) := by
          obtain ⟨ha, hb⟩ := hc33
          rintro (h | h)
          · have h4 : e.kind = ⟨#[]⟩ := bl_inj (List.eq_nil_of_length_eq_zero (by rw [bl_len]; exact h))
            have ha2 : seq e.kind ⟨#[]⟩ = false := ha
            rw [h4, seq_refl] at ha2; cases ha2
          · rw [← trim_low] at h
            have hb2 : seq (bs (Lib.trimS (bl e.kind) (bl abcS))) ⟨#[]⟩ = true := hb
            rw [h] at hb2; cases hb2
        have hE : checkN e = 0 := by unfold checkN; rw [if_neg h3, if_neg h22, if_neg h33]
        rw [hE]
        refine W.skip ?_
        refine W.reg ?_
        refine XOps.s rfl rfl rfl (Q.assign_d rfl) ?_
        refine XOps.nil ?_
        refine W.ret ?_
        exact ⟨_, hs, rfl, HLe.skip _ (HLe.refl _), rfl, rfl⟩

abbrev gH (gd gs gr : Nat) (es er : Value) (hs : Hp) : Hp := (gd, p10G) :: (gs, .glob 3 [es]) :: (gr, .glob 4 [er]) :: hs
theorem sz_ok {l : List SR} (h : checkL l = 0) : szR l ∧ l.length ≤ 64 := by
  obtain ⟨o, hn⟩ := checkL_zero.1 h
  exact ⟨fun x hx => by have := o.form x hx; have h1 := (keyed_size this.1).1; have h2 := (valued_size this.2).1; exact ⟨by omega, by omega⟩, hn⟩
theorem app_nil {l : List SR} (h : checkL l = 0) : appE l [] = 0 ∧ appL l [] = l := by
  obtain ⟨o, hn⟩ := checkL_zero.1 h
  exact app_zero o hn (by simp) rfl hn
theorem getV_size {l : List SR} {k : ByteArray} (h : getE l k = 0) : (getV l k).size ≤ 40 := by
  have hc : checkL l = 0 := by
    unfold getE at h; split at h
    · exact absurd h ‹_›
    · omega
  obtain ⟨o, hn⟩ := checkL_zero.1 hc
  unfold getV
  rw [if_neg (by omega)]
  cases hg : getO l k with
  | none => exact Nat.zero_le _
  | some v => exact (valued_size (o.form _ ((getO_iff o k v).1 hg)).2).1

set_option maxHeartbeats 1000000 in
set_option maxRecDepth 100000 in
theorem count1_c (s : ByteArray) (gd gs gr : Nat) (ves ver : Value) (o1 : okE ves) (o2 : okE ver) (hs : Hp) (hL : s.size ≤ 140737488355328) (h : atoB s = true) : AC P 36 [.d (.str s)] (gH gd gs gr ves ver hs) (fun r h => r = .tup [.d (.int .i64 (atoN s)), .d (.bool (cntB s))] ∧ h = gH gd gs gr ves ver hs) := by
  refine AC.of 28 Tryd.func36 rfl rfl rfl ?_
  refine W.reg ?_
  refine XOps.s rfl rfl rfl (Q.assign_d rfl) ?_
  refine XOps.s rfl rfl rfl (Q.assign_d rfl) ?_
  refine XOps.nil ?_
  refine W.reg ?_
  refine XOps.s rfl rfl rfl (Q.move_d rfl) ?_
  refine XOps.s rfl rfl rfl (Q.call rfl Tryd.func49 go49 rfl (atoi_ok (f := 49) rfl s hL h _)) ?_
  refine XOps.s rfl rfl rfl (Q.move_tup rfl) ?_
  refine XOps.s rfl rfl rfl (Q.extract rfl rfl) ?_
  refine XOps.s rfl rfl rfl (Q.extract rfl rfl) ?_
  refine XOps.s rfl rfl rfl (Q.assign_d rfl) ?_
  refine XOps.s rfl rfl rfl (Q.assign_d rfl) ?_
  refine XOps.nil ?_
  refine W.reg ?_
  refine XOps.s rfl rfl rfl (Q.move_d rfl) ?_
  refine XOps.s rfl rfl rfl (Q.move_d rfl) ?_
  refine XOps.s rfl rfl rfl (Q.eql_nil1 (by kernel_rfl) rfl) ?_
  refine XOps.s rfl rfl rfl (Q.move_d rfl) ?_
  refine XOps.gs rfl rfl rfl rfl rfl rfl rfl (fun hg => Q.move_d rfl) ?_
  refine XOps.gs rfl rfl rfl rfl rfl rfl rfl (fun hg => Quiet.open 15 hg rfl (Q.call rfl Tryd.func37 go37 rfl (itoas_c (atoN s) gd _ (atoN_bd s).1 (atoN_bd s).2))) ?_
  refine XOps.gs rfl rfl rfl rfl rfl rfl rfl (fun hg => Q.move_d rfl) ?_
  refine XOps.gs rfl rfl rfl rfl rfl rfl rfl (fun hg => Quiet.open 16 hg rfl (Quiet.open 17 hg rfl (Q.eql_str rfl rfl))) ?_
  refine XOps.s rfl rfl rfl (Q.pick_and rfl rfl rfl (fun h => by first | (rw [h]; rfl) | (rw [hg, h]; rfl) | (simp [h, hg]; done))) ?_
  refine XOps.s rfl rfl rfl (Q.move_d rfl) ?_
  refine XOps.gs rfl rfl rfl rfl rfl rfl rfl (fun hg => Q.move_d rfl) ?_
  refine XOps.gs rfl rfl rfl rfl rfl rfl rfl (fun hg => Quiet.open 21 hg rfl (Q.geq rfl rfl)) ?_
  refine XOps.s rfl rfl rfl (Q.pick_and rfl rfl rfl (fun h => by first | (rw [h]; rfl) | (rw [hg, h]; rfl) | (simp [h, hg]; done))) ?_
  refine XOps.s rfl rfl rfl (Q.move_d rfl) ?_
  refine XOps.gs rfl rfl rfl rfl rfl rfl rfl (fun hg => Q.move_d rfl) ?_
  refine XOps.gs rfl rfl rfl rfl rfl rfl rfl (fun hg => Quiet.open 25 hg rfl (Q.leq rfl rfl)) ?_
  refine XOps.s rfl rfl rfl (Q.pick_and rfl rfl rfl (fun h => by first | (rw [h]; rfl) | (rw [hg, h]; rfl) | (simp [h, hg]; done))) ?_
  refine XOps.s rfl rfl rfl (Q.assign_d rfl) ?_
  refine XOps.s rfl rfl rfl (Q.assign_d rfl) ?_
  refine XOps.nil ?_
  refine W.ret ?_
  refine ⟨_, gH gd gs gr ves ver hs, rfl, HLe.refl _, ?_, rfl⟩
  unfold cntB; rw [h]; rfl

set_option maxHeartbeats 1000000 in
set_option maxRecDepth 100000 in
theorem count0_c (s : ByteArray) (gd gs gr : Nat) (ves ver : Value) (o1 : okE ves) (o2 : okE ver) (hs : Hp) (hL : s.size ≤ 140737488355328) (h : atoB s = false) : AC P 36 [.d (.str s)] (gH gd gs gr ves ver hs) (fun r h => r = .tup [.d (.int .i64 (atoN s)), .d (.bool (cntB s))] ∧ h = gH gd gs gr ves ver hs) := by
  refine AC.of 28 Tryd.func36 rfl rfl rfl ?_
  refine W.reg ?_
  refine XOps.s rfl rfl rfl (Q.assign_d rfl) ?_
  refine XOps.s rfl rfl rfl (Q.assign_d rfl) ?_
  refine XOps.nil ?_
  refine W.reg ?_
  refine XOps.s rfl rfl rfl (Q.move_d rfl) ?_
  refine XOps.s rfl rfl rfl (Q.call rfl Tryd.func49 go49 rfl (atoi_no (f := 49) (gS := 3) (gR := 4) rfl rfl rfl s hL h 1 2 gs gr rfl rfl o1 o2)) ?_
  refine XOps.s rfl rfl rfl (Q.move_tup rfl) ?_
  refine XOps.s rfl rfl rfl (Q.extract rfl rfl) ?_
  refine XOps.s rfl rfl rfl (Q.extract rfl rfl) ?_
  refine XOps.s rfl rfl rfl (Q.assign_d rfl) ?_
  refine XOps.s rfl rfl rfl (Q.assign rfl) ?_
  refine XOps.nil ?_
  refine W.reg ?_
  refine XOps.s rfl rfl rfl (Q.move_d rfl) ?_
  refine XOps.s rfl rfl rfl (Q.move rfl) ?_
  refine XOps.s rfl rfl rfl (Q.eql_nil0 (by kernel_rfl) rfl) ?_
  refine XOps.s rfl rfl rfl (Q.move_d rfl) ?_
  refine XOps.gs rfl rfl rfl rfl rfl rfl rfl (fun hg => Q.move_d rfl) ?_
  refine XOps.gs rfl rfl rfl rfl rfl rfl rfl (fun hg => Quiet.open 15 hg rfl (Q.call rfl Tryd.func37 go37 rfl (itoas_c (atoN s) gd _ (atoN_bd s).1 (atoN_bd s).2))) ?_
  refine XOps.gs rfl rfl rfl rfl rfl rfl rfl (fun hg => Q.move_d rfl) ?_
  refine XOps.gs rfl rfl rfl rfl rfl rfl rfl (fun hg => Quiet.open 16 hg rfl (Quiet.open 17 hg rfl (Q.eql_str rfl rfl))) ?_
  refine XOps.s rfl rfl rfl (Q.pick_and rfl rfl rfl (fun h => by first | (rw [h]; rfl) | (rw [hg, h]; rfl) | (simp [h, hg]; done))) ?_
  refine XOps.s rfl rfl rfl (Q.move_d rfl) ?_
  refine XOps.gs rfl rfl rfl rfl rfl rfl rfl (fun hg => Q.move_d rfl) ?_
  refine XOps.gs rfl rfl rfl rfl rfl rfl rfl (fun hg => Quiet.open 21 hg rfl (Q.geq rfl rfl)) ?_
  refine XOps.s rfl rfl rfl (Q.pick_and rfl rfl rfl (fun h => by first | (rw [h]; rfl) | (rw [hg, h]; rfl) | (simp [h, hg]; done))) ?_
  refine XOps.s rfl rfl rfl (Q.move_d rfl) ?_
  refine XOps.gs rfl rfl rfl rfl rfl rfl rfl (fun hg => Q.move_d rfl) ?_
  refine XOps.gs rfl rfl rfl rfl rfl rfl rfl (fun hg => Quiet.open 25 hg rfl (Q.leq rfl rfl)) ?_
  refine XOps.s rfl rfl rfl (Q.pick_and rfl rfl rfl (fun h => by first | (rw [h]; rfl) | (rw [hg, h]; rfl) | (simp [h, hg]; done))) ?_
  refine XOps.s rfl rfl rfl (Q.assign_d rfl) ?_
  refine XOps.s rfl rfl rfl (Q.assign_d rfl) ?_
  refine XOps.nil ?_
  refine W.ret ?_
  refine ⟨_, gH gd gs gr ves ver hs, rfl, HLe.refl _, ?_, rfl⟩
  unfold cntB; rw [h]; rfl

theorem count_c (s : ByteArray) (gd gs gr : Nat) (ves ver : Value) (o1 : okE ves) (o2 : okE ver) (hs : Hp) (hL : s.size ≤ 140737488355328) : AC P 36 [.d (.str s)] (gH gd gs gr ves ver hs) (fun r h => r = .tup [.d (.int .i64 (atoN s)), .d (.bool (cntB s))] ∧ h = gH gd gs gr ves ver hs) := by
  cases h : atoB s with
  | true => exact count1_c s gd gs gr ves ver o1 o2 hs hL h
  | false => exact count0_c s gd gs gr ves ver o1 o2 hs hL h
theorem grow_bad {l : List SR} {k d : ByteArray} (h : growE l k d ≠ 0) : growL l k d = [] := if_pos h

set_option maxHeartbeats 4000000 in
set_option maxRecDepth 100000 in
theorem grow_c (l : List SR) (k d : ByteArray) (gd gs gr : Nat) (ves ver : Value) (o1 : okE ves) (o2 : okE ver) (hs : Hp) (hL : l.length ≤ 4398046511104) (hz : szR l) (hk : k.size ≤ 140737488355000) (hd : d.size ≤ 140737488355000) : AC P 28 [.d (.sl 2 (l.map SR.enc)), .d (.str k), .d (.str d)] (gH gd gs gr ves ver hs) (fun r h => r = .tup [.d (.sl 2 ((growL l k d).map SR.enc)), .d (.int .i64 (growE l k d))] ∧ h = gH gd gs gr ves ver hs) := by
  refine AC.of 57 Tryd.func28 rfl rfl rfl ?_
  refine W.reg ?_
  refine XOps.s rfl rfl rfl (Q.assign_nilsl rfl) ?_
  refine XOps.s rfl rfl rfl (Q.assign_d rfl) ?_
  refine XOps.nil ?_
  refine W.reg ?_
  refine XOps.s rfl rfl rfl (Q.move_d rfl) ?_
  refine XOps.s rfl rfl rfl (Q.call rfl Tryd.func36 go36 rfl (count_c d gd gs gr ves ver o1 o2 hs (by omega))) ?_
  refine XOps.s rfl rfl rfl (Q.move_tup rfl) ?_
  refine XOps.s rfl rfl rfl (Q.extract rfl rfl) ?_
  refine XOps.s rfl rfl rfl (Q.extract rfl rfl) ?_
  refine XOps.s rfl rfl rfl (Q.assign_d rfl) ?_
  refine XOps.s rfl rfl rfl (Q.assign_d rfl) ?_
  refine XOps.nil ?_
  refine W.seq ?_
  refine W.reg ?_
  refine XOps.s rfl rfl rfl (Q.move_d rfl) ?_
  refine XOps.s rfl rfl rfl (Q.not rfl) ?_
  refine XOps.nil ?_
  refine W.cond rfl (fun hc19 => ?_) (fun hc19 => ?_)
  · try simp only [Bool.or_eq_true, Bool.or_eq_false_iff, Bool.and_eq_true, Bool.and_eq_false_iff, decide_eq_true_eq, decide_eq_false_iff_not, Bool.not_eq_true', Bool.not_eq_false', Int.not_lt, Int.not_le, List.length_map] at hc19
    have h19 : cntB d = false := by simpa using hc19
    have hE : growE l k d = 5 := by unfold growE; rw [if_pos h19]
    have hV := grow_bad (l := l) (k := k) (d := d) (by rw [hE]; omega)
    rw [hE, hV]
    refine W.reg ?_
    refine XOps.s rfl rfl rfl (Q.assign_nilsl rfl) ?_
    refine XOps.s rfl rfl rfl (Q.assign_d rfl) ?_
    refine XOps.nil ?_
    refine W.nild 6 2 rfl ?_
    refine W.ret ?_
    exact ⟨_, gH gd gs gr ves ver hs, rfl, HLe.refl _, rfl, rfl⟩
  · try simp only [Bool.or_eq_true, Bool.or_eq_false_iff, Bool.and_eq_true, Bool.and_eq_false_iff, decide_eq_true_eq, decide_eq_false_iff_not, Bool.not_eq_true', Bool.not_eq_false', Int.not_lt, Int.not_le, List.length_map] at hc19
    have h19 : cntB d = true := by simpa using hc19
    obtain ⟨d1, d2, d3⟩ := cnt_bd h19
    refine W.skip ?_
    refine W.reg ?_
    refine XOps.s rfl rfl rfl (Q.move_d rfl) ?_
    refine XOps.s rfl rfl rfl (Q.move_d rfl) ?_
    refine XOps.s rfl rfl rfl (Q.call rfl Tryd.func14 go14 rfl (get_c l k _ (by omega) hz)) ?_
    refine XOps.s rfl rfl rfl (Q.move_tup rfl) ?_
    refine XOps.s rfl rfl rfl (Q.extract rfl rfl) ?_
    refine XOps.s rfl rfl rfl (Q.extract rfl rfl) ?_
    refine XOps.s rfl rfl rfl (Q.assign_d rfl) ?_
    refine XOps.s rfl rfl rfl (Q.assign_d rfl) ?_
    refine XOps.nil ?_
    refine W.seq ?_
    refine W.reg ?_
    refine XOps.s rfl rfl rfl (Q.move_d rfl) ?_
    refine XOps.s rfl rfl rfl (Q.neq rfl rfl) ?_
    refine XOps.nil ?_
    refine W.cond rfl (fun hc27 => ?_) (fun hc27 => ?_)
    · try simp only [Bool.or_eq_true, Bool.or_eq_false_iff, Bool.and_eq_true, Bool.and_eq_false_iff, decide_eq_true_eq, decide_eq_false_iff_not, Bool.not_eq_true', Bool.not_eq_false', Int.not_lt, Int.not_le, List.length_map] at hc27
      have h27 : getE l k ≠ 0 := by first | exact hc27 | (simpa using hc27)
      have hE : growE l k d = getE l k := by unfold growE; rw [if_neg (by simp [h19]), if_pos h27]
      have hV := grow_bad (l := l) (k := k) (d := d) (by rw [hE]; exact h27)
      rw [hE, hV]
      refine W.reg ?_
      refine XOps.s rfl rfl rfl (Q.move_d rfl) ?_
      refine XOps.s rfl rfl rfl (Q.assign_nilsl rfl) ?_
      refine XOps.s rfl rfl rfl (Q.assign_d rfl) ?_
      refine XOps.nil ?_
      refine W.nild 6 2 rfl ?_
      refine W.ret ?_
      exact ⟨_, gH gd gs gr ves ver hs, rfl, HLe.refl _, rfl, rfl⟩
    · try simp only [Bool.or_eq_true, Bool.or_eq_false_iff, Bool.and_eq_true, Bool.and_eq_false_iff, decide_eq_true_eq, decide_eq_false_iff_not, Bool.not_eq_true', Bool.not_eq_false', Int.not_lt, Int.not_le, List.length_map] at hc27
      have h27 : getE l k = 0 := by first | exact hc27 | (simpa using hc27)
      have hgs := getV_size h27
      refine W.skip ?_
      refine W.reg ?_
      refine XOps.s rfl rfl rfl (Q.move_d rfl) ?_
      refine XOps.s rfl rfl rfl (Q.call rfl Tryd.func36 go36 rfl (count_c (getV l k) gd gs gr ves ver o1 o2 hs (by omega))) ?_
      refine XOps.s rfl rfl rfl (Q.move_tup rfl) ?_
      refine XOps.s rfl rfl rfl (Q.extract rfl rfl) ?_
      refine XOps.s rfl rfl rfl (Q.extract rfl rfl) ?_
      refine XOps.s rfl rfl rfl (Q.assign_d rfl) ?_
      refine XOps.s rfl rfl rfl (Q.assign_d rfl) ?_
      refine XOps.nil ?_
      refine W.seq ?_
      refine W.block ?_
      refine W.reg ?_
      refine XOps.s rfl rfl rfl (Q.move_d rfl) ?_
      refine XOps.s rfl rfl rfl (Q.not rfl) ?_
      refine XOps.s rfl rfl rfl (Q.assign_d rfl) ?_
      refine XOps.nil ?_
      refine W.cond rfl (fun hc34 => ?_) (fun hc34 => ?_)
      · try simp only [Bool.or_eq_true, Bool.or_eq_false_iff, Bool.and_eq_true, Bool.and_eq_false_iff, decide_eq_true_eq, decide_eq_false_iff_not, Bool.not_eq_true', Bool.not_eq_false', Int.not_lt, Int.not_le, List.length_map] at hc34
        have h34 : cntB (getV l k) = false := by simpa using hc34
        have hE : growE l k d = 11 := by unfold growE; rw [if_neg (by simp [h19]), if_neg (by omega), if_pos h34]
        have hV := grow_bad (l := l) (k := k) (d := d) (by rw [hE]; omega)
        rw [hE, hV]
        refine W.reg ?_
        refine XOps.s rfl rfl rfl (Q.assign_nilsl rfl) ?_
        refine XOps.s rfl rfl rfl (Q.assign_d rfl) ?_
        refine XOps.nil ?_
        refine W.nild 6 2 rfl ?_
        refine W.ret ?_
        exact ⟨_, gH gd gs gr ves ver hs, rfl, HLe.refl _, rfl, rfl⟩
      · try simp only [Bool.or_eq_true, Bool.or_eq_false_iff, Bool.and_eq_true, Bool.and_eq_false_iff, decide_eq_true_eq, decide_eq_false_iff_not, Bool.not_eq_true', Bool.not_eq_false', Int.not_lt, Int.not_le, List.length_map] at hc34
        have h34 : cntB (getV l k) = true := by simpa using hc34
        obtain ⟨v1, v2, v3⟩ := cnt_bd h34
        refine W.reg ?_
        refine XOps.s rfl rfl rfl (Q.move_d rfl) ?_
        refine XOps.s rfl rfl rfl (Q.move_d rfl) ?_
        refine XOps.s rfl rfl rfl (Q.add rfl rfl (wi64 (by first | omega | (dsimp only; omega) | (simp only [List.length_map]; omega)) (by first | omega | (dsimp only; omega) | (simp only [List.length_map]; omega)))) ?_
        refine XOps.s rfl rfl rfl (Q.lss rfl rfl) ?_
        refine XOps.s rfl rfl rfl (Q.move_d rfl) ?_
        refine XOps.gs rfl rfl rfl rfl rfl rfl rfl (fun hg => Q.move_d rfl) ?_
        refine XOps.gs rfl rfl rfl rfl rfl rfl rfl (fun hg => Q.move_d rfl) ?_
        refine XOps.gs rfl rfl rfl rfl rfl rfl rfl (fun hg => Quiet.open 43 hg rfl (Quiet.open 44 hg rfl (Q.add rfl rfl (wi64 (by first | omega | (dsimp only; omega) | (simp only [List.length_map]; omega)) (by first | omega | (dsimp only; omega) | (simp only [List.length_map]; omega)))))) ?_
        refine XOps.gs rfl rfl rfl rfl rfl rfl rfl (fun hg => Quiet.open 45 hg rfl (Q.gtr rfl rfl)) ?_
        refine XOps.s rfl rfl rfl (Q.pick_or rfl rfl rfl (fun h => by first | (rw [h]; rfl) | (rw [hg, h]; rfl) | (simp [h, hg]; done))) ?_
        refine XOps.s rfl rfl rfl (Q.assign_d rfl) ?_
        refine XOps.nil ?_
        refine W.cond rfl (fun hc37 => ?_) (fun hc37 => ?_)
        · try simp only [Bool.or_eq_true, Bool.or_eq_false_iff, Bool.and_eq_true, Bool.and_eq_false_iff, decide_eq_true_eq, decide_eq_false_iff_not, Bool.not_eq_true', Bool.not_eq_false', Int.not_lt, Int.not_le, List.length_map] at hc37
          have hE : growE l k d = 4 := by unfold growE sumN; rw [if_neg (by simp [h19]), if_neg (by omega), if_neg (by simp [h34]), if_pos (by omega)]
          have hV := grow_bad (l := l) (k := k) (d := d) (by rw [hE]; omega)
          rw [hE, hV]
          refine W.reg ?_
          refine XOps.s rfl rfl rfl (Q.assign_nilsl rfl) ?_
          refine XOps.s rfl rfl rfl (Q.assign_d rfl) ?_
          refine XOps.nil ?_
          refine W.nild 6 2 rfl ?_
          refine W.ret ?_
          exact ⟨_, gH gd gs gr ves ver hs, rfl, HLe.refl _, rfl, rfl⟩
        · try simp only [Bool.or_eq_true, Bool.or_eq_false_iff, Bool.and_eq_true, Bool.and_eq_false_iff, decide_eq_true_eq, decide_eq_false_iff_not, Bool.not_eq_true', Bool.not_eq_false', Int.not_lt, Int.not_le, List.length_map] at hc37
          have hiz := itoa_size (n := atoN (getV l k) + atoN d) (by omega) (by omega)
          have hE : growE l k d = setE l k (bs (Lib.itoa (atoN (getV l k) + atoN d))) := by unfold growE sumN; rw [if_neg (by simp [h19]), if_neg (by omega), if_neg (by simp [h34]), if_neg (by omega)]
          have hV : growL l k d = setL l k (bs (Lib.itoa (atoN (getV l k) + atoN d))) := by
            unfold growL
            by_cases h0 : growE l k d = 0
            · rw [if_neg (by omega)]; rfl
            · rw [if_pos h0]; exact (if_pos (by rw [← hE]; exact h0)).symm
          rw [hE, hV]
          refine W.skip ?_
          refine W.reg ?_
          refine XOps.s rfl rfl rfl (Q.move_d rfl) ?_
          refine XOps.s rfl rfl rfl (Q.move_d rfl) ?_
          refine XOps.s rfl rfl rfl (Q.move_d rfl) ?_
          refine XOps.s rfl rfl rfl (Q.move_d rfl) ?_
          refine XOps.s rfl rfl rfl (Q.add rfl rfl (wi64 (by first | omega | (dsimp only; omega) | (simp only [List.length_map]; omega)) (by first | omega | (dsimp only; omega) | (simp only [List.length_map]; omega)))) ?_
          refine XOps.s rfl rfl rfl (Q.call rfl Tryd.func37 go37 rfl (itoas_c (atoN (getV l k) + atoN d) gd _ (by omega) (by omega))) ?_
          refine XOps.s rfl rfl rfl (Q.call rfl Tryd.func26 go26 rfl (set_c l k (bs (Lib.itoa (atoN (getV l k) + atoN d))) _ hL hz hk (by omega))) ?_
          refine XOps.s rfl rfl rfl (Q.extract rfl rfl) ?_
          refine XOps.s rfl rfl rfl (Q.extract rfl rfl) ?_
          refine XOps.s rfl rfl rfl (Q.assign_d rfl) ?_
          refine XOps.s rfl rfl rfl (Q.assign_d rfl) ?_
          refine XOps.nil ?_
          refine W.ret ?_
          exact ⟨_, gH gd gs gr ves ver hs, rfl, HLe.refl _, rfl, rfl⟩
end Go.Proofs.YtodbcbojkfndiaaDoorA
