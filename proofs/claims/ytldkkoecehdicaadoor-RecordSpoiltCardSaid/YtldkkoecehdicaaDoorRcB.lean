/- Check and Encode of package record. -/
import Derived.Test.YtldkkoecehdicaaDoorBase
import Derived.Test.YtldkkoecehdicaaDoorRec4
import Derived.Test.YtldkkoecehdicaaDoorRcA
import Derived.Test.YtldkkoecehdicaaDoorAbs18
set_option linter.unusedVariables false
set_option linter.unusedSimpArgs false
set_option linter.unnecessarySimpa false
namespace Go.Proofs.YtldkkoecehdicaaDoorA.FRcB
open Go
theorem ag23 : tAgg P 23 = some ((true, 4)) := by kernel_rfl
theorem ag3 : tAgg P 3 = some ((false, 1)) := by kernel_rfl
theorem ag9 : tAgg P 9 = some ((false, 1)) := by kernel_rfl
theorem fl23_0 : tFld P 23 0 = some (0) := by kernel_rfl
theorem fl23_1 : tFld P 23 1 = some (1) := by kernel_rfl
theorem fl23_2 : tFld P 23 2 = some (2) := by kernel_rfl
theorem fl23_3 : tFld P 23 3 = some (3) := by kernel_rfl
theorem go20 : callGo Go.Proofs.Tryd.f20 = true := by kernel_rfl
theorem go21 : callGo Go.Proofs.Tryd.f21 = true := by kernel_rfl
theorem go22 : callGo Go.Proofs.Tryd.f22 = true := by kernel_rfl
theorem go29 : callGo Go.Proofs.Tryd.f29 = true := by kernel_rfl
theorem go30 : callGo Go.Proofs.Tryd.f30 = true := by kernel_rfl
theorem go40 : callGo Go.Proofs.Tryd.f40 = true := by kernel_rfl
theorem ist9 : isStr P 9 = true := by kernel_rfl
end Go.Proofs.YtldkkoecehdicaaDoorA.FRcB
namespace Go.Proofs.YtldkkoecehdicaaDoorA
open Go FRcB
attribute [local irreducible] XOps Quiet Loud W AC GQ DT
abbrev p10G : HO := .glob 1 p10T
theorem body_str (e : EN) : bs (decL e.num.toNat) ++ ⟨#[32]⟩ ++ bs (decL e.tm.toNat) ++ ⟨#[32]⟩ ++ e.kind ++ ⟨#[32]⟩ ++ bs (decL e.text.size) ++ ⟨#[58]⟩ ++ e.text = bs (bodyB e) := by
  refine bl_inj ?_
  have h32 : bl ⟨#[32]⟩ = [32] := rfl
  have h58 : bl ⟨#[58]⟩ = [58] := rfl
  simp [bl_app, bl_bs, bodyB, h32, h58]
theorem enc_str (e : EN) (h : checkN e = 0) : bs (bodyB e) ++ ⟨#[59]⟩ ++ bs (decL (sumV (bodyB e))) ++ ⟨#[10]⟩ = encV e := by
  unfold encV
  rw [if_neg (by omega)]
  refine bl_inj ?_
  have h59 : bl ⟨#[59]⟩ = [59] := rfl
  have h10 : bl ⟨#[10]⟩ = [10] := rfl
  simp [bl_app, bl_bs, encB, h59, h10]
theorem itoa_int (n : Int) (h : 0 ≤ n) : bs (Lib.itoa n) = bs (decL n.toNat) := by
  rw [show n = (n.toNat : Nat) by omega, itoa_nat, Int.toNat_natCast]

set_option maxHeartbeats 1000000 in
set_option maxRecDepth 100000 in
theorem itoai_c (m : Int) (gd : Nat) (hs : Hp) (h0 : -9223372036854775808 ≤ m) (h1 : m ≤ 9223372036854775807) : AC P 30 [.d (.int .i64 m)] ((gd, p10G) :: hs) (fun r h => r = .d (.str (bs (Lib.itoa m))) ∧ h = (gd, p10G) :: hs) := by
  refine AC.of 5 Tryd.func30 rfl rfl rfl ?_
  refine W.reg ?_
  refine XOps.s rfl rfl rfl (Q.assign_d rfl) ?_
  refine XOps.nil ?_
  refine W.reg ?_
  refine XOps.s rfl rfl rfl (Q.move_d rfl) ?_
  refine XOps.s rfl rfl rfl (Q.call rfl Tryd.func40 go40 rfl (fmt_c (f := 40) (g := 1) rfl (by kernel_rfl) m h0 h1 gd hs)) ?_
  refine XOps.s rfl rfl rfl (Q.assign_d rfl) ?_
  refine XOps.nil ?_
  refine W.ret ?_
  exact ⟨_, _, rfl, HLe.refl _, rfl, rfl⟩

set_option maxHeartbeats 1000000 in
set_option maxRecDepth 100000 in
theorem itoas_c (m : Int) (gd : Nat) (hs : Hp) (h0 : -9223372036854775808 ≤ m) (h1 : m ≤ 9223372036854775807) : AC P 21 [.d (.int .i64 m)] ((gd, p10G) :: hs) (fun r h => r = .d (.str (bs (Lib.itoa m))) ∧ h = (gd, p10G) :: hs) := by
  refine AC.of 5 Tryd.func21 rfl rfl rfl ?_
  refine W.reg ?_
  refine XOps.s rfl rfl rfl (Q.assign_d rfl) ?_
  refine XOps.nil ?_
  refine W.reg ?_
  refine XOps.s rfl rfl rfl (Q.move_d rfl) ?_
  refine XOps.s rfl rfl rfl (Q.call rfl Tryd.func30 go30 rfl (itoai_c m gd hs h0 h1)) ?_
  refine XOps.s rfl rfl rfl (Q.assign_d rfl) ?_
  refine XOps.nil ?_
  refine W.ret ?_
  exact ⟨_, _, rfl, HLe.refl _, rfl, rfl⟩

theorem itoa_c (m : Int) (gd : Nat) (hs : Hp) (h0 : 0 ≤ m) (h1 : m ≤ 9223372036854775807) : AC P 21 [.d (.int .i64 m)] ((gd, p10G) :: hs) (fun r h => r = .d (.str (bs (decL m.toNat))) ∧ h = (gd, p10G) :: hs) :=
  (itoas_c m gd hs (by omega) h1).mono fun r h hr => by rw [← itoa_int m h0]; exact hr

set_option maxHeartbeats 1000000 in
set_option maxRecDepth 100000 in
theorem chk_c (e : EN) (hs : Hp) (h1 : e.kind.size ≤ 140737488355000) (h2 : e.text.size ≤ 140737488355000) : AC P 20 [.d (.agg e.enc)] hs (fun r h => r = .d (.int .i64 (checkN e)) ∧ h = hs) := by
  refine AC.of 43 Tryd.func20 rfl rfl rfl ?_
  refine W.reg ?_
  refine XOps.loud rfl (L.boxn rfl rfl) ?_
  rintro _ _ ⟨b1, rfl, rfl⟩
  refine XOps.s rfl rfl rfl (Q.assign_d rfl) ?_
  refine XOps.nil ?_
  refine W.seq ?_
  refine W.block ?_
  refine W.reg ?_
  refine XOps.s rfl rfl rfl (Q.fld_ptr fl23_0 rfl) ?_
  refine XOps.s rfl rfl rfl (Q.ld_ptr (k := 0) ag3 rfl rfl rfl) ?_
  refine XOps.s rfl rfl rfl (Q.lss rfl rfl) ?_
  refine XOps.s rfl rfl rfl (Q.move_d rfl) ?_
  refine XOps.gs rfl rfl rfl rfl rfl rfl rfl (fun hg => Q.fld_ptr fl23_0 rfl) ?_
  refine XOps.gs rfl rfl rfl rfl rfl rfl rfl (fun hg => Quiet.open 8 hg rfl (Q.ld_ptr (k := 0) ag3 rfl rfl rfl)) ?_
  refine XOps.gs rfl rfl rfl rfl rfl rfl rfl (fun hg => Quiet.open 9 hg rfl (Q.gtr rfl rfl)) ?_
  refine XOps.s rfl rfl rfl (Q.pick_or rfl rfl rfl (fun h => by first | (rw [h]; rfl) | (rw [hg, h]; rfl) | (simp [h, hg]; done))) ?_
  refine XOps.s rfl rfl rfl (Q.move_d rfl) ?_
  refine XOps.gs rfl rfl rfl rfl rfl rfl rfl (fun hg => Q.fld_ptr fl23_1 rfl) ?_
  refine XOps.gs rfl rfl rfl rfl rfl rfl rfl (fun hg => Quiet.open 13 hg rfl (Q.ld_ptr (k := 0) ag3 rfl rfl rfl)) ?_
  refine XOps.gs rfl rfl rfl rfl rfl rfl rfl (fun hg => Quiet.open 14 hg rfl (Q.lss rfl rfl)) ?_
  refine XOps.s rfl rfl rfl (Q.pick_or rfl rfl rfl (fun h => by first | (rw [h]; rfl) | (rw [hg, h]; rfl) | (simp [h, hg]; done))) ?_
  refine XOps.s rfl rfl rfl (Q.move_d rfl) ?_
  refine XOps.gs rfl rfl rfl rfl rfl rfl rfl (fun hg => Q.fld_ptr fl23_1 rfl) ?_
  refine XOps.gs rfl rfl rfl rfl rfl rfl rfl (fun hg => Quiet.open 18 hg rfl (Q.ld_ptr (k := 0) ag3 rfl rfl rfl)) ?_
  refine XOps.gs rfl rfl rfl rfl rfl rfl rfl (fun hg => Quiet.open 19 hg rfl (Q.gtr rfl rfl)) ?_
  refine XOps.s rfl rfl rfl (Q.pick_or rfl rfl rfl (fun h => by first | (rw [h]; rfl) | (rw [hg, h]; rfl) | (simp [h, hg]; done))) ?_
  refine XOps.s rfl rfl rfl (Q.assign_d rfl) ?_
  refine XOps.nil ?_
  refine W.cond rfl (fun hc3 => ?_) (fun hc3 => ?_)
  · try simp only [Bool.or_eq_true, Bool.or_eq_false_iff, Bool.and_eq_true, Bool.and_eq_false_iff, decide_eq_true_eq, decide_eq_false_iff_not, Bool.not_eq_true', Bool.not_eq_false', Int.not_lt, Int.not_le, List.length_map] at hc3
    have hE : checkN e = 4 := if_pos (by omega)
    rw [hE]
    refine W.reg ?_
    refine XOps.s rfl rfl rfl (Q.assign_d rfl) ?_
    refine XOps.nil ?_
    refine W.ret ?_
    exact ⟨_, hs, rfl, HLe.skip _ (HLe.refl _), rfl, rfl⟩
  · try simp only [Bool.or_eq_true, Bool.or_eq_false_iff, Bool.and_eq_true, Bool.and_eq_false_iff, decide_eq_true_eq, decide_eq_false_iff_not, Bool.not_eq_true', Bool.not_eq_false', Int.not_lt, Int.not_le, List.length_map] at hc3
    have h3 : ¬ (e.num < 1 ∨ 500 < e.num ∨ e.tm < 0 ∨ 200000 < e.tm) := by omega
    refine W.reg ?_
    refine XOps.s rfl rfl rfl (Q.fld_ptr fl23_3 rfl) ?_
    refine XOps.s rfl rfl rfl (Q.ld_ptr (k := 0) ag9 rfl rfl rfl) ?_
    refine XOps.s rfl rfl rfl (Q.len_str ist9 rfl) ?_
    refine XOps.s rfl rfl rfl (Q.gtr rfl rfl) ?_
    refine XOps.s rfl rfl rfl (Q.move_d rfl) ?_
    refine XOps.gs rfl rfl rfl rfl rfl rfl rfl (fun hg => Q.fld_ptr fl23_2 rfl) ?_
    refine XOps.gs rfl rfl rfl rfl rfl rfl rfl (fun hg => Quiet.open 28 hg rfl (Q.ld_ptr (k := 0) ag9 rfl rfl rfl)) ?_
    refine XOps.gs rfl rfl rfl rfl rfl rfl rfl (fun hg => Quiet.open 29 hg rfl (Q.len_str ist9 rfl)) ?_
    refine XOps.gs rfl rfl rfl rfl rfl rfl rfl (fun hg => Quiet.open 30 hg rfl (Q.gtr rfl rfl)) ?_
    refine XOps.s rfl rfl rfl (Q.pick_or rfl rfl rfl (fun h => by first | (rw [h]; rfl) | (rw [hg, h]; rfl) | (simp [h, hg]; done))) ?_
    refine XOps.s rfl rfl rfl (Q.assign_d rfl) ?_
    refine XOps.nil ?_
    refine W.cond rfl (fun hc22 => ?_) (fun hc22 => ?_)
    · try simp only [Bool.or_eq_true, Bool.or_eq_false_iff, Bool.and_eq_true, Bool.and_eq_false_iff, decide_eq_true_eq, decide_eq_false_iff_not, Bool.not_eq_true', Bool.not_eq_false', Int.not_lt, Int.not_le, List.length_map] at hc22
      have hE : checkN e = 2 := by unfold checkN; rw [if_neg h3, if_pos (by omega)]
      rw [hE]
      refine W.reg ?_
      refine XOps.s rfl rfl rfl (Q.assign_d rfl) ?_
      refine XOps.nil ?_
      refine W.ret ?_
      exact ⟨_, hs, rfl, HLe.skip _ (HLe.refl _), rfl, rfl⟩
    · try simp only [Bool.or_eq_true, Bool.or_eq_false_iff, Bool.and_eq_true, Bool.and_eq_false_iff, decide_eq_true_eq, decide_eq_false_iff_not, Bool.not_eq_true', Bool.not_eq_false', Int.not_lt, Int.not_le, List.length_map] at hc22
      have h22 : ¬ (120 < e.text.size ∨ 8 < e.kind.size) := by omega
      refine W.reg ?_
      refine XOps.s rfl rfl rfl (Q.fld_ptr fl23_2 rfl) ?_
      refine XOps.s rfl rfl rfl (Q.ld_ptr (k := 0) ag9 rfl rfl rfl) ?_
      refine XOps.s rfl rfl rfl (Q.eql_str rfl rfl) ?_
      refine XOps.s rfl rfl rfl (Q.move_d rfl) ?_
      refine XOps.gs rfl rfl rfl rfl rfl rfl rfl (fun hg => Q.fld_ptr fl23_2 rfl) ?_
      refine XOps.gs rfl rfl rfl rfl rfl rfl rfl (fun hg => Quiet.open 38 hg rfl (Q.ld_ptr (k := 0) ag9 rfl rfl rfl)) ?_
      refine XOps.gs rfl rfl rfl rfl rfl rfl rfl (fun hg => Quiet.open 39 hg rfl (Q.call rfl Tryd.func29 go29 rfl (trim_c (f := 29) rfl (by kernel_rfl) e.kind h1 _))) ?_
      refine XOps.gs rfl rfl rfl rfl rfl rfl rfl (fun hg => Quiet.open 40 hg rfl (Q.neq_str rfl rfl)) ?_
      refine XOps.s rfl rfl rfl (Q.pick_or rfl rfl rfl (fun h => by first | (rw [h]; rfl) | (rw [hg, h]; rfl) | (simp [h, hg]; done))) ?_
      refine XOps.s rfl rfl rfl (Q.assign_d rfl) ?_
      refine XOps.nil ?_
      refine W.cond rfl (fun hc33 => ?_) (fun hc33 => ?_)
      · try simp only [Bool.or_eq_true, Bool.or_eq_false_iff, Bool.and_eq_true, Bool.and_eq_false_iff, decide_eq_true_eq, decide_eq_false_iff_not, Bool.not_eq_true', Bool.not_eq_false', Int.not_lt, Int.not_le, List.length_map] at hc33
        have h33 : e.kind.size = 0 ∨ lowS e.kind = false := by
          rcases hc33 with h | h
          · have h4 : e.kind = ⟨#[]⟩ := (seq_iff _ _).1 h
            rw [h4]; exact .inl rfl
          · refine .inr ?_
            rw [← trim_low]; exact h
        have hE : checkN e = 6 := by unfold checkN; rw [if_neg h3, if_neg h22, if_pos h33]
        rw [hE]
        refine W.reg ?_
        refine XOps.s rfl rfl rfl (Q.assign_d rfl) ?_
        refine XOps.nil ?_
        refine W.ret ?_
        exact ⟨_, hs, rfl, HLe.skip _ (HLe.refl _), rfl, rfl⟩
      · try simp only [Bool.or_eq_true, Bool.or_eq_false_iff, Bool.and_eq_true, Bool.and_eq_false_iff, decide_eq_true_eq, decide_eq_false_iff_not, Bool.not_eq_true', Bool.not_eq_false', Int.not_lt, Int.not_le, List.length_map] at hc33
        have h33 : ¬ (e.kind.size = 0 ∨ lowS e.kind = false) := by
          obtain ⟨ha, hb⟩ := hc33
          rintro (h | h)
          · have h4 : e.kind = ⟨#[]⟩ := bl_inj (List.eq_nil_of_length_eq_zero (by rw [bl_len]; exact h))
            have ha2 : seq e.kind ⟨#[]⟩ = false := ha
            rw [h4, seq_refl] at ha2; cases ha2
          · rw [← trim_low] at h
            have hb2 : seq (bs (Lib.trimS (bl e.kind) (bl abcS))) ⟨#[]⟩ = true := hb
            rw [h] at hb2; cases hb2
        have hE : checkN e = 0 := by unfold checkN; rw [if_neg h3, if_neg h22, if_neg h33]
        rw [hE]
        refine W.skip ?_
        refine W.reg ?_
        refine XOps.s rfl rfl rfl (Q.assign_d rfl) ?_
        refine XOps.nil ?_
        refine W.ret ?_
        exact ⟨_, hs, rfl, HLe.skip _ (HLe.refl _), rfl, rfl⟩

set_option maxHeartbeats 4000000 in
set_option maxRecDepth 100000 in
theorem enc_c (e : EN) (gd : Nat) (hs : Hp) (h1 : e.kind.size ≤ 140737488355000) (h2 : e.text.size ≤ 140737488355000) : AC P 10 [.d (.agg e.enc)] ((gd, p10G) :: hs) (fun r h => r = .tup [.d (.str (encV e)), .d (.int .i64 (checkN e))] ∧ h = (gd, p10G) :: hs) := by
  refine AC.of 40 Tryd.func10 rfl rfl rfl ?_
  refine W.reg ?_
  refine XOps.loud rfl (L.boxn rfl rfl) ?_
  rintro _ _ ⟨b1, rfl, rfl⟩
  refine XOps.s rfl rfl rfl (Q.assign_d rfl) ?_
  refine XOps.s rfl rfl rfl (Q.assign_d rfl) ?_
  refine XOps.nil ?_
  refine W.seq ?_
  refine W.reg ?_
  refine XOps.s rfl rfl rfl (Q.ld_ptrn (k := 0) ag23 rfl rfl rfl) ?_
  refine XOps.s rfl rfl rfl (Q.call rfl Tryd.func20 go20 rfl (chk_c e _ h1 h2)) ?_
  refine XOps.s rfl rfl rfl (Q.assign_d rfl) ?_
  refine XOps.nil ?_
  refine W.reg ?_
  refine XOps.s rfl rfl rfl (Q.move_d rfl) ?_
  refine XOps.s rfl rfl rfl (Q.neq rfl rfl) ?_
  refine XOps.nil ?_
  refine W.cond rfl (fun hc9 => ?_) (fun hc9 => ?_)
  · try simp only [Bool.or_eq_true, Bool.or_eq_false_iff, Bool.and_eq_true, Bool.and_eq_false_iff, decide_eq_true_eq, decide_eq_false_iff_not, Bool.not_eq_true', Bool.not_eq_false', Int.not_lt, Int.not_le, List.length_map] at hc9
    have h9 : checkN e ≠ 0 := by first | exact hc9 | (simpa using hc9)
    have hV : encV e = ⟨#[]⟩ := if_pos h9
    rw [hV]
    refine W.reg ?_
    refine XOps.s rfl rfl rfl (Q.move_d rfl) ?_
    refine XOps.s rfl rfl rfl (Q.assign_d rfl) ?_
    refine XOps.s rfl rfl rfl (Q.assign_d rfl) ?_
    refine XOps.nil ?_
    refine W.ret ?_
    exact ⟨_, (gd, p10G) :: hs, rfl, HLe.skip _ (HLe.refl _), rfl, rfl⟩
  · try simp only [Bool.or_eq_true, Bool.or_eq_false_iff, Bool.and_eq_true, Bool.and_eq_false_iff, decide_eq_true_eq, decide_eq_false_iff_not, Bool.not_eq_true', Bool.not_eq_false', Int.not_lt, Int.not_le, List.length_map] at hc9
    have h9 : checkN e = 0 := by first | exact hc9 | (simpa using hc9)
    have ok := checkN_zero.1 h9
    have ok1 := ok.num
    have ok2 := ok.tm
    have ok3 := ok.text
    have ok4 := ok.kind
    have hbl := body_len ok
    have hsm := sumV_lt (bodyB e)
    have z1 : (bs (decL e.num.toNat)).size ≤ 3 := by rw [bs_size]; exact decL_len _ 2 (by omega)
    have z2 : (bs (decL e.tm.toNat)).size ≤ 6 := by rw [bs_size]; exact decL_len _ 5 (by omega)
    have z3 : (bs (decL (((e.text.size : Nat) : Int)).toNat)).size ≤ 3 := by rw [bs_size]; exact decL_len _ 2 (by omega)
    have z4 : (bs (decL (((sumV (bl (bs (bodyB e))) : Nat) : Int)).toNat)).size ≤ 5 := by rw [bs_size, bl_bs]; exact decL_len _ 4 (by omega)
    have y1 : (⟨#[32]⟩ : ByteArray).size = 1 := rfl
    have y2 : (⟨#[58]⟩ : ByteArray).size = 1 := rfl
    have y3 : (⟨#[59]⟩ : ByteArray).size = 1 := rfl
    have y4 : (⟨#[10]⟩ : ByteArray).size = 1 := rfl
    have y5 : (bs (bodyB e)).size ≤ 146 := by rw [bs_size]; exact hbl
    have hsm2 : sumV (bl (bs (bodyB e))) < 62000 := hsm
    have hbs := body_str e
    refine W.skip ?_
    refine W.drawTreg 22 [2, 6, 16] follows (by kernel_rfl) (by decide) ?_
    apply DT.moreC [.new, .new, .now, .later, .new, .new, .later, .later, .later, .new, .new, .later, .later, .new, .new, .new, .later, .later, .later, .new, .new, .later] (by kernel_rfl)
    refine PC.new _ rfl (GQ.q rfl (Q.fld_ptr fl23_0 rfl)) rfl ?_
    refine PC.new _ rfl (GQ.q rfl (Q.ld_ptr (k := 0) ag3 rfl rfl rfl)) rfl ?_
    refine PC.now rfl rfl (fun τ => Loud.to (L.call rfl Tryd.func21 go21 rfl (AC.le (itoa_c e.num gd ((b1, .cells (e.enc.map .d)) :: hs) (by omega) (by omega)) (HLe.pick 1 rfl rfl (HLe.refl _))) rfl) (fun _ _ ⟨r, h1, h2⟩ => ⟨r, h1, _, h2, rfl⟩)) ?_
    refine PC.later rfl ?_
    refine PC.new _ rfl (GQ.q rfl (Q.fld_ptr fl23_1 rfl)) rfl ?_
    refine PC.new _ rfl (GQ.q rfl (Q.ld_ptr (k := 0) ag3 rfl rfl rfl)) rfl ?_
    refine PC.later rfl ?_
    refine PC.later rfl ?_
    refine PC.later rfl ?_
    refine PC.new _ rfl (GQ.q rfl (Q.fld_ptr fl23_2 rfl)) rfl ?_
    refine PC.new _ rfl (GQ.q rfl (Q.ld_ptr (k := 0) ag9 rfl rfl rfl)) rfl ?_
    refine PC.later rfl ?_
    refine PC.later rfl ?_
    refine PC.new _ rfl (GQ.q rfl (Q.fld_ptr fl23_3 rfl)) rfl ?_
    refine PC.new _ rfl (GQ.q rfl (Q.ld_ptr (k := 0) ag9 rfl rfl rfl)) rfl ?_
    refine PC.new _ rfl (GQ.q rfl (Q.len_str ist9 rfl)) rfl ?_
    refine PC.later rfl ?_
    refine PC.later rfl ?_
    refine PC.later rfl ?_
    refine PC.new _ rfl (GQ.q rfl (Q.fld_ptr fl23_3 rfl)) rfl ?_
    refine PC.new _ rfl (GQ.q rfl (Q.ld_ptr (k := 0) ag9 rfl rfl rfl)) rfl ?_
    refine PC.later rfl ?_
    refine PC.nil ?_
    rintro _ _ ⟨_, ⟨rfl, rfl⟩, rfl⟩
    apply DT.moreC [.did, .did, .did, .new, .old, .old, .now, .later, .later, .old, .old, .later, .later, .old, .old, .old, .later, .later, .later, .old, .old, .later] (by kernel_rfl)
    refine PC.did rfl ?_
    refine PC.did rfl ?_
    refine PC.did rfl ?_
    refine PC.new _ rfl (GQ.q rfl (Q.adds rfl rfl (by first | omega | (simp only [ByteArray.size_append]; omega)))) rfl ?_
    refine PC.old rfl (GQ.q rfl (Q.fld_ptr fl23_1 rfl)) rfl ?_
    refine PC.old rfl (GQ.q rfl (Q.ld_ptr (k := 1) ag3 rfl rfl rfl)) rfl ?_
    refine PC.now rfl rfl (fun τ => Loud.to (L.call rfl Tryd.func21 go21 rfl (itoa_c e.tm gd ((b1, .cells (e.enc.map .d)) :: hs) (by omega) (by omega)) rfl) (fun _ _ ⟨r, h1, h2⟩ => ⟨r, h1, _, h2, rfl⟩)) ?_
    refine PC.later rfl ?_
    refine PC.later rfl ?_
    refine PC.old rfl (GQ.q rfl (Q.fld_ptr fl23_2 rfl)) rfl ?_
    refine PC.old rfl (GQ.q rfl (Q.ld_ptr (k := 1) ag9 rfl rfl rfl)) rfl ?_
    refine PC.later rfl ?_
    refine PC.later rfl ?_
    refine PC.old rfl (GQ.q rfl (Q.fld_ptr fl23_3 rfl)) rfl ?_
    refine PC.old rfl (GQ.q rfl (Q.ld_ptr (k := 1) ag9 rfl rfl rfl)) rfl ?_
    refine PC.old rfl (GQ.q rfl (Q.len_str ist9 rfl)) rfl ?_
    refine PC.later rfl ?_
    refine PC.later rfl ?_
    refine PC.later rfl ?_
    refine PC.old rfl (GQ.q rfl (Q.fld_ptr fl23_3 rfl)) rfl ?_
    refine PC.old rfl (GQ.q rfl (Q.ld_ptr (k := 1) ag9 rfl rfl rfl)) rfl ?_
    refine PC.later rfl ?_
    refine PC.nil ?_
    rintro _ _ ⟨_, ⟨rfl, rfl⟩, rfl⟩
    apply DT.moreC [.did, .did, .did, .old, .did, .did, .did, .new, .new, .old, .old, .new, .new, .old, .old, .old, .now, .later, .later, .old, .old, .later] (by kernel_rfl)
    refine PC.did rfl ?_
    refine PC.did rfl ?_
    refine PC.did rfl ?_
    refine PC.old rfl (GQ.q rfl (Q.adds rfl rfl (by first | omega | (simp only [ByteArray.size_append]; omega)))) rfl ?_
    refine PC.did rfl ?_
    refine PC.did rfl ?_
    refine PC.did rfl ?_
    refine PC.new _ rfl (GQ.q rfl (Q.adds rfl rfl (by first | omega | (simp only [ByteArray.size_append]; omega)))) rfl ?_
    refine PC.new _ rfl (GQ.q rfl (Q.adds rfl rfl (by first | omega | (simp only [ByteArray.size_append]; omega)))) rfl ?_
    refine PC.old rfl (GQ.q rfl (Q.fld_ptr fl23_2 rfl)) rfl ?_
    refine PC.old rfl (GQ.q rfl (Q.ld_ptr (k := 1) ag9 rfl rfl rfl)) rfl ?_
    refine PC.new _ rfl (GQ.q rfl (Q.adds rfl rfl (by first | omega | (simp only [ByteArray.size_append]; omega)))) rfl ?_
    refine PC.new _ rfl (GQ.q rfl (Q.adds rfl rfl (by first | omega | (simp only [ByteArray.size_append]; omega)))) rfl ?_
    refine PC.old rfl (GQ.q rfl (Q.fld_ptr fl23_3 rfl)) rfl ?_
    refine PC.old rfl (GQ.q rfl (Q.ld_ptr (k := 1) ag9 rfl rfl rfl)) rfl ?_
    refine PC.old rfl (GQ.q rfl (Q.len_str ist9 rfl)) rfl ?_
    refine PC.now rfl rfl (fun τ => Loud.to (L.call rfl Tryd.func21 go21 rfl (itoa_c (e.text.size : Nat) gd ((b1, .cells (e.enc.map .d)) :: hs) (by omega) (by omega)) rfl) (fun _ _ ⟨r, h1, h2⟩ => ⟨r, h1, _, h2, rfl⟩)) ?_
    refine PC.later rfl ?_
    refine PC.later rfl ?_
    refine PC.old rfl (GQ.q rfl (Q.fld_ptr fl23_3 rfl)) rfl ?_
    refine PC.old rfl (GQ.q rfl (Q.ld_ptr (k := 1) ag9 rfl rfl rfl)) rfl ?_
    refine PC.later rfl ?_
    refine PC.nil ?_
    rintro _ _ ⟨_, ⟨rfl, rfl⟩, rfl⟩
    refine DT.last [.did, .did, .did, .old, .did, .did, .did, .old, .old, .old, .old, .old, .old, .did, .did, .did, .did, .new, .new, .old, .old, .new] (by kernel_rfl) ?_
    refine PC.did rfl ?_
    refine PC.did rfl ?_
    refine PC.did rfl ?_
    refine PC.old rfl (GQ.q rfl (Q.adds rfl rfl (by first | omega | (simp only [ByteArray.size_append]; omega)))) rfl ?_
    refine PC.did rfl ?_
    refine PC.did rfl ?_
    refine PC.did rfl ?_
    refine PC.old rfl (GQ.q rfl (Q.adds rfl rfl (by first | omega | (simp only [ByteArray.size_append]; omega)))) rfl ?_
    refine PC.old rfl (GQ.q rfl (Q.adds rfl rfl (by first | omega | (simp only [ByteArray.size_append]; omega)))) rfl ?_
    refine PC.old rfl (GQ.q rfl (Q.fld_ptr fl23_2 rfl)) rfl ?_
    refine PC.old rfl (GQ.q rfl (Q.ld_ptr (k := 1) ag9 rfl rfl rfl)) rfl ?_
    refine PC.old rfl (GQ.q rfl (Q.adds rfl rfl (by first | omega | (simp only [ByteArray.size_append]; omega)))) rfl ?_
    refine PC.old rfl (GQ.q rfl (Q.adds rfl rfl (by first | omega | (simp only [ByteArray.size_append]; omega)))) rfl ?_
    refine PC.did rfl ?_
    refine PC.did rfl ?_
    refine PC.did rfl ?_
    refine PC.did rfl ?_
    refine PC.new _ rfl (GQ.q rfl (Q.adds rfl rfl (by first | omega | (simp only [ByteArray.size_append]; omega)))) rfl ?_
    refine PC.new _ rfl (GQ.q rfl (Q.adds rfl rfl (by first | omega | (simp only [ByteArray.size_append]; omega)))) rfl ?_
    refine PC.old rfl (GQ.q rfl (Q.fld_ptr fl23_3 rfl)) rfl ?_
    refine PC.old rfl (GQ.q rfl (Q.ld_ptr (k := 1) ag9 rfl rfl rfl)) rfl ?_
    refine PC.new _ rfl (GQ.q rfl (Q.adds rfl rfl (by first | omega | (simp only [ByteArray.size_append]; omega)))) rfl ?_
    refine PC.nil ?_
    refine XOps.s rfl rfl rfl (Q.assign_d rfl) ?_
    refine XOps.nil ?_
    rw [Int.toNat_natCast, hbs]
    refine W.reg ?_
    refine XOps.s rfl rfl rfl (Q.move_d rfl) ?_
    refine XOps.s rfl rfl rfl (Q.adds rfl rfl (by first | omega | (simp only [ByteArray.size_append]; omega))) ?_
    refine XOps.s rfl rfl rfl (Q.move_d rfl) ?_
    refine XOps.s rfl rfl rfl (Q.call rfl Tryd.func22 go22 rfl (sum_c (bs (bodyB e)) _ (by rw [bs_size]; omega))) ?_
    (refine XOps.loud rfl (L.call rfl Tryd.func21 go21 rfl (itoa_c (sumV (bl (bs (bodyB e))) : Nat) gd ((b1, .cells (e.enc.map .d)) :: hs) (by omega) (by omega)) rfl) ?_; rintro _ _ ⟨_, rfl, rfl, rfl⟩)
    refine XOps.s rfl rfl rfl (Q.adds rfl rfl (by first | omega | (simp only [ByteArray.size_append]; omega))) ?_
    refine XOps.s rfl rfl rfl (Q.adds rfl rfl (by first | omega | (simp only [ByteArray.size_append]; omega))) ?_
    refine XOps.s rfl rfl rfl (Q.assign_d rfl) ?_
    refine XOps.s rfl rfl rfl (Q.assign_d rfl) ?_
    refine XOps.nil ?_
    refine W.ret ?_
    (refine ⟨_, (gd, p10G) :: hs, rfl, HLe.cons _ (HLe.skip _ (HLe.refl _)), ?_, rfl⟩; rw [h9, ← enc_str e h9]; rfl)
end Go.Proofs.YtldkkoecehdicaaDoorA
