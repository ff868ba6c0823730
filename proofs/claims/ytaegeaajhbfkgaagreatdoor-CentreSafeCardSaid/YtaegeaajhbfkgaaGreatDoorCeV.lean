/- Centres: a step. -/
import Derived.Test.YtaegeaajhbfkgaaGreatDoorFrB
import Derived.Test.YtaegeaajhbfkgaaGreatDoorCeP
import Derived.Test.YtaegeaajhbfkgaaGreatDoorCeQ
import Derived.Test.YtaegeaajhbfkgaaGreatDoorCeT
import Derived.Test.YtaegeaajhbfkgaaGreatDoorCen7
import Derived.Test.YtaegeaajhbfkgaaGreatDoorCeS
set_option linter.unusedVariables false
set_option linter.unusedSimpArgs false
set_option linter.unnecessarySimpa false
namespace Go.Proofs.YtaegeaajhbfkgaaGreatDoorA.FCeV
open Go
theorem ag3 : tAgg P 3 = some ((false, 1)) := by kernel_rfl
theorem ag35 : tAgg P 35 = some ((true, 9)) := by kernel_rfl
theorem ag81 : tAgg P 81 = some ((false, 1)) := by kernel_rfl
theorem ag9 : tAgg P 9 = some ((false, 1)) := by kernel_rfl
theorem ar106 : tArr P 106 = some ((7, 1)) := by kernel_rfl
theorem fl35_0 : tFld P 35 0 = some (0) := by kernel_rfl
theorem fl35_1 : tFld P 35 1 = some (1) := by kernel_rfl
theorem fl35_2 : tFld P 35 2 = some (2) := by kernel_rfl
theorem fl83_1 : tFld P 83 1 = some (18) := by kernel_rfl
theorem fl83_4 : tFld P 83 4 = some (21) := by kernel_rfl
theorem go54 : callGo Go.Proofs.Tryz.f54 = true := by kernel_rfl
theorem go57 : callGo Go.Proofs.Tryz.f57 = true := by kernel_rfl
theorem go58 : callGo Go.Proofs.Tryz.f58 = true := by kernel_rfl
theorem go59 : callGo Go.Proofs.Tryz.f59 = true := by kernel_rfl
theorem go60 : callGo Go.Proofs.Tryz.f60 = true := by kernel_rfl
theorem go61 : callGo Go.Proofs.Tryz.f61 = true := by kernel_rfl
theorem go62 : callGo Go.Proofs.Tryz.f62 = true := by kernel_rfl
theorem isl66 : isSl P 66 = true := by kernel_rfl
end Go.Proofs.YtaegeaajhbfkgaaGreatDoorA.FCeV
namespace Go.Proofs.YtaegeaajhbfkgaaGreatDoorA
open Go FCeV
attribute [local irreducible] XOps Quiet Loud W AC GQ DT
abbrev kiT : List Value := kindsL.map Value.string
abbrev kiG : HO := .glob 0 kiT
theorem kiT_d : cellsD kiT = some (kindsL.map D.str) := rfl
theorem kind_at {k : Int} (h0 : 0 ≤ k) (h1 : k < 7) : ((kindsL.map D.str).drop (k.toNat * 1))[0]? = some (.str (kindS k)) := by
  obtain ⟨n, rfl⟩ := Int.eq_ofNat_of_zero_le h0
  rcases (show n = 0 ∨ n = 1 ∨ n = 2 ∨ n = 3 ∨ n = 4 ∨ n = 5 ∨ n = 6 by omega) with rfl | rfl | rfl | rfl | rfl | rfl | rfl <;> rfl
def ceH (su : Su) (s : Stt) (b lb f gk gd : Nat) (hs : Hp) : Hp := (b, .cells (ceC su s.tm s.fl s.ow lb)) :: (gk, kiG) :: (gd, p10G) :: reH lb s.lg f hs
theorem from400 {l : List EN} (h : l.length ≤ 400) : (0 : Int) < ((fromL l 400).length : Nat) ↔ 400 ≤ l.length := by
  unfold fromL; simp; omega
set_option maxHeartbeats 8000000 in
set_option maxRecDepth 100000 in
theorem step_c (su : Su) (s : Stt) (x : CI) (b lb f gk gd : Nat) (hs : Hp) (o : StOk su s) (zc : x.call.size ≤ 4611686018427387904) (zb : x.by_.size ≤ 4611686018427387904) (zo : x.to_.size ≤ 4611686018427387904) (zt : x.tube.length ≤ 4611686018427387904) : AC P 36 [.ptr b 0, .d (.agg x.enc)] (ceH su s b lb f gk gd hs) (fun r h => ∃ f2, r = .d (.int .i64 (stepE su s x)) ∧ h = ceH su (stepS su s x) b lb f2 gk gd hs) := by
  have hln := o.ln
  unfold ceH
  refine AC.of 83 Tryz.func36 rfl rfl rfl ?_
  refine W.reg ?_
  refine XOps.loud rfl (L.boxn rfl rfl) ?_
  rintro _ _ ⟨b3, rfl, rfl⟩
  refine XOps.s rfl rfl rfl (Q.assign_d rfl) ?_
  refine XOps.nil ?_
  refine W.seq ?_
  refine W.block ?_
  refine W.reg ?_
  refine XOps.s rfl rfl rfl (Q.fld_ptr fl35_0 rfl) ?_
  refine XOps.s rfl rfl rfl (Q.ld_ptr (k := 0) ag3 rfl rfl rfl) ?_
  refine XOps.s rfl rfl rfl (Q.lss rfl rfl) ?_
  refine XOps.s rfl rfl rfl (Q.move_d rfl) ?_
  refine XOps.gs rfl rfl rfl rfl rfl rfl rfl (fun hg => Q.fld_ptr fl35_0 rfl) ?_
  refine XOps.gs rfl rfl rfl rfl rfl rfl rfl (fun hg => Quiet.open 11 hg rfl (Q.ld_ptr (k := 0) ag3 rfl rfl rfl)) ?_
  refine XOps.gs rfl rfl rfl rfl rfl rfl rfl (fun hg => Quiet.open 12 hg rfl (Q.geq rfl rfl)) ?_
  refine XOps.s rfl rfl rfl (Q.pick_or rfl rfl rfl (fun h => by first | (rw [h]; rfl) | (rw [hg, h]; rfl) | (simp [h, hg]; done))) ?_
  refine XOps.s rfl rfl rfl (Q.assign_d rfl) ?_
  refine XOps.nil ?_
  refine W.cond rfl (fun hc6 => ?_) (fun hc6 => ?_)
  · try simp only [Bool.or_eq_true, Bool.or_eq_false_iff, Bool.and_eq_true, Bool.and_eq_false_iff, decide_eq_true_eq, decide_eq_false_iff_not, Bool.not_eq_true', Bool.not_eq_false', Int.not_lt, Int.not_le, List.length_map] at hc6
    have hp : preE s x = 1 := by unfold preE; rw [if_pos (by omega)]
    have hSE : stepE su s x = 1 := by unfold stepE; rw [hp, if_pos (by omega)]
    have hSS : stepS su s x = s := stepS_no (by rw [hSE]; omega)
    rw [hSE, hSS]
    refine W.reg ?_
    refine XOps.s rfl rfl rfl (Q.assign_d rfl) ?_
    refine XOps.nil ?_
    refine W.ret ?_
    exact ⟨_, ceH su s b lb f gk gd hs, rfl, HLe.skip _ (HLe.refl _), f, rfl, rfl⟩
  · try simp only [Bool.or_eq_true, Bool.or_eq_false_iff, Bool.and_eq_true, Bool.and_eq_false_iff, decide_eq_true_eq, decide_eq_false_iff_not, Bool.not_eq_true', Bool.not_eq_false', Int.not_lt, Int.not_le, List.length_map] at hc6
    have h6 : ¬ (x.kind < 0 ∨ 7 ≤ x.kind) := by omega
    refine W.drawreg 13 follows (by kernel_rfl) ?_
    refine Chain.cons _ (GQ.q rfl (Q.fld_ptr fl35_1 rfl)) rfl ?_
    refine Chain.cons _ (GQ.q rfl (Q.ld_ptr (k := 0) ag3 rfl rfl rfl)) rfl ?_
    refine Chain.cons _ (GQ.q rfl (Q.move_ptr rfl)) rfl ?_
    refine Chain.cons _ (GQ.q rfl (Q.nil_ptr rfl)) rfl ?_
    refine Chain.cons _ (GQ.q rfl (Q.fld_ptr fl83_1 rfl)) rfl ?_
    refine Chain.cons _ (GQ.q rfl (Q.ld_ptr (k := 1) ag3 rfl rfl rfl)) rfl ?_
    refine Chain.cons _ (GQ.q rfl (Q.lss rfl rfl)) rfl ?_
    refine Chain.cons _ (GQ.q rfl (Q.move_d rfl)) rfl ?_
    refine Chain.cons _ (GQ.g rfl rfl rfl rfl rfl (fun hg => Q.fld_ptr fl35_1 rfl)) rfl ?_
    refine Chain.cons _ (GQ.g rfl rfl rfl rfl rfl (fun hg => Quiet.open 24 hg rfl (Q.ld_ptr (k := 0) ag3 rfl rfl rfl))) rfl ?_
    refine Chain.cons _ (GQ.g rfl rfl rfl rfl rfl (fun hg => Quiet.open 25 hg rfl (Q.gtr rfl rfl))) rfl ?_
    refine Chain.cons _ (GQ.q rfl (Q.pick_or rfl rfl rfl (fun h => by first | (rw [h]; rfl) | (rw [hg, h]; rfl) | (simp [h, hg]; done)))) rfl ?_
    refine Chain.cons _ (GQ.q rfl (Q.assign_d rfl)) rfl ?_
    refine Chain.nil ?_
    refine XOps.nil ?_
    refine W.cond rfl (fun hc15 => ?_) (fun hc15 => ?_)
    · try simp only [Bool.or_eq_true, Bool.or_eq_false_iff, Bool.and_eq_true, Bool.and_eq_false_iff, decide_eq_true_eq, decide_eq_false_iff_not, Bool.not_eq_true', Bool.not_eq_false', Int.not_lt, Int.not_le, List.length_map] at hc15
      have hp : preE s x = 12 := by unfold preE; rw [if_neg h6, if_pos (by omega)]
      have hSE : stepE su s x = 12 := by unfold stepE; rw [hp, if_pos (by omega)]
      have hSS : stepS su s x = s := stepS_no (by rw [hSE]; omega)
      rw [hSE, hSS]
      refine W.reg ?_
      refine XOps.s rfl rfl rfl (Q.assign_d rfl) ?_
      refine XOps.nil ?_
      refine W.ret ?_
      exact ⟨_, ceH su s b lb f gk gd hs, rfl, HLe.skip _ (HLe.refl _), f, rfl, rfl⟩
    · try simp only [Bool.or_eq_true, Bool.or_eq_false_iff, Bool.and_eq_true, Bool.and_eq_false_iff, decide_eq_true_eq, decide_eq_false_iff_not, Bool.not_eq_true', Bool.not_eq_false', Int.not_lt, Int.not_le, List.length_map] at hc15
      have h15 : ¬ (x.time < s.tm ∨ 200000 < x.time) := by omega
      refine W.reg ?_
      refine XOps.s rfl rfl rfl (Q.move_ptr rfl) ?_
      refine XOps.s rfl rfl rfl (Q.nil_ptr rfl) ?_
      refine XOps.s rfl rfl rfl (Q.fld_ptr fl83_4 rfl) ?_
      refine XOps.s rfl rfl rfl (Q.ld_ptr (k := 1) ag81 rfl rfl rfl) ?_
      refine XOps.s rfl rfl rfl (Q.call rfl Tryz.func54 go54 rfl (entries_c 400 4 5 rfl rfl (by omega))) ?_
      refine XOps.s rfl rfl rfl (Q.len_sl isl66 rfl) ?_
      refine XOps.s rfl rfl rfl (Q.gtr rfl rfl) ?_
      refine XOps.s rfl rfl rfl (Q.assign_d rfl) ?_
      refine XOps.nil ?_
      refine W.cond rfl (fun hc28 => ?_) (fun hc28 => ?_)
      · try simp only [Bool.or_eq_true, Bool.or_eq_false_iff, Bool.and_eq_true, Bool.and_eq_false_iff, decide_eq_true_eq, decide_eq_false_iff_not, Bool.not_eq_true', Bool.not_eq_false', Int.not_lt, Int.not_le, List.length_map] at hc28
        have h28 := (from400 o.ln).1 hc28
        have hp : preE s x = 9 := by unfold preE; rw [if_neg h6, if_neg h15, if_pos h28]
        have hSE : stepE su s x = 9 := by unfold stepE; rw [hp, if_pos (by omega)]
        have hSS : stepS su s x = s := stepS_no (by rw [hSE]; omega)
        rw [hSE, hSS]
        refine W.reg ?_
        refine XOps.s rfl rfl rfl (Q.assign_d rfl) ?_
        refine XOps.nil ?_
        refine W.ret ?_
        exact ⟨_, ceH su s b lb f gk gd hs, rfl, HLe.skip _ (HLe.refl _), f, rfl, rfl⟩
      · try simp only [Bool.or_eq_true, Bool.or_eq_false_iff, Bool.and_eq_true, Bool.and_eq_false_iff, decide_eq_true_eq, decide_eq_false_iff_not, Bool.not_eq_true', Bool.not_eq_false', Int.not_lt, Int.not_le, List.length_map] at hc28
        have h28 : ¬ 400 ≤ s.lg.length := fun h => absurd ((from400 o.ln).2 h) (by first | exact hc28 | exact Int.not_lt.2 hc28)
        have hp : preE s x = 0 := by unfold preE; rw [if_neg h6, if_neg h15, if_neg h28]
        have k0 : 0 ≤ x.kind := by omega
        have k1 : x.kind < 7 := by omega
        refine W.skip ?_
        refine W.reg ?_
        refine XOps.s rfl rfl rfl (Q.assign_d rfl) ?_
        refine XOps.nil ?_
        refine W.seq_mid (fun σ₁ hs₁ => ∃ u : Unit, (True) ∧ ELe [(0, .ptr b 0), (3, .ptr b3 0), (5, .d (.int .i64 (opE su s x)))] σ₁ ∧ HLe ((b, .cells (ceC su s.tm (opF su s x) (opO su s x) lb)) :: (b3, .cells (x.enc.map .d)) :: (gk, kiG) :: (gd, p10G) :: reH lb s.lg f hs) hs₁) ?_ ?_
        ·
          refine W.reg ?_
          refine XOps.s rfl rfl rfl (Q.fld_ptr fl35_0 rfl) ?_
          refine XOps.s rfl rfl rfl (Q.ld_ptr (k := 0) ag3 rfl rfl rfl) ?_
          refine XOps.nil ?_
          refine W.block ?_
          refine W.reg ?_
          refine XOps.s rfl rfl rfl (Q.eql rfl rfl) ?_
          refine XOps.s rfl rfl rfl (Q.assign_d rfl) ?_
          refine XOps.nil ?_
          refine W.cond rfl (fun hc41 => ?_) (fun hc41 => ?_)
          · try simp only [Bool.or_eq_true, Bool.or_eq_false_iff, Bool.and_eq_true, Bool.and_eq_false_iff, decide_eq_true_eq, decide_eq_false_iff_not, Bool.not_eq_true', Bool.not_eq_false', Int.not_lt, Int.not_le, List.length_map] at hc41
            have h41 : x.kind = 0 := hc41
            have hE : opE su s x = fileE su s.fl s.ow x := by unfold opE; rw [if_pos h41]
            have hF : opF su s x = fileF su s.fl s.ow x := by unfold opF; rw [if_pos h41]
            have hO : opO su s x = fileO su s.fl s.ow x := by unfold opO; rw [if_pos h41]
            refine W.region ?_
            refine XOps.s rfl rfl rfl (Q.move_ptr rfl) ?_
            refine XOps.s rfl rfl rfl (Q.ld_ptrn (k := 0) ag35 rfl rfl rfl) ?_
            (refine XOps.loud rfl (L.call rfl Tryz.func57 go57 rfl (AC.le (file_c su s.tm s.fl s.ow lb b x ((b3, .cells (x.enc.map .d)) :: (gk, kiG) :: (gd, p10G) :: reH lb s.lg f hs) o.fw o.gk zc zb zt) (HLe.pick 1 rfl rfl (HLe.refl _))) rfl) ?_; rintro _ _ ⟨_, rfl, rfl, rfl⟩)
            refine XOps.s rfl rfl rfl (Q.assign_d rfl) ?_
            refine XOps.nil ?_
            rw [hE, hF, hO]
            refine ⟨(), trivial, ⟨by first | rfl | exact int_eq (by omega) | exact len_eq (by simp) | exact int_eq (by simp; done), by first | rfl | exact int_eq (by omega) | exact len_eq (by simp) | exact int_eq (by simp; done), by first | rfl | exact int_eq (by omega) | exact len_eq (by simp) | exact int_eq (by simp; done), trivial⟩, by first | exact HLe.refl _ | exact HLe.skip _ (HLe.refl _)⟩
          · try simp only [Bool.or_eq_true, Bool.or_eq_false_iff, Bool.and_eq_true, Bool.and_eq_false_iff, decide_eq_true_eq, decide_eq_false_iff_not, Bool.not_eq_true', Bool.not_eq_false', Int.not_lt, Int.not_le, List.length_map] at hc41
            have h41 : ¬ x.kind = 0 := hc41
            refine W.reg ?_
            refine XOps.s rfl rfl rfl (Q.eql rfl rfl) ?_
            refine XOps.s rfl rfl rfl (Q.assign_d rfl) ?_
            refine XOps.nil ?_
            refine W.cond rfl (fun hc46 => ?_) (fun hc46 => ?_)
            · try simp only [Bool.or_eq_true, Bool.or_eq_false_iff, Bool.and_eq_true, Bool.and_eq_false_iff, decide_eq_true_eq, decide_eq_false_iff_not, Bool.not_eq_true', Bool.not_eq_false', Int.not_lt, Int.not_le, List.length_map] at hc46
              have h46 : x.kind = 3 := hc46
              have hE : opE su s x = clrE su s.fl s.ow x := by unfold opE; rw [if_neg h41, if_pos h46]
              have hF : opF su s x = clrF su s.fl s.ow x := by unfold opF; rw [if_neg h41, if_pos h46]
              have hO : opO su s x = s.ow := by unfold opO; rw [if_neg h41, if_pos h46]
              refine W.region ?_
              refine XOps.s rfl rfl rfl (Q.move_ptr rfl) ?_
              refine XOps.s rfl rfl rfl (Q.ld_ptrn (k := 0) ag35 rfl rfl rfl) ?_
              (refine XOps.loud rfl (L.call rfl Tryz.func58 go58 rfl (AC.le (clr_c su s.tm s.fl s.ow lb b x ((b3, .cells (x.enc.map .d)) :: (gk, kiG) :: (gd, p10G) :: reH lb s.lg f hs) o.fw o.gk zt) (HLe.pick 1 rfl rfl (HLe.refl _))) rfl) ?_; rintro _ _ ⟨_, rfl, rfl, rfl⟩)
              refine XOps.s rfl rfl rfl (Q.assign_d rfl) ?_
              refine XOps.nil ?_
              rw [hE, hF, hO]
              refine ⟨(), trivial, ⟨by first | rfl | exact int_eq (by omega) | exact len_eq (by simp) | exact int_eq (by simp; done), by first | rfl | exact int_eq (by omega) | exact len_eq (by simp) | exact int_eq (by simp; done), by first | rfl | exact int_eq (by omega) | exact len_eq (by simp) | exact int_eq (by simp; done), trivial⟩, by first | exact HLe.refl _ | exact HLe.skip _ (HLe.refl _)⟩
            · try simp only [Bool.or_eq_true, Bool.or_eq_false_iff, Bool.and_eq_true, Bool.and_eq_false_iff, decide_eq_true_eq, decide_eq_false_iff_not, Bool.not_eq_true', Bool.not_eq_false', Int.not_lt, Int.not_le, List.length_map] at hc46
              have h46 : ¬ x.kind = 3 := hc46
              refine W.seq ?_
              refine W.reg ?_
              refine XOps.s rfl rfl rfl (Q.eql rfl rfl) ?_
              refine XOps.s rfl rfl rfl (Q.assign_d rfl) ?_
              refine XOps.nil ?_
              refine W.cond rfl (fun hc51 => ?_) (fun hc51 => ?_)
              · try simp only [Bool.or_eq_true, Bool.or_eq_false_iff, Bool.and_eq_true, Bool.and_eq_false_iff, decide_eq_true_eq, decide_eq_false_iff_not, Bool.not_eq_true', Bool.not_eq_false', Int.not_lt, Int.not_le, List.length_map] at hc51
                have h51a := hc51
                refine W.skip ?_
                refine W.cond rfl (fun hc51 => ?_) (fun hc51 => ?_)
                · try simp only [Bool.or_eq_true, Bool.or_eq_false_iff, Bool.and_eq_true, Bool.and_eq_false_iff, decide_eq_true_eq, decide_eq_false_iff_not, Bool.not_eq_true', Bool.not_eq_false', Int.not_lt, Int.not_le, List.length_map] at hc51
                  have hE : opE su s x = redE s.fl x := by unfold opE; rw [if_neg h41, if_neg h46, if_pos (.inl h51a)]
                  have hF : opF su s x = redF s.fl x := by unfold opF; rw [if_neg h41, if_neg h46, if_pos (.inl h51a)]
                  have hO : opO su s x = s.ow := by unfold opO; rw [if_neg h41, if_neg h46, if_pos (.inl h51a)]
                  refine W.region ?_
                  refine XOps.s rfl rfl rfl (Q.move_ptr rfl) ?_
                  refine XOps.s rfl rfl rfl (Q.ld_ptrn (k := 0) ag35 rfl rfl rfl) ?_
                  (refine XOps.loud rfl (L.call rfl Tryz.func59 go59 rfl (AC.le (red_c su s.tm s.fl s.ow lb b x ((b3, .cells (x.enc.map .d)) :: (gk, kiG) :: (gd, p10G) :: reH lb s.lg f hs) o.fw ) (HLe.pick 1 rfl rfl (HLe.refl _))) rfl) ?_; rintro _ _ ⟨_, rfl, rfl, rfl⟩)
                  refine XOps.s rfl rfl rfl (Q.assign_d rfl) ?_
                  refine XOps.nil ?_
                  rw [hE, hF, hO]
                  refine ⟨(), trivial, ⟨by first | rfl | exact int_eq (by omega) | exact len_eq (by simp) | exact int_eq (by simp; done), by first | rfl | exact int_eq (by omega) | exact len_eq (by simp) | exact int_eq (by simp; done), by first | rfl | exact int_eq (by omega) | exact len_eq (by simp) | exact int_eq (by simp; done), trivial⟩, by first | exact HLe.refl _ | exact HLe.skip _ (HLe.refl _)⟩
                · try simp only [Bool.or_eq_true, Bool.or_eq_false_iff, Bool.and_eq_true, Bool.and_eq_false_iff, decide_eq_true_eq, decide_eq_false_iff_not, Bool.not_eq_true', Bool.not_eq_false', Int.not_lt, Int.not_le, List.length_map] at hc51
                  exact absurd h51a hc51
              · try simp only [Bool.or_eq_true, Bool.or_eq_false_iff, Bool.and_eq_true, Bool.and_eq_false_iff, decide_eq_true_eq, decide_eq_false_iff_not, Bool.not_eq_true', Bool.not_eq_false', Int.not_lt, Int.not_le, List.length_map] at hc51
                have h51a := hc51
                refine W.region ?_
                refine XOps.s rfl rfl rfl (Q.eql rfl rfl) ?_
                refine XOps.s rfl rfl rfl (Q.assign_d rfl) ?_
                refine XOps.nil ?_
                refine W.cond rfl (fun hc51 => ?_) (fun hc51 => ?_)
                · try simp only [Bool.or_eq_true, Bool.or_eq_false_iff, Bool.and_eq_true, Bool.and_eq_false_iff, decide_eq_true_eq, decide_eq_false_iff_not, Bool.not_eq_true', Bool.not_eq_false', Int.not_lt, Int.not_le, List.length_map] at hc51
                  have hE : opE su s x = redE s.fl x := by unfold opE; rw [if_neg h41, if_neg h46, if_pos (.inr hc51)]
                  have hF : opF su s x = redF s.fl x := by unfold opF; rw [if_neg h41, if_neg h46, if_pos (.inr hc51)]
                  have hO : opO su s x = s.ow := by unfold opO; rw [if_neg h41, if_neg h46, if_pos (.inr hc51)]
                  refine W.region ?_
                  refine XOps.s rfl rfl rfl (Q.move_ptr rfl) ?_
                  refine XOps.s rfl rfl rfl (Q.ld_ptrn (k := 0) ag35 rfl rfl rfl) ?_
                  (refine XOps.loud rfl (L.call rfl Tryz.func59 go59 rfl (AC.le (red_c su s.tm s.fl s.ow lb b x ((b3, .cells (x.enc.map .d)) :: (gk, kiG) :: (gd, p10G) :: reH lb s.lg f hs) o.fw ) (HLe.pick 1 rfl rfl (HLe.refl _))) rfl) ?_; rintro _ _ ⟨_, rfl, rfl, rfl⟩)
                  refine XOps.s rfl rfl rfl (Q.assign_d rfl) ?_
                  refine XOps.nil ?_
                  rw [hE, hF, hO]
                  refine ⟨(), trivial, ⟨by first | rfl | exact int_eq (by omega) | exact len_eq (by simp) | exact int_eq (by simp; done), by first | rfl | exact int_eq (by omega) | exact len_eq (by simp) | exact int_eq (by simp; done), by first | rfl | exact int_eq (by omega) | exact len_eq (by simp) | exact int_eq (by simp; done), trivial⟩, by first | exact HLe.refl _ | exact HLe.skip _ (HLe.refl _)⟩
                · try simp only [Bool.or_eq_true, Bool.or_eq_false_iff, Bool.and_eq_true, Bool.and_eq_false_iff, decide_eq_true_eq, decide_eq_false_iff_not, Bool.not_eq_true', Bool.not_eq_false', Int.not_lt, Int.not_le, List.length_map] at hc51
                  have h51 : ¬ (x.kind = 4 ∨ x.kind = 5) := by omega
                  refine W.reg ?_
                  refine XOps.s rfl rfl rfl (Q.eql rfl rfl) ?_
                  refine XOps.s rfl rfl rfl (Q.assign_d rfl) ?_
                  refine XOps.nil ?_
                  refine W.cond rfl (fun hc57 => ?_) (fun hc57 => ?_)
                  · try simp only [Bool.or_eq_true, Bool.or_eq_false_iff, Bool.and_eq_true, Bool.and_eq_false_iff, decide_eq_true_eq, decide_eq_false_iff_not, Bool.not_eq_true', Bool.not_eq_false', Int.not_lt, Int.not_le, List.length_map] at hc57
                    have h57 : x.kind = 6 := hc57
                    have hE : opE su s x = finE s.fl s.ow x := by unfold opE; rw [if_neg h41, if_neg h46, if_neg h51, if_pos h57]
                    have hF : opF su s x = finF s.fl s.ow x := by unfold opF; rw [if_neg h41, if_neg h46, if_neg h51, if_pos h57]
                    have hO : opO su s x = finO s.fl s.ow x := by unfold opO; rw [if_neg h41, if_neg h46, if_neg h51, if_pos h57]
                    refine W.region ?_
                    refine XOps.s rfl rfl rfl (Q.move_ptr rfl) ?_
                    refine XOps.s rfl rfl rfl (Q.ld_ptrn (k := 0) ag35 rfl rfl rfl) ?_
                    (refine XOps.loud rfl (L.call rfl Tryz.func60 go60 rfl (AC.le (fin_c su s.tm s.fl s.ow lb b x ((b3, .cells (x.enc.map .d)) :: (gk, kiG) :: (gd, p10G) :: reH lb s.lg f hs) o.fw ) (HLe.pick 1 rfl rfl (HLe.refl _))) rfl) ?_; rintro _ _ ⟨_, rfl, rfl, rfl⟩)
                    refine XOps.s rfl rfl rfl (Q.assign_d rfl) ?_
                    refine XOps.nil ?_
                    rw [hE, hF, hO]
                    refine ⟨(), trivial, ⟨by first | rfl | exact int_eq (by omega) | exact len_eq (by simp) | exact int_eq (by simp; done), by first | rfl | exact int_eq (by omega) | exact len_eq (by simp) | exact int_eq (by simp; done), by first | rfl | exact int_eq (by omega) | exact len_eq (by simp) | exact int_eq (by simp; done), trivial⟩, by first | exact HLe.refl _ | exact HLe.skip _ (HLe.refl _)⟩
                  · try simp only [Bool.or_eq_true, Bool.or_eq_false_iff, Bool.and_eq_true, Bool.and_eq_false_iff, decide_eq_true_eq, decide_eq_false_iff_not, Bool.not_eq_true', Bool.not_eq_false', Int.not_lt, Int.not_le, List.length_map] at hc57
                    have h57 : ¬ x.kind = 6 := hc57
                    have hE : opE su s x = pasE s.ow x := by unfold opE; rw [if_neg h41, if_neg h46, if_neg h51, if_neg h57]
                    have hF : opF su s x = s.fl := by unfold opF; rw [if_neg h41, if_neg h46, if_neg h51, if_neg h57]
                    have hO : opO su s x = pasO s.ow x := by unfold opO; rw [if_neg h41, if_neg h46, if_neg h51, if_neg h57]
                    refine W.region ?_
                    refine XOps.s rfl rfl rfl (Q.move_ptr rfl) ?_
                    refine XOps.s rfl rfl rfl (Q.ld_ptrn (k := 0) ag35 rfl rfl rfl) ?_
                    (refine XOps.loud rfl (L.call rfl Tryz.func61 go61 rfl (AC.le (pass_c su s.tm s.fl s.ow lb b x ((b3, .cells (x.enc.map .d)) :: (gk, kiG) :: (gd, p10G) :: reH lb s.lg f hs) o.fw zo) (HLe.pick 1 rfl rfl (HLe.refl _))) rfl) ?_; rintro _ _ ⟨_, rfl, rfl, rfl⟩)
                    refine XOps.s rfl rfl rfl (Q.assign_d rfl) ?_
                    refine XOps.nil ?_
                    rw [hE, hF, hO]
                    refine ⟨(), trivial, ⟨by first | rfl | exact int_eq (by omega) | exact len_eq (by simp) | exact int_eq (by simp; done), by first | rfl | exact int_eq (by omega) | exact len_eq (by simp) | exact int_eq (by simp; done), by first | rfl | exact int_eq (by omega) | exact len_eq (by simp) | exact int_eq (by simp; done), trivial⟩, by first | exact HLe.refl _ | exact HLe.skip _ (HLe.refl _)⟩
        · rintro σ₁ hs₁ ⟨_, _, he, hh⟩
          refine W.le _ _ he hh ?_
          clear he hh
          refine W.seq ?_
          refine W.reg ?_
          refine XOps.s rfl rfl rfl (Q.move_d rfl) ?_
          refine XOps.s rfl rfl rfl (Q.neq rfl rfl) ?_
          refine XOps.nil ?_
          refine W.cond rfl (fun hc63 => ?_) (fun hc63 => ?_)
          · try simp only [Bool.or_eq_true, Bool.or_eq_false_iff, Bool.and_eq_true, Bool.and_eq_false_iff, decide_eq_true_eq, decide_eq_false_iff_not, Bool.not_eq_true', Bool.not_eq_false', Int.not_lt, Int.not_le, List.length_map] at hc63
            have h63 : opE su s x ≠ 0 := by first | exact hc63 | (simpa using hc63)
            obtain ⟨hF, hO⟩ := op_no h63
            have hSE : stepE su s x = opE su s x := by unfold stepE; rw [if_neg (by omega)]
            have hSS : stepS su s x = s := stepS_no (by rw [hSE]; exact h63)
            rw [hSE, hSS, hF, hO]
            refine W.reg ?_
            refine XOps.s rfl rfl rfl (Q.move_d rfl) ?_
            refine XOps.s rfl rfl rfl (Q.assign_d rfl) ?_
            refine XOps.nil ?_
            refine W.ret ?_
            exact ⟨_, ceH su s b lb f gk gd hs, rfl, HLe.cons _ (HLe.skip _ (HLe.refl _)), f, rfl, rfl⟩
          · try simp only [Bool.or_eq_true, Bool.or_eq_false_iff, Bool.and_eq_true, Bool.and_eq_false_iff, decide_eq_true_eq, decide_eq_false_iff_not, Bool.not_eq_true', Bool.not_eq_false', Int.not_lt, Int.not_le, List.length_map] at hc63
            have h63 : opE su s x = 0 := by first | exact hc63 | exact Classical.not_not.1 (fun h => h hc63) | (simpa using hc63)
            have hSE : stepE su s x = 0 := by unfold stepE; rw [if_neg (by omega), h63]
            have hSS : stepS su s x = ⟨x.time, opF su s x, opO su s x, addL s.lg x.time (kindS x.kind) x.call⟩ := if_neg (by omega)
            rw [hSE, hSS]
            refine W.skip ?_
            refine W.reg ?_
            refine XOps.s rfl rfl rfl (Q.move_ptr rfl) ?_
            refine XOps.s rfl rfl rfl (Q.fld_ptr fl35_1 rfl) ?_
            refine XOps.s rfl rfl rfl (Q.ld_ptr (k := 1) ag3 rfl rfl rfl) ?_
            refine XOps.s rfl rfl rfl (Q.nil_ptr rfl) ?_
            refine XOps.s rfl rfl rfl (Q.fld_ptr fl83_1 rfl) ?_
            refine XOps.loud rfl (L.store (k := 0) ag3 rfl rfl rfl rfl rfl) ?_
            rintro _ _ ⟨rfl, rfl⟩
            refine XOps.nil ?_
            refine W.drawTreg 13 [12] follows (by kernel_rfl) (by decide) ?_
            apply DT.moreC [.new, .new, .new, .new, .new, .new, .new, .new, .new, .new, .new, .new, .now] (by kernel_rfl)
            refine PC.new _ rfl (GQ.q rfl (Q.move_ptr rfl)) rfl ?_
            refine PC.new _ rfl (GQ.q rfl (Q.nil_ptr rfl)) rfl ?_
            refine PC.new _ rfl (GQ.q rfl (Q.fld_ptr fl83_4 rfl)) rfl ?_
            refine PC.new _ rfl (GQ.q rfl (Q.ld_ptr (k := 0) ag81 rfl rfl rfl)) rfl ?_
            refine PC.new _ rfl (GQ.q rfl (Q.fld_ptr fl35_1 rfl)) rfl ?_
            refine PC.new _ rfl (GQ.q rfl (Q.ld_ptr (k := 1) ag3 rfl rfl rfl)) rfl ?_
            refine PC.new _ rfl (GQ.q rfl (Q.fld_ptr fl35_0 rfl)) rfl ?_
            refine PC.new _ rfl (GQ.q rfl (Q.ld_ptr (k := 1) ag3 rfl rfl rfl)) rfl ?_
            refine PC.new _ rfl (GQ.q rfl (Q.idx_glob (kk := 2) ar106 rfl kiT_d rfl k0 k1)) rfl ?_
            refine PC.new _ rfl (GQ.q rfl (Q.ld_dp ag9 rfl (kind_at k0 k1))) rfl ?_
            refine PC.new _ rfl (GQ.q rfl (Q.fld_ptr fl35_2 rfl)) rfl ?_
            refine PC.new _ rfl (GQ.q rfl (Q.ld_ptr (k := 1) ag9 rfl rfl rfl)) rfl ?_
            refine PC.now rfl rfl (fun τ => Loud.to (L.call rfl Tryz.func62 go62 rfl (AC.le (add_c lb s.lg f x.time (kindS x.kind) x.call gd _ o.lgk (by have := (kind_ok k0 k1).1; omega) (by have := nameS_size (op_name o.fw h63); omega)) (HLe.pick 3 rfl rfl (HLe.pick 3 rfl rfl (HLe.pick 3 rfl rfl (HLe.refl _))))) rfl) (fun _ _ ⟨r, h1, h2⟩ => ⟨r, h1, _, h2, rfl⟩)) ?_
            refine PC.nil ?_
            rintro _ _ ⟨_, ⟨f2, rfl, rfl⟩, rfl⟩
            refine DT.last [.did, .did, .did, .did, .did, .did, .did, .did, .did, .did, .did, .did, .did] (by kernel_rfl) ?_
            refine PC.did rfl ?_
            refine PC.did rfl ?_
            refine PC.did rfl ?_
            refine PC.did rfl ?_
            refine PC.did rfl ?_
            refine PC.did rfl ?_
            refine PC.did rfl ?_
            refine PC.did rfl ?_
            refine PC.did rfl ?_
            refine PC.did rfl ?_
            refine PC.did rfl ?_
            refine PC.did rfl ?_
            refine PC.did rfl ?_
            refine PC.nil ?_
            refine XOps.nil ?_
            refine W.reg ?_
            refine XOps.s rfl rfl rfl (Q.assign_d rfl) ?_
            refine XOps.nil ?_
            refine W.ret ?_
            exact ⟨_, ceH su ⟨x.time, opF su s x, opO su s x, addL s.lg x.time (kindS x.kind) x.call⟩ b lb f2 gk gd hs, rfl, HLe.pick 3 rfl rfl (HLe.pick 4 rfl rfl (HLe.pick 0 rfl rfl (HLe.pick 0 rfl rfl (HLe.pick 0 rfl rfl (HLe.skip _ (HLe.refl _)))))), f2, rfl, rfl⟩
end Go.Proofs.YtaegeaajhbfkgaaGreatDoorA

