/- Centres: file. -/
import Derived.Test.YtaegeaajhbfkgaaGreatDoorFrB
import Derived.Test.YtaegeaajhbfkgaaGreatDoorCeO
import Derived.Test.YtaegeaajhbfkgaaGreatDoorCeJ
import Derived.Test.YtaegeaajhbfkgaaGreatDoorAbs45
set_option linter.unusedVariables false
set_option linter.unusedSimpArgs false
set_option linter.unnecessarySimpa false
namespace Go.Proofs.YtaegeaajhbfkgaaGreatDoorA.FCeP
open Go
theorem ag3 : tAgg P 3 = some ((false, 1)) := by kernel_rfl
theorem ag33 : tAgg P 33 = some ((false, 1)) := by kernel_rfl
theorem ag37 : tAgg P 37 = some ((false, 1)) := by kernel_rfl
theorem ag4 : tAgg P 4 = some ((false, 1)) := by kernel_rfl
theorem ag41 : tAgg P 41 = some ((true, 8)) := by kernel_rfl
theorem ag55 : tAgg P 55 = some ((false, 1)) := by kernel_rfl
theorem ag9 : tAgg P 9 = some ((false, 1)) := by kernel_rfl
theorem fl35_1 : tFld P 35 1 = some (1) := by kernel_rfl
theorem fl35_2 : tFld P 35 2 = some (2) := by kernel_rfl
theorem fl35_3 : tFld P 35 3 = some (3) := by kernel_rfl
theorem fl35_5 : tFld P 35 5 = some (5) := by kernel_rfl
theorem fl35_6 : tFld P 35 6 = some (6) := by kernel_rfl
theorem fl35_7 : tFld P 35 7 = some (7) := by kernel_rfl
theorem fl35_8 : tFld P 35 8 = some (8) := by kernel_rfl
theorem fl41_6 : tFld P 41 6 = some (6) := by kernel_rfl
theorem fl45_0 : tFld P 45 0 = some (0) := by kernel_rfl
theorem fl47_0 : tFld P 47 0 = some (0) := by kernel_rfl
theorem fl83_2 : tFld P 83 2 = some (19) := by kernel_rfl
theorem fl83_3 : tFld P 83 3 = some (20) := by kernel_rfl
theorem go41 : callGo Go.Proofs.Tryz.f41 = true := by kernel_rfl
theorem go65 : callGo Go.Proofs.Tryz.f65 = true := by kernel_rfl
theorem go78 : callGo Go.Proofs.Tryz.f78 = true := by kernel_rfl
theorem go79 : callGo Go.Proofs.Tryz.f79 = true := by kernel_rfl
theorem go80 : callGo Go.Proofs.Tryz.f80 = true := by kernel_rfl
theorem go81 : callGo Go.Proofs.Tryz.f81 = true := by kernel_rfl
theorem go82 : callGo Go.Proofs.Tryz.f82 = true := by kernel_rfl
theorem go83 : callGo Go.Proofs.Tryz.f83 = true := by kernel_rfl
theorem go84 : callGo Go.Proofs.Tryz.f84 = true := by kernel_rfl
theorem pl41 : tPl P 41 = some ([(0, 1), (1, 1), (2, 1), (3, 1), (4, 1), (5, 1), (6, 1), (7, 1)]) := by kernel_rfl
theorem sl33 : tSl P 33 = some (6) := by kernel_rfl
theorem sl37 : tSl P 37 = some (8) := by kernel_rfl
theorem sl39 : tSl P 39 = some (1) := by kernel_rfl
theorem tz41 : tZero P 41 = some ([.string ⟨#[]⟩, .int .i64 0, .int .i64 0, .bool false, .slice none 0 0, .slice none 0 0, .int .i64 0, .int .i64 0]) := by kernel_rfl
theorem zr37 : tZrow P 37 = some ([.string ⟨#[]⟩, .int .i64 0, .int .i64 0, .bool false, .slice none 0 0, .slice none 0 0, .int .i64 0, .int .i64 0]) := by kernel_rfl
theorem zr39 : tZrow P 39 = some ([.slice none 0 0]) := by kernel_rfl
theorem zrd37 : cellsD [.string ⟨#[]⟩, .int .i64 0, .int .i64 0, .bool false, .slice none 0 0, .slice none 0 0, .int .i64 0, .int .i64 0] = some ([.str ⟨#[]⟩, .int .i64 0, .int .i64 0, .bool false, .sl 0 [], .sl 0 [], .int .i64 0, .int .i64 0]) := rfl
theorem zrd39 : cellsD [.slice none 0 0] = some ([.sl 0 []]) := rfl
end Go.Proofs.YtaegeaajhbfkgaaGreatDoorA.FCeP
namespace Go.Proofs.YtaegeaajhbfkgaaGreatDoorA
open Go FCeP
attribute [local irreducible] XOps Quiet Loud W AC GQ DT
set_option maxHeartbeats 8000000 in
set_option maxRecDepth 100000 in
theorem file_c (su : Su) (tm : Int) (fl : List Fl) (ow : List OE) (lb b : Nat) (x : CI) (hs : Hp) (o : FwOk fl ow) (gk : gapsOk su.gv) (zc : x.call.size ≤ 4611686018427387904) (zb : x.by_.size ≤ 4611686018427387904) (zt : x.tube.length ≤ 4611686018427387904) : AC P 57 [.ptr b 0, .d (.agg x.enc)] ((b, .cells (ceC su tm fl ow lb)) :: hs) (fun r h => r = .d (.int .i64 (fileE su fl ow x)) ∧ h = (b, .cells (ceC su tm (fileF su fl ow x) (fileO su fl ow x) lb)) :: hs) := by
  have hfl := o.len
  have hml : (fl.map Fl.enc).length = fl.length := List.length_map _
  have hple := pos_le (key := Fl.call) fl x.call
  refine AC.of 120 Tryz.func57 rfl rfl rfl ?_
  refine W.reg ?_
  refine XOps.loud rfl (L.boxn rfl rfl) ?_
  rintro _ _ ⟨b3, rfl, rfl⟩
  refine XOps.s rfl rfl rfl (Q.assign_d rfl) ?_
  refine XOps.nil ?_
  refine W.drawreg 13 follows (by kernel_rfl) ?_
  refine Chain.cons _ (GQ.q rfl (Q.move_ptr rfl)) rfl ?_
  refine Chain.cons _ (GQ.q rfl (Q.nil_ptr rfl)) rfl ?_
  refine Chain.cons _ (GQ.q rfl (Q.fld_ptr fl83_3 rfl)) rfl ?_
  refine Chain.cons _ (GQ.q rfl (Q.ld_ptr (k := 1) ag55 rfl rfl rfl)) rfl ?_
  refine Chain.cons _ (GQ.q rfl (Q.fld_ptr fl35_2 rfl)) rfl ?_
  refine Chain.cons _ (GQ.q rfl (Q.ld_ptr (k := 0) ag9 rfl rfl rfl)) rfl ?_
  refine Chain.cons _ (GQ.q rfl (Q.fld_ptr fl35_3 rfl)) rfl ?_
  refine Chain.cons _ (GQ.q rfl (Q.ld_ptr (k := 0) ag9 rfl rfl rfl)) rfl ?_
  refine Chain.cons _ (GQ.q rfl (Q.call rfl Tryz.func78 go78 rfl (beg_c ow x.call x.by_ _ o.owk zc zb))) rfl ?_
  refine Chain.cons _ (GQ.q rfl (Q.move_tup rfl)) rfl ?_
  refine Chain.cons _ (GQ.q rfl (Q.extract rfl rfl)) rfl ?_
  refine Chain.cons _ (GQ.q rfl (Q.extract rfl rfl)) rfl ?_
  refine Chain.cons _ (GQ.q rfl (Q.assign_d rfl)) rfl ?_
  refine Chain.nil ?_
  refine XOps.s rfl rfl rfl (Q.assign_d rfl) ?_
  refine XOps.nil ?_
  refine W.seq ?_
  refine W.reg ?_
  refine XOps.s rfl rfl rfl (Q.move_d rfl) ?_
  refine XOps.s rfl rfl rfl (Q.neq rfl rfl) ?_
  refine XOps.nil ?_
  refine W.cond rfl (fun hc25 => ?_) (fun hc25 => ?_)
  · try simp only [Bool.or_eq_true, Bool.or_eq_false_iff, Bool.and_eq_true, Bool.and_eq_false_iff, decide_eq_true_eq, decide_eq_false_iff_not, Bool.not_eq_true', Bool.not_eq_false', Int.not_lt, Int.not_le, List.length_map] at hc25
    have h25 : begE ow x.call x.by_ ≠ 0 := by first | exact hc25 | (simpa using hc25)
    have hE : fileE su fl ow x = begE ow x.call x.by_ := by unfold fileE; rw [if_pos h25]
    obtain ⟨hF, hO⟩ := file_no (su := su) (fl := fl) (ow := ow) (x := x) (by rw [hE]; omega)
    rw [hF, hO, hE]
    refine W.reg ?_
    refine XOps.s rfl rfl rfl (Q.move_d rfl) ?_
    refine XOps.s rfl rfl rfl (Q.assign_d rfl) ?_
    refine XOps.nil ?_
    refine W.ret ?_
    exact ⟨_, (b, .cells (ceC su tm fl ow lb)) :: hs, rfl, HLe.skip _ (HLe.refl _), rfl, rfl⟩
  · try simp only [Bool.or_eq_true, Bool.or_eq_false_iff, Bool.and_eq_true, Bool.and_eq_false_iff, decide_eq_true_eq, decide_eq_false_iff_not, Bool.not_eq_true', Bool.not_eq_false', Int.not_lt, Int.not_le, List.length_map] at hc25
    have h25 : ¬ begE ow x.call x.by_ ≠ 0 := by first | exact fun h => h hc25 | (simpa using hc25)
    refine W.skip ?_
    refine W.seq ?_
    refine W.reg ?_
    refine XOps.s rfl rfl rfl (Q.fld_ptr fl35_5 rfl) ?_
    refine XOps.s rfl rfl rfl (Q.ld_ptr (k := 0) ag33 rfl rfl rfl) ?_
    refine XOps.s rfl rfl rfl (Q.call rfl Tryz.func41 go41 rfl (tube_c x.tube _ zt)) ?_
    refine XOps.s rfl rfl rfl (Q.assign_d rfl) ?_
    refine XOps.nil ?_
    refine W.reg ?_
    refine XOps.s rfl rfl rfl (Q.move_d rfl) ?_
    refine XOps.s rfl rfl rfl (Q.neq rfl rfl) ?_
    refine XOps.nil ?_
    refine W.cond rfl (fun hc31 => ?_) (fun hc31 => ?_)
    · try simp only [Bool.or_eq_true, Bool.or_eq_false_iff, Bool.and_eq_true, Bool.and_eq_false_iff, decide_eq_true_eq, decide_eq_false_iff_not, Bool.not_eq_true', Bool.not_eq_false', Int.not_lt, Int.not_le, List.length_map] at hc31
      have h31 : tubeC x.tube ≠ 0 := by first | exact hc31 | (simpa using hc31)
      have hE : fileE su fl ow x = tubeC x.tube := by unfold fileE; rw [if_neg h25, if_pos h31]
      obtain ⟨hF, hO⟩ := file_no (su := su) (fl := fl) (ow := ow) (x := x) (by rw [hE]; omega)
      rw [hF, hO, hE]
      refine W.reg ?_
      refine XOps.s rfl rfl rfl (Q.move_d rfl) ?_
      refine XOps.s rfl rfl rfl (Q.assign_d rfl) ?_
      refine XOps.nil ?_
      refine W.ret ?_
      exact ⟨_, (b, .cells (ceC su tm fl ow lb)) :: hs, rfl, HLe.skip _ (HLe.refl _), rfl, rfl⟩
    · try simp only [Bool.or_eq_true, Bool.or_eq_false_iff, Bool.and_eq_true, Bool.and_eq_false_iff, decide_eq_true_eq, decide_eq_false_iff_not, Bool.not_eq_true', Bool.not_eq_false', Int.not_lt, Int.not_le, List.length_map] at hc31
      have h31 : ¬ tubeC x.tube ≠ 0 := by first | exact fun h => h hc31 | (simpa using hc31)
      have ok : TuOk x.tube := tubeC_zero.1 (Classical.not_not.1 h31)
      have ph := hd_row ok.ne
      have hlt := ok.len
      have hl0 : x.tube.length ≠ 0 := fun h => ok.ne (List.eq_nil_of_length_eq_zero h)
      have hmt : (x.tube.map Nd.enc).length = x.tube.length := List.length_map _
      refine W.skip ?_
      refine W.drawTreg 14 [13] follows (by kernel_rfl) (by decide) ?_
      apply DT.moreE [.new, .new, .new, .new, .new, .new, .new, .new, .new, .new, .new, .new, .new, .now] (by kernel_rfl)
      refine PC.new _ rfl (GQ.q rfl (Q.fld_ptr fl35_2 rfl)) rfl ?_
      refine PC.new _ rfl (GQ.q rfl (Q.ld_ptr (k := 0) ag9 rfl rfl rfl)) rfl ?_
      refine PC.new _ rfl (GQ.q rfl (Q.fld_ptr fl35_6 rfl)) rfl ?_
      refine PC.new _ rfl (GQ.q rfl (Q.ld_ptr (k := 0) ag3 rfl rfl rfl)) rfl ?_
      refine PC.new _ rfl (GQ.q rfl (Q.fld_ptr fl35_7 rfl)) rfl ?_
      refine PC.new _ rfl (GQ.q rfl (Q.ld_ptr (k := 0) ag3 rfl rfl rfl)) rfl ?_
      refine PC.new _ rfl (GQ.q rfl (Q.fld_ptr fl35_8 rfl)) rfl ?_
      refine PC.new _ rfl (GQ.q rfl (Q.ld_ptr (k := 0) ag4 rfl rfl rfl)) rfl ?_
      refine PC.new _ rfl (GQ.q rfl (Q.fld_ptr fl35_5 rfl)) rfl ?_
      refine PC.new _ rfl (GQ.q rfl (Q.ld_ptr (k := 0) ag33 rfl rfl rfl)) rfl ?_
      refine PC.new _ rfl (GQ.q rfl (Q.call rfl Tryz.func65 go65 rfl (cloneT_c x.tube _ (by omega)))) rfl ?_
      refine PC.new _ rfl (GQ.q rfl (Q.bsl1 sl39 zr39 rfl zrd39 rfl rfl)) rfl ?_
      refine PC.new _ rfl (GQ.q rfl (Q.buildS pl41 tz41 rfl rfl)) rfl ?_
      refine PC.now rfl rfl (fun τ => Loud.to (L.alloc tz41 rfl rfl) (fun _ _ ⟨v, h1, h2⟩ => ⟨_, h1, v, rfl, h2⟩)) ?_
      refine PC.nil ?_
      rintro _ _ ⟨b8, rfl, rfl⟩
      refine DT.last [.old, .old, .old, .old, .old, .old, .old, .old, .old, .old, .old, .old, .old, .did] (by kernel_rfl) ?_
      refine PC.old rfl (GQ.q rfl (Q.fld_ptr fl35_2 rfl)) rfl ?_
      refine PC.old rfl (GQ.q rfl (Q.ld_ptr (k := 1) ag9 rfl rfl rfl)) rfl ?_
      refine PC.old rfl (GQ.q rfl (Q.fld_ptr fl35_6 rfl)) rfl ?_
      refine PC.old rfl (GQ.q rfl (Q.ld_ptr (k := 1) ag3 rfl rfl rfl)) rfl ?_
      refine PC.old rfl (GQ.q rfl (Q.fld_ptr fl35_7 rfl)) rfl ?_
      refine PC.old rfl (GQ.q rfl (Q.ld_ptr (k := 1) ag3 rfl rfl rfl)) rfl ?_
      refine PC.old rfl (GQ.q rfl (Q.fld_ptr fl35_8 rfl)) rfl ?_
      refine PC.old rfl (GQ.q rfl (Q.ld_ptr (k := 1) ag4 rfl rfl rfl)) rfl ?_
      refine PC.old rfl (GQ.q rfl (Q.fld_ptr fl35_5 rfl)) rfl ?_
      refine PC.old rfl (GQ.q rfl (Q.ld_ptr (k := 1) ag33 rfl rfl rfl)) rfl ?_
      refine PC.old rfl (GQ.q rfl (Q.call rfl Tryz.func65 go65 rfl (cloneT_c x.tube _ (by omega)))) rfl ?_
      refine PC.old rfl (GQ.q rfl (Q.bsl1 sl39 zr39 rfl zrd39 rfl rfl)) rfl ?_
      refine PC.old rfl (GQ.q rfl (Q.buildS pl41 tz41 rfl rfl)) rfl ?_
      refine PC.did rfl ?_
      refine PC.nil ?_
      refine XOps.loud rfl (L.storev (k := 0) ag41 rfl rfl rfl rfl rfl) ?_
      rintro _ _ ⟨rfl, rfl⟩
      refine XOps.nil ?_
      refine W.ghostc 0 5 6 (by decide) rfl rfl (fun v5 => ?_)
      refine W.freezec 5 rfl rfl ?_
      refine W.seq ?_
      refine W.block ?_
      refine W.reg ?_
      refine XOps.s rfl rfl rfl (Q.fld_ptr fl35_6 rfl) ?_
      refine XOps.s rfl rfl rfl (Q.ld_ptr (k := 1) ag3 rfl rfl rfl) ?_
      refine XOps.s rfl rfl rfl (Q.lss rfl rfl) ?_
      refine XOps.s rfl rfl rfl (Q.move_d rfl) ?_
      refine XOps.gs rfl rfl rfl rfl rfl rfl rfl (fun hg => Q.fld_ptr fl35_6 rfl) ?_
      refine XOps.gs rfl rfl rfl rfl rfl rfl rfl (fun hg => Quiet.open 51 hg rfl (Q.ld_ptr (k := 1) ag3 rfl rfl rfl)) ?_
      refine XOps.gs rfl rfl rfl rfl rfl rfl rfl (fun hg => Quiet.open 52 hg rfl (Q.gtr rfl rfl)) ?_
      refine XOps.s rfl rfl rfl (Q.pick_or rfl rfl rfl (fun h => by first | (rw [h]; rfl) | (rw [hg, h]; rfl) | (simp [h, hg]; done))) ?_
      refine XOps.s rfl rfl rfl (Q.move_d rfl) ?_
      refine XOps.gs rfl rfl rfl rfl rfl rfl rfl (fun hg => Q.fld_ptr fl35_7 rfl) ?_
      refine XOps.gs rfl rfl rfl rfl rfl rfl rfl (fun hg => Quiet.open 56 hg rfl (Q.ld_ptr (k := 1) ag3 rfl rfl rfl)) ?_
      refine XOps.gs rfl rfl rfl rfl rfl rfl rfl (fun hg => Quiet.open 57 hg rfl (Q.lss rfl rfl)) ?_
      refine XOps.s rfl rfl rfl (Q.pick_or rfl rfl rfl (fun h => by first | (rw [h]; rfl) | (rw [hg, h]; rfl) | (simp [h, hg]; done))) ?_
      refine XOps.s rfl rfl rfl (Q.move_d rfl) ?_
      refine XOps.gs rfl rfl rfl rfl rfl rfl rfl (fun hg => Q.fld_ptr fl35_7 rfl) ?_
      refine XOps.gs rfl rfl rfl rfl rfl rfl rfl (fun hg => Quiet.open 61 hg rfl (Q.ld_ptr (k := 1) ag3 rfl rfl rfl)) ?_
      refine XOps.gs rfl rfl rfl rfl rfl rfl rfl (fun hg => Quiet.open 62 hg rfl (Q.gtr rfl rfl)) ?_
      refine XOps.s rfl rfl rfl (Q.pick_or rfl rfl rfl (fun h => by first | (rw [h]; rfl) | (rw [hg, h]; rfl) | (simp [h, hg]; done))) ?_
      refine XOps.s rfl rfl rfl (Q.assign_d rfl) ?_
      refine XOps.nil ?_
      refine W.cond rfl (fun hc46 => ?_) (fun hc46 => ?_)
      · try simp only [Bool.or_eq_true, Bool.or_eq_false_iff, Bool.and_eq_true, Bool.and_eq_false_iff, decide_eq_true_eq, decide_eq_false_iff_not, Bool.not_eq_true', Bool.not_eq_false', Int.not_lt, Int.not_le, List.length_map] at hc46
        have h46 : rngX x := by unfold rngX; omega
        have hE : fileE su fl ow x = 4 := by unfold fileE; rw [if_neg h25, if_neg h31, if_pos h46]
        obtain ⟨hF, hO⟩ := file_no (su := su) (fl := fl) (ow := ow) (x := x) (by rw [hE]; omega)
        rw [hF, hO, hE]
        refine W.reg ?_
        refine XOps.s rfl rfl rfl (Q.assign_d rfl) ?_
        refine XOps.nil ?_
        refine W.ret ?_
        exact ⟨_, (b, .cells (ceC su tm fl ow lb)) :: hs, rfl, HLe.skip _ (HLe.skip _ (HLe.refl _)), rfl, rfl⟩
      · try simp only [Bool.or_eq_true, Bool.or_eq_false_iff, Bool.and_eq_true, Bool.and_eq_false_iff, decide_eq_true_eq, decide_eq_false_iff_not, Bool.not_eq_true', Bool.not_eq_false', Int.not_lt, Int.not_le, List.length_map] at hc46
        have h46 : ¬ rngX x := by unfold rngX; omega
        refine W.drawreg 10 follows (by kernel_rfl) ?_
        refine Chain.cons _ (GQ.q rfl (Q.fld_ptr fl35_5 rfl)) rfl ?_
        refine Chain.cons _ (GQ.q rfl (Q.ld_ptr (k := 1) ag33 rfl rfl rfl)) rfl ?_
        refine Chain.cons _ (GQ.q rfl (Q.idx_sl sl33 (by decide) rfl rfl (by first | omega | (simp only [List.length_map]; omega)) (by first | exact ph))) rfl ?_
        refine Chain.cons _ (GQ.q rfl (Q.fld_dp fl47_0 rfl)) rfl ?_
        refine Chain.cons _ (GQ.q rfl (Q.fld_dp fl45_0 rfl)) rfl ?_
        refine Chain.cons _ (GQ.q rfl (Q.ld_dp ag3 rfl rfl)) rfl ?_
        refine Chain.cons _ (GQ.q rfl (Q.fld_ptr fl35_1 rfl)) rfl ?_
        refine Chain.cons _ (GQ.q rfl (Q.ld_ptr (k := 1) ag3 rfl rfl rfl)) rfl ?_
        refine Chain.cons _ (GQ.q rfl (Q.lss rfl rfl)) rfl ?_
        refine Chain.cons _ (GQ.q rfl (Q.assign_d rfl)) rfl ?_
        refine Chain.nil ?_
        refine XOps.nil ?_
        refine W.cond rfl (fun hc65 => ?_) (fun hc65 => ?_)
        · try simp only [Bool.or_eq_true, Bool.or_eq_false_iff, Bool.and_eq_true, Bool.and_eq_false_iff, decide_eq_true_eq, decide_eq_false_iff_not, Bool.not_eq_true', Bool.not_eq_false', Int.not_lt, Int.not_le, List.length_map] at hc65
          have h65 : hdT x.tube < x.time := hc65
          have hE : fileE su fl ow x = 12 := by unfold fileE; rw [if_neg h25, if_neg h31, if_neg h46, if_pos h65]
          obtain ⟨hF, hO⟩ := file_no (su := su) (fl := fl) (ow := ow) (x := x) (by rw [hE]; omega)
          rw [hF, hO, hE]
          refine W.reg ?_
          refine XOps.s rfl rfl rfl (Q.assign_d rfl) ?_
          refine XOps.nil ?_
          refine W.ret ?_
          exact ⟨_, (b, .cells (ceC su tm fl ow lb)) :: hs, rfl, HLe.skip _ (HLe.skip _ (HLe.refl _)), rfl, rfl⟩
        · try simp only [Bool.or_eq_true, Bool.or_eq_false_iff, Bool.and_eq_true, Bool.and_eq_false_iff, decide_eq_true_eq, decide_eq_false_iff_not, Bool.not_eq_true', Bool.not_eq_false', Int.not_lt, Int.not_le, List.length_map] at hc65
          have h65 : ¬ hdT x.tube < x.time := by first | exact hc65 | exact Int.not_lt.2 hc65
          refine W.reg ?_
          refine XOps.s rfl rfl rfl (Q.fld_ptr fl35_5 rfl) ?_
          refine XOps.s rfl rfl rfl (Q.ld_ptr (k := 1) ag33 rfl rfl rfl) ?_
          refine XOps.s rfl rfl rfl (Q.call rfl Tryz.func79 go79 rfl (long_c x.tube _ ok)) ?_
          refine XOps.s rfl rfl rfl (Q.assign_d rfl) ?_
          refine XOps.nil ?_
          refine W.cond rfl (fun hc75 => ?_) (fun hc75 => ?_)
          · try simp only [Bool.or_eq_true, Bool.or_eq_false_iff, Bool.and_eq_true, Bool.and_eq_false_iff, decide_eq_true_eq, decide_eq_false_iff_not, Bool.not_eq_true', Bool.not_eq_false', Int.not_lt, Int.not_le, List.length_map] at hc75
            have h75 : longB x.tube = true := hc75
            have hE : fileE su fl ow x = 2 := by unfold fileE; rw [if_neg h25, if_neg h31, if_neg h46, if_neg h65, if_pos h75]
            obtain ⟨hF, hO⟩ := file_no (su := su) (fl := fl) (ow := ow) (x := x) (by rw [hE]; omega)
            rw [hF, hO, hE]
            refine W.reg ?_
            refine XOps.s rfl rfl rfl (Q.assign_d rfl) ?_
            refine XOps.nil ?_
            refine W.ret ?_
            exact ⟨_, (b, .cells (ceC su tm fl ow lb)) :: hs, rfl, HLe.skip _ (HLe.skip _ (HLe.refl _)), rfl, rfl⟩
          · try simp only [Bool.or_eq_true, Bool.or_eq_false_iff, Bool.and_eq_true, Bool.and_eq_false_iff, decide_eq_true_eq, decide_eq_false_iff_not, Bool.not_eq_true', Bool.not_eq_false', Int.not_lt, Int.not_le, List.length_map] at hc75
            have h75 : ¬ longB x.tube = true := by rw [hc75]; simp
            refine W.reg ?_
            refine XOps.s rfl rfl rfl (Q.move_ptr rfl) ?_
            refine XOps.s rfl rfl rfl (Q.fld_ptr fl35_2 rfl) ?_
            refine XOps.s rfl rfl rfl (Q.ld_ptr (k := 1) ag9 rfl rfl rfl) ?_
            refine XOps.s rfl rfl rfl (Q.fld_ptr fl35_5 rfl) ?_
            refine XOps.s rfl rfl rfl (Q.ld_ptr (k := 1) ag33 rfl rfl rfl) ?_
            refine XOps.s rfl rfl rfl (Q.call rfl Tryz.func80 go80 rfl (clashes_c su (.d (.int .i64 tm)) fl [.d (.sl 3 (ow.map OE.enc)), .ptr lb 0] b 2 _ rfl x.call x.tube ok o.all (by omega))) ?_
            refine XOps.s rfl rfl rfl (Q.assign_d rfl) ?_
            refine XOps.nil ?_
            refine W.cond rfl (fun hc79 => ?_) (fun hc79 => ?_)
            · try simp only [Bool.or_eq_true, Bool.or_eq_false_iff, Bool.and_eq_true, Bool.and_eq_false_iff, decide_eq_true_eq, decide_eq_false_iff_not, Bool.not_eq_true', Bool.not_eq_false', Int.not_lt, Int.not_le, List.length_map] at hc79
              have h79 : clashesB su fl x.call x.tube = true := hc79
              have hE : fileE su fl ow x = 15 := by unfold fileE; rw [if_neg h25, if_neg h31, if_neg h46, if_neg h65, if_neg h75, if_pos h79]
              obtain ⟨hF, hO⟩ := file_no (su := su) (fl := fl) (ow := ow) (x := x) (by rw [hE]; omega)
              rw [hF, hO, hE]
              refine W.reg ?_
              refine XOps.s rfl rfl rfl (Q.assign_d rfl) ?_
              refine XOps.nil ?_
              refine W.ret ?_
              exact ⟨_, (b, .cells (ceC su tm fl ow lb)) :: hs, rfl, HLe.skip _ (HLe.skip _ (HLe.refl _)), rfl, rfl⟩
            · try simp only [Bool.or_eq_true, Bool.or_eq_false_iff, Bool.and_eq_true, Bool.and_eq_false_iff, decide_eq_true_eq, decide_eq_false_iff_not, Bool.not_eq_true', Bool.not_eq_false', Int.not_lt, Int.not_le, List.length_map] at hc79
              have h79 : ¬ clashesB su fl x.call x.tube = true := by rw [hc79]; simp
              refine W.skip ?_
              refine W.reg ?_
              refine XOps.s rfl rfl rfl (Q.assign_d rfl) ?_
              refine XOps.nil ?_
              refine W.seq ?_
              refine W.reg ?_
              refine XOps.s rfl rfl rfl (Q.move_ptr rfl) ?_
              refine XOps.s rfl rfl rfl (Q.ld_ptrn (k := 0) ag41 rfl rfl rfl) ?_
              refine XOps.s rfl rfl rfl (Q.fld_ptr fl35_5 rfl) ?_
              refine XOps.s rfl rfl rfl (Q.ld_ptr (k := 1) ag33 rfl rfl rfl) ?_
              refine XOps.s rfl rfl rfl (Q.call rfl Tryz.func81 go81 rfl (land_c su (.d (.int .i64 tm)) fl [.d (.sl 3 (ow.map OE.enc)), .ptr lb 0] b 2 _ rfl (newF x) x.tube ok gk ⟨by show 0 ≤ x.wake; unfold rngX at h46; omega, by show x.wake ≤ 3; unfold rngX at h46; omega⟩ ⟨by show 0 ≤ x.slot; unfold rngX at h46; omega, by show x.slot ≤ 200000; unfold rngX at h46; omega⟩ o.all (by omega))) ?_
              refine XOps.s rfl rfl rfl (Q.move_tup rfl) ?_
              refine XOps.s rfl rfl rfl (Q.extract rfl rfl) ?_
              refine XOps.s rfl rfl rfl (Q.extract rfl rfl) ?_
              refine XOps.s rfl rfl rfl (Q.fld_ptr fl41_6 rfl) ?_
              refine XOps.loud rfl (L.store (k := 0) ag3 rfl rfl rfl rfl rfl) ?_
              rintro _ _ ⟨rfl, rfl⟩
              refine XOps.s rfl rfl rfl (Q.assign_d rfl) ?_
              refine XOps.nil ?_
              refine W.reg ?_
              refine XOps.s rfl rfl rfl (Q.move_d rfl) ?_
              refine XOps.s rfl rfl rfl (Q.not rfl) ?_
              refine XOps.nil ?_
              refine W.cond rfl (fun hc96 => ?_) (fun hc96 => ?_)
              · try simp only [Bool.or_eq_true, Bool.or_eq_false_iff, Bool.and_eq_true, Bool.and_eq_false_iff, decide_eq_true_eq, decide_eq_false_iff_not, Bool.not_eq_true', Bool.not_eq_false', Int.not_lt, Int.not_le, List.length_map] at hc96
                have h96 : landB su fl (newF x) x.tube = false := hc96
                have hE : fileE su fl ow x = 18 := by unfold fileE; rw [if_neg h25, if_neg h31, if_neg h46, if_neg h65, if_neg h75, if_neg h79, if_pos h96]
                obtain ⟨hF, hO⟩ := file_no (su := su) (fl := fl) (ow := ow) (x := x) (by rw [hE]; omega)
                rw [hF, hO, hE]
                refine W.reg ?_
                refine XOps.s rfl rfl rfl (Q.assign_d rfl) ?_
                refine XOps.nil ?_
                refine W.ret ?_
                exact ⟨_, (b, .cells (ceC su tm fl ow lb)) :: hs, rfl, HLe.skip _ (HLe.skip _ (HLe.refl _)), rfl, rfl⟩
              · try simp only [Bool.or_eq_true, Bool.or_eq_false_iff, Bool.and_eq_true, Bool.and_eq_false_iff, decide_eq_true_eq, decide_eq_false_iff_not, Bool.not_eq_true', Bool.not_eq_false', Int.not_lt, Int.not_le, List.length_map] at hc96
                have h96 : ¬ landB su fl (newF x) x.tube = false := by rw [hc96]; simp
                have hE : fileE su fl ow x = 0 := by unfold fileE; rw [if_neg h25, if_neg h31, if_neg h46, if_neg h65, if_neg h75, if_neg h79, if_neg h96]
                obtain ⟨hF, hO⟩ := file_yes hE
                rw [hF, hO, hE]
                refine W.skip ?_
                refine W.reg ?_
                refine XOps.s rfl rfl rfl (Q.move_ptr rfl) ?_
                refine XOps.s rfl rfl rfl (Q.fld_ptr fl35_2 rfl) ?_
                refine XOps.s rfl rfl rfl (Q.ld_ptr (k := 1) ag9 rfl rfl rfl) ?_
                refine XOps.s rfl rfl rfl (Q.call rfl Tryz.func82 go82 rfl (cfind_c su (.d (.int .i64 tm)) fl [.d (.sl 3 (ow.map OE.enc)), .ptr lb 0] b 2 _ rfl x.call o.srt (by omega))) ?_
                refine XOps.s rfl rfl rfl (Q.move_tup rfl) ?_
                refine XOps.s rfl rfl rfl (Q.extract rfl rfl) ?_
                refine XOps.s rfl rfl rfl (Q.extract rfl rfl) ?_
                refine XOps.s rfl rfl rfl (Q.assign_d rfl) ?_
                refine XOps.s rfl rfl rfl (Q.assign_d rfl) ?_
                refine XOps.nil ?_
                refine W.drawNreg 18 [6, 9, 10, 14, 17] follows (by kernel_rfl) (by decide) ?_
                apply DTn.more [(6, [9, 10, 14, 17]), (9, [6, 10, 14, 17])] [rC _, rE _ _] [.new, .new, .new, .new, .new, .new, .now, .new, .new, .now, .later, .new, .later, .later, .later, .later, .later, .later] (by kernel_rfl)
                refine PCn.new _ rfl (GQ.q rfl (Q.move_ptr rfl)) rfl ?_
                refine PCn.new _ rfl (GQ.q rfl (Q.move_ptr rfl)) rfl ?_
                refine PCn.new _ rfl (GQ.q rfl (Q.move_ptr rfl)) rfl ?_
                refine PCn.new _ rfl (GQ.q rfl (Q.nil_ptr rfl)) rfl ?_
                refine PCn.new _ rfl (GQ.q rfl (Q.fld_ptr fl83_2 rfl)) rfl ?_
                refine PCn.new _ rfl (GQ.q rfl (Q.ld_ptr (k := 2) ag37 rfl rfl rfl)) rfl ?_
                refine PCn.now (rC _) rfl rfl rfl (fun τ => Loud.to (L.call rfl Tryz.func84 go84 rfl (cloneF_c fl _ (by omega)) rfl) (fun _ _ ⟨r, h1, h2⟩ => ⟨r, h1, _, h2, rfl⟩)) ?_
                refine PCn.new _ rfl (GQ.q rfl (Q.move_d rfl)) rfl ?_
                refine PCn.new _ rfl (GQ.q rfl (Q.ld_ptrn (k := 0) ag41 rfl rfl rfl)) rfl ?_
                refine PCn.now (rE _ _) rfl rfl rfl (fun τ => Loud.to (L.bslo sl37 (by decide) zr37 rfl zrd37 (by decide) rfl rfl rfl) (fun _ _ ⟨v, h1, h2⟩ => ⟨_, h1, v, rfl, h2⟩)) ?_
                refine PCn.later rfl ?_
                refine PCn.new _ rfl (GQ.q rfl (Q.move_d rfl)) rfl ?_
                refine PCn.later rfl ?_
                refine PCn.later rfl ?_
                refine PCn.later rfl ?_
                refine PCn.later rfl ?_
                refine PCn.later rfl ?_
                refine PCn.later rfl ?_
                refine PCn.nil ?_
                refine AllZ.cons ?_ (AllZ.cons ?_ AllZ.nil)
                · rintro _ _ ⟨_, ⟨v110, rfl, rfl⟩, rfl⟩
                  apply DTn.more [(9, [10, 14, 17])] [rE _ _] [.old, .old, .did, .did, .did, .did, .did, .old, .old, .now, .later, .old, .later, .later, .later, .later, .later, .later] (by kernel_rfl)
                  refine PCn.old rfl (GQ.q rfl (Q.move_ptr rfl)) rfl ?_
                  refine PCn.old rfl (GQ.q rfl (Q.move_ptr rfl)) rfl ?_
                  refine PCn.did rfl ?_
                  refine PCn.did rfl ?_
                  refine PCn.did rfl ?_
                  refine PCn.did rfl ?_
                  refine PCn.did rfl ?_
                  refine PCn.old rfl (GQ.q rfl (Q.move_d rfl)) rfl ?_
                  refine PCn.old rfl (GQ.q rfl (Q.ld_ptrn (k := 1) ag41 rfl rfl rfl)) rfl ?_
                  refine PCn.now (rE _ _) rfl rfl rfl (fun τ => Loud.to (L.bslo sl37 (by decide) zr37 rfl zrd37 (by decide) rfl rfl rfl) (fun _ _ ⟨v, h1, h2⟩ => ⟨_, h1, v, rfl, h2⟩)) ?_
                  refine PCn.later rfl ?_
                  refine PCn.old rfl (GQ.q rfl (Q.move_d rfl)) rfl ?_
                  refine PCn.later rfl ?_
                  refine PCn.later rfl ?_
                  refine PCn.later rfl ?_
                  refine PCn.later rfl ?_
                  refine PCn.later rfl ?_
                  refine PCn.later rfl ?_
                  refine PCn.nil ?_
                  refine AllZ.cons ?_ AllZ.nil
                  rintro _ _ ⟨v113, rfl, rfl⟩
                  apply DTn.more [(10, [14, 17])] [rC _] [.old, .old, .did, .did, .did, .did, .did, .old, .did, .did, .now, .old, .later, .later, .later, .later, .later, .later] (by kernel_rfl)
                  refine PCn.old rfl (GQ.q rfl (Q.move_ptr rfl)) rfl ?_
                  refine PCn.old rfl (GQ.q rfl (Q.move_ptr rfl)) rfl ?_
                  refine PCn.did rfl ?_
                  refine PCn.did rfl ?_
                  refine PCn.did rfl ?_
                  refine PCn.did rfl ?_
                  refine PCn.did rfl ?_
                  refine PCn.old rfl (GQ.q rfl (Q.move_d rfl)) rfl ?_
                  refine PCn.did rfl ?_
                  refine PCn.did rfl ?_
                  refine PCn.now (rC _) rfl rfl rfl (fun τ => Loud.to (L.call rfl Tryz.func83 go83 rfl (insF_c v113 v110 (posK Fl.call fl x.call) (newL su fl x) fl _ hple (by omega)) rfl) (fun _ _ ⟨r, h1, h2⟩ => ⟨r, h1, _, h2, rfl⟩)) ?_
                  refine PCn.old rfl (GQ.q rfl (Q.move_d rfl)) rfl ?_
                  refine PCn.later rfl ?_
                  refine PCn.later rfl ?_
                  refine PCn.later rfl ?_
                  refine PCn.later rfl ?_
                  refine PCn.later rfl ?_
                  refine PCn.later rfl ?_
                  refine PCn.nil ?_
                  refine AllZ.cons ?_ AllZ.nil
                  rintro _ _ ⟨_, ⟨id2, rfl, rfl⟩, rfl⟩
                  apply DTn.more [(14, [17])] [rS _] [.old, .old, .did, .did, .did, .did, .did, .did, .did, .did, .did, .old, .new, .new, .now, .later, .later, .later] (by kernel_rfl)
                  refine PCn.old rfl (GQ.q rfl (Q.move_ptr rfl)) rfl ?_
                  refine PCn.old rfl (GQ.q rfl (Q.move_ptr rfl)) rfl ?_
                  refine PCn.did rfl ?_
                  refine PCn.did rfl ?_
                  refine PCn.did rfl ?_
                  refine PCn.did rfl ?_
                  refine PCn.did rfl ?_
                  refine PCn.did rfl ?_
                  refine PCn.did rfl ?_
                  refine PCn.did rfl ?_
                  refine PCn.did rfl ?_
                  refine PCn.old rfl (GQ.q rfl (Q.move_d rfl)) rfl ?_
                  refine PCn.new _ rfl (GQ.q rfl (Q.nil_ptr rfl)) rfl ?_
                  refine PCn.new _ rfl (GQ.q rfl (Q.fld_ptr fl83_2 rfl)) rfl ?_
                  refine PCn.now (rS _) rfl rfl rfl (fun τ => Loud.to (L.store (k := 3) ag37 ((oev_app rfl).trans rfl) rfl rfl ((oev_app rfl).trans rfl) rfl) (fun _ _ h => ⟨.any, h.1, h.2⟩)) ?_
                  refine PCn.later rfl ?_
                  refine PCn.later rfl ?_
                  refine PCn.later rfl ?_
                  refine PCn.nil ?_
                  refine AllZ.cons ?_ AllZ.nil
                  rintro _ _ rfl
                  apply DTn.more [(17, [])] [rS _] [.did, .old, .did, .did, .did, .did, .did, .did, .did, .did, .did, .old, .did, .did, .did, .new, .new, .now] (by kernel_rfl)
                  refine PCn.did rfl ?_
                  refine PCn.old rfl (GQ.q rfl (Q.move_ptr rfl)) rfl ?_
                  refine PCn.did rfl ?_
                  refine PCn.did rfl ?_
                  refine PCn.did rfl ?_
                  refine PCn.did rfl ?_
                  refine PCn.did rfl ?_
                  refine PCn.did rfl ?_
                  refine PCn.did rfl ?_
                  refine PCn.did rfl ?_
                  refine PCn.did rfl ?_
                  refine PCn.old rfl (GQ.q rfl (Q.move_d rfl)) rfl ?_
                  refine PCn.did rfl ?_
                  refine PCn.did rfl ?_
                  refine PCn.did rfl ?_
                  refine PCn.new _ rfl (GQ.q rfl (Q.nil_ptr rfl)) rfl ?_
                  refine PCn.new _ rfl (GQ.q rfl (Q.fld_ptr fl83_3 rfl)) rfl ?_
                  refine PCn.now (rS _) rfl rfl rfl (fun τ => Loud.to (L.store (k := 3) ag55 ((oev_app rfl).trans rfl) rfl rfl ((oev_app rfl).trans rfl) rfl) (fun _ _ h => ⟨.any, h.1, h.2⟩)) ?_
                  refine PCn.nil ?_
                  refine AllZ.cons ?_ AllZ.nil
                  rintro _ _ rfl
                  refine DTn.last [.did, .did, .did, .did, .did, .did, .did, .did, .did, .did, .did, .did, .did, .did, .did, .did, .did, .did] (by kernel_rfl) ?_
                  refine PCn.did rfl ?_
                  refine PCn.did rfl ?_
                  refine PCn.did rfl ?_
                  refine PCn.did rfl ?_
                  refine PCn.did rfl ?_
                  refine PCn.did rfl ?_
                  refine PCn.did rfl ?_
                  refine PCn.did rfl ?_
                  refine PCn.did rfl ?_
                  refine PCn.did rfl ?_
                  refine PCn.did rfl ?_
                  refine PCn.did rfl ?_
                  refine PCn.did rfl ?_
                  refine PCn.did rfl ?_
                  refine PCn.did rfl ?_
                  refine PCn.did rfl ?_
                  refine PCn.did rfl ?_
                  refine PCn.did rfl ?_
                  refine PCn.nil ?_
                  refine XOps.nil ?_
                  refine W.heap ((id2, .lst 8 ((insX fl (posK Fl.call fl x.call) (newL su fl x)).map Fl.enc)) :: (b, .cells ((ceC su tm fl (begL ow x.call x.by_) lb).set 19 (.vs id2 0 (fl.length + 1) 8))) :: hs) (HLe.cons _ (HLe.skip _ (HLe.skip _ (HLe.refl _)))) ?_
                  refine W.freezec 19 rfl (by rw [List.length_map, ins_len _ hple]) ?_
                  refine W.reg ?_
                  refine XOps.s rfl rfl rfl (Q.assign_d rfl) ?_
                  refine XOps.nil ?_
                  refine W.ret ?_
                  exact ⟨_, (b, .cells (ceC su tm (insX fl (posK Fl.call fl x.call) (newL su fl x)) (begL ow x.call x.by_) lb)) :: hs, rfl, HLe.refl _, rfl, rfl⟩
                · rintro _ _ ⟨v113, rfl, rfl⟩
                  apply DTn.more [(6, [10, 14, 17])] [rC _] [.old, .old, .old, .old, .old, .old, .now, .old, .did, .did, .later, .old, .later, .later, .later, .later, .later, .later] (by kernel_rfl)
                  refine PCn.old rfl (GQ.q rfl (Q.move_ptr rfl)) rfl ?_
                  refine PCn.old rfl (GQ.q rfl (Q.move_ptr rfl)) rfl ?_
                  refine PCn.old rfl (GQ.q rfl (Q.move_ptr rfl)) rfl ?_
                  refine PCn.old rfl (GQ.q rfl (Q.nil_ptr rfl)) rfl ?_
                  refine PCn.old rfl (GQ.q rfl (Q.fld_ptr fl83_2 rfl)) rfl ?_
                  refine PCn.old rfl (GQ.q rfl (Q.ld_ptr (k := 3) ag37 rfl rfl rfl)) rfl ?_
                  refine PCn.now (rC _) rfl rfl rfl (fun τ => Loud.to (L.call rfl Tryz.func84 go84 rfl (cloneF_c fl _ (by omega)) rfl) (fun _ _ ⟨r, h1, h2⟩ => ⟨r, h1, _, h2, rfl⟩)) ?_
                  refine PCn.old rfl (GQ.q rfl (Q.move_d rfl)) rfl ?_
                  refine PCn.did rfl ?_
                  refine PCn.did rfl ?_
                  refine PCn.later rfl ?_
                  refine PCn.old rfl (GQ.q rfl (Q.move_d rfl)) rfl ?_
                  refine PCn.later rfl ?_
                  refine PCn.later rfl ?_
                  refine PCn.later rfl ?_
                  refine PCn.later rfl ?_
                  refine PCn.later rfl ?_
                  refine PCn.later rfl ?_
                  refine PCn.nil ?_
                  refine AllZ.cons ?_ AllZ.nil
                  rintro _ _ ⟨_, ⟨v110, rfl, rfl⟩, rfl⟩
                  apply DTn.more [(10, [14, 17])] [rC _] [.old, .old, .did, .did, .did, .did, .did, .old, .did, .did, .now, .old, .later, .later, .later, .later, .later, .later] (by kernel_rfl)
                  refine PCn.old rfl (GQ.q rfl (Q.move_ptr rfl)) rfl ?_
                  refine PCn.old rfl (GQ.q rfl (Q.move_ptr rfl)) rfl ?_
                  refine PCn.did rfl ?_
                  refine PCn.did rfl ?_
                  refine PCn.did rfl ?_
                  refine PCn.did rfl ?_
                  refine PCn.did rfl ?_
                  refine PCn.old rfl (GQ.q rfl (Q.move_d rfl)) rfl ?_
                  refine PCn.did rfl ?_
                  refine PCn.did rfl ?_
                  refine PCn.now (rC _) rfl rfl rfl (fun τ => Loud.to (L.call rfl Tryz.func83 go83 rfl (AC.le (insF_c v113 v110 (posK Fl.call fl x.call) (newL su fl x) fl _ hple (by omega)) (HLe.pick 1 rfl rfl (HLe.refl _))) rfl) (fun _ _ ⟨r, h1, h2⟩ => ⟨r, h1, _, h2, rfl⟩)) ?_
                  refine PCn.old rfl (GQ.q rfl (Q.move_d rfl)) rfl ?_
                  refine PCn.later rfl ?_
                  refine PCn.later rfl ?_
                  refine PCn.later rfl ?_
                  refine PCn.later rfl ?_
                  refine PCn.later rfl ?_
                  refine PCn.later rfl ?_
                  refine PCn.nil ?_
                  refine AllZ.cons ?_ AllZ.nil
                  rintro _ _ ⟨_, ⟨id2, rfl, rfl⟩, rfl⟩
                  apply DTn.more [(14, [17])] [rS _] [.old, .old, .did, .did, .did, .did, .did, .did, .did, .did, .did, .old, .new, .new, .now, .later, .later, .later] (by kernel_rfl)
                  refine PCn.old rfl (GQ.q rfl (Q.move_ptr rfl)) rfl ?_
                  refine PCn.old rfl (GQ.q rfl (Q.move_ptr rfl)) rfl ?_
                  refine PCn.did rfl ?_
                  refine PCn.did rfl ?_
                  refine PCn.did rfl ?_
                  refine PCn.did rfl ?_
                  refine PCn.did rfl ?_
                  refine PCn.did rfl ?_
                  refine PCn.did rfl ?_
                  refine PCn.did rfl ?_
                  refine PCn.did rfl ?_
                  refine PCn.old rfl (GQ.q rfl (Q.move_d rfl)) rfl ?_
                  refine PCn.new _ rfl (GQ.q rfl (Q.nil_ptr rfl)) rfl ?_
                  refine PCn.new _ rfl (GQ.q rfl (Q.fld_ptr fl83_2 rfl)) rfl ?_
                  refine PCn.now (rS _) rfl rfl rfl (fun τ => Loud.to (L.store (k := 3) ag37 ((oev_app rfl).trans rfl) rfl rfl ((oev_app rfl).trans rfl) rfl) (fun _ _ h => ⟨.any, h.1, h.2⟩)) ?_
                  refine PCn.later rfl ?_
                  refine PCn.later rfl ?_
                  refine PCn.later rfl ?_
                  refine PCn.nil ?_
                  refine AllZ.cons ?_ AllZ.nil
                  rintro _ _ rfl
                  apply DTn.more [(17, [])] [rS _] [.did, .old, .did, .did, .did, .did, .did, .did, .did, .did, .did, .old, .did, .did, .did, .new, .new, .now] (by kernel_rfl)
                  refine PCn.did rfl ?_
                  refine PCn.old rfl (GQ.q rfl (Q.move_ptr rfl)) rfl ?_
                  refine PCn.did rfl ?_
                  refine PCn.did rfl ?_
                  refine PCn.did rfl ?_
                  refine PCn.did rfl ?_
                  refine PCn.did rfl ?_
                  refine PCn.did rfl ?_
                  refine PCn.did rfl ?_
                  refine PCn.did rfl ?_
                  refine PCn.did rfl ?_
                  refine PCn.old rfl (GQ.q rfl (Q.move_d rfl)) rfl ?_
                  refine PCn.did rfl ?_
                  refine PCn.did rfl ?_
                  refine PCn.did rfl ?_
                  refine PCn.new _ rfl (GQ.q rfl (Q.nil_ptr rfl)) rfl ?_
                  refine PCn.new _ rfl (GQ.q rfl (Q.fld_ptr fl83_3 rfl)) rfl ?_
                  refine PCn.now (rS _) rfl rfl rfl (fun τ => Loud.to (L.store (k := 3) ag55 ((oev_app rfl).trans rfl) rfl rfl ((oev_app rfl).trans rfl) rfl) (fun _ _ h => ⟨.any, h.1, h.2⟩)) ?_
                  refine PCn.nil ?_
                  refine AllZ.cons ?_ AllZ.nil
                  rintro _ _ rfl
                  refine DTn.last [.did, .did, .did, .did, .did, .did, .did, .did, .did, .did, .did, .did, .did, .did, .did, .did, .did, .did] (by kernel_rfl) ?_
                  refine PCn.did rfl ?_
                  refine PCn.did rfl ?_
                  refine PCn.did rfl ?_
                  refine PCn.did rfl ?_
                  refine PCn.did rfl ?_
                  refine PCn.did rfl ?_
                  refine PCn.did rfl ?_
                  refine PCn.did rfl ?_
                  refine PCn.did rfl ?_
                  refine PCn.did rfl ?_
                  refine PCn.did rfl ?_
                  refine PCn.did rfl ?_
                  refine PCn.did rfl ?_
                  refine PCn.did rfl ?_
                  refine PCn.did rfl ?_
                  refine PCn.did rfl ?_
                  refine PCn.did rfl ?_
                  refine PCn.did rfl ?_
                  refine PCn.nil ?_
                  refine XOps.nil ?_
                  refine W.heap ((id2, .lst 8 ((insX fl (posK Fl.call fl x.call) (newL su fl x)).map Fl.enc)) :: (b, .cells ((ceC su tm fl (begL ow x.call x.by_) lb).set 19 (.vs id2 0 (fl.length + 1) 8))) :: hs) (HLe.cons _ (HLe.skip _ (HLe.skip _ (HLe.refl _)))) ?_
                  refine W.freezec 19 rfl (by rw [List.length_map, ins_len _ hple]) ?_
                  refine W.reg ?_
                  refine XOps.s rfl rfl rfl (Q.assign_d rfl) ?_
                  refine XOps.nil ?_
                  refine W.ret ?_
                  exact ⟨_, (b, .cells (ceC su tm (insX fl (posK Fl.call fl x.call) (newL su fl x)) (begL ow x.call x.by_) lb)) :: hs, rfl, HLe.refl _, rfl, rfl⟩
end Go.Proofs.YtaegeaajhbfkgaaGreatDoorA

