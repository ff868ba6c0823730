/- Centres: clear. -/
import Derived.Test.YtaegeaajhbfkgaaGreatDoorFrB
import Derived.Test.YtaegeaajhbfkgaaGreatDoorCeO
import Derived.Test.YtaegeaajhbfkgaaGreatDoorCeJ
set_option linter.unusedVariables false
set_option linter.unusedSimpArgs false
set_option linter.unnecessarySimpa false
namespace Go.Proofs.YtaegeaajhbfkgaaGreatDoorA.FCeQ
open Go
theorem ag3 : tAgg P 3 = some ((false, 1)) := by kernel_rfl
theorem ag33 : tAgg P 33 = some ((false, 1)) := by kernel_rfl
theorem ag37 : tAgg P 37 = some ((false, 1)) := by kernel_rfl
theorem ag39 : tAgg P 39 = some ((false, 1)) := by kernel_rfl
theorem ag41 : tAgg P 41 = some ((true, 8)) := by kernel_rfl
theorem ag55 : tAgg P 55 = some ((false, 1)) := by kernel_rfl
theorem ag9 : tAgg P 9 = some ((false, 1)) := by kernel_rfl
theorem fl35_1 : tFld P 35 1 = some (1) := by kernel_rfl
theorem fl35_2 : tFld P 35 2 = some (2) := by kernel_rfl
theorem fl35_3 : tFld P 35 3 = some (3) := by kernel_rfl
theorem fl35_5 : tFld P 35 5 = some (5) := by kernel_rfl
theorem fl41_4 : tFld P 41 4 = some (4) := by kernel_rfl
theorem fl41_5 : tFld P 41 5 = some (5) := by kernel_rfl
theorem fl41_7 : tFld P 41 7 = some (7) := by kernel_rfl
theorem fl45_0 : tFld P 45 0 = some (0) := by kernel_rfl
theorem fl47_0 : tFld P 47 0 = some (0) := by kernel_rfl
theorem fl83_2 : tFld P 83 2 = some (19) := by kernel_rfl
theorem fl83_3 : tFld P 83 3 = some (20) := by kernel_rfl
theorem go16 : callGo Go.Proofs.Tryz.f16 = true := by kernel_rfl
theorem go17 : callGo Go.Proofs.Tryz.f17 = true := by kernel_rfl
theorem go40 : callGo Go.Proofs.Tryz.f40 = true := by kernel_rfl
theorem go41 : callGo Go.Proofs.Tryz.f41 = true := by kernel_rfl
theorem go65 : callGo Go.Proofs.Tryz.f65 = true := by kernel_rfl
theorem go75 : callGo Go.Proofs.Tryz.f75 = true := by kernel_rfl
theorem go79 : callGo Go.Proofs.Tryz.f79 = true := by kernel_rfl
theorem go80 : callGo Go.Proofs.Tryz.f80 = true := by kernel_rfl
theorem go81 : callGo Go.Proofs.Tryz.f81 = true := by kernel_rfl
theorem go82 : callGo Go.Proofs.Tryz.f82 = true := by kernel_rfl
theorem go84 : callGo Go.Proofs.Tryz.f84 = true := by kernel_rfl
theorem go85 : callGo Go.Proofs.Tryz.f85 = true := by kernel_rfl
theorem isl33 : isSl P 33 = true := by kernel_rfl
theorem isl39 : isSl P 39 = true := by kernel_rfl
theorem sl33 : tSl P 33 = some (6) := by kernel_rfl
theorem sl37 : tSl P 37 = some (8) := by kernel_rfl
theorem sl39 : tSl P 39 = some (1) := by kernel_rfl
theorem tz41 : tZero P 41 = some ([.string ⟨#[]⟩, .int .i64 0, .int .i64 0, .bool false, .slice none 0 0, .slice none 0 0, .int .i64 0, .int .i64 0]) := by kernel_rfl
end Go.Proofs.YtaegeaajhbfkgaaGreatDoorA.FCeQ
namespace Go.Proofs.YtaegeaajhbfkgaaGreatDoorA
open Go FCeQ
attribute [local irreducible] XOps Quiet Loud W AC GQ DT
set_option maxHeartbeats 8000000 in
set_option maxRecDepth 100000 in
theorem clr_c (su : Su) (tm : Int) (fl : List Fl) (ow : List OE) (lb b : Nat) (x : CI) (hs : Hp) (o : FwOk fl ow) (gk : gapsOk su.gv) (zt : x.tube.length ≤ 4611686018427387904) : AC P 58 [.ptr b 0, .d (.agg x.enc)] ((b, .cells (ceC su tm fl ow lb)) :: hs) (fun r h => r = .d (.int .i64 (clrE su fl ow x)) ∧ h = (b, .cells (ceC su tm (clrF su fl ow x) (ow) lb)) :: hs) := by
  have hfl := o.len
  have hml : (fl.map Fl.enc).length = fl.length := List.length_map _
  refine AC.of 159 Tryz.func58 rfl rfl rfl ?_
  refine W.reg ?_
  refine XOps.loud rfl (L.boxn rfl rfl) ?_
  rintro _ _ ⟨b3, rfl, rfl⟩
  refine XOps.s rfl rfl rfl (Q.assign_d rfl) ?_
  refine XOps.nil ?_
  refine W.drawreg 11 follows (by kernel_rfl) ?_
  refine Chain.cons _ (GQ.q rfl (Q.move_ptr rfl)) rfl ?_
  refine Chain.cons _ (GQ.q rfl (Q.nil_ptr rfl)) rfl ?_
  refine Chain.cons _ (GQ.q rfl (Q.fld_ptr fl83_3 rfl)) rfl ?_
  refine Chain.cons _ (GQ.q rfl (Q.ld_ptr (k := 1) ag55 rfl rfl rfl)) rfl ?_
  refine Chain.cons _ (GQ.q rfl (Q.fld_ptr fl35_2 rfl)) rfl ?_
  refine Chain.cons _ (GQ.q rfl (Q.ld_ptr (k := 0) ag9 rfl rfl rfl)) rfl ?_
  refine Chain.cons _ (GQ.q rfl (Q.call rfl Tryz.func85 go85 rfl (of_c ow x.call _ o.owk))) rfl ?_
  refine Chain.cons _ (GQ.q rfl (Q.move_tup rfl)) rfl ?_
  refine Chain.cons _ (GQ.q rfl (Q.extract rfl rfl)) rfl ?_
  refine Chain.cons _ (GQ.q rfl (Q.extract rfl rfl)) rfl ?_
  refine Chain.cons _ (GQ.q rfl (Q.assign_d rfl)) rfl ?_
  refine Chain.nil ?_
  refine XOps.s rfl rfl rfl (Q.assign_d rfl) ?_
  refine XOps.nil ?_
  refine W.seq ?_
  refine W.reg ?_
  refine XOps.s rfl rfl rfl (Q.move_d rfl) ?_
  refine XOps.s rfl rfl rfl (Q.neq rfl rfl) ?_
  refine XOps.nil ?_
  refine W.cond rfl (fun hc27 => ?_) (fun hc27 => ?_)
  · try simp only [Bool.or_eq_true, Bool.or_eq_false_iff, Bool.and_eq_true, Bool.and_eq_false_iff, decide_eq_true_eq, decide_eq_false_iff_not, Bool.not_eq_true', Bool.not_eq_false', Int.not_lt, Int.not_le, List.length_map] at hc27
    have h27 : ofE ow x.call ≠ 0 := by first | exact hc27 | (simpa using hc27)
    have hE : clrE su fl ow x = ofE ow x.call := by unfold clrE; rw [if_pos h27]
    have hF := clr_no (su := su) (fl := fl) (ow := ow) (x := x) (by rw [hE]; omega)
    rw [hF, hE]
    refine W.reg ?_
    refine XOps.s rfl rfl rfl (Q.move_d rfl) ?_
    refine XOps.s rfl rfl rfl (Q.assign_d rfl) ?_
    refine XOps.nil ?_
    refine W.ret ?_
    exact ⟨_, (b, .cells (ceC su tm fl ow lb)) :: hs, rfl, HLe.skip _ (HLe.refl _), rfl, rfl⟩
  · try simp only [Bool.or_eq_true, Bool.or_eq_false_iff, Bool.and_eq_true, Bool.and_eq_false_iff, decide_eq_true_eq, decide_eq_false_iff_not, Bool.not_eq_true', Bool.not_eq_false', Int.not_lt, Int.not_le, List.length_map] at hc27
    have h27 : ¬ ofE ow x.call ≠ 0 := by first | exact fun h => h hc27 | (simpa using hc27)
    have hh := (o.has x.call).trans (ofE_has (Classical.not_not.1 h27))
    obtain ⟨hx, hxc⟩ := atF_get hh
    have hpl := (List.getElem?_eq_some_iff.1 hx).1
    have okf := o.all _ (List.mem_of_getElem? hx)
    have hll : (atF fl x.call).legs.length ≠ 0 := fun h => okf.ne (List.eq_nil_of_length_eq_zero h)
    have hlg := lastL_get okf.ne
    have hlm : ((atF fl x.call).legs.map tuR).length = (atF fl x.call).legs.length := List.length_map _
    have hok := okf.legs _ (List.mem_of_getElem? hlg)
    have hlz := okf.len
    have hlr : ((atF fl x.call).legs.map tuR)[((((atF fl x.call).legs.map tuR).length : Int) - 1).toNat]? = some (tuR (lastL (atF fl x.call))) := by
      rw [List.getElem?_map, List.length_map, show (((atF fl x.call).legs.length : Int) - 1).toNat = (atF fl x.call).legs.length - 1 by omega, hlg]; rfl
    have pll := hd_row hok.ne
    have hlt : (lastL (atF fl x.call)).length ≠ 0 := fun h => hok.ne (List.eq_nil_of_length_eq_zero h)
    have hlt2 := hok.len
    have hlm2 : ((lastL (atF fl x.call)).map Nd.enc).length = (lastL (atF fl x.call)).length := List.length_map _
    refine W.skip ?_
    refine W.reg ?_
    refine XOps.s rfl rfl rfl (Q.move_ptr rfl) ?_
    refine XOps.s rfl rfl rfl (Q.fld_ptr fl35_2 rfl) ?_
    refine XOps.s rfl rfl rfl (Q.ld_ptr (k := 0) ag9 rfl rfl rfl) ?_
    refine XOps.s rfl rfl rfl (Q.call rfl Tryz.func82 go82 rfl (cfind_c su (.d (.int .i64 tm)) fl [.d (.sl 3 (ow.map OE.enc)), .ptr lb 0] b 1 _ rfl x.call o.srt (by omega))) ?_
    refine XOps.s rfl rfl rfl (Q.move_tup rfl) ?_
    refine XOps.s rfl rfl rfl (Q.extract rfl rfl) ?_
    refine XOps.s rfl rfl rfl (Q.extract rfl rfl) ?_
    refine XOps.s rfl rfl rfl (Q.assign_d rfl) ?_
    refine XOps.s rfl rfl rfl (Q.assign_d rfl) ?_
    refine XOps.nil ?_
    refine W.reg ?_
    refine XOps.s rfl rfl rfl (Q.move_ptr rfl) ?_
    refine XOps.s rfl rfl rfl (Q.nil_ptr rfl) ?_
    refine XOps.s rfl rfl rfl (Q.fld_ptr fl83_2 rfl) ?_
    refine XOps.s rfl rfl rfl (Q.ld_ptr (k := 1) ag37 rfl rfl rfl) ?_
    refine XOps.s rfl rfl rfl (Q.move_d rfl) ?_
    refine XOps.s rfl rfl rfl (Q.idx_sl sl37 (by decide) rfl rfl (by first | omega | (simp only [List.length_map]; omega)) (by first | exact map_at hx | exact hlr | exact ph | exact pll)) ?_
    refine XOps.s rfl rfl rfl (Q.ld_dpn ag41 rfl rfl) ?_
    refine XOps.s rfl rfl rfl (Q.call rfl Tryz.func40 go40 rfl (copied_c (atF fl x.call) _ (fun l hl => by have := (okf.legs l hl).len; omega) (okf.next.elim (fun h => by rw [h]; exact Nat.zero_le _) (fun h => by have := h.len; omega)) (by omega))) ?_
    (refine XOps.loud rfl (L.alloc tz41 rfl rfl) ?_; rintro _ _ ⟨b9, rfl, rfl⟩)
    refine XOps.loud rfl (L.storen (k := 0) ag41 rfl rfl rfl rfl rfl) ?_
    rintro _ _ ⟨rfl, rfl⟩
    refine XOps.nil ?_
    refine W.seq ?_
    refine W.block ?_
    refine W.reg ?_
    refine XOps.s rfl rfl rfl (Q.move_d rfl) ?_
    refine XOps.s rfl rfl rfl (Q.fld_ptr fl35_3 rfl) ?_
    refine XOps.s rfl rfl rfl (Q.ld_ptr (k := 1) ag9 rfl rfl rfl) ?_
    refine XOps.s rfl rfl rfl (Q.neq_str rfl rfl) ?_
    refine XOps.s rfl rfl rfl (Q.assign_d rfl) ?_
    refine XOps.nil ?_
    refine W.cond rfl (fun hc44 => ?_) (fun hc44 => ?_)
    · try simp only [Bool.or_eq_true, Bool.or_eq_false_iff, Bool.and_eq_true, Bool.and_eq_false_iff, decide_eq_true_eq, decide_eq_false_iff_not, Bool.not_eq_true', Bool.not_eq_false', Int.not_lt, Int.not_le, List.length_map] at hc44
      have h44 : ofV ow x.call ≠ x.by_ := fun h => by rw [h] at hc44; simp at hc44
      have hE : clrE su fl ow x = 16 := by unfold clrE; rw [if_neg h27]; unfold clrG; rw [if_pos h44]
      have hF := clr_no (su := su) (fl := fl) (ow := ow) (x := x) (by rw [hE]; omega)
      rw [hF, hE]
      refine W.reg ?_
      refine XOps.s rfl rfl rfl (Q.assign_d rfl) ?_
      refine XOps.nil ?_
      refine W.ret ?_
      exact ⟨_, (b, .cells (ceC su tm fl ow lb)) :: hs, rfl, HLe.skip _ (HLe.skip _ (HLe.refl _)), rfl, rfl⟩
    · try simp only [Bool.or_eq_true, Bool.or_eq_false_iff, Bool.and_eq_true, Bool.and_eq_false_iff, decide_eq_true_eq, decide_eq_false_iff_not, Bool.not_eq_true', Bool.not_eq_false', Int.not_lt, Int.not_le, List.length_map] at hc44
      have h44 : ¬ ofV ow x.call ≠ x.by_ := fun h => h (by first | exact (seq_iff _ _).1 hc44 | (rw [Bool.not_eq_false'] at hc44; exact (seq_iff _ _).1 hc44))
      refine W.reg ?_
      refine XOps.s rfl rfl rfl (Q.fld_ptr fl41_5 rfl) ?_
      refine XOps.s rfl rfl rfl (Q.ld_ptr (k := 0) ag33 rfl rfl rfl) ?_
      refine XOps.s rfl rfl rfl (Q.len_sl isl33 rfl) ?_
      refine XOps.s rfl rfl rfl (Q.gtr rfl rfl) ?_
      refine XOps.s rfl rfl rfl (Q.assign_d rfl) ?_
      refine XOps.nil ?_
      refine W.cond rfl (fun hc49 => ?_) (fun hc49 => ?_)
      · try simp only [Bool.or_eq_true, Bool.or_eq_false_iff, Bool.and_eq_true, Bool.and_eq_false_iff, decide_eq_true_eq, decide_eq_false_iff_not, Bool.not_eq_true', Bool.not_eq_false', Int.not_lt, Int.not_le, List.length_map] at hc49
        have h49 : (atF fl x.call).next ≠ [] := fun h => by rw [h] at hc49; simp at hc49
        have hE : clrE su fl ow x = 11 := by unfold clrE; rw [if_neg h27]; unfold clrG; rw [if_neg h44, if_pos h49]
        have hF := clr_no (su := su) (fl := fl) (ow := ow) (x := x) (by rw [hE]; omega)
        rw [hF, hE]
        refine W.reg ?_
        refine XOps.s rfl rfl rfl (Q.assign_d rfl) ?_
        refine XOps.nil ?_
        refine W.ret ?_
        exact ⟨_, (b, .cells (ceC su tm fl ow lb)) :: hs, rfl, HLe.skip _ (HLe.skip _ (HLe.refl _)), rfl, rfl⟩
      · try simp only [Bool.or_eq_true, Bool.or_eq_false_iff, Bool.and_eq_true, Bool.and_eq_false_iff, decide_eq_true_eq, decide_eq_false_iff_not, Bool.not_eq_true', Bool.not_eq_false', Int.not_lt, Int.not_le, List.length_map] at hc49
        have h49 : ¬ (atF fl x.call).next ≠ [] := fun h => h (List.eq_nil_of_length_eq_zero (by have := hc49; simp at this; omega))
        refine W.reg ?_
        refine XOps.s rfl rfl rfl (Q.fld_ptr fl41_4 rfl) ?_
        refine XOps.s rfl rfl rfl (Q.ld_ptr (k := 0) ag39 rfl rfl rfl) ?_
        refine XOps.s rfl rfl rfl (Q.len_sl isl39 rfl) ?_
        refine XOps.s rfl rfl rfl (Q.eql rfl rfl) ?_
        refine XOps.s rfl rfl rfl (Q.assign_d rfl) ?_
        refine XOps.nil ?_
        refine W.cond rfl (fun hc54 => ?_) (fun hc54 => ?_)
        · try simp only [Bool.or_eq_true, Bool.or_eq_false_iff, Bool.and_eq_true, Bool.and_eq_false_iff, decide_eq_true_eq, decide_eq_false_iff_not, Bool.not_eq_true', Bool.not_eq_false', Int.not_lt, Int.not_le, List.length_map] at hc54
          have h54 : (atF fl x.call).legs.length = 6 := by omega
          have hE : clrE su fl ow x = 9 := by unfold clrE; rw [if_neg h27]; unfold clrG; rw [if_neg h44, if_neg h49, if_pos h54]
          have hF := clr_no (su := su) (fl := fl) (ow := ow) (x := x) (by rw [hE]; omega)
          rw [hF, hE]
          refine W.reg ?_
          refine XOps.s rfl rfl rfl (Q.assign_d rfl) ?_
          refine XOps.nil ?_
          refine W.ret ?_
          exact ⟨_, (b, .cells (ceC su tm fl ow lb)) :: hs, rfl, HLe.skip _ (HLe.skip _ (HLe.refl _)), rfl, rfl⟩
        · try simp only [Bool.or_eq_true, Bool.or_eq_false_iff, Bool.and_eq_true, Bool.and_eq_false_iff, decide_eq_true_eq, decide_eq_false_iff_not, Bool.not_eq_true', Bool.not_eq_false', Int.not_lt, Int.not_le, List.length_map] at hc54
          have h54 : ¬ (atF fl x.call).legs.length = 6 := by omega
          refine W.skip ?_
          refine W.seq ?_
          refine W.reg ?_
          refine XOps.s rfl rfl rfl (Q.fld_ptr fl35_5 rfl) ?_
          refine XOps.s rfl rfl rfl (Q.ld_ptr (k := 1) ag33 rfl rfl rfl) ?_
          refine XOps.s rfl rfl rfl (Q.call rfl Tryz.func41 go41 rfl (tube_c x.tube _ zt)) ?_
          refine XOps.s rfl rfl rfl (Q.assign_d rfl) ?_
          refine XOps.nil ?_
          refine W.reg ?_
          refine XOps.s rfl rfl rfl (Q.move_d rfl) ?_
          refine XOps.s rfl rfl rfl (Q.neq rfl rfl) ?_
          refine XOps.nil ?_
          refine W.cond rfl (fun hc63 => ?_) (fun hc63 => ?_)
          · try simp only [Bool.or_eq_true, Bool.or_eq_false_iff, Bool.and_eq_true, Bool.and_eq_false_iff, decide_eq_true_eq, decide_eq_false_iff_not, Bool.not_eq_true', Bool.not_eq_false', Int.not_lt, Int.not_le, List.length_map] at hc63
            have h63 : tubeC x.tube ≠ 0 := by first | exact hc63 | (simpa using hc63)
            have hE : clrE su fl ow x = tubeC x.tube := by unfold clrE; rw [if_neg h27]; unfold clrG; rw [if_neg h44, if_neg h49, if_neg h54, if_pos h63]
            have hF := clr_no (su := su) (fl := fl) (ow := ow) (x := x) (by rw [hE]; omega)
            rw [hF, hE]
            refine W.reg ?_
            refine XOps.s rfl rfl rfl (Q.move_d rfl) ?_
            refine XOps.s rfl rfl rfl (Q.assign_d rfl) ?_
            refine XOps.nil ?_
            refine W.ret ?_
            exact ⟨_, (b, .cells (ceC su tm fl ow lb)) :: hs, rfl, HLe.skip _ (HLe.skip _ (HLe.refl _)), rfl, rfl⟩
          · try simp only [Bool.or_eq_true, Bool.or_eq_false_iff, Bool.and_eq_true, Bool.and_eq_false_iff, decide_eq_true_eq, decide_eq_false_iff_not, Bool.not_eq_true', Bool.not_eq_false', Int.not_lt, Int.not_le, List.length_map] at hc63
            have h63 : ¬ tubeC x.tube ≠ 0 := by first | exact fun h => h hc63 | (simpa using hc63)
            have ok : TuOk x.tube := tubeC_zero.1 (Classical.not_not.1 h63)
            have ph := hd_row ok.ne
            have hlt3 := ok.len
            have hl0 : x.tube.length ≠ 0 := fun h => ok.ne (List.eq_nil_of_length_eq_zero h)
            have hmt : (x.tube.map Nd.enc).length = x.tube.length := List.length_map _
            refine W.skip ?_
            refine W.reg ?_
            refine XOps.s rfl rfl rfl (Q.fld_ptr fl41_4 rfl) ?_
            refine XOps.s rfl rfl rfl (Q.ld_ptr (k := 0) ag39 rfl rfl rfl) ?_
            refine XOps.s rfl rfl rfl (Q.fld_ptr fl41_4 rfl) ?_
            refine XOps.s rfl rfl rfl (Q.ld_ptr (k := 0) ag39 rfl rfl rfl) ?_
            refine XOps.s rfl rfl rfl (Q.len_sl isl39 rfl) ?_
            refine XOps.s rfl rfl rfl (Q.sub rfl rfl (wi64 (by first | omega | (dsimp only; omega) | (simp only [List.length_map]; omega)) (by first | omega | (dsimp only; omega) | (simp only [List.length_map]; omega)))) ?_
            refine XOps.s rfl rfl rfl (Q.idx_sl sl39 (by decide) rfl rfl (by first | omega | (simp only [List.length_map]; omega)) (by first | exact map_at hx | exact hlr | exact ph | exact pll)) ?_
            refine XOps.s rfl rfl rfl (Q.ld_dp ag33 rfl rfl) ?_
            refine XOps.s rfl rfl rfl (Q.assign_d rfl) ?_
            refine XOps.nil ?_
            refine W.reg ?_
            refine XOps.s rfl rfl rfl (Q.fld_ptr fl35_5 rfl) ?_
            refine XOps.s rfl rfl rfl (Q.ld_ptr (k := 1) ag33 rfl rfl rfl) ?_
            refine XOps.s rfl rfl rfl (Q.idx_sl sl33 (by decide) rfl rfl (by first | omega | (simp only [List.length_map]; omega)) (by first | exact map_at hx | exact hlr | exact ph | exact pll)) ?_
            refine XOps.s rfl rfl rfl (Q.fld_dp fl47_0 rfl) ?_
            refine XOps.s rfl rfl rfl (Q.fld_dp fl45_0 rfl) ?_
            refine XOps.s rfl rfl rfl (Q.ld_dp ag3 rfl rfl) ?_
            refine XOps.s rfl rfl rfl (Q.assign_d rfl) ?_
            refine XOps.nil ?_
            refine W.seq ?_
            refine W.reg ?_
            refine XOps.s rfl rfl rfl (Q.move_d rfl) ?_
            refine XOps.s rfl rfl rfl (Q.fld_ptr fl35_1 rfl) ?_
            refine XOps.s rfl rfl rfl (Q.ld_ptr (k := 1) ag3 rfl rfl rfl) ?_
            refine XOps.s rfl rfl rfl (Q.leq rfl rfl) ?_
            refine XOps.s rfl rfl rfl (Q.move_d rfl) ?_
            refine XOps.gs rfl rfl rfl rfl rfl rfl rfl (fun hg => Q.move_d rfl) ?_
            refine XOps.gs rfl rfl rfl rfl rfl rfl rfl (fun hg => Q.move_d rfl) ?_
            refine XOps.gs rfl rfl rfl rfl rfl rfl rfl (fun hg => Quiet.open 85 hg rfl (Q.idx_sl sl33 (by decide) rfl rfl (by first | omega | (simp only [List.length_map]; omega)) (by first | exact map_at hx | exact hlr | exact ph | exact pll))) ?_
            refine XOps.gs rfl rfl rfl rfl rfl rfl rfl (fun hg => Quiet.open 86 hg rfl (Q.fld_dp fl47_0 rfl)) ?_
            refine XOps.gs rfl rfl rfl rfl rfl rfl rfl (fun hg => Quiet.open 87 hg rfl (Q.fld_dp fl45_0 rfl)) ?_
            refine XOps.gs rfl rfl rfl rfl rfl rfl rfl (fun hg => Quiet.open 88 hg rfl (Q.ld_dp ag3 rfl rfl)) ?_
            refine XOps.gs rfl rfl rfl rfl rfl rfl rfl (fun hg => Quiet.open 84 hg rfl (Quiet.open 89 hg rfl (Q.leq rfl rfl))) ?_
            refine XOps.s rfl rfl rfl (Q.pick_or rfl rfl rfl (fun h => by first | (rw [h]; rfl) | (rw [hg, h]; rfl) | (simp [h, hg]; done))) ?_
            refine XOps.s rfl rfl rfl (Q.move_d rfl) ?_
            refine XOps.gs rfl rfl rfl rfl rfl rfl rfl (fun hg => Q.move_d rfl) ?_
            refine XOps.gs rfl rfl rfl rfl rfl rfl rfl (fun hg => Q.move_d rfl) ?_
            refine XOps.gs rfl rfl rfl rfl rfl rfl rfl (fun hg => Quiet.open 93 hg rfl (Quiet.open 94 hg rfl (Q.call rfl Tryz.func75 go75 rfl (cov_c (lastL (atF fl x.call)) (hdT x.tube) _ (by omega))))) ?_
            refine XOps.gs rfl rfl rfl rfl rfl rfl rfl (fun hg => Quiet.open 95 hg rfl (Q.not rfl)) ?_
            refine XOps.s rfl rfl rfl (Q.pick_or rfl rfl rfl (fun h => by first | (rw [h]; rfl) | (rw [hg, h]; rfl) | (simp [h, hg]; done))) ?_
            refine XOps.nil ?_
            refine W.cond rfl (fun hc97 => ?_) (fun hc97 => ?_)
            · try simp only [Bool.or_eq_true, Bool.or_eq_false_iff, Bool.and_eq_true, Bool.and_eq_false_iff, decide_eq_true_eq, decide_eq_false_iff_not, Bool.not_eq_true', Bool.not_eq_false', Int.not_lt, Int.not_le, List.length_map] at hc97
              have h97 : badFrom (atF fl x.call) x := by unfold badFrom; exact hc97
              have hE : clrE su fl ow x = 12 := by unfold clrE; rw [if_neg h27]; unfold clrG; rw [if_neg h44, if_neg h49, if_neg h54, if_neg h63, if_pos h97]
              have hF := clr_no (su := su) (fl := fl) (ow := ow) (x := x) (by rw [hE]; omega)
              rw [hF, hE]
              refine W.reg ?_
              refine XOps.s rfl rfl rfl (Q.assign_d rfl) ?_
              refine XOps.nil ?_
              refine W.ret ?_
              exact ⟨_, (b, .cells (ceC su tm fl ow lb)) :: hs, rfl, HLe.skip _ (HLe.skip _ (HLe.refl _)), rfl, rfl⟩
            · try simp only [Bool.or_eq_true, Bool.or_eq_false_iff, Bool.and_eq_true, Bool.and_eq_false_iff, decide_eq_true_eq, decide_eq_false_iff_not, Bool.not_eq_true', Bool.not_eq_false', Int.not_lt, Int.not_le, List.length_map] at hc97
              have h97 : ¬ badFrom (atF fl x.call) x := by
                rintro ((h | h) | h)
                · have h7 : x.time < hdT x.tube := by first | exact hc97.1.1 | exact Int.not_le.1 hc97.1.1
                  omega
                · have h7 : hdT (lastL (atF fl x.call)) < hdT x.tube := by first | exact hc97.1.2 | exact Int.not_le.1 hc97.1.2
                  omega
                · rw [h] at hc97; simp at hc97
              refine W.skip ?_
              refine W.seq ?_
              refine W.reg ?_
              refine XOps.s rfl rfl rfl (Q.fld_ptr fl35_5 rfl) ?_
              refine XOps.s rfl rfl rfl (Q.ld_ptr (k := 1) ag33 rfl rfl rfl) ?_
              refine XOps.s rfl rfl rfl (Q.call rfl Tryz.func79 go79 rfl (long_c x.tube _ ok)) ?_
              refine XOps.nil ?_
              refine W.cond rfl (fun hc100 => ?_) (fun hc100 => ?_)
              · try simp only [Bool.or_eq_true, Bool.or_eq_false_iff, Bool.and_eq_true, Bool.and_eq_false_iff, decide_eq_true_eq, decide_eq_false_iff_not, Bool.not_eq_true', Bool.not_eq_false', Int.not_lt, Int.not_le, List.length_map] at hc100
                have h100 : longB x.tube = true := hc100
                have hE : clrE su fl ow x = 2 := by unfold clrE; rw [if_neg h27]; unfold clrG; rw [if_neg h44, if_neg h49, if_neg h54, if_neg h63, if_neg h97, if_pos h100]
                have hF := clr_no (su := su) (fl := fl) (ow := ow) (x := x) (by rw [hE]; omega)
                rw [hF, hE]
                refine W.reg ?_
                refine XOps.s rfl rfl rfl (Q.assign_d rfl) ?_
                refine XOps.nil ?_
                refine W.ret ?_
                exact ⟨_, (b, .cells (ceC su tm fl ow lb)) :: hs, rfl, HLe.skip _ (HLe.skip _ (HLe.refl _)), rfl, rfl⟩
              · try simp only [Bool.or_eq_true, Bool.or_eq_false_iff, Bool.and_eq_true, Bool.and_eq_false_iff, decide_eq_true_eq, decide_eq_false_iff_not, Bool.not_eq_true', Bool.not_eq_false', Int.not_lt, Int.not_le, List.length_map] at hc100
                have h100 : ¬ longB x.tube = true := by rw [hc100]; simp
                refine W.skip ?_
                refine W.reg ?_
                refine XOps.s rfl rfl rfl (Q.move_d rfl) ?_
                refine XOps.s rfl rfl rfl (Q.move_d rfl) ?_
                refine XOps.s rfl rfl rfl (Q.move_d rfl) ?_
                refine XOps.s rfl rfl rfl (Q.call rfl Tryz.func16 go16 rfl (cut_c (lastL (atF fl x.call)) (hdT x.tube) (hdT x.tube) _ (by omega))) ?_
                refine XOps.s rfl rfl rfl (Q.move_tup rfl) ?_
                refine XOps.s rfl rfl rfl (Q.extract rfl rfl) ?_
                refine XOps.s rfl rfl rfl (Q.extract rfl rfl) ?_
                refine XOps.s rfl rfl rfl (Q.assign_d rfl) ?_
                refine XOps.s rfl rfl rfl (Q.assign_d rfl) ?_
                refine XOps.nil ?_
                refine W.reg ?_
                refine XOps.s rfl rfl rfl (Q.move_d rfl) ?_
                refine XOps.s rfl rfl rfl (Q.fld_ptr fl35_5 rfl) ?_
                refine XOps.s rfl rfl rfl (Q.ld_ptr (k := 1) ag33 rfl rfl rfl) ?_
                refine XOps.s rfl rfl rfl (Q.call rfl Tryz.func17 go17 rfl (inside_c (hereL (atF fl x.call) x) x.tube _ (by have := CutV_len (lastL (atF fl x.call)) (hdT x.tube) (hdT x.tube); show (CutV _ _ _).length ≤ _; omega) zt)) ?_
                refine XOps.s rfl rfl rfl (Q.move_tup rfl) ?_
                refine XOps.s rfl rfl rfl (Q.extract rfl rfl) ?_
                refine XOps.s rfl rfl rfl (Q.extract rfl rfl) ?_
                refine XOps.s rfl rfl rfl (Q.assign_d rfl) ?_
                refine XOps.s rfl rfl rfl (Q.assign_d rfl) ?_
                refine XOps.nil ?_
                refine W.seq ?_
                refine W.block ?_
                refine W.reg ?_
                refine XOps.s rfl rfl rfl (Q.move_d rfl) ?_
                refine XOps.s rfl rfl rfl (Q.neq rfl rfl) ?_
                refine XOps.s rfl rfl rfl (Q.move_d rfl) ?_
                refine XOps.gs rfl rfl rfl rfl rfl rfl rfl (fun hg => Q.move_d rfl) ?_
                refine XOps.gs rfl rfl rfl rfl rfl rfl rfl (fun hg => Quiet.open 119 hg rfl (Q.not rfl)) ?_
                refine XOps.s rfl rfl rfl (Q.pick_or rfl rfl rfl (fun h => by first | (rw [h]; rfl) | (rw [hg, h]; rfl) | (simp [h, hg]; done))) ?_
                refine XOps.s rfl rfl rfl (Q.assign_d rfl) ?_
                refine XOps.nil ?_
                refine W.cond rfl (fun hc115 => ?_) (fun hc115 => ?_)
                · try simp only [Bool.or_eq_true, Bool.or_eq_false_iff, Bool.and_eq_true, Bool.and_eq_false_iff, decide_eq_true_eq, decide_eq_false_iff_not, Bool.not_eq_true', Bool.not_eq_false', Int.not_lt, Int.not_le, List.length_map] at hc115
                  have h115 : InE (hereL (atF fl x.call) x) x.tube ≠ 0 ∨ InB (hereL (atF fl x.call) x) x.tube = false := by first | exact hc115 | (simpa using hc115)
                  have hE : clrE su fl ow x = 19 := by unfold clrE; rw [if_neg h27]; unfold clrG; rw [if_neg h44, if_neg h49, if_neg h54, if_neg h63, if_neg h97, if_neg h100, if_pos h115]
                  have hF := clr_no (su := su) (fl := fl) (ow := ow) (x := x) (by rw [hE]; omega)
                  rw [hF, hE]
                  refine W.reg ?_
                  refine XOps.s rfl rfl rfl (Q.assign_d rfl) ?_
                  refine XOps.nil ?_
                  refine W.ret ?_
                  exact ⟨_, (b, .cells (ceC su tm fl ow lb)) :: hs, rfl, HLe.skip _ (HLe.skip _ (HLe.refl _)), rfl, rfl⟩
                · try simp only [Bool.or_eq_true, Bool.or_eq_false_iff, Bool.and_eq_true, Bool.and_eq_false_iff, decide_eq_true_eq, decide_eq_false_iff_not, Bool.not_eq_true', Bool.not_eq_false', Int.not_lt, Int.not_le, List.length_map] at hc115
                  have h115 : ¬ (InE (hereL (atF fl x.call) x) x.tube ≠ 0 ∨ InB (hereL (atF fl x.call) x) x.tube = false) := by first | exact hc115 | (simpa using hc115)
                  refine W.reg ?_
                  refine XOps.s rfl rfl rfl (Q.move_ptr rfl) ?_
                  refine XOps.s rfl rfl rfl (Q.fld_ptr fl35_2 rfl) ?_
                  refine XOps.s rfl rfl rfl (Q.ld_ptr (k := 1) ag9 rfl rfl rfl) ?_
                  refine XOps.s rfl rfl rfl (Q.fld_ptr fl35_5 rfl) ?_
                  refine XOps.s rfl rfl rfl (Q.ld_ptr (k := 1) ag33 rfl rfl rfl) ?_
                  refine XOps.s rfl rfl rfl (Q.call rfl Tryz.func80 go80 rfl (clashes_c su (.d (.int .i64 tm)) fl [.d (.sl 3 (ow.map OE.enc)), .ptr lb 0] b 2 _ rfl x.call x.tube ok o.all (by omega))) ?_
                  refine XOps.s rfl rfl rfl (Q.assign_d rfl) ?_
                  refine XOps.nil ?_
                  refine W.cond rfl (fun hc122 => ?_) (fun hc122 => ?_)
                  · try simp only [Bool.or_eq_true, Bool.or_eq_false_iff, Bool.and_eq_true, Bool.and_eq_false_iff, decide_eq_true_eq, decide_eq_false_iff_not, Bool.not_eq_true', Bool.not_eq_false', Int.not_lt, Int.not_le, List.length_map] at hc122
                    have h122 : clashesB su fl x.call x.tube = true := hc122
                    have hE : clrE su fl ow x = 15 := by unfold clrE; rw [if_neg h27]; unfold clrG; rw [if_neg h44, if_neg h49, if_neg h54, if_neg h63, if_neg h97, if_neg h100, if_neg h115, if_pos h122]
                    have hF := clr_no (su := su) (fl := fl) (ow := ow) (x := x) (by rw [hE]; omega)
                    rw [hF, hE]
                    refine W.reg ?_
                    refine XOps.s rfl rfl rfl (Q.assign_d rfl) ?_
                    refine XOps.nil ?_
                    refine W.ret ?_
                    exact ⟨_, (b, .cells (ceC su tm fl ow lb)) :: hs, rfl, HLe.skip _ (HLe.skip _ (HLe.refl _)), rfl, rfl⟩
                  · try simp only [Bool.or_eq_true, Bool.or_eq_false_iff, Bool.and_eq_true, Bool.and_eq_false_iff, decide_eq_true_eq, decide_eq_false_iff_not, Bool.not_eq_true', Bool.not_eq_false', Int.not_lt, Int.not_le, List.length_map] at hc122
                    have h122 : ¬ clashesB su fl x.call x.tube = true := by rw [hc122]; simp
                    refine W.skip ?_
                    refine W.seq ?_
                    refine W.reg ?_
                    refine XOps.s rfl rfl rfl (Q.move_ptr rfl) ?_
                    refine XOps.s rfl rfl rfl (Q.ld_ptrn (k := 0) ag41 rfl rfl rfl) ?_
                    refine XOps.s rfl rfl rfl (Q.fld_ptr fl35_5 rfl) ?_
                    refine XOps.s rfl rfl rfl (Q.ld_ptr (k := 1) ag33 rfl rfl rfl) ?_
                    refine XOps.s rfl rfl rfl (Q.call rfl Tryz.func81 go81 rfl (land_c su (.d (.int .i64 tm)) fl [.d (.sl 3 (ow.map OE.enc)), .ptr lb 0] b 2 _ rfl (atF fl x.call) x.tube ok gk okf.wake okf.slot o.all (by omega))) ?_
                    refine XOps.s rfl rfl rfl (Q.move_tup rfl) ?_
                    refine XOps.s rfl rfl rfl (Q.extract rfl rfl) ?_
                    refine XOps.s rfl rfl rfl (Q.extract rfl rfl) ?_
                    refine XOps.s rfl rfl rfl (Q.fld_ptr fl41_7 rfl) ?_
                    refine XOps.loud rfl (L.store (k := 0) ag3 rfl rfl rfl rfl rfl) ?_
                    rintro _ _ ⟨rfl, rfl⟩
                    refine XOps.s rfl rfl rfl (Q.assign_d rfl) ?_
                    refine XOps.nil ?_
                    refine W.reg ?_
                    refine XOps.s rfl rfl rfl (Q.move_d rfl) ?_
                    refine XOps.s rfl rfl rfl (Q.not rfl) ?_
                    refine XOps.nil ?_
                    refine W.cond rfl (fun hc139 => ?_) (fun hc139 => ?_)
                    · try simp only [Bool.or_eq_true, Bool.or_eq_false_iff, Bool.and_eq_true, Bool.and_eq_false_iff, decide_eq_true_eq, decide_eq_false_iff_not, Bool.not_eq_true', Bool.not_eq_false', Int.not_lt, Int.not_le, List.length_map] at hc139
                      have h139 : landB su fl (atF fl x.call) x.tube = false := hc139
                      have hE : clrE su fl ow x = 18 := by unfold clrE; rw [if_neg h27]; unfold clrG; rw [if_neg h44, if_neg h49, if_neg h54, if_neg h63, if_neg h97, if_neg h100, if_neg h115, if_neg h122, if_pos h139]
                      have hF := clr_no (su := su) (fl := fl) (ow := ow) (x := x) (by rw [hE]; omega)
                      rw [hF, hE]
                      refine W.reg ?_
                      refine XOps.s rfl rfl rfl (Q.assign_d rfl) ?_
                      refine XOps.nil ?_
                      refine W.ret ?_
                      exact ⟨_, (b, .cells (ceC su tm fl ow lb)) :: hs, rfl, HLe.skip _ (HLe.skip _ (HLe.refl _)), rfl, rfl⟩
                    · try simp only [Bool.or_eq_true, Bool.or_eq_false_iff, Bool.and_eq_true, Bool.and_eq_false_iff, decide_eq_true_eq, decide_eq_false_iff_not, Bool.not_eq_true', Bool.not_eq_false', Int.not_lt, Int.not_le, List.length_map] at hc139
                      have h139 : ¬ landB su fl (atF fl x.call) x.tube = false := by rw [hc139]; simp
                      have hE : clrE su fl ow x = 0 := by unfold clrE; rw [if_neg h27]; unfold clrG; rw [if_neg h44, if_neg h49, if_neg h54, if_neg h63, if_neg h97, if_neg h100, if_neg h115, if_neg h122, if_neg h139]
                      have hF := clr_yes hE
                      rw [hF, hE]
                      refine W.skip ?_
                      refine W.reg ?_
                      refine XOps.s rfl rfl rfl (Q.fld_ptr fl35_5 rfl) ?_
                      refine XOps.s rfl rfl rfl (Q.ld_ptr (k := 1) ag33 rfl rfl rfl) ?_
                      refine XOps.s rfl rfl rfl (Q.call rfl Tryz.func65 go65 rfl (cloneT_c x.tube _ (by omega))) ?_
                      refine XOps.s rfl rfl rfl (Q.fld_ptr fl41_5 rfl) ?_
                      refine XOps.loud rfl (L.store (k := 0) ag33 rfl rfl rfl rfl rfl) ?_
                      rintro _ _ ⟨rfl, rfl⟩
                      refine XOps.nil ?_
                      refine W.reg ?_
                      refine XOps.s rfl rfl rfl (Q.move_ptr rfl) ?_
                      refine XOps.s rfl rfl rfl (Q.move_ptr rfl) ?_
                      refine XOps.s rfl rfl rfl (Q.nil_ptr rfl) ?_
                      refine XOps.s rfl rfl rfl (Q.fld_ptr fl83_2 rfl) ?_
                      refine XOps.s rfl rfl rfl (Q.ld_ptr (k := 2) ag37 rfl rfl rfl) ?_
                      (refine XOps.loud rfl (L.call rfl Tryz.func84 go84 rfl (cloneF_c fl _ (by omega)) rfl) ?_; rintro _ _ ⟨_, rfl, v149, rfl, rfl⟩)
                      refine XOps.s rfl rfl rfl (Q.nil_ptr rfl) ?_
                      refine XOps.s rfl rfl rfl (Q.fld_ptr fl83_2 rfl) ?_
                      refine XOps.loud rfl (L.store (k := 3) ag37 rfl rfl rfl rfl rfl) ?_
                      rintro _ _ ⟨rfl, rfl⟩
                      refine XOps.nil ?_
                      refine W.drawreg 6 follows (by kernel_rfl) ?_
                      refine Chain.cons _ (GQ.q rfl (Q.move_ptr rfl)) rfl ?_
                      refine Chain.cons _ (GQ.q rfl (Q.nil_ptr rfl)) rfl ?_
                      refine Chain.cons _ (GQ.q rfl (Q.fld_ptr fl83_2 rfl)) rfl ?_
                      refine Chain.cons _ (GQ.q rfl (Q.ld_ptr (k := 3) ag37 rfl rfl rfl)) rfl ?_
                      refine Chain.cons _ (GQ.q rfl (Q.move_d rfl)) rfl ?_
                      refine Chain.cons _ (GQ.q rfl (Q.ld_ptrn (k := 1) ag41 rfl rfl rfl)) rfl ?_
                      refine Chain.nil ?_
                      refine XOps.s rfl rfl rfl (Q.idx_vs (kk := 0) sl37 rfl rfl rfl (by omega) (by omega)) ?_
                      (refine XOps.loud rfl (L.storen_ep (k := 0) ag41 rfl rfl (map_at0 hx) rfl rfl rfl) ?_; rintro _ _ ⟨rfl, rfl⟩)
                      refine XOps.nil ?_
                      refine W.heap ((v149, .lst 8 ((fl.set (posK Fl.call fl x.call) (clrL su fl x)).map Fl.enc)) :: (b, .cells ((ceC su tm fl ow lb).set 19 (.vs v149 0 fl.length 8))) :: hs) (HLe.cons' (congrArg (HO.lst 8) (by rw [Nat.zero_add, Int.toNat_natCast, List.map_set]; rfl)) (HLe.skip _ (HLe.skip _ (HLe.refl _)))) ?_
                      refine W.freezec 19 rfl (by simp) ?_
                      refine W.reg ?_
                      refine XOps.s rfl rfl rfl (Q.assign_d rfl) ?_
                      refine XOps.nil ?_
                      refine W.ret ?_
                      exact ⟨_, (b, .cells (ceC su tm (fl.set (posK Fl.call fl x.call) (clrL su fl x)) ow lb)) :: hs, rfl, HLe.refl _, rfl, rfl⟩
end Go.Proofs.YtaegeaajhbfkgaaGreatDoorA

