/- Centres: pass, end. -/
import Derived.Test.YtaegeaajhbfkgaaGreatDoorFrB
import Derived.Test.YtaegeaajhbfkgaaGreatDoorCeN
import Derived.Test.YtaegeaajhbfkgaaGreatDoorCeH
import Derived.Test.YtaegeaajhbfkgaaGreatDoorCeE
import Derived.Test.YtaegeaajhbfkgaaGreatDoorCeF
import Derived.Test.YtaegeaajhbfkgaaGreatDoorCeK
set_option linter.unusedVariables false
set_option linter.unusedSimpArgs false
set_option linter.unnecessarySimpa false
namespace Go.Proofs.YtaegeaajhbfkgaaGreatDoorA.FCeO
open Go
theorem ag3 : tAgg P 3 = some ((false, 1)) := by kernel_rfl
theorem ag33 : tAgg P 33 = some ((false, 1)) := by kernel_rfl
theorem ag37 : tAgg P 37 = some ((false, 1)) := by kernel_rfl
theorem ag39 : tAgg P 39 = some ((false, 1)) := by kernel_rfl
theorem ag41 : tAgg P 41 = some ((true, 8)) := by kernel_rfl
theorem ag55 : tAgg P 55 = some ((false, 1)) := by kernel_rfl
theorem ag9 : tAgg P 9 = some ((false, 1)) := by kernel_rfl
theorem fl35_0 : tFld P 35 0 = some (0) := by kernel_rfl
theorem fl35_1 : tFld P 35 1 = some (1) := by kernel_rfl
theorem fl35_2 : tFld P 35 2 = some (2) := by kernel_rfl
theorem fl35_3 : tFld P 35 3 = some (3) := by kernel_rfl
theorem fl35_4 : tFld P 35 4 = some (4) := by kernel_rfl
theorem fl41_4 : tFld P 41 4 = some (4) := by kernel_rfl
theorem fl41_5 : tFld P 41 5 = some (5) := by kernel_rfl
theorem fl45_0 : tFld P 45 0 = some (0) := by kernel_rfl
theorem fl47_0 : tFld P 47 0 = some (0) := by kernel_rfl
theorem fl83_2 : tFld P 83 2 = some (19) := by kernel_rfl
theorem fl83_3 : tFld P 83 3 = some (20) := by kernel_rfl
theorem go82 : callGo Go.Proofs.Tryz.f82 = true := by kernel_rfl
theorem go84 : callGo Go.Proofs.Tryz.f84 = true := by kernel_rfl
theorem go86 : callGo Go.Proofs.Tryz.f86 = true := by kernel_rfl
theorem go87 : callGo Go.Proofs.Tryz.f87 = true := by kernel_rfl
theorem go88 : callGo Go.Proofs.Tryz.f88 = true := by kernel_rfl
theorem go89 : callGo Go.Proofs.Tryz.f89 = true := by kernel_rfl
theorem isl33 : isSl P 33 = true := by kernel_rfl
theorem isl39 : isSl P 39 = true := by kernel_rfl
theorem sl33 : tSl P 33 = some (6) := by kernel_rfl
theorem sl37 : tSl P 37 = some (8) := by kernel_rfl
theorem sl39 : tSl P 39 = some (1) := by kernel_rfl
theorem tz41 : tZero P 41 = some ([.string ⟨#[]⟩, .int .i64 0, .int .i64 0, .bool false, .slice none 0 0, .slice none 0 0, .int .i64 0, .int .i64 0]) := by kernel_rfl
end Go.Proofs.YtaegeaajhbfkgaaGreatDoorA.FCeO
namespace Go.Proofs.YtaegeaajhbfkgaaGreatDoorA
open Go FCeO
attribute [local irreducible] XOps Quiet Loud W AC GQ DT
set_option maxHeartbeats 4000000 in
set_option maxRecDepth 100000 in
theorem pass_c (su : Su) (tm : Int) (fl : List Fl) (ow : List OE) (lb b : Nat) (x : CI) (hs : Hp) (o : FwOk fl ow) (zt : x.to_.size ≤ 4611686018427387904) : AC P 61 [.ptr b 0, .d (.agg x.enc)] ((b, .cells (ceC su tm fl ow lb)) :: hs) (fun r h => r = .d (.int .i64 (pasE ow x)) ∧ h = (b, .cells (ceC su tm (fl) (pasO ow x) lb)) :: hs) := by
  refine AC.of 43 Tryz.func61 rfl rfl rfl ?_
  refine W.reg ?_
  refine XOps.loud rfl (L.boxn rfl rfl) ?_
  rintro _ _ ⟨b3, rfl, rfl⟩
  refine XOps.s rfl rfl rfl (Q.assign_d rfl) ?_
  refine XOps.nil ?_
  refine W.drawreg 13 follows (by kernel_rfl) ?_
  refine Chain.cons _ (GQ.q rfl (Q.move_ptr rfl)) rfl ?_
  refine Chain.cons _ (GQ.q rfl (Q.nil_ptr rfl)) rfl ?_
  refine Chain.cons _ (GQ.q rfl (Q.fld_ptr fl83_3 rfl)) rfl ?_
  refine Chain.cons _ (GQ.q rfl (Q.ld_ptr (k := 1) ag55 rfl rfl rfl)) rfl ?_
  refine Chain.cons _ (GQ.q rfl (Q.fld_ptr fl35_2 rfl)) rfl ?_
  refine Chain.cons _ (GQ.q rfl (Q.ld_ptr (k := 0) ag9 rfl rfl rfl)) rfl ?_
  refine Chain.cons _ (GQ.q rfl (Q.fld_ptr fl35_3 rfl)) rfl ?_
  refine Chain.cons _ (GQ.q rfl (Q.ld_ptr (k := 0) ag9 rfl rfl rfl)) rfl ?_
  refine Chain.cons _ (GQ.q rfl (Q.call rfl Tryz.func88 go88 rfl (acc_c ow x.call x.by_ _ o.owk))) rfl ?_
  refine Chain.cons _ (GQ.q rfl (Q.move_tup rfl)) rfl ?_
  refine Chain.cons _ (GQ.q rfl (Q.extract rfl rfl)) rfl ?_
  refine Chain.cons _ (GQ.q rfl (Q.extract rfl rfl)) rfl ?_
  refine Chain.cons _ (GQ.q rfl (Q.assign_d rfl)) rfl ?_
  refine Chain.nil ?_
  refine XOps.s rfl rfl rfl (Q.assign_d rfl) ?_
  refine XOps.nil ?_
  refine W.seq ?_
  refine W.reg ?_
  refine XOps.s rfl rfl rfl (Q.fld_ptr fl35_0 rfl) ?_
  refine XOps.s rfl rfl rfl (Q.ld_ptr (k := 0) ag3 rfl rfl rfl) ?_
  refine XOps.s rfl rfl rfl (Q.eql rfl rfl) ?_
  refine XOps.nil ?_
  refine W.cond rfl (fun hc21 => ?_) (fun hc21 => ?_)
  · try simp only [Bool.or_eq_true, Bool.or_eq_false_iff, Bool.and_eq_true, Bool.and_eq_false_iff, decide_eq_true_eq, decide_eq_false_iff_not, Bool.not_eq_true', Bool.not_eq_false', Int.not_lt, Int.not_le, List.length_map] at hc21
    have hE : pasE ow x = offE ow x.call x.by_ x.to_ := if_pos hc21
    have hL : pasL ow x = offL ow x.call x.by_ x.to_ := if_pos hc21
    refine W.draw 15 follows (by kernel_rfl) ?_
    refine Chain.cons _ (GQ.q rfl (Q.move_ptr rfl)) rfl ?_
    refine Chain.cons _ (GQ.q rfl (Q.nil_ptr rfl)) rfl ?_
    refine Chain.cons _ (GQ.q rfl (Q.fld_ptr fl83_3 rfl)) rfl ?_
    refine Chain.cons _ (GQ.q rfl (Q.ld_ptr (k := 1) ag55 rfl rfl rfl)) rfl ?_
    refine Chain.cons _ (GQ.q rfl (Q.fld_ptr fl35_2 rfl)) rfl ?_
    refine Chain.cons _ (GQ.q rfl (Q.ld_ptr (k := 0) ag9 rfl rfl rfl)) rfl ?_
    refine Chain.cons _ (GQ.q rfl (Q.fld_ptr fl35_3 rfl)) rfl ?_
    refine Chain.cons _ (GQ.q rfl (Q.ld_ptr (k := 0) ag9 rfl rfl rfl)) rfl ?_
    refine Chain.cons _ (GQ.q rfl (Q.fld_ptr fl35_4 rfl)) rfl ?_
    refine Chain.cons _ (GQ.q rfl (Q.ld_ptr (k := 0) ag9 rfl rfl rfl)) rfl ?_
    refine Chain.cons _ (GQ.q rfl (Q.call rfl Tryz.func89 go89 rfl (off_c ow x.call x.by_ x.to_ _ o.owk zt))) rfl ?_
    refine Chain.cons _ (GQ.q rfl (Q.move_tup rfl)) rfl ?_
    refine Chain.cons _ (GQ.q rfl (Q.extract rfl rfl)) rfl ?_
    refine Chain.cons _ (GQ.q rfl (Q.extract rfl rfl)) rfl ?_
    refine Chain.cons _ (GQ.q rfl (Q.assign_d rfl)) rfl ?_
    refine Chain.nil ?_
    refine XOps.s rfl rfl rfl (Q.assign_d rfl) ?_
    refine XOps.nil ?_
    refine W.seq ?_
    refine W.reg ?_
    refine XOps.s rfl rfl rfl (Q.move_d rfl) ?_
    refine XOps.s rfl rfl rfl (Q.eql rfl rfl) ?_
    refine XOps.nil ?_
    refine W.cond rfl (fun hc37 => ?_) (fun hc37 => ?_)
    · try simp only [Bool.or_eq_true, Bool.or_eq_false_iff, Bool.and_eq_true, Bool.and_eq_false_iff, decide_eq_true_eq, decide_eq_false_iff_not, Bool.not_eq_true', Bool.not_eq_false', Int.not_lt, Int.not_le, List.length_map] at hc37
      have h37 : pasE ow x = 0 := by rw [hE]; exact hc37
      have hO := (show pasO ow x = pasL ow x from if_pos h37).trans hL
      rw [hO, hE]
      refine W.region ?_
      refine XOps.s rfl rfl rfl (Q.move_ptr rfl) ?_
      refine XOps.s rfl rfl rfl (Q.move_d rfl) ?_
      refine XOps.s rfl rfl rfl (Q.nil_ptr rfl) ?_
      refine XOps.s rfl rfl rfl (Q.fld_ptr fl83_3 rfl) ?_
      refine XOps.loud rfl (L.store (k := 1) ag55 rfl rfl rfl rfl rfl) ?_
      rintro _ _ ⟨rfl, rfl⟩
      refine XOps.nil ?_
      refine W.reg ?_
      refine XOps.s rfl rfl rfl (Q.move_d rfl) ?_
      refine XOps.s rfl rfl rfl (Q.assign_d rfl) ?_
      refine XOps.nil ?_
      refine W.ret ?_
      exact ⟨_, (b, .cells (ceC su tm fl (offL ow x.call x.by_ x.to_) lb)) :: hs, rfl, HLe.skip _ (HLe.refl _), rfl, rfl⟩
    · try simp only [Bool.or_eq_true, Bool.or_eq_false_iff, Bool.and_eq_true, Bool.and_eq_false_iff, decide_eq_true_eq, decide_eq_false_iff_not, Bool.not_eq_true', Bool.not_eq_false', Int.not_lt, Int.not_le, List.length_map] at hc37
      have h37 : ¬ pasE ow x = 0 := by rw [hE]; exact hc37
      have hO : pasO ow x = ow := if_neg h37
      rw [hO, hE]
      refine W.skip ?_
      refine W.reg ?_
      refine XOps.s rfl rfl rfl (Q.move_d rfl) ?_
      refine XOps.s rfl rfl rfl (Q.assign_d rfl) ?_
      refine XOps.nil ?_
      refine W.ret ?_
      exact ⟨_, (b, .cells (ceC su tm fl (ow) lb)) :: hs, rfl, HLe.skip _ (HLe.refl _), rfl, rfl⟩
  · try simp only [Bool.or_eq_true, Bool.or_eq_false_iff, Bool.and_eq_true, Bool.and_eq_false_iff, decide_eq_true_eq, decide_eq_false_iff_not, Bool.not_eq_true', Bool.not_eq_false', Int.not_lt, Int.not_le, List.length_map] at hc21
    have hE : pasE ow x = accE ow x.call x.by_ := if_neg hc21
    have hL : pasL ow x = accL ow x.call x.by_ := if_neg hc21
    refine W.skip ?_
    refine W.seq ?_
    refine W.reg ?_
    refine XOps.s rfl rfl rfl (Q.move_d rfl) ?_
    refine XOps.s rfl rfl rfl (Q.eql rfl rfl) ?_
    refine XOps.nil ?_
    refine W.cond rfl (fun hc37 => ?_) (fun hc37 => ?_)
    · try simp only [Bool.or_eq_true, Bool.or_eq_false_iff, Bool.and_eq_true, Bool.and_eq_false_iff, decide_eq_true_eq, decide_eq_false_iff_not, Bool.not_eq_true', Bool.not_eq_false', Int.not_lt, Int.not_le, List.length_map] at hc37
      have h37 : pasE ow x = 0 := by rw [hE]; exact hc37
      have hO := (show pasO ow x = pasL ow x from if_pos h37).trans hL
      rw [hO, hE]
      refine W.region ?_
      refine XOps.s rfl rfl rfl (Q.move_ptr rfl) ?_
      refine XOps.s rfl rfl rfl (Q.move_d rfl) ?_
      refine XOps.s rfl rfl rfl (Q.nil_ptr rfl) ?_
      refine XOps.s rfl rfl rfl (Q.fld_ptr fl83_3 rfl) ?_
      refine XOps.loud rfl (L.store (k := 1) ag55 rfl rfl rfl rfl rfl) ?_
      rintro _ _ ⟨rfl, rfl⟩
      refine XOps.nil ?_
      refine W.reg ?_
      refine XOps.s rfl rfl rfl (Q.move_d rfl) ?_
      refine XOps.s rfl rfl rfl (Q.assign_d rfl) ?_
      refine XOps.nil ?_
      refine W.ret ?_
      exact ⟨_, (b, .cells (ceC su tm fl (accL ow x.call x.by_) lb)) :: hs, rfl, HLe.skip _ (HLe.refl _), rfl, rfl⟩
    · try simp only [Bool.or_eq_true, Bool.or_eq_false_iff, Bool.and_eq_true, Bool.and_eq_false_iff, decide_eq_true_eq, decide_eq_false_iff_not, Bool.not_eq_true', Bool.not_eq_false', Int.not_lt, Int.not_le, List.length_map] at hc37
      have h37 : ¬ pasE ow x = 0 := by rw [hE]; exact hc37
      have hO : pasO ow x = ow := if_neg h37
      rw [hO, hE]
      refine W.skip ?_
      refine W.reg ?_
      refine XOps.s rfl rfl rfl (Q.move_d rfl) ?_
      refine XOps.s rfl rfl rfl (Q.assign_d rfl) ?_
      refine XOps.nil ?_
      refine W.ret ?_
      exact ⟨_, (b, .cells (ceC su tm fl (ow) lb)) :: hs, rfl, HLe.skip _ (HLe.refl _), rfl, rfl⟩
set_option maxHeartbeats 8000000 in
set_option maxRecDepth 100000 in
theorem fin_c (su : Su) (tm : Int) (fl : List Fl) (ow : List OE) (lb b : Nat) (x : CI) (hs : Hp) (o : FwOk fl ow)  : AC P 60 [.ptr b 0, .d (.agg x.enc)] ((b, .cells (ceC su tm fl ow lb)) :: hs) (fun r h => r = .d (.int .i64 (finE fl ow x)) ∧ h = (b, .cells (ceC su tm (finF fl ow x) (finO fl ow x) lb)) :: hs) := by
  have hfl := o.len
  have hml : (fl.map Fl.enc).length = fl.length := List.length_map _
  refine AC.of 81 Tryz.func60 rfl rfl rfl ?_
  refine W.reg ?_
  refine XOps.loud rfl (L.boxn rfl rfl) ?_
  rintro _ _ ⟨b3, rfl, rfl⟩
  refine XOps.s rfl rfl rfl (Q.assign_d rfl) ?_
  refine XOps.nil ?_
  refine W.drawreg 13 follows (by kernel_rfl) ?_
  refine Chain.cons _ (GQ.q rfl (Q.move_ptr rfl)) rfl ?_
  refine Chain.cons _ (GQ.q rfl (Q.nil_ptr rfl)) rfl ?_
  refine Chain.cons _ (GQ.q rfl (Q.fld_ptr fl83_3 rfl)) rfl ?_
  refine Chain.cons _ (GQ.q rfl (Q.ld_ptr (k := 1) ag55 rfl rfl rfl)) rfl ?_
  refine Chain.cons _ (GQ.q rfl (Q.fld_ptr fl35_2 rfl)) rfl ?_
  refine Chain.cons _ (GQ.q rfl (Q.ld_ptr (k := 0) ag9 rfl rfl rfl)) rfl ?_
  refine Chain.cons _ (GQ.q rfl (Q.fld_ptr fl35_3 rfl)) rfl ?_
  refine Chain.cons _ (GQ.q rfl (Q.ld_ptr (k := 0) ag9 rfl rfl rfl)) rfl ?_
  refine Chain.cons _ (GQ.q rfl (Q.call rfl Tryz.func86 go86 rfl (oend_c ow x.call x.by_ _ o.owk))) rfl ?_
  refine Chain.cons _ (GQ.q rfl (Q.move_tup rfl)) rfl ?_
  refine Chain.cons _ (GQ.q rfl (Q.extract rfl rfl)) rfl ?_
  refine Chain.cons _ (GQ.q rfl (Q.extract rfl rfl)) rfl ?_
  refine Chain.cons _ (GQ.q rfl (Q.assign_d rfl)) rfl ?_
  refine Chain.nil ?_
  refine XOps.s rfl rfl rfl (Q.assign_d rfl) ?_
  refine XOps.nil ?_
  refine W.seq ?_
  refine W.reg ?_
  refine XOps.s rfl rfl rfl (Q.move_d rfl) ?_
  refine XOps.s rfl rfl rfl (Q.neq rfl rfl) ?_
  refine XOps.nil ?_
  refine W.cond rfl (fun hc24 => ?_) (fun hc24 => ?_)
  · try simp only [Bool.or_eq_true, Bool.or_eq_false_iff, Bool.and_eq_true, Bool.and_eq_false_iff, decide_eq_true_eq, decide_eq_false_iff_not, Bool.not_eq_true', Bool.not_eq_false', Int.not_lt, Int.not_le, List.length_map] at hc24
    have h24 : endE ow x.call x.by_ ≠ 0 := by first | exact hc24 | (simpa using hc24)
    have hE : finE fl ow x = endE ow x.call x.by_ := by unfold finE; rw [if_pos h24]
    obtain ⟨hF, hO⟩ := fin_no (fl := fl) (ow := ow) (x := x) (by rw [hE]; omega)
    rw [hF, hO, hE]
    refine W.reg ?_
    refine XOps.s rfl rfl rfl (Q.move_d rfl) ?_
    refine XOps.s rfl rfl rfl (Q.assign_d rfl) ?_
    refine XOps.nil ?_
    refine W.ret ?_
    exact ⟨_, (b, .cells (ceC su tm fl ow lb)) :: hs, rfl, HLe.skip _ (HLe.refl _), rfl, rfl⟩
  · try simp only [Bool.or_eq_true, Bool.or_eq_false_iff, Bool.and_eq_true, Bool.and_eq_false_iff, decide_eq_true_eq, decide_eq_false_iff_not, Bool.not_eq_true', Bool.not_eq_false', Int.not_lt, Int.not_le, List.length_map] at hc24
    have h24 : ¬ endE ow x.call x.by_ ≠ 0 := by first | exact fun h => h hc24 | (simpa using hc24)
    have hh := (o.has x.call).trans (endE_has (Classical.not_not.1 h24))
    obtain ⟨hx, hxc⟩ := atF_get hh
    have hpl := (List.getElem?_eq_some_iff.1 hx).1
    have ok := o.all _ (List.mem_of_getElem? hx)
    have hll : (atF fl x.call).legs.length ≠ 0 := fun h => ok.ne (List.eq_nil_of_length_eq_zero h)
    have hlg := lastL_get ok.ne
    have hlm : ((atF fl x.call).legs.map tuR).length = (atF fl x.call).legs.length := List.length_map _
    have hok := ok.legs _ (List.mem_of_getElem? hlg)
    have hlz := ok.len
    have hlr : ((atF fl x.call).legs.map tuR)[((((atF fl x.call).legs.map tuR).length : Int) - 1).toNat]? = some (tuR (lastL (atF fl x.call))) := by
      rw [List.getElem?_map, List.length_map, show (((atF fl x.call).legs.length : Int) - 1).toNat = (atF fl x.call).legs.length - 1 by omega, hlg]; rfl
    have pl := la_row hok.ne
    have hlt : (lastL (atF fl x.call)).length ≠ 0 := fun h => hok.ne (List.eq_nil_of_length_eq_zero h)
    have hlt2 := hok.len
    have hlm2 : ((lastL (atF fl x.call)).map Nd.enc).length = (lastL (atF fl x.call)).length := List.length_map _
    refine W.skip ?_
    refine W.reg ?_
    refine XOps.s rfl rfl rfl (Q.move_ptr rfl) ?_
    refine XOps.s rfl rfl rfl (Q.fld_ptr fl35_2 rfl) ?_
    refine XOps.s rfl rfl rfl (Q.ld_ptr (k := 0) ag9 rfl rfl rfl) ?_
    refine XOps.s rfl rfl rfl (Q.call rfl Tryz.func82 go82 rfl (cfind_c su (.d (.int .i64 tm)) fl [.d (.sl 3 (ow.map OE.enc)), .ptr lb 0] b 1 _ rfl x.call o.srt (by omega))) ?_
    refine XOps.s rfl rfl rfl (Q.move_tup rfl) ?_
    refine XOps.s rfl rfl rfl (Q.extract rfl rfl) ?_
    refine XOps.s rfl rfl rfl (Q.extract rfl rfl) ?_
    refine XOps.s rfl rfl rfl (Q.assign_d rfl) ?_
    refine XOps.s rfl rfl rfl (Q.assign_d rfl) ?_
    refine XOps.nil ?_
    refine W.reg ?_
    refine XOps.s rfl rfl rfl (Q.move_ptr rfl) ?_
    refine XOps.s rfl rfl rfl (Q.nil_ptr rfl) ?_
    refine XOps.s rfl rfl rfl (Q.fld_ptr fl83_2 rfl) ?_
    refine XOps.s rfl rfl rfl (Q.ld_ptr (k := 1) ag37 rfl rfl rfl) ?_
    refine XOps.s rfl rfl rfl (Q.move_d rfl) ?_
    refine XOps.s rfl rfl rfl (Q.idx_sl sl37 (by decide) rfl rfl (by first | omega | (simp only [List.length_map]; omega)) (by first | exact map_at hx | exact hlr | exact pl)) ?_
    refine XOps.s rfl rfl rfl (Q.ld_dpn ag41 rfl rfl) ?_
    (refine XOps.loud rfl (L.alloc tz41 rfl rfl) ?_; rintro _ _ ⟨b9, rfl, rfl⟩)
    refine XOps.loud rfl (L.storen (k := 0) ag41 rfl rfl rfl rfl rfl) ?_
    rintro _ _ ⟨rfl, rfl⟩
    refine XOps.nil ?_
    refine W.reg ?_
    refine XOps.s rfl rfl rfl (Q.fld_ptr fl41_4 rfl) ?_
    refine XOps.s rfl rfl rfl (Q.ld_ptr (k := 0) ag39 rfl rfl rfl) ?_
    refine XOps.s rfl rfl rfl (Q.fld_ptr fl41_4 rfl) ?_
    refine XOps.s rfl rfl rfl (Q.ld_ptr (k := 0) ag39 rfl rfl rfl) ?_
    refine XOps.s rfl rfl rfl (Q.len_sl isl39 rfl) ?_
    refine XOps.s rfl rfl rfl (Q.sub rfl rfl (wi64 (by first | omega | (dsimp only; omega) | (simp only [List.length_map]; omega)) (by first | omega | (dsimp only; omega) | (simp only [List.length_map]; omega)))) ?_
    refine XOps.s rfl rfl rfl (Q.idx_sl sl39 (by decide) rfl rfl (by first | omega | (simp only [List.length_map]; omega)) (by first | exact map_at hx | exact hlr | exact pl)) ?_
    refine XOps.s rfl rfl rfl (Q.ld_dp ag33 rfl rfl) ?_
    refine XOps.s rfl rfl rfl (Q.assign_d rfl) ?_
    refine XOps.nil ?_
    refine W.seq ?_
    refine W.drawreg 17 follows (by kernel_rfl) ?_
    refine Chain.cons _ (GQ.q rfl (Q.fld_ptr fl41_5 rfl)) rfl ?_
    refine Chain.cons _ (GQ.q rfl (Q.ld_ptr (k := 0) ag33 rfl rfl rfl)) rfl ?_
    refine Chain.cons _ (GQ.q rfl (Q.len_sl isl33 rfl)) rfl ?_
    refine Chain.cons _ (GQ.q rfl (Q.gtr rfl rfl)) rfl ?_
    refine Chain.cons _ (GQ.q rfl (Q.move_d rfl)) rfl ?_
    refine Chain.cons _ (GQ.g rfl rfl rfl rfl rfl (fun hg => Q.fld_ptr fl35_1 rfl)) rfl ?_
    refine Chain.cons _ (GQ.g rfl rfl rfl rfl rfl (fun hg => Quiet.open 53 hg rfl (Q.ld_ptr (k := 1) ag3 rfl rfl rfl))) rfl ?_
    refine Chain.cons _ (GQ.g rfl rfl rfl rfl rfl (fun hg => Q.move_d rfl)) rfl ?_
    refine Chain.cons _ (GQ.g rfl rfl rfl rfl rfl (fun hg => Q.move_d rfl)) rfl ?_
    refine Chain.cons _ (GQ.g rfl rfl rfl rfl rfl (fun hg => Quiet.open 56 hg rfl (Q.len_sl isl33 rfl))) rfl ?_
    refine Chain.cons _ (GQ.g rfl rfl rfl rfl rfl (fun hg => Quiet.open 57 hg rfl (Q.sub rfl rfl (wi64 (by first | omega | (dsimp only; omega) | (simp only [List.length_map]; omega)) (by first | omega | (dsimp only; omega) | (simp only [List.length_map]; omega)))))) rfl ?_
    refine Chain.cons _ (GQ.g rfl rfl rfl rfl rfl (fun hg => Quiet.open 55 hg rfl (Quiet.open 58 hg rfl (Q.idx_sl sl33 (by decide) rfl rfl (by first | omega | (simp only [List.length_map]; omega)) (by first | exact map_at hx | exact hlr | exact pl))))) rfl ?_
    refine Chain.cons _ (GQ.g rfl rfl rfl rfl rfl (fun hg => Quiet.open 59 hg rfl (Q.fld_dp fl47_0 rfl))) rfl ?_
    refine Chain.cons _ (GQ.g rfl rfl rfl rfl rfl (fun hg => Quiet.open 60 hg rfl (Q.fld_dp fl45_0 rfl))) rfl ?_
    refine Chain.cons _ (GQ.g rfl rfl rfl rfl rfl (fun hg => Quiet.open 61 hg rfl (Q.ld_dp ag3 rfl rfl))) rfl ?_
    refine Chain.cons _ (GQ.g rfl rfl rfl rfl rfl (fun hg => Quiet.open 54 hg rfl (Quiet.open 62 hg rfl (Q.leq rfl rfl)))) rfl ?_
    refine Chain.cons _ (GQ.q rfl (Q.pick_or rfl rfl rfl (fun h => by first | (rw [h]; rfl) | (rw [hg, h]; rfl) | (simp [h, hg]; done)))) rfl ?_
    refine Chain.nil ?_
    refine XOps.nil ?_
    refine W.cond rfl (fun hc64 => ?_) (fun hc64 => ?_)
    · try simp only [Bool.or_eq_true, Bool.or_eq_false_iff, Bool.and_eq_true, Bool.and_eq_false_iff, decide_eq_true_eq, decide_eq_false_iff_not, Bool.not_eq_true', Bool.not_eq_false', Int.not_lt, Int.not_le, List.length_map] at hc64
      have h64 : (atF fl x.call).next ≠ [] ∨ x.time ≤ laT (lastL (atF fl x.call)) := by
        rcases hc64 with h | h
        · exact .inl (fun e => by rw [e] at h; simp at h)
        · exact .inr h
      have hE : finE fl ow x = 11 := by unfold finE; rw [if_neg h24, if_pos h64]
      obtain ⟨hF, hO⟩ := fin_no (fl := fl) (ow := ow) (x := x) (by rw [hE]; omega)
      rw [hF, hO, hE]
      refine W.reg ?_
      refine XOps.s rfl rfl rfl (Q.assign_d rfl) ?_
      refine XOps.nil ?_
      refine W.ret ?_
      exact ⟨_, (b, .cells (ceC su tm fl ow lb)) :: hs, rfl, HLe.skip _ (HLe.skip _ (HLe.refl _)), rfl, rfl⟩
    · try simp only [Bool.or_eq_true, Bool.or_eq_false_iff, Bool.and_eq_true, Bool.and_eq_false_iff, decide_eq_true_eq, decide_eq_false_iff_not, Bool.not_eq_true', Bool.not_eq_false', Int.not_lt, Int.not_le, List.length_map] at hc64
      have h64 : ¬ ((atF fl x.call).next ≠ [] ∨ x.time ≤ laT (lastL (atF fl x.call))) := by
        rintro (h | h)
        · exact h (List.eq_nil_of_length_eq_zero (by have := hc64.1; simp at this; omega))
        · have h7 : laT (lastL (atF fl x.call)) < x.time := by first | exact hc64.2 | exact Int.not_le.1 hc64.2
          omega
      have hE : finE fl ow x = 0 := by unfold finE; rw [if_neg h24, if_neg h64]
      obtain ⟨hF, hO⟩ := fin_yes hE
      rw [hF, hO, hE]
      refine W.skip ?_
      refine W.reg ?_
      refine XOps.s rfl rfl rfl (Q.move_ptr rfl) ?_
      refine XOps.s rfl rfl rfl (Q.move_ptr rfl) ?_
      refine XOps.s rfl rfl rfl (Q.move_ptr rfl) ?_
      refine XOps.s rfl rfl rfl (Q.nil_ptr rfl) ?_
      refine XOps.s rfl rfl rfl (Q.fld_ptr fl83_2 rfl) ?_
      refine XOps.s rfl rfl rfl (Q.ld_ptr (k := 2) ag37 rfl rfl rfl) ?_
      (refine XOps.loud rfl (L.call rfl Tryz.func84 go84 rfl (AC.le (cloneF_c fl ((b, .cells (ceC su tm fl ow lb)) :: hs) (by omega)) (HLe.skip _ (HLe.skip _ (HLe.refl _)))) rfl) ?_; rintro _ _ ⟨_, rfl, v71, rfl, rfl⟩)
      refine XOps.s rfl rfl rfl (Q.move_d rfl) ?_
      refine XOps.s rfl rfl rfl (Q.move_d rfl) ?_
      refine XOps.s rfl rfl rfl (Q.add rfl rfl (wi64 (by first | omega | (dsimp only; omega) | (simp only [List.length_map]; omega)) (by first | omega | (dsimp only; omega) | (simp only [List.length_map]; omega)))) ?_
      (refine XOps.loud rfl (L.call rfl Tryz.func87 go87 (by show [AV.vs v71 0 fl.length 8, AV.d (.int .i64 (posK Fl.call fl x.call : Nat)), AV.d (.int .i64 ((posK Fl.call fl x.call : Int) + 1))] = [AV.vs v71 0 (fl.map Fl.enc).length 8, AV.d (.int .i64 (posK Fl.call fl x.call : Nat)), AV.d (.int .i64 ((posK Fl.call fl x.call + 1 : Nat) : Int))]; rw [List.length_map]; rfl) (delF_c v71 (posK Fl.call fl x.call) (posK Fl.call fl x.call + 1) (fl.map Fl.enc) ((b, .cells (ceC su tm fl ow lb)) :: hs) (by omega) (by simp; omega) (by simp; omega)) rfl) ?_; rintro _ _ ⟨_, rfl, rfl, rfl⟩)
      refine XOps.s rfl rfl rfl (Q.move_d rfl) ?_
      refine XOps.s rfl rfl rfl (Q.nil_ptr rfl) ?_
      refine XOps.s rfl rfl rfl (Q.fld_ptr fl83_2 rfl) ?_
      refine XOps.loud rfl (L.store (k := 1) ag37 rfl rfl rfl rfl rfl) ?_
      rintro _ _ ⟨rfl, rfl⟩
      refine XOps.s rfl rfl rfl (Q.nil_ptr rfl) ?_
      refine XOps.s rfl rfl rfl (Q.fld_ptr fl83_3 rfl) ?_
      refine XOps.loud rfl (L.store (k := 1) ag55 rfl rfl rfl rfl rfl) ?_
      rintro _ _ ⟨rfl, rfl⟩
      refine XOps.nil ?_
      refine W.heap ((v71, .lst 8 ((fl.map Fl.enc).take (posK Fl.call fl x.call) ++ (fl.map Fl.enc).drop (posK Fl.call fl x.call + 1))) :: (b, .cells ((ceC su tm fl (endL ow x.call x.by_) lb).set 19 (.vs v71 0 ((fl.map Fl.enc).length - (posK Fl.call fl x.call + 1 - posK Fl.call fl x.call)) 8))) :: hs) (HLe.pick 0 rfl rfl (HLe.pick 0 rfl rfl (HLe.refl _))) ?_
      refine W.freezec 19 rfl (by simp; omega) ?_
      refine W.heap ((b, .cells (ceC su tm (delX fl (posK Fl.call fl x.call)) (endL ow x.call x.by_) lb)) :: hs) (HLe.cons' (by rw [show (fl.map Fl.enc).take (posK Fl.call fl x.call) ++ (fl.map Fl.enc).drop (posK Fl.call fl x.call + 1) = (delX fl (posK Fl.call fl x.call)).map Fl.enc by unfold delX; rw [List.map_append, List.map_take, List.map_drop]]; rfl) (HLe.refl _)) ?_
      refine W.reg ?_
      refine XOps.s rfl rfl rfl (Q.assign_d rfl) ?_
      refine XOps.nil ?_
      refine W.ret ?_
      exact ⟨_, (b, .cells (ceC su tm (delX fl (posK Fl.call fl x.call)) (endL ow x.call x.by_) lb)) :: hs, rfl, HLe.refl _, rfl, rfl⟩
end Go.Proofs.YtaegeaajhbfkgaaGreatDoorA

