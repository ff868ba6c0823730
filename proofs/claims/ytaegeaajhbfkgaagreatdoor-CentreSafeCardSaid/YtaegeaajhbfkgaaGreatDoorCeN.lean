/- Centres: what they are asked. -/
import Derived.Test.YtaegeaajhbfkgaaGreatDoorFrB
import Derived.Test.YtaegeaajhbfkgaaGreatDoorCeM
import Derived.Test.YtaegeaajhbfkgaaGreatDoorCeD
import Derived.Test.YtaegeaajhbfkgaaGreatDoorCeS
import Derived.Test.YtaegeaajhbfkgaaGreatDoorCen6
set_option linter.unusedVariables false
set_option linter.unusedSimpArgs false
set_option linter.unnecessarySimpa false
namespace Go.Proofs.YtaegeaajhbfkgaaGreatDoorA.FCeN
open Go
theorem ag23 : tAgg P 23 = some ((true, 2)) := by kernel_rfl
theorem ag24 : tAgg P 24 = some ((true, 4)) := by kernel_rfl
theorem ag25 : tAgg P 25 = some ((true, 16)) := by kernel_rfl
theorem ag27 : tAgg P 27 = some ((true, 18)) := by kernel_rfl
theorem ag3 : tAgg P 3 = some ((false, 1)) := by kernel_rfl
theorem ag37 : tAgg P 37 = some ((false, 1)) := by kernel_rfl
theorem ag41 : tAgg P 41 = some ((true, 8)) := by kernel_rfl
theorem ag55 : tAgg P 55 = some ((false, 1)) := by kernel_rfl
theorem ag81 : tAgg P 81 = some ((false, 1)) := by kernel_rfl
theorem ap37 : tApp P 37 = some ((8, 104)) := by kernel_rfl
theorem ar24 : tArr P 24 = some ((4, 1)) := by kernel_rfl
theorem ar25 : tArr P 25 = some ((4, 4)) := by kernel_rfl
theorem are24 : tEl P 24 = some ((false, 1)) := by kernel_rfl
theorem are25 : tEl P 25 = some ((true, 4)) := by kernel_rfl
theorem fl27_0 : tFld P 27 0 = some (0) := by kernel_rfl
theorem fl27_1 : tFld P 27 1 = some (2) := by kernel_rfl
theorem fl83_1 : tFld P 83 1 = some (18) := by kernel_rfl
theorem fl83_2 : tFld P 83 2 = some (19) := by kernel_rfl
theorem fl83_3 : tFld P 83 3 = some (20) := by kernel_rfl
theorem fl83_4 : tFld P 83 4 = some (21) := by kernel_rfl
theorem go39 : callGo Go.Proofs.Tryz.f39 = true := by kernel_rfl
theorem go40 : callGo Go.Proofs.Tryz.f40 = true := by kernel_rfl
theorem go45 : callGo Go.Proofs.Tryz.f45 = true := by kernel_rfl
theorem go54 : callGo Go.Proofs.Tryz.f54 = true := by kernel_rfl
theorem go56 : callGo Go.Proofs.Tryz.f56 = true := by kernel_rfl
theorem go63 : callGo Go.Proofs.Tryz.f63 = true := by kernel_rfl
theorem go64 : callGo Go.Proofs.Tryz.f64 = true := by kernel_rfl
theorem isl137 : isSl P 137 = true := by kernel_rfl
theorem isl37 : isSl P 37 = true := by kernel_rfl
theorem pl83 : tPl P 83 = some ([(0, 18), (18, 1), (19, 1), (20, 1), (21, 1)]) := by kernel_rfl
theorem sl37 : tSl P 37 = some (8) := by kernel_rfl
theorem tz24 : tZero P 24 = some ([.int .i64 0, .int .i64 0, .int .i64 0, .int .i64 0]) := by kernel_rfl
theorem tz41 : tZero P 41 = some ([.string ⟨#[]⟩, .int .i64 0, .int .i64 0, .bool false, .slice none 0 0, .slice none 0 0, .int .i64 0, .int .i64 0]) := by kernel_rfl
theorem tz83 : tZero P 83 = some ([.int .i64 0, .int .i64 0, .int .i64 0, .int .i64 0, .int .i64 0, .int .i64 0, .int .i64 0, .int .i64 0, .int .i64 0, .int .i64 0, .int .i64 0, .int .i64 0, .int .i64 0, .int .i64 0, .int .i64 0, .int .i64 0, .int .i64 0, .int .i64 0, .int .i64 0, .slice none 0 0, .slice none 0 0, .pointer none]) := by kernel_rfl
theorem zr37 : tZrow P 37 = some ([.string ⟨#[]⟩, .int .i64 0, .int .i64 0, .bool false, .slice none 0 0, .slice none 0 0, .int .i64 0, .int .i64 0]) := by kernel_rfl
theorem zrd37 : cellsD [.string ⟨#[]⟩, .int .i64 0, .int .i64 0, .bool false, .slice none 0 0, .slice none 0 0, .int .i64 0, .int .i64 0] = some ([.str ⟨#[]⟩, .int .i64 0, .int .i64 0, .bool false, .sl 0 [], .sl 0 [], .int .i64 0, .int .i64 0]) := rfl
end Go.Proofs.YtaegeaajhbfkgaaGreatDoorA.FCeN
namespace Go.Proofs.YtaegeaajhbfkgaaGreatDoorA
open Go FCeN
attribute [local irreducible] XOps Quiet Loud W AC GQ DT
set_option maxHeartbeats 4000000 in
set_option maxRecDepth 100000 in
theorem apn_c (gv : Nat → Int) (hs : Hp) : AC P 64 [.d (.sl 4 []), .d (.agg (gD gv))] hs (fun r h => r = .d (.int .i64 (apC gv)) ∧ h = hs) := by
  refine AC.of 65 Tryz.func64 rfl rfl rfl ?_
  refine W.reg ?_
  refine XOps.loud rfl (L.boxn rfl rfl) ?_
  rintro _ _ ⟨b3, rfl, rfl⟩
  refine XOps.s rfl rfl rfl (Q.assign_d rfl) ?_
  refine XOps.nil ?_
  refine W.seq ?_
  refine W.reg ?_
  refine XOps.s rfl rfl rfl (Q.move_d rfl) ?_
  refine XOps.s rfl rfl rfl (Q.len_sl isl137 rfl) ?_
  refine XOps.s rfl rfl rfl (Q.gtr rfl rfl) ?_
  refine XOps.nil ?_
  refine W.cond rfl (fun hc13 => ?_) (fun hc13 => ?_)
  · try simp only [Bool.or_eq_true, Bool.or_eq_false_iff, Bool.and_eq_true, Bool.and_eq_false_iff, decide_eq_true_eq, decide_eq_false_iff_not, Bool.not_eq_true', Bool.not_eq_false', Int.not_lt, Int.not_le, List.length_map] at hc13
    exact absurd hc13 (by decide)
  · try simp only [Bool.or_eq_true, Bool.or_eq_false_iff, Bool.and_eq_true, Bool.and_eq_false_iff, decide_eq_true_eq, decide_eq_false_iff_not, Bool.not_eq_true', Bool.not_eq_false', Int.not_lt, Int.not_le, List.length_map] at hc13
    refine W.skip ?_
    refine W.seq ?_
    refine W.reg ?_
    refine XOps.s rfl rfl rfl (Q.ld_ptrn (k := 0) ag25 rfl rfl rfl) ?_
    refine XOps.s rfl rfl rfl (Q.move_d rfl) ?_
    refine XOps.nil ?_
    refine W.block ?_
    refine W.loop (ι := Nat) (fun k => [(0, .d (.sl 4 [])), (14, .d (.agg (gD gv))), (15, .d (.int .i64 k))]) (fun k => (b3, .cells ((gD gv).map .d)) :: hs) (fun k => k ≤ 4 ∧ ∀ i, i < 4 * k → 0 ≤ gv i ∧ gv i ≤ 1000) (fun k => 4 - k) 0 ?_ ?_ ?_ ?_
    · exact ⟨Nat.zero_le _, fun i hi => absurd hi (by omega)⟩
    · exact ⟨by first | rfl | exact int_eq (by omega) | exact len_eq (by simp) | exact int_eq (by simp; done), by first | rfl | exact int_eq (by omega) | exact len_eq (by simp) | exact int_eq (by simp; done), by first | rfl | exact int_eq (by omega) | exact len_eq (by simp) | exact int_eq (by simp; done), trivial⟩
    · exact HLe.refl _
    · rintro k ⟨hk, hI⟩
      try dsimp only
      refine W.reg ?_
      refine XOps.s rfl rfl rfl (Q.lss rfl rfl) ?_
      refine XOps.nil ?_
      refine W.seq ?_
      refine W.cond rfl (fun hc16 => ?_) (fun hc16 => ?_)
      · try simp only [Bool.or_eq_true, Bool.or_eq_false_iff, Bool.and_eq_true, Bool.and_eq_false_iff, decide_eq_true_eq, decide_eq_false_iff_not, Bool.not_eq_true', Bool.not_eq_false', Int.not_lt, Int.not_le, List.length_map] at hc16
        refine W.skip ?_
        refine W.seq ?_
        refine W.block ?_
        refine W.reg ?_
        refine XOps.s rfl rfl rfl (Q.idx_aggn ar25 are25 rfl rfl (by omega) (by omega) (gD_row gv (by omega))) ?_
        (refine XOps.loud rfl (L.alloc tz24 rfl rfl) ?_; rintro _ _ ⟨b6, rfl, rfl⟩)
        refine XOps.loud rfl (L.storen (k := 0) ag24 rfl rfl rfl rfl rfl) ?_
        rintro _ _ ⟨rfl, rfl⟩
        refine XOps.nil ?_
        refine W.reg ?_
        refine XOps.s rfl rfl rfl (Q.ld_ptrn (k := 0) ag24 rfl rfl rfl) ?_
        refine XOps.s rfl rfl rfl (Q.move_d rfl) ?_
        refine XOps.nil ?_
        refine W.block ?_
        refine W.loop (ι := Nat) (fun j => [(0, .d (.sl 4 [])), (14, .d (.agg (gD gv))), (15, .d (.int .i64 k)), (18, .d (.agg [.int .i64 (gv (4 * k)), .int .i64 (gv (4 * k + 1)), .int .i64 (gv (4 * k + 2)), .int .i64 (gv (4 * k + 3))])), (19, .d (.int .i64 j))]) (fun j => (b3, .cells ((gD gv).map .d)) :: hs) (fun j => j ≤ 4 ∧ ∀ i, i < 4 * k + j → 0 ≤ gv i ∧ gv i ≤ 1000) (fun j => 4 - j) 0 ?_ ?_ ?_ ?_
        · exact ⟨Nat.zero_le _, fun i hi => hI i (by omega)⟩
        · exact ⟨by first | rfl | exact int_eq (by omega) | exact len_eq (by simp) | exact int_eq (by simp; done), by first | rfl | exact int_eq (by omega) | exact len_eq (by simp) | exact int_eq (by simp; done), by first | rfl | exact int_eq (by omega) | exact len_eq (by simp) | exact int_eq (by simp; done), by first | rfl | exact int_eq (by omega) | exact len_eq (by simp) | exact int_eq (by simp; done), by first | rfl | exact int_eq (by omega) | exact len_eq (by simp) | exact int_eq (by simp; done), trivial⟩
        · exact HLe.skip _ (HLe.refl _)
        · rintro j ⟨hj, hJ⟩
          try dsimp only
          refine W.reg ?_
          refine XOps.s rfl rfl rfl (Q.lss rfl rfl) ?_
          refine XOps.nil ?_
          refine W.seq ?_
          refine W.cond rfl (fun hc20 => ?_) (fun hc20 => ?_)
          · try simp only [Bool.or_eq_true, Bool.or_eq_false_iff, Bool.and_eq_true, Bool.and_eq_false_iff, decide_eq_true_eq, decide_eq_false_iff_not, Bool.not_eq_true', Bool.not_eq_false', Int.not_lt, Int.not_le, List.length_map] at hc20
            refine W.skip ?_
            refine W.seq ?_
            refine W.block ?_
            refine W.reg ?_
            refine XOps.s rfl rfl rfl (Q.idx_agg1 ar24 are24 rfl rfl (by omega) (by omega) (row_at gv (by omega))) ?_
            refine XOps.s rfl rfl rfl (Q.assign_d rfl) ?_
            refine XOps.nil ?_
            refine W.reg ?_
            refine XOps.s rfl rfl rfl (Q.move_d rfl) ?_
            refine XOps.s rfl rfl rfl (Q.lss rfl rfl) ?_
            refine XOps.s rfl rfl rfl (Q.move_d rfl) ?_
            refine XOps.gs rfl rfl rfl rfl rfl rfl rfl (fun hg => Q.move_d rfl) ?_
            refine XOps.gs rfl rfl rfl rfl rfl rfl rfl (fun hg => Quiet.open 25 hg rfl (Q.gtr rfl rfl)) ?_
            refine XOps.s rfl rfl rfl (Q.pick_or rfl rfl rfl (fun h => by first | (rw [h]; rfl) | (rw [hg, h]; rfl) | (simp [h, hg]; done))) ?_
            refine XOps.nil ?_
            refine W.cond rfl (fun hc27 => ?_) (fun hc27 => ?_)
            · try simp only [Bool.or_eq_true, Bool.or_eq_false_iff, Bool.and_eq_true, Bool.and_eq_false_iff, decide_eq_true_eq, decide_eq_false_iff_not, Bool.not_eq_true', Bool.not_eq_false', Int.not_lt, Int.not_le, List.length_map] at hc27
              have hlen : apC gv = 4 := if_neg fun h1 => by
                have h3 := h1 (4 * k + j) (by omega)
                omega
              rw [hlen]
              refine W.reg ?_
              refine XOps.s rfl rfl rfl (Q.assign_d rfl) ?_
              refine XOps.nil ?_
              refine W.ret ?_
              exact ⟨_, hs, rfl, HLe.skip _ (HLe.refl _), rfl, rfl⟩
            · try simp only [Bool.or_eq_true, Bool.or_eq_false_iff, Bool.and_eq_true, Bool.and_eq_false_iff, decide_eq_true_eq, decide_eq_false_iff_not, Bool.not_eq_true', Bool.not_eq_false', Int.not_lt, Int.not_le, List.length_map] at hc27
              refine W.skip ?_
              refine W.region ?_
              refine XOps.s rfl rfl rfl (Q.add rfl rfl (wi64 (by first | omega | (dsimp only; omega) | (simp only [List.length_map]; omega)) (by first | omega | (dsimp only; omega) | (simp only [List.length_map]; omega)))) ?_
              refine XOps.s rfl rfl rfl (Q.move_d rfl) ?_
              refine XOps.nil ?_
              refine ⟨j + 1, ?_, ?_, ?_, ?_⟩
              · refine ⟨by omega, fun i hi => ?_⟩
                by_cases h : i = 4 * k + j
                · subst h; omega
                · exact hJ i (by omega)
              · omega
              · exact ⟨by first | rfl | exact int_eq (by omega) | exact len_eq (by simp) | exact int_eq (by simp; done), by first | rfl | exact int_eq (by omega) | exact len_eq (by simp) | exact int_eq (by simp; done), by first | rfl | exact int_eq (by omega) | exact len_eq (by simp) | exact int_eq (by simp; done), by first | rfl | exact int_eq (by omega) | exact len_eq (by simp) | exact int_eq (by simp; done), by first | rfl | exact int_eq (by omega) | exact len_eq (by simp) | exact int_eq (by simp; done), trivial⟩
              · exact HLe.refl _
          · try simp only [Bool.or_eq_true, Bool.or_eq_false_iff, Bool.and_eq_true, Bool.and_eq_false_iff, decide_eq_true_eq, decide_eq_false_iff_not, Bool.not_eq_true', Bool.not_eq_false', Int.not_lt, Int.not_le, List.length_map] at hc20
            refine W.exit ?_
            refine W.region ?_
            refine XOps.s rfl rfl rfl (Q.add rfl rfl (wi64 (by first | omega | (dsimp only; omega) | (simp only [List.length_map]; omega)) (by first | omega | (dsimp only; omega) | (simp only [List.length_map]; omega)))) ?_
            refine XOps.s rfl rfl rfl (Q.move_d rfl) ?_
            refine XOps.nil ?_
            refine ⟨k + 1, ?_, ?_, ?_, ?_⟩
            · exact ⟨by omega, fun i hi => hJ i (by omega)⟩
            · omega
            · exact ⟨by first | rfl | exact int_eq (by omega) | exact len_eq (by simp) | exact int_eq (by simp; done), by first | rfl | exact int_eq (by omega) | exact len_eq (by simp) | exact int_eq (by simp; done), by first | rfl | exact int_eq (by omega) | exact len_eq (by simp) | exact int_eq (by simp; done), trivial⟩
            · exact HLe.refl _
      · try simp only [Bool.or_eq_true, Bool.or_eq_false_iff, Bool.and_eq_true, Bool.and_eq_false_iff, decide_eq_true_eq, decide_eq_false_iff_not, Bool.not_eq_true', Bool.not_eq_false', Int.not_lt, Int.not_le, List.length_map] at hc16
        have hgaps : gapsOk gv := fun i hi => hI i (by omega)
        refine W.exit ?_
        refine W.seq ?_
        refine W.reg ?_
        refine XOps.s rfl rfl rfl (Q.move_d rfl) ?_
        refine XOps.s rfl rfl rfl (Q.len_sl isl137 rfl) ?_
        refine XOps.s rfl rfl rfl (Q.move_d rfl) ?_
        refine XOps.nil ?_
        refine W.block ?_
        refine W.loop (ι := Nat) (fun k => [(30, .d (.sl 4 [])), (31, .d (.int .i64 0)), (32, .d (.int .i64 (k : Nat)))]) (fun k => hs) (fun k => True) (fun k => 0) 0 ?_ ?_ ?_ ?_
        · trivial
        · exact ⟨by first | rfl | exact int_eq (by omega) | exact len_eq (by simp) | exact int_eq (by simp; done), by first | rfl | exact int_eq (by omega) | exact len_eq (by simp) | exact int_eq (by simp; done), by first | rfl | exact int_eq (by omega) | exact len_eq (by simp) | exact int_eq (by simp; done), trivial⟩
        · exact HLe.skip _ (HLe.refl _)
        · rintro k -
          refine W.reg ?_
          refine XOps.s rfl rfl rfl (Q.lss rfl rfl) ?_
          refine XOps.nil ?_
          refine W.seq ?_
          refine W.cond rfl (fun hc33 => ?_) (fun hc33 => ?_)
          · try simp only [Bool.or_eq_true, Bool.or_eq_false_iff, Bool.and_eq_true, Bool.and_eq_false_iff, decide_eq_true_eq, decide_eq_false_iff_not, Bool.not_eq_true', Bool.not_eq_false', Int.not_lt, Int.not_le, List.length_map] at hc33
            exact absurd hc33 (by omega)
          · try simp only [Bool.or_eq_true, Bool.or_eq_false_iff, Bool.and_eq_true, Bool.and_eq_false_iff, decide_eq_true_eq, decide_eq_false_iff_not, Bool.not_eq_true', Bool.not_eq_false', Int.not_lt, Int.not_le, List.length_map] at hc33
            have hlen : apC gv = 0 := if_pos hgaps
            rw [hlen]
            refine W.exit ?_
            refine W.reg ?_
            refine XOps.s rfl rfl rfl (Q.assign_d rfl) ?_
            refine XOps.nil ?_
            refine W.ret ?_
            exact ⟨_, hs, rfl, HLe.refl _, rfl, rfl⟩
set_option maxHeartbeats 1000000 in
set_option maxRecDepth 100000 in
theorem suchk_c (su : Su) (hs : Hp) : AC P 39 [.d (.agg su.enc)] hs (fun r h => r = .d (.int .i64 (suC su)) ∧ h = hs) := by
  refine AC.of 13 Tryz.func39 rfl rfl rfl ?_
  refine W.reg ?_
  refine XOps.loud rfl (L.boxn rfl rfl) ?_
  rintro _ _ ⟨b1, rfl, rfl⟩
  refine XOps.s rfl rfl rfl (Q.assign_d rfl) ?_
  refine XOps.nil ?_
  refine W.seq ?_
  refine W.reg ?_
  refine XOps.s rfl rfl rfl (Q.fld_ptr fl27_0 rfl) ?_
  refine XOps.s rfl rfl rfl (Q.ld_ptrn (k := 0) ag23 rfl rfl rfl) ?_
  refine XOps.s rfl rfl rfl (Q.call rfl Tryz.func63 go63 rfl (sepc_c su.lat su.ver _)) ?_
  refine XOps.s rfl rfl rfl (Q.assign_d rfl) ?_
  refine XOps.nil ?_
  refine W.reg ?_
  refine XOps.s rfl rfl rfl (Q.move_d rfl) ?_
  refine XOps.s rfl rfl rfl (Q.neq rfl rfl) ?_
  refine XOps.nil ?_
  refine W.cond rfl (fun hc8 => ?_) (fun hc8 => ?_)
  · try simp only [Bool.or_eq_true, Bool.or_eq_false_iff, Bool.and_eq_true, Bool.and_eq_false_iff, decide_eq_true_eq, decide_eq_false_iff_not, Bool.not_eq_true', Bool.not_eq_false', Int.not_lt, Int.not_le, List.length_map] at hc8
    have h8 : sepC su.lat su.ver ≠ 0 := by first | exact hc8 | (simpa using hc8)
    have hE : suC su = sepC su.lat su.ver := if_pos h8
    rw [hE]
    refine W.reg ?_
    refine XOps.s rfl rfl rfl (Q.move_d rfl) ?_
    refine XOps.s rfl rfl rfl (Q.assign_d rfl) ?_
    refine XOps.nil ?_
    refine W.ret ?_
    exact ⟨_, hs, rfl, HLe.skip _ (HLe.refl _), rfl, rfl⟩
  · try simp only [Bool.or_eq_true, Bool.or_eq_false_iff, Bool.and_eq_true, Bool.and_eq_false_iff, decide_eq_true_eq, decide_eq_false_iff_not, Bool.not_eq_true', Bool.not_eq_false', Int.not_lt, Int.not_le, List.length_map] at hc8
    have h8 : ¬ sepC su.lat su.ver ≠ 0 := by first | exact fun h => h hc8 | (simpa using hc8)
    have hE : suC su = apC su.gv := if_neg h8
    rw [hE]
    refine W.skip ?_
    refine W.reg ?_
    refine XOps.s rfl rfl rfl (Q.fld_ptr fl27_1 rfl) ?_
    refine XOps.s rfl rfl rfl (Q.ld_ptrn (k := 0) ag25 rfl rfl rfl) ?_
    refine XOps.s rfl rfl rfl (Q.call rfl Tryz.func64 go64 rfl (AC.args (apn_c su.gv _) (.nilsl 4 (.same .nil)))) ?_
    refine XOps.s rfl rfl rfl (Q.assign_d rfl) ?_
    refine XOps.nil ?_
    refine W.ret ?_
    exact ⟨_, hs, rfl, HLe.skip _ (HLe.refl _), rfl, rfl⟩
set_option maxHeartbeats 1000000 in
set_option maxRecDepth 100000 in
theorem time_c (su : Su) (tm : Int) (fl : List Fl) (ow : List OE) (lb b q : Nat) (hs : Hp) (hq : hs[q]? = some (b, .cells (ceC su tm fl ow lb))) : AC P 23 [.ptr b 0] hs (fun r h => r = .d (.int .i64 (tm)) ∧ h = hs) := by
  refine AC.of 7 Tryz.func23 rfl rfl rfl ?_
  refine W.reg ?_
  refine XOps.s rfl rfl rfl (Q.assign_d rfl) ?_
  refine XOps.nil ?_
  refine W.reg ?_
  refine XOps.s rfl rfl rfl (Q.move_ptr rfl) ?_
  refine XOps.s rfl rfl rfl (Q.nil_ptr rfl) ?_
  refine XOps.s rfl rfl rfl (Q.fld_ptr fl83_1 rfl) ?_
  refine XOps.s rfl rfl rfl (Q.ld_ptr (k := q) ag3 rfl hq rfl) ?_
  refine XOps.s rfl rfl rfl (Q.assign_d rfl) ?_
  refine XOps.nil ?_
  refine W.ret ?_
  exact ⟨_, hs, rfl, HLe.refl _, rfl, rfl⟩
set_option maxHeartbeats 8000000 in
set_option maxRecDepth 100000 in
theorem flights_c (su : Su) (tm : Int) (fl : List Fl) (ow : List OE) (lb b q : Nat) (hs : Hp) (hq : hs[q]? = some (b, .cells (ceC su tm fl ow lb))) (fo : ∀ f ∈ fl, FlOk f) (hf : fl.length ≤ 1000) : AC P 14 [.ptr b 0] hs (fun r h => r = .d (.sl 8 (fl.map Fl.enc)) ∧ h = hs) := by
  have hml : (fl.map Fl.enc).length = fl.length := List.length_map _
  refine AC.of 22 Tryz.func14 rfl rfl rfl ?_
  refine W.reg ?_
  refine XOps.s rfl rfl rfl (Q.assign_nilsl rfl) ?_
  refine XOps.nil ?_
  refine W.reg ?_
  refine XOps.s rfl rfl rfl (Q.assign_nilsl rfl) ?_
  refine XOps.nil ?_
  refine W.seq ?_
  refine W.ghost 3 8 (by decide) rfl rfl (fun v3 => ?_)
  refine W.reg ?_
  refine XOps.s rfl rfl rfl (Q.move_ptr rfl) ?_
  refine XOps.s rfl rfl rfl (Q.nil_ptr rfl) ?_
  refine XOps.s rfl rfl rfl (Q.fld_ptr fl83_2 rfl) ?_
  refine XOps.s rfl rfl rfl (Q.ld_ptr (k := q + 1) ag37 rfl hq rfl) ?_
  refine XOps.s rfl rfl rfl (Q.len_sl isl37 rfl) ?_
  refine XOps.s rfl rfl rfl (Q.move_d rfl) ?_
  refine XOps.nil ?_
  refine W.block ?_
  refine W.loop (ι := Nat × Nat) (fun p => [(3, .vs p.2 0 p.1 8), (9, .d (.sl 8 (fl.map Fl.enc))), (10, .d (.int .i64 fl.length)), (11, .d (.int .i64 (p.1 : Nat)))]) (fun p => (p.2, .lst 8 ((fl.take p.1).map Fl.enc)) :: hs) (fun p => p.1 ≤ fl.length) (fun p => fl.length - p.1) (0, v3) ?_ ?_ ?_ ?_
  · exact Nat.zero_le _
  · exact ⟨by first | rfl | exact int_eq (by omega) | exact len_eq (by simp) | exact int_eq (by simp; done), by first | rfl | exact int_eq (by omega) | exact len_eq (by simp) | exact int_eq (by simp; done), by exact int_eq (by simp), by first | rfl | exact int_eq (by omega) | exact len_eq (by simp) | exact int_eq (by simp; done), trivial⟩
  · exact HLe.refl _
  · rintro ⟨k, v⟩ hk
    dsimp only at hk ⊢
    refine W.reg ?_
    refine XOps.s rfl rfl rfl (Q.lss rfl rfl) ?_
    refine XOps.nil ?_
    refine W.seq ?_
    refine W.cond rfl (fun hc12 => ?_) (fun hc12 => ?_)
    · try simp only [Bool.or_eq_true, Bool.or_eq_false_iff, Bool.and_eq_true, Bool.and_eq_false_iff, decide_eq_true_eq, decide_eq_false_iff_not, Bool.not_eq_true', Bool.not_eq_false', Int.not_lt, Int.not_le, List.length_map] at hc12
      obtain ⟨x, hx⟩ : ∃ x, fl[k]? = some x := ⟨_, List.getElem?_eq_getElem (by omega)⟩
      have htk : fl.take (k + 1) = fl.take k ++ [x] := by
        obtain ⟨q1, q2⟩ := List.getElem?_eq_some_iff.1 hx
        rw [List.take_succ_eq_append_getElem q1, q2]
      have hlk : ((fl.take k).map Fl.enc).length = k := by simp; omega
      refine W.skip ?_
      refine W.seq ?_
      refine W.block ?_
      refine W.reg ?_
      refine XOps.s rfl rfl rfl (Q.idx_sl sl37 (by decide) rfl rfl (by first | omega | (simp only [List.length_map]; omega)) (by exact map_at hx)) ?_
      refine XOps.s rfl rfl rfl (Q.ld_dpn ag41 rfl rfl) ?_
      (refine XOps.loud rfl (L.alloc tz41 rfl rfl) ?_; rintro _ _ ⟨b5, rfl, rfl⟩)
      refine XOps.loud rfl (L.storen (k := 0) ag41 rfl rfl rfl rfl rfl) ?_
      rintro _ _ ⟨rfl, rfl⟩
      refine XOps.nil ?_
      refine W.region ?_
      refine XOps.s rfl rfl rfl (Q.move_vs rfl) ?_
      refine XOps.s rfl rfl rfl (Q.ld_ptrn (k := 0) ag41 rfl rfl rfl) ?_
      refine XOps.s rfl rfl rfl (Q.call rfl Tryz.func40 go40 rfl (copied_c x _ (fun l hl => by have := ((fo x (List.mem_of_getElem? hx)).legs l hl).len; omega) ((fo x (List.mem_of_getElem? hx)).next.elim (fun h => by rw [h]; exact Nat.zero_le _) (fun h => by have := h.len; omega)) (by have := (fo x (List.mem_of_getElem? hx)).len; omega))) ?_
      refine XOps.s rfl rfl rfl (Q.bsl1n sl37 (by decide) zr37 rfl zrd37 rfl rfl (by decide)) ?_
      (refine XOps.loud rfl (L.app (k := 1) ap37 rfl rfl (by simp; omega) rfl (by simp; omega) rfl) ?_; rintro _ _ ⟨v19, rfl, rfl⟩)
      refine XOps.s rfl rfl rfl (Q.assign_vs rfl) ?_
      refine XOps.nil ?_
      refine W.heap ((v19, .lst 8 ((fl.take (k + 1)).map Fl.enc)) :: hs) (HLe.cons' (by rw [htk, List.map_append]; rfl) (HLe.skip _ (HLe.refl _))) ?_
      refine W.region ?_
      refine XOps.s rfl rfl rfl (Q.add rfl rfl (wi64 (by first | omega | (dsimp only; omega) | (simp only [List.length_map]; omega)) (by first | omega | (dsimp only; omega) | (simp only [List.length_map]; omega)))) ?_
      refine XOps.s rfl rfl rfl (Q.move_d rfl) ?_
      refine XOps.nil ?_
      refine ⟨(k + 1, v19), ?_, ?_, ?_, ?_⟩
      · exact (show k + 1 ≤ _ by omega)
      · dsimp only; omega
      · exact ⟨by (show AV.vs _ 0 (((fl.take k).map Fl.enc).length + 1) 8 = .vs _ 0 (k + 1) 8; rw [hlk]), by first | rfl | exact int_eq (by omega) | exact len_eq (by simp) | exact int_eq (by simp; done), by first | rfl | exact int_eq (by omega) | exact len_eq (by simp) | exact int_eq (by simp; done), by first | rfl | exact int_eq (by omega) | exact len_eq (by simp) | exact int_eq (by simp; done), trivial⟩
      · exact HLe.refl _
    · try simp only [Bool.or_eq_true, Bool.or_eq_false_iff, Bool.and_eq_true, Bool.and_eq_false_iff, decide_eq_true_eq, decide_eq_false_iff_not, Bool.not_eq_true', Bool.not_eq_false', Int.not_lt, Int.not_le, List.length_map] at hc12
      obtain rfl : k = fl.length := by omega
      rw [List.take_length]
      refine W.exit ?_
      refine W.freeze 3 0 rfl rfl (by simp) ?_
      refine W.reg ?_
      refine XOps.s rfl rfl rfl (Q.move_d rfl) ?_
      refine XOps.s rfl rfl rfl (Q.assign_d rfl) ?_
      refine XOps.nil ?_
      refine W.ret ?_
      exact ⟨_, hs, rfl, HLe.refl _, rfl, rfl⟩
set_option maxHeartbeats 4000000 in
set_option maxRecDepth 100000 in
theorem cnew_c (su : Su) (gd : Nat) (hs : Hp) (h0 : suC su = 0) : AC P 35 [.d (.agg su.enc)] ((gd, p10G) :: hs) (fun r h => ∃ b lb f, r = .tup [.ptr b 0, .d (.int .i64 (0))] ∧ h = (b, .cells (ceC su 0 [] [] lb)) :: (gd, p10G) :: reH lb [] f hs) := by
  refine AC.of 14 Tryz.func35 rfl rfl rfl ?_
  refine W.reg ?_
  refine XOps.loud rfl (L.boxn rfl rfl) ?_
  rintro _ _ ⟨b1, rfl, rfl⟩
  refine XOps.s rfl rfl rfl (Q.assign_d rfl) ?_
  refine XOps.s rfl rfl rfl (Q.assign_d rfl) ?_
  refine XOps.nil ?_
  refine W.seq ?_
  refine W.reg ?_
  refine XOps.s rfl rfl rfl (Q.ld_ptrn (k := 0) ag27 rfl rfl rfl) ?_
  refine XOps.s rfl rfl rfl (Q.call rfl Tryz.func39 go39 rfl (suchk_c su _)) ?_
  refine XOps.s rfl rfl rfl (Q.assign_d rfl) ?_
  refine XOps.nil ?_
  refine W.reg ?_
  refine XOps.s rfl rfl rfl (Q.move_d rfl) ?_
  refine XOps.s rfl rfl rfl (Q.neq rfl rfl) ?_
  refine XOps.nil ?_
  refine W.cond rfl (fun hc8 => ?_) (fun hc8 => ?_)
  · try simp only [Bool.or_eq_true, Bool.or_eq_false_iff, Bool.and_eq_true, Bool.and_eq_false_iff, decide_eq_true_eq, decide_eq_false_iff_not, Bool.not_eq_true', Bool.not_eq_false', Int.not_lt, Int.not_le, List.length_map] at hc8
    exact absurd hc8 (by rw [h0]; simp)
  · try simp only [Bool.or_eq_true, Bool.or_eq_false_iff, Bool.and_eq_true, Bool.and_eq_false_iff, decide_eq_true_eq, decide_eq_false_iff_not, Bool.not_eq_true', Bool.not_eq_false', Int.not_lt, Int.not_le, List.length_map] at hc8
    refine W.skip ?_
    refine W.drawTreg 4 [1, 3] follows (by kernel_rfl) (by decide) ?_
    apply DT.moreC [.new, .now, .later, .later] (by kernel_rfl)
    refine PC.new _ rfl (GQ.q rfl (Q.ld_ptrn (k := 0) ag27 rfl rfl rfl)) rfl ?_
    refine PC.now rfl rfl (fun τ => Loud.to (L.call rfl Tryz.func56 go56 rfl (AC.le (rnew_c gd ((b1, .cells (su.enc.map .d)) :: hs)) (HLe.pick 1 rfl rfl (HLe.refl _))) rfl) (fun _ _ ⟨r, h1, h2⟩ => ⟨r, h1, _, h2, rfl⟩)) ?_
    refine PC.later rfl ?_
    refine PC.later rfl ?_
    refine PC.nil ?_
    rintro _ _ ⟨_, ⟨lb, f, rfl, rfl⟩, rfl⟩
    apply DT.moreE [.old, .did, .new, .now] (by kernel_rfl)
    refine PC.old rfl (GQ.q rfl (Q.ld_ptrn (k := 3) ag27 rfl rfl rfl)) rfl ?_
    refine PC.did rfl ?_
    refine PC.new _ rfl (GQ.q rfl (Q.buildS pl83 tz83 rfl rfl)) rfl ?_
    refine PC.now rfl rfl (fun τ => Loud.to (L.boxv rfl rfl) (fun _ _ ⟨v, h1, h2⟩ => ⟨_, h1, v, rfl, h2⟩)) ?_
    refine PC.nil ?_
    rintro _ _ ⟨b13, rfl, rfl⟩
    refine DT.last [.did, .did, .did, .did] (by kernel_rfl) ?_
    refine PC.did rfl ?_
    refine PC.did rfl ?_
    refine PC.did rfl ?_
    refine PC.did rfl ?_
    refine PC.nil ?_
    refine XOps.s rfl rfl rfl (Q.assign_ptr rfl) ?_
    refine XOps.s rfl rfl rfl (Q.assign_d rfl) ?_
    refine XOps.nil ?_
    refine W.heap ((b13, .cells (su.enc.map AV.d ++ [.d (.int .i64 0), .nilsl, .nilsl, .ptr lb 0])) :: (gd, p10G) :: reH lb [] f hs) (HLe.cons _ (HLe.cons _ (HLe.cons _ (HLe.cons _ (HLe.skip _ (HLe.refl _)))))) ?_
    refine W.ghostc 0 19 8 (by decide) rfl rfl (fun v19 => ?_)
    refine W.freezec 19 rfl rfl ?_
    refine W.ghostc 0 20 3 (by decide) rfl rfl (fun v20 => ?_)
    refine W.freezec 20 rfl rfl ?_
    refine W.ret ?_
    exact ⟨_, (b13, .cells (ceC su 0 [] [] lb)) :: (gd, p10G) :: reH lb [] f hs, rfl, HLe.refl _, b13, lb, f, rfl, rfl⟩
set_option maxHeartbeats 4000000 in
set_option maxRecDepth 100000 in
theorem cnewx_c (su : Su) (hs : Hp) (h0 : suC su ≠ 0) : AC P 35 [.d (.agg su.enc)] hs (fun r h => r = .tup [.d .nilp, .d (.int .i64 (suC su))] ∧ h = hs) := by
  refine AC.of 14 Tryz.func35 rfl rfl rfl ?_
  refine W.reg ?_
  refine XOps.loud rfl (L.boxn rfl rfl) ?_
  rintro _ _ ⟨b1, rfl, rfl⟩
  refine XOps.s rfl rfl rfl (Q.assign_d rfl) ?_
  refine XOps.s rfl rfl rfl (Q.assign_d rfl) ?_
  refine XOps.nil ?_
  refine W.seq ?_
  refine W.reg ?_
  refine XOps.s rfl rfl rfl (Q.ld_ptrn (k := 0) ag27 rfl rfl rfl) ?_
  refine XOps.s rfl rfl rfl (Q.call rfl Tryz.func39 go39 rfl (suchk_c su _)) ?_
  refine XOps.s rfl rfl rfl (Q.assign_d rfl) ?_
  refine XOps.nil ?_
  refine W.reg ?_
  refine XOps.s rfl rfl rfl (Q.move_d rfl) ?_
  refine XOps.s rfl rfl rfl (Q.neq rfl rfl) ?_
  refine XOps.nil ?_
  refine W.cond rfl (fun hc8 => ?_) (fun hc8 => ?_)
  · try simp only [Bool.or_eq_true, Bool.or_eq_false_iff, Bool.and_eq_true, Bool.and_eq_false_iff, decide_eq_true_eq, decide_eq_false_iff_not, Bool.not_eq_true', Bool.not_eq_false', Int.not_lt, Int.not_le, List.length_map] at hc8
    refine W.reg ?_
    refine XOps.s rfl rfl rfl (Q.move_d rfl) ?_
    refine XOps.s rfl rfl rfl (Q.assign_d rfl) ?_
    refine XOps.s rfl rfl rfl (Q.assign_d rfl) ?_
    refine XOps.nil ?_
    refine W.ret ?_
    exact ⟨_, hs, rfl, HLe.skip _ (HLe.refl _), rfl, rfl⟩
  · try simp only [Bool.or_eq_true, Bool.or_eq_false_iff, Bool.and_eq_true, Bool.and_eq_false_iff, decide_eq_true_eq, decide_eq_false_iff_not, Bool.not_eq_true', Bool.not_eq_false', Int.not_lt, Int.not_le, List.length_map] at hc8
    exact absurd hc8 (by simpa using h0)
end Go.Proofs.YtaegeaajhbfkgaaGreatDoorA

