/- Tubes: Check, at. -/
import Derived.Test.YtaegeaajhbfkgaaGreatDoorFrB
import Derived.Test.YtaegeaajhbfkgaaGreatDoorCeB
set_option linter.unusedVariables false
set_option linter.unusedSimpArgs false
set_option linter.unnecessarySimpa false
namespace Go.Proofs.YtaegeaajhbfkgaaGreatDoorA.FCeC
open Go
theorem ag3 : tAgg P 3 = some ((false, 1)) := by kernel_rfl
theorem ag43 : tAgg P 43 = some ((true, 2)) := by kernel_rfl
theorem ag47 : tAgg P 47 = some ((true, 6)) := by kernel_rfl
theorem fl45_0 : tFld P 45 0 = some (0) := by kernel_rfl
theorem fl45_1 : tFld P 45 1 = some (1) := by kernel_rfl
theorem fl45_2 : tFld P 45 2 = some (3) := by kernel_rfl
theorem fl47_0 : tFld P 47 0 = some (0) := by kernel_rfl
theorem fl47_1 : tFld P 47 1 = some (4) := by kernel_rfl
theorem fl47_2 : tFld P 47 2 = some (5) := by kernel_rfl
theorem go66 : callGo Go.Proofs.Tryz.f66 = true := by kernel_rfl
theorem go67 : callGo Go.Proofs.Tryz.f67 = true := by kernel_rfl
theorem go68 : callGo Go.Proofs.Tryz.f68 = true := by kernel_rfl
theorem go69 : callGo Go.Proofs.Tryz.f69 = true := by kernel_rfl
theorem go91 : callGo Go.Proofs.Tryz.f91 = true := by kernel_rfl
theorem go92 : callGo Go.Proofs.Tryz.f92 = true := by kernel_rfl
theorem isl33 : isSl P 33 = true := by kernel_rfl
theorem pl45 : tPl P 45 = some ([(0, 1), (1, 2), (3, 1)]) := by kernel_rfl
theorem pl47 : tPl P 47 = some ([(0, 4), (4, 1), (5, 1)]) := by kernel_rfl
theorem sl33 : tSl P 33 = some (6) := by kernel_rfl
theorem tz43 : tZero P 43 = some ([.int .i64 0, .int .i64 0]) := by kernel_rfl
theorem tz45 : tZero P 45 = some ([.int .i64 0, .int .i64 0, .int .i64 0, .int .i64 0]) := by kernel_rfl
theorem tz47 : tZero P 47 = some ([.int .i64 0, .int .i64 0, .int .i64 0, .int .i64 0, .int .i64 0, .int .i64 0]) := by kernel_rfl
theorem tzd45 : cellsD [.int .i64 0, .int .i64 0, .int .i64 0, .int .i64 0] = some ([.int .i64 0, .int .i64 0, .int .i64 0, .int .i64 0]) := rfl
theorem tzd47 : cellsD [.int .i64 0, .int .i64 0, .int .i64 0, .int .i64 0, .int .i64 0, .int .i64 0] = some ([.int .i64 0, .int .i64 0, .int .i64 0, .int .i64 0, .int .i64 0, .int .i64 0]) := rfl
end Go.Proofs.YtaegeaajhbfkgaaGreatDoorA.FCeC
namespace Go.Proofs.YtaegeaajhbfkgaaGreatDoorA
open Go FCeC
attribute [local irreducible] XOps Quiet Loud W AC GQ DT
set_option maxHeartbeats 4000000 in
set_option maxRecDepth 100000 in
theorem tube_c (l : List Nd) (hs : Hp) (hL : l.length ≤ 4611686018427387904) : AC P 41 [.d (tuD l)] hs (fun r h => r = .d (.int .i64 (tubeC l)) ∧ h = hs) := by
  have hml : (l.map Nd.enc).length = l.length := List.length_map _
  refine AC.of 86 Tryz.func41 rfl rfl rfl ?_
  refine W.reg ?_
  refine XOps.s rfl rfl rfl (Q.assign_d rfl) ?_
  refine XOps.nil ?_
  refine W.seq ?_
  refine W.block ?_
  refine W.reg ?_
  refine XOps.s rfl rfl rfl (Q.move_d rfl) ?_
  refine XOps.s rfl rfl rfl (Q.len_sl isl33 rfl) ?_
  refine XOps.s rfl rfl rfl (Q.gtr rfl rfl) ?_
  refine XOps.s rfl rfl rfl (Q.assign_d rfl) ?_
  refine XOps.nil ?_
  refine W.cond rfl (fun hc6 => ?_) (fun hc6 => ?_)
  · try simp only [Bool.or_eq_true, Bool.or_eq_false_iff, Bool.and_eq_true, Bool.and_eq_false_iff, decide_eq_true_eq, decide_eq_false_iff_not, Bool.not_eq_true', Bool.not_eq_false', Int.not_lt, Int.not_le, List.length_map] at hc6
    have hE : tubeC l = 2 := if_pos (by omega)
    rw [hE]
    refine W.reg ?_
    refine XOps.s rfl rfl rfl (Q.assign_d rfl) ?_
    refine XOps.nil ?_
    refine W.ret ?_
    exact ⟨_, hs, rfl, HLe.refl _, rfl, rfl⟩
  · try simp only [Bool.or_eq_true, Bool.or_eq_false_iff, Bool.and_eq_true, Bool.and_eq_false_iff, decide_eq_true_eq, decide_eq_false_iff_not, Bool.not_eq_true', Bool.not_eq_false', Int.not_lt, Int.not_le, List.length_map] at hc6
    refine W.reg ?_
    refine XOps.s rfl rfl rfl (Q.move_d rfl) ?_
    refine XOps.s rfl rfl rfl (Q.len_sl isl33 rfl) ?_
    refine XOps.s rfl rfl rfl (Q.eql rfl rfl) ?_
    refine XOps.s rfl rfl rfl (Q.assign_d rfl) ?_
    refine XOps.nil ?_
    refine W.cond rfl (fun hc10 => ?_) (fun hc10 => ?_)
    · try simp only [Bool.or_eq_true, Bool.or_eq_false_iff, Bool.and_eq_true, Bool.and_eq_false_iff, decide_eq_true_eq, decide_eq_false_iff_not, Bool.not_eq_true', Bool.not_eq_false', Int.not_lt, Int.not_le, List.length_map] at hc10
      have hE : tubeC l = 3 := by unfold tubeC; rw [if_neg (by omega), if_pos (by omega)]
      rw [hE]
      refine W.reg ?_
      refine XOps.s rfl rfl rfl (Q.assign_d rfl) ?_
      refine XOps.nil ?_
      refine W.ret ?_
      exact ⟨_, hs, rfl, HLe.refl _, rfl, rfl⟩
    · try simp only [Bool.or_eq_true, Bool.or_eq_false_iff, Bool.and_eq_true, Bool.and_eq_false_iff, decide_eq_true_eq, decide_eq_false_iff_not, Bool.not_eq_true', Bool.not_eq_false', Int.not_lt, Int.not_le, List.length_map] at hc10
      have hE0 : tubeC l = tcF (prevT l 0) (l.drop 0) := by unfold tubeC; rw [if_neg (by omega), if_neg (by omega)]; rfl
      refine W.skip ?_
      refine W.seq ?_
      refine W.reg ?_
      refine XOps.s rfl rfl rfl (Q.move_d rfl) ?_
      refine XOps.s rfl rfl rfl (Q.len_sl isl33 rfl) ?_
      refine XOps.s rfl rfl rfl (Q.move_d rfl) ?_
      refine XOps.nil ?_
      refine W.block ?_
      refine W.loop (ι := Nat) (fun k => [(0, .d (tuD l)), (14, .d (tuD l)), (15, .d (.int .i64 l.length)), (16, .d (.int .i64 (k : Nat)))]) (fun k => hs) (fun k => k ≤ l.length ∧ tubeC l = tcF (prevT l k) (l.drop k)) (fun k => l.length - k) 0 ?_ ?_ ?_ ?_
      · exact ⟨Nat.zero_le _, hE0⟩
      · exact ⟨by first | rfl | exact int_eq (by omega) | exact len_eq (by simp) | exact int_eq (by simp; done), by first | rfl | exact int_eq (by omega) | exact len_eq (by simp) | exact int_eq (by simp; done), by exact int_eq (by rw [List.length_map]), by first | rfl | exact int_eq (by omega) | exact len_eq (by simp) | exact int_eq (by simp; done), trivial⟩
      · exact HLe.refl _
      · rintro k ⟨hk, hI⟩
        refine W.reg ?_
        refine XOps.s rfl rfl rfl (Q.lss rfl rfl) ?_
        refine XOps.nil ?_
        refine W.seq ?_
        refine W.cond rfl (fun hc17 => ?_) (fun hc17 => ?_)
        · try simp only [Bool.or_eq_true, Bool.or_eq_false_iff, Bool.and_eq_true, Bool.and_eq_false_iff, decide_eq_true_eq, decide_eq_false_iff_not, Bool.not_eq_true', Bool.not_eq_false', Int.not_lt, Int.not_le, List.length_map] at hc17
          obtain ⟨x, hx⟩ : ∃ x, l[k]? = some x := ⟨_, List.getElem?_eq_getElem (by omega)⟩
          have hkl : k < l.length := by omega
          have hst := tc_step hx
          refine W.skip ?_
          refine W.seq ?_
          refine W.block ?_
          refine W.reg ?_
          refine XOps.s rfl rfl rfl (Q.move_d rfl) ?_
          refine XOps.s rfl rfl rfl (Q.idx_sl sl33 (by decide) rfl rfl (by first | omega | (simp only [List.length_map]; omega)) (by first | exact map_at hx | exact map_at0 hx | assumption)) ?_
          refine XOps.s rfl rfl rfl (Q.ld_dpn ag47 rfl rfl) ?_
          (refine XOps.loud rfl (L.alloc tz47 rfl rfl) ?_; rintro _ _ ⟨b4, rfl, rfl⟩)
          refine XOps.s rfl rfl rfl (Q.assign_d rfl) ?_
          refine XOps.loud rfl (L.storen (k := 0) ag47 rfl rfl rfl rfl rfl) ?_
          rintro _ _ ⟨rfl, rfl⟩
          refine XOps.nil ?_
          refine W.seq ?_
          refine W.drawreg 27 follows (by kernel_rfl) ?_
          refine Chain.cons _ (GQ.q rfl (Q.fld_ptr fl47_0 rfl)) rfl ?_
          refine Chain.cons _ (GQ.q rfl (Q.fld_ptr fl45_0 rfl)) rfl ?_
          refine Chain.cons _ (GQ.q rfl (Q.ld_ptr (k := 0) ag3 rfl rfl rfl)) rfl ?_
          refine Chain.cons _ (GQ.q rfl (Q.lss rfl rfl)) rfl ?_
          refine Chain.cons _ (GQ.q rfl (Q.move_d rfl)) rfl ?_
          refine Chain.cons _ (GQ.g rfl rfl rfl rfl rfl (fun hg => Q.fld_ptr fl47_0 rfl)) rfl ?_
          refine Chain.cons _ (GQ.g rfl rfl rfl rfl rfl (fun hg => Quiet.open 26 hg rfl (Q.fld_ptr fl45_0 rfl))) rfl ?_
          refine Chain.cons _ (GQ.g rfl rfl rfl rfl rfl (fun hg => Quiet.open 27 hg rfl (Q.ld_ptr (k := 0) ag3 rfl rfl rfl))) rfl ?_
          refine Chain.cons _ (GQ.g rfl rfl rfl rfl rfl (fun hg => Quiet.open 28 hg rfl (Q.gtr rfl rfl))) rfl ?_
          refine Chain.cons _ (GQ.q rfl (Q.pick_or rfl rfl rfl (fun h => by first | (rw [h]; rfl) | (rw [hg, h]; rfl) | (simp [h, hg]; done)))) rfl ?_
          refine Chain.cons _ (GQ.q rfl (Q.move_d rfl)) rfl ?_
          refine Chain.cons _ (GQ.g rfl rfl rfl rfl rfl (fun hg => Q.move_d rfl)) rfl ?_
          refine Chain.cons _ (GQ.g rfl rfl rfl rfl rfl (fun hg => Quiet.open 32 hg rfl (Q.gtr rfl rfl))) rfl ?_
          refine Chain.cons _ (GQ.g rfl rfl rfl rfl rfl (fun hg => Quiet.open 33 hg rfl (Q.move_d rfl))) rfl ?_
          refine Chain.cons _ (GQ.gw rfl rfl rfl rfl rfl (fun hg => Q.fld_ptr fl47_0 rfl)) rfl ?_
          refine Chain.cons _ (GQ.gw rfl rfl rfl rfl rfl (fun hg => Quiet.open 35 hg rfl (Q.fld_ptr fl45_0 rfl))) rfl ?_
          refine Chain.cons _ (GQ.gw rfl rfl rfl rfl rfl (fun hg => Quiet.open 36 hg rfl (Q.ld_ptr (k := 0) ag3 rfl rfl rfl))) rfl ?_
          refine Chain.cons _ (GQ.gw rfl rfl rfl rfl rfl (fun hg => Q.move_d rfl)) rfl ?_
          refine Chain.cons _ (GQ.gw rfl rfl rfl rfl rfl (fun hg => Q.move_d rfl)) rfl ?_
          refine Chain.cons _ (GQ.gw rfl rfl rfl rfl rfl (fun hg => Quiet.open 39 hg rfl (Q.sub rfl rfl (wi64 (by first | omega | (dsimp only; omega) | (simp only [List.length_map]; omega)) (by first | omega | (dsimp only; omega) | (simp only [List.length_map]; omega)))))) rfl ?_
          refine Chain.cons _ (GQ.gw rfl rfl rfl rfl rfl (fun hg => Quiet.open 38 hg rfl (Quiet.open 40 hg rfl (Q.idx_sl sl33 (by decide) rfl rfl (by simp at hg; omega) (prev_row hkl (by simp at hg; omega)))))) rfl ?_
          refine Chain.cons _ (GQ.gw rfl rfl rfl rfl rfl (fun hg => Quiet.open 41 hg rfl (Q.fld_dp fl47_0 rfl))) rfl ?_
          refine Chain.cons _ (GQ.gw rfl rfl rfl rfl rfl (fun hg => Quiet.open 42 hg rfl (Q.fld_dp fl45_0 rfl))) rfl ?_
          refine Chain.cons _ (GQ.gw rfl rfl rfl rfl rfl (fun hg => Quiet.open 43 hg rfl (Q.ld_dp ag3 rfl rfl))) rfl ?_
          refine Chain.cons _ (GQ.gw rfl rfl rfl rfl rfl (fun hg => Quiet.open 37 hg rfl (Quiet.open 44 hg rfl (Q.leq rfl rfl)))) rfl ?_
          refine Chain.cons _ (GQ.g rfl rfl rfl rfl rfl (fun hg => Quiet.open 34 hg rfl (Q.pick_and rfl rfl rfl (fun h => by first | (rw [h]; rfl) | (rw [hg, h]; rfl) | (simp [h, hg]; done))))) rfl ?_
          refine Chain.cons _ (GQ.q rfl (Q.pick_or rfl rfl rfl (fun h => by first | (rw [h]; rfl) | (rw [hg, h]; rfl) | (simp [h, hg]; done)))) rfl ?_
          refine Chain.nil ?_
          refine XOps.nil ?_
          refine W.cond rfl (fun hc47 => ?_) (fun hc47 => ?_)
          · try simp only [Bool.or_eq_true, Bool.or_eq_false_iff, Bool.and_eq_true, Bool.and_eq_false_iff, decide_eq_true_eq, decide_eq_false_iff_not, Bool.not_eq_true', Bool.not_eq_false', Int.not_lt, Int.not_le, List.length_map] at hc47
            have hb : badT (prevT l k) x := badT_iff.2 (by omega)
            have hN : ndC (prevT l k) x = 12 := if_pos hb
            have hE : tubeC l = 12 := by rw [hI, hst, if_pos (by omega), hN]
            rw [hE]
            refine W.reg ?_
            refine XOps.s rfl rfl rfl (Q.assign_d rfl) ?_
            refine XOps.nil ?_
            refine W.ret ?_
            exact ⟨_, hs, rfl, HLe.skip _ (HLe.refl _), rfl, rfl⟩
          · try simp only [Bool.or_eq_true, Bool.or_eq_false_iff, Bool.and_eq_true, Bool.and_eq_false_iff, decide_eq_true_eq, decide_eq_false_iff_not, Bool.not_eq_true', Bool.not_eq_false', Int.not_lt, Int.not_le, List.length_map] at hc47
            have hb : ¬ badT (prevT l k) x := fun h => by have := badT_iff.1 h; omega
            refine W.skip ?_
            refine W.seq ?_
            refine W.reg ?_
            refine XOps.s rfl rfl rfl (Q.fld_ptr fl47_0 rfl) ?_
            refine XOps.s rfl rfl rfl (Q.fld_ptr fl45_1 rfl) ?_
            refine XOps.s rfl rfl rfl (Q.ld_ptrn (k := 0) ag43 rfl rfl rfl) ?_
            refine XOps.s rfl rfl rfl (Q.call rfl Tryz.func66 go66 rfl (plane_c x.x x.y _)) ?_
            refine XOps.s rfl rfl rfl (Q.assign_d rfl) ?_
            refine XOps.nil ?_
            refine W.reg ?_
            refine XOps.s rfl rfl rfl (Q.move_d rfl) ?_
            refine XOps.s rfl rfl rfl (Q.neq rfl rfl) ?_
            refine XOps.nil ?_
            refine W.cond rfl (fun hc53 => ?_) (fun hc53 => ?_)
            · try simp only [Bool.or_eq_true, Bool.or_eq_false_iff, Bool.and_eq_true, Bool.and_eq_false_iff, decide_eq_true_eq, decide_eq_false_iff_not, Bool.not_eq_true', Bool.not_eq_false', Int.not_lt, Int.not_le, List.length_map] at hc53
              have h53 : planeC x.x x.y ≠ 0 := by first | exact hc53 | (simpa using hc53)
              have hN : ndC (prevT l k) x = planeC x.x x.y := by unfold ndC; rw [if_neg hb, if_pos h53]
              have hE : tubeC l = planeC x.x x.y := by rw [hI, hst, hN, if_pos h53]
              rw [hE]
              refine W.reg ?_
              refine XOps.s rfl rfl rfl (Q.move_d rfl) ?_
              refine XOps.s rfl rfl rfl (Q.assign_d rfl) ?_
              refine XOps.nil ?_
              refine W.ret ?_
              exact ⟨_, hs, rfl, HLe.skip _ (HLe.refl _), rfl, rfl⟩
            · try simp only [Bool.or_eq_true, Bool.or_eq_false_iff, Bool.and_eq_true, Bool.and_eq_false_iff, decide_eq_true_eq, decide_eq_false_iff_not, Bool.not_eq_true', Bool.not_eq_false', Int.not_lt, Int.not_le, List.length_map] at hc53
              have h53 : ¬ planeC x.x x.y ≠ 0 := by first | exact fun h => h hc53 | (simpa using hc53)
              refine W.skip ?_
              refine W.reg ?_
              refine XOps.s rfl rfl rfl (Q.fld_ptr fl47_0 rfl) ?_
              refine XOps.s rfl rfl rfl (Q.fld_ptr fl45_2 rfl) ?_
              refine XOps.s rfl rfl rfl (Q.ld_ptr (k := 0) ag3 rfl rfl rfl) ?_
              refine XOps.s rfl rfl rfl (Q.lss rfl rfl) ?_
              refine XOps.s rfl rfl rfl (Q.move_d rfl) ?_
              refine XOps.gs rfl rfl rfl rfl rfl rfl rfl (fun hg => Q.fld_ptr fl47_0 rfl) ?_
              refine XOps.gs rfl rfl rfl rfl rfl rfl rfl (fun hg => Quiet.open 60 hg rfl (Q.fld_ptr fl45_2 rfl)) ?_
              refine XOps.gs rfl rfl rfl rfl rfl rfl rfl (fun hg => Quiet.open 61 hg rfl (Q.ld_ptr (k := 0) ag3 rfl rfl rfl)) ?_
              refine XOps.gs rfl rfl rfl rfl rfl rfl rfl (fun hg => Quiet.open 62 hg rfl (Q.gtr rfl rfl)) ?_
              refine XOps.s rfl rfl rfl (Q.pick_or rfl rfl rfl (fun h => by first | (rw [h]; rfl) | (rw [hg, h]; rfl) | (simp [h, hg]; done))) ?_
              refine XOps.s rfl rfl rfl (Q.move_d rfl) ?_
              refine XOps.gs rfl rfl rfl rfl rfl rfl rfl (fun hg => Q.fld_ptr fl47_1 rfl) ?_
              refine XOps.gs rfl rfl rfl rfl rfl rfl rfl (fun hg => Quiet.open 66 hg rfl (Q.ld_ptr (k := 0) ag3 rfl rfl rfl)) ?_
              refine XOps.gs rfl rfl rfl rfl rfl rfl rfl (fun hg => Quiet.open 67 hg rfl (Q.lss rfl rfl)) ?_
              refine XOps.s rfl rfl rfl (Q.pick_or rfl rfl rfl (fun h => by first | (rw [h]; rfl) | (rw [hg, h]; rfl) | (simp [h, hg]; done))) ?_
              refine XOps.s rfl rfl rfl (Q.move_d rfl) ?_
              refine XOps.gs rfl rfl rfl rfl rfl rfl rfl (fun hg => Q.fld_ptr fl47_1 rfl) ?_
              refine XOps.gs rfl rfl rfl rfl rfl rfl rfl (fun hg => Quiet.open 71 hg rfl (Q.ld_ptr (k := 0) ag3 rfl rfl rfl)) ?_
              refine XOps.gs rfl rfl rfl rfl rfl rfl rfl (fun hg => Quiet.open 72 hg rfl (Q.gtr rfl rfl)) ?_
              refine XOps.s rfl rfl rfl (Q.pick_or rfl rfl rfl (fun h => by first | (rw [h]; rfl) | (rw [hg, h]; rfl) | (simp [h, hg]; done))) ?_
              refine XOps.s rfl rfl rfl (Q.move_d rfl) ?_
              refine XOps.gs rfl rfl rfl rfl rfl rfl rfl (fun hg => Q.fld_ptr fl47_2 rfl) ?_
              refine XOps.gs rfl rfl rfl rfl rfl rfl rfl (fun hg => Quiet.open 76 hg rfl (Q.ld_ptr (k := 0) ag3 rfl rfl rfl)) ?_
              refine XOps.gs rfl rfl rfl rfl rfl rfl rfl (fun hg => Quiet.open 77 hg rfl (Q.lss rfl rfl)) ?_
              refine XOps.s rfl rfl rfl (Q.pick_or rfl rfl rfl (fun h => by first | (rw [h]; rfl) | (rw [hg, h]; rfl) | (simp [h, hg]; done))) ?_
              refine XOps.s rfl rfl rfl (Q.move_d rfl) ?_
              refine XOps.gs rfl rfl rfl rfl rfl rfl rfl (fun hg => Q.fld_ptr fl47_2 rfl) ?_
              refine XOps.gs rfl rfl rfl rfl rfl rfl rfl (fun hg => Quiet.open 81 hg rfl (Q.ld_ptr (k := 0) ag3 rfl rfl rfl)) ?_
              refine XOps.gs rfl rfl rfl rfl rfl rfl rfl (fun hg => Quiet.open 82 hg rfl (Q.gtr rfl rfl)) ?_
              refine XOps.s rfl rfl rfl (Q.pick_or rfl rfl rfl (fun h => by first | (rw [h]; rfl) | (rw [hg, h]; rfl) | (simp [h, hg]; done))) ?_
              refine XOps.nil ?_
              refine W.cond rfl (fun hc84 => ?_) (fun hc84 => ?_)
              · try simp only [Bool.or_eq_true, Bool.or_eq_false_iff, Bool.and_eq_true, Bool.and_eq_false_iff, decide_eq_true_eq, decide_eq_false_iff_not, Bool.not_eq_true', Bool.not_eq_false', Int.not_lt, Int.not_le, List.length_map] at hc84
                have hN : ndC (prevT l k) x = 4 := by unfold ndC; rw [if_neg hb, if_neg h53, if_pos (show badR x by unfold badR; omega)]
                have hE : tubeC l = 4 := by rw [hI, hst, if_pos (by omega), hN]
                rw [hE]
                refine W.reg ?_
                refine XOps.s rfl rfl rfl (Q.assign_d rfl) ?_
                refine XOps.nil ?_
                refine W.ret ?_
                exact ⟨_, hs, rfl, HLe.skip _ (HLe.refl _), rfl, rfl⟩
              · try simp only [Bool.or_eq_true, Bool.or_eq_false_iff, Bool.and_eq_true, Bool.and_eq_false_iff, decide_eq_true_eq, decide_eq_false_iff_not, Bool.not_eq_true', Bool.not_eq_false', Int.not_lt, Int.not_le, List.length_map] at hc84
                have hN : ndC (prevT l k) x = 0 := by unfold ndC; rw [if_neg hb, if_neg h53, if_neg (show ¬ badR x by unfold badR; omega)]
                rw [if_neg (by omega)] at hst
                refine W.skip ?_
                refine W.region ?_
                refine XOps.s rfl rfl rfl (Q.add rfl rfl (wi64 (by first | omega | (dsimp only; omega) | (simp only [List.length_map]; omega)) (by first | omega | (dsimp only; omega) | (simp only [List.length_map]; omega)))) ?_
                refine XOps.s rfl rfl rfl (Q.move_d rfl) ?_
                refine XOps.nil ?_
                refine ⟨k + 1, ?_, ?_, ?_, ?_⟩
                · exact ⟨by omega, by rw [← hst]; exact hI⟩
                · omega
                · exact ⟨by first | rfl | exact int_eq (by omega) | exact len_eq (by simp) | exact int_eq (by simp; done), by first | rfl | exact int_eq (by omega) | exact len_eq (by simp) | exact int_eq (by simp; done), by first | rfl | exact int_eq (by omega) | exact len_eq (by simp) | exact int_eq (by simp; done), by first | rfl | exact int_eq (by omega) | exact len_eq (by simp) | exact int_eq (by simp; done), trivial⟩
                · exact HLe.skip _ (HLe.refl _)
        · try simp only [Bool.or_eq_true, Bool.or_eq_false_iff, Bool.and_eq_true, Bool.and_eq_false_iff, decide_eq_true_eq, decide_eq_false_iff_not, Bool.not_eq_true', Bool.not_eq_false', Int.not_lt, Int.not_le, List.length_map] at hc17
          obtain rfl : k = l.length := by omega
          rw [List.drop_length] at hI
          have hE : tubeC l = 0 := hI
          rw [hE]
          refine W.exit ?_
          refine W.reg ?_
          refine XOps.s rfl rfl rfl (Q.assign_d rfl) ?_
          refine XOps.nil ?_
          refine W.ret ?_
          exact ⟨_, hs, rfl, HLe.refl _, rfl, rfl⟩
set_option maxHeartbeats 1000000 in
set_option maxRecDepth 100000 in
theorem between_c (a b n d : Int) (hs : Hp) (a0 : 0 ≤ a) (a1 : a ≤ 1000000) (b0 : 0 ≤ b) (b1 : b ≤ 1000000) (n0 : 0 ≤ n) (n1 : n ≤ d) (d0 : 0 < d) (d1 : d ≤ 200000) : AC P 68 [.d (.int .i64 (a)), .d (.int .i64 (b)), .d (.int .i64 (n)), .d (.int .i64 (d))] hs (fun r h => r = .d (.int .i64 (a + divD ((b - a) * n) d)) ∧ h = hs) := by
  have e1 := mul_bd (a := b - a) (b := n) (m := 1000000) (k := 200000) (by omega) (by omega) (by omega) (by omega)
  have f1 := divD_bd (c := b - a) n0 n1 d0 (lo := -1000000) (hi := 1000000) (by omega) (by omega) (by omega) (by omega)
  refine AC.of 24 Tryz.func68 rfl rfl rfl ?_
  refine W.reg ?_
  refine XOps.s rfl rfl rfl (Q.assign_d rfl) ?_
  refine XOps.nil ?_
  refine W.reg ?_
  refine XOps.s rfl rfl rfl (Q.move_d rfl) ?_
  refine XOps.s rfl rfl rfl (Q.move_d rfl) ?_
  refine XOps.s rfl rfl rfl (Q.sub rfl rfl (wi64 (by first | omega | (dsimp only; omega) | (simp only [List.length_map]; omega)) (by first | omega | (dsimp only; omega) | (simp only [List.length_map]; omega)))) ?_
  refine XOps.s rfl rfl rfl (Q.move_d rfl) ?_
  refine XOps.s rfl rfl rfl (Q.mul rfl rfl (wi64 (by first | omega | (dsimp only; omega) | (simp only [List.length_map]; omega)) (by first | omega | (dsimp only; omega) | (simp only [List.length_map]; omega)))) ?_
  refine XOps.s rfl rfl rfl (Q.move_d rfl) ?_
  refine XOps.s rfl rfl rfl (Q.call rfl Tryz.func91 go91 rfl (divd_c ((b - a) * n) d _ d0 (by omega) (by omega))) ?_
  refine XOps.s rfl rfl rfl (Q.move_tup rfl) ?_
  refine XOps.s rfl rfl rfl (Q.extract rfl rfl) ?_
  refine XOps.s rfl rfl rfl (Q.extract rfl rfl) ?_
  refine XOps.s rfl rfl rfl (Q.assign_d rfl) ?_
  refine XOps.s rfl rfl rfl (Q.assign_d rfl) ?_
  refine XOps.nil ?_
  refine W.reg ?_
  refine XOps.s rfl rfl rfl (Q.move_d rfl) ?_
  refine XOps.s rfl rfl rfl (Q.move_d rfl) ?_
  refine XOps.s rfl rfl rfl (Q.add rfl rfl (wi64 (by first | omega | (dsimp only; omega) | (simp only [List.length_map]; omega)) (by first | omega | (dsimp only; omega) | (simp only [List.length_map]; omega)))) ?_
  refine XOps.s rfl rfl rfl (Q.assign_d rfl) ?_
  refine XOps.nil ?_
  refine W.ret ?_
  exact ⟨_, hs, rfl, HLe.refl _, rfl, rfl⟩
set_option maxHeartbeats 1000000 in
set_option maxRecDepth 100000 in
theorem above_c (a b n d : Int) (hs : Hp) (a0 : 0 ≤ a) (a1 : a ≤ 1000000) (b0 : 0 ≤ b) (b1 : b ≤ 1000000) (n0 : 0 ≤ n) (n1 : n ≤ d) (d0 : 0 < d) (d1 : d ≤ 200000) : AC P 69 [.d (.int .i64 (a)), .d (.int .i64 (b)), .d (.int .i64 (n)), .d (.int .i64 (d))] hs (fun r h => r = .d (.int .i64 (a + divU ((b - a) * n) d)) ∧ h = hs) := by
  have e1 := mul_bd (a := b - a) (b := n) (m := 1000000) (k := 200000) (by omega) (by omega) (by omega) (by omega)
  have f1 := divD_bd (c := b - a) n0 n1 d0 (lo := -1000000) (hi := 1000000) (by omega) (by omega) (by omega) (by omega)
  have f2 : divU ((b - a) * n) d ≤ divD ((b - a) * n) d + 1 ∧ divD ((b - a) * n) d ≤ divU ((b - a) * n) d := by unfold divU divD; split <;> omega
  refine AC.of 24 Tryz.func69 rfl rfl rfl ?_
  refine W.reg ?_
  refine XOps.s rfl rfl rfl (Q.assign_d rfl) ?_
  refine XOps.nil ?_
  refine W.reg ?_
  refine XOps.s rfl rfl rfl (Q.move_d rfl) ?_
  refine XOps.s rfl rfl rfl (Q.move_d rfl) ?_
  refine XOps.s rfl rfl rfl (Q.sub rfl rfl (wi64 (by first | omega | (dsimp only; omega) | (simp only [List.length_map]; omega)) (by first | omega | (dsimp only; omega) | (simp only [List.length_map]; omega)))) ?_
  refine XOps.s rfl rfl rfl (Q.move_d rfl) ?_
  refine XOps.s rfl rfl rfl (Q.mul rfl rfl (wi64 (by first | omega | (dsimp only; omega) | (simp only [List.length_map]; omega)) (by first | omega | (dsimp only; omega) | (simp only [List.length_map]; omega)))) ?_
  refine XOps.s rfl rfl rfl (Q.move_d rfl) ?_
  refine XOps.s rfl rfl rfl (Q.call rfl Tryz.func92 go92 rfl (divu_c ((b - a) * n) d _ d0 (by omega) (by omega))) ?_
  refine XOps.s rfl rfl rfl (Q.move_tup rfl) ?_
  refine XOps.s rfl rfl rfl (Q.extract rfl rfl) ?_
  refine XOps.s rfl rfl rfl (Q.extract rfl rfl) ?_
  refine XOps.s rfl rfl rfl (Q.assign_d rfl) ?_
  refine XOps.s rfl rfl rfl (Q.assign_d rfl) ?_
  refine XOps.nil ?_
  refine W.reg ?_
  refine XOps.s rfl rfl rfl (Q.move_d rfl) ?_
  refine XOps.s rfl rfl rfl (Q.move_d rfl) ?_
  refine XOps.s rfl rfl rfl (Q.add rfl rfl (wi64 (by first | omega | (dsimp only; omega) | (simp only [List.length_map]; omega)) (by first | omega | (dsimp only; omega) | (simp only [List.length_map]; omega)))) ?_
  refine XOps.s rfl rfl rfl (Q.assign_d rfl) ?_
  refine XOps.nil ?_
  refine W.ret ?_
  exact ⟨_, hs, rfl, HLe.refl _, rfl, rfl⟩
set_option maxHeartbeats 8000000 in
set_option maxRecDepth 100000 in
theorem at_c (l : List Nd) (t : Int) (hs : Hp) (ok : TuOk l) : AC P 42 [.d (tuD l), .d (.int .i64 (t))] hs (fun r h => r = .tup [.d (.agg (Nd.enc (atN l t))), .d (.int .i64 (atE l t))] ∧ h = hs) := by
  have p0 := hd_row ok.ne
  have pl := la_row ok.ne
  have hml : (l.map Nd.enc).length = l.length := List.length_map _
  have hlen := ok.len
  have hl0 : l.length ≠ 0 := fun e => ok.ne (List.eq_nil_of_length_eq_zero e)
  refine AC.ofc 117 Tryz.func42 rfl rfl rfl ?_
  refine W.reg ?_
  (refine XOps.loud rfl (L.alloc tz47 rfl rfl) ?_; rintro _ _ ⟨b4, rfl, rfl⟩)
  refine XOps.s rfl rfl rfl (Q.assign_d rfl) ?_
  refine XOps.nil ?_
  refine W.seq ?_
  refine W.reg ?_
  refine XOps.s rfl rfl rfl (Q.move_d rfl) ?_
  refine XOps.s rfl rfl rfl (Q.move_d rfl) ?_
  refine XOps.s rfl rfl rfl (Q.idx_sl sl33 (by decide) rfl rfl (by first | omega | (simp only [List.length_map]; omega)) (by first | exact p0 | exact pl | exact map_at ha | exact map_at hb | exact map_atI (z := (k : Int) + 1) (hb' (by first | omega | (simp at hg; omega))))) ?_
  refine XOps.s rfl rfl rfl (Q.fld_dp fl47_0 rfl) ?_
  refine XOps.s rfl rfl rfl (Q.fld_dp fl45_0 rfl) ?_
  refine XOps.s rfl rfl rfl (Q.ld_dp ag3 rfl rfl) ?_
  refine XOps.s rfl rfl rfl (Q.lss rfl rfl) ?_
  refine XOps.s rfl rfl rfl (Q.move_d rfl) ?_
  refine XOps.gs rfl rfl rfl rfl rfl rfl rfl (fun hg => Q.move_d rfl) ?_
  refine XOps.gs rfl rfl rfl rfl rfl rfl rfl (fun hg => Q.move_d rfl) ?_
  refine XOps.gs rfl rfl rfl rfl rfl rfl rfl (fun hg => Q.move_d rfl) ?_
  refine XOps.gs rfl rfl rfl rfl rfl rfl rfl (fun hg => Quiet.open 23 hg rfl (Q.len_sl isl33 rfl)) ?_
  refine XOps.gs rfl rfl rfl rfl rfl rfl rfl (fun hg => Quiet.open 24 hg rfl (Q.sub rfl rfl (wi64 (by first | omega | (dsimp only; omega) | (simp only [List.length_map]; omega)) (by first | omega | (dsimp only; omega) | (simp only [List.length_map]; omega))))) ?_
  refine XOps.gs rfl rfl rfl rfl rfl rfl rfl (fun hg => Quiet.open 22 hg rfl (Quiet.open 25 hg rfl (Q.idx_sl sl33 (by decide) rfl rfl (by first | omega | (simp only [List.length_map]; omega)) (by first | exact p0 | exact pl | exact map_at ha | exact map_at hb | exact map_atI (z := (k : Int) + 1) (hb' (by first | omega | (simp at hg; omega))))))) ?_
  refine XOps.gs rfl rfl rfl rfl rfl rfl rfl (fun hg => Quiet.open 26 hg rfl (Q.fld_dp fl47_0 rfl)) ?_
  refine XOps.gs rfl rfl rfl rfl rfl rfl rfl (fun hg => Quiet.open 27 hg rfl (Q.fld_dp fl45_0 rfl)) ?_
  refine XOps.gs rfl rfl rfl rfl rfl rfl rfl (fun hg => Quiet.open 28 hg rfl (Q.ld_dp ag3 rfl rfl)) ?_
  refine XOps.gs rfl rfl rfl rfl rfl rfl rfl (fun hg => Quiet.open 21 hg rfl (Quiet.open 29 hg rfl (Q.gtr rfl rfl))) ?_
  refine XOps.s rfl rfl rfl (Q.pick_or rfl rfl rfl (fun h => by first | (rw [h]; rfl) | (rw [hg, h]; rfl) | (simp [h, hg]; done))) ?_
  refine XOps.nil ?_
  refine W.cond rfl (fun hc31 => ?_) (fun hc31 => ?_)
  · try simp only [Bool.or_eq_true, Bool.or_eq_false_iff, Bool.and_eq_true, Bool.and_eq_false_iff, decide_eq_true_eq, decide_eq_false_iff_not, Bool.not_eq_true', Bool.not_eq_false', Int.not_lt, Int.not_le, List.length_map] at hc31
    have hE : atE l t = 12 := if_pos (by unfold hdT laT; omega)
    have hV : atN l t = Nd.zero := if_pos (by omega)
    rw [hE, hV]
    refine W.reg ?_
    refine XOps.s rfl rfl rfl (Q.build pl47 tz47 tzd47 rfl) ?_
    refine XOps.loud rfl (L.storen (k := 0) ag47 rfl rfl rfl rfl rfl) ?_
    rintro _ _ ⟨rfl, rfl⟩
    refine XOps.s rfl rfl rfl (Q.assign_d rfl) ?_
    refine XOps.nil ?_
    refine W.ret ?_
    exact ⟨_, hs, (.cons (by first | exact .celln 0 ag47 rfl rfl rfl | exact .cell1 0 ag47 rfl rfl rfl | exact .celln 1 ag47 rfl rfl rfl | exact .cell1 1 ag47 rfl rfl rfl | exact .celln 2 ag47 rfl rfl rfl | exact .cell1 2 ag47 rfl rfl rfl | exact .celln 3 ag47 rfl rfl rfl | exact .cell1 3 ag47 rfl rfl rfl | exact .celln 4 ag47 rfl rfl rfl | exact .cell1 4 ag47 rfl rfl rfl) (.cons (.tmp _) .nil)), HLe.skip _ (HLe.refl _), rfl, rfl⟩
  · try simp only [Bool.or_eq_true, Bool.or_eq_false_iff, Bool.and_eq_true, Bool.and_eq_false_iff, decide_eq_true_eq, decide_eq_false_iff_not, Bool.not_eq_true', Bool.not_eq_false', Int.not_lt, Int.not_le, List.length_map] at hc31
    have hE : atE l t = 0 := if_neg (by unfold hdT laT; omega)
    have hV : atN l t = seg l t := if_neg (by omega)
    rw [hE, hV]
    refine W.skip ?_
    refine W.reg ?_
    refine XOps.s rfl rfl rfl (Q.assign_d rfl) ?_
    refine XOps.nil ?_
    refine W.seq ?_
    refine W.block ?_
    refine W.loop (ι := Nat) (fun k => [(0, .d (tuD l)), (1, .d (.int .i64 (t))), (4, .ptr b4 0), (6, .d (.int .i64 (k : Nat)))]) (fun k => (b4, .cells [.d (.int .i64 0), .d (.int .i64 0), .d (.int .i64 0), .d (.int .i64 0), .d (.int .i64 0), .d (.int .i64 0)]) :: hs) (fun k => k < l.length ∧ (∀ x, l[k]? = some x → x.t ≤ t) ∧ seg l t = seg (l.drop k) t) (fun k => l.length - k) 0 ?_ ?_ ?_ ?_
    · exact ⟨by omega, fun x hx => by rw [hd_get ok.ne] at hx; obtain rfl := Option.some.inj hx; omega, rfl⟩
    · exact ⟨by first | rfl | exact int_eq (by omega) | exact len_eq (by simp) | exact int_eq (by simp; done), by first | rfl | exact int_eq (by omega) | exact len_eq (by simp) | exact int_eq (by simp; done), by first | rfl | exact int_eq (by omega) | exact len_eq (by simp) | exact int_eq (by simp; done), by first | rfl | exact int_eq (by omega) | exact len_eq (by simp) | exact int_eq (by simp; done), trivial⟩
    · exact HLe.refl _
    · rintro k ⟨hk, hI2, hI3⟩
      obtain ⟨a, ha⟩ : ∃ x, l[k]? = some x := ⟨_, List.getElem?_eq_getElem hk⟩
      have hat := hI2 a ha
      obtain ⟨b, hb'⟩ : ∃ x, ((k : Int) + 1) < (l.length : Nat) → l[((k : Int) + 1).toNat]? = some x := by
        by_cases h : k + 1 < l.length
        · exact ⟨_, fun _ => by rw [show ((k : Int) + 1).toNat = k + 1 by omega]; exact List.getElem?_eq_getElem h⟩
        · exact ⟨Nd.zero, fun h2 => absurd h2 (by omega)⟩
      refine W.seq ?_
      refine W.reg ?_
      refine XOps.s rfl rfl rfl (Q.move_d rfl) ?_
      refine XOps.s rfl rfl rfl (Q.add rfl rfl (wi64 (by first | omega | (dsimp only; omega) | (simp only [List.length_map]; omega)) (by first | omega | (dsimp only; omega) | (simp only [List.length_map]; omega)))) ?_
      refine XOps.s rfl rfl rfl (Q.move_d rfl) ?_
      refine XOps.s rfl rfl rfl (Q.len_sl isl33 rfl) ?_
      refine XOps.s rfl rfl rfl (Q.lss rfl rfl) ?_
      refine XOps.s rfl rfl rfl (Q.move_d rfl) ?_
      refine XOps.gs rfl rfl rfl rfl rfl rfl rfl (fun hg => Q.move_d rfl) ?_
      refine XOps.gs rfl rfl rfl rfl rfl rfl rfl (fun hg => Q.move_d rfl) ?_
      refine XOps.gs rfl rfl rfl rfl rfl rfl rfl (fun hg => Quiet.open 40 hg rfl (Q.add rfl rfl (wi64 (by first | omega | (dsimp only; omega) | (simp only [List.length_map]; omega)) (by first | omega | (dsimp only; omega) | (simp only [List.length_map]; omega))))) ?_
      refine XOps.gs rfl rfl rfl rfl rfl rfl rfl (fun hg => Quiet.open 39 hg rfl (Quiet.open 41 hg rfl (Q.idx_sl sl33 (by decide) rfl rfl (by first | omega | (simp only [List.length_map]; omega)) (by first | exact p0 | exact pl | exact map_at ha | exact map_at hb | exact map_atI (z := (k : Int) + 1) (hb' (by first | omega | (simp at hg; omega))))))) ?_
      refine XOps.gs rfl rfl rfl rfl rfl rfl rfl (fun hg => Quiet.open 42 hg rfl (Q.fld_dp fl47_0 rfl)) ?_
      refine XOps.gs rfl rfl rfl rfl rfl rfl rfl (fun hg => Quiet.open 43 hg rfl (Q.fld_dp fl45_0 rfl)) ?_
      refine XOps.gs rfl rfl rfl rfl rfl rfl rfl (fun hg => Quiet.open 44 hg rfl (Q.ld_dp ag3 rfl rfl)) ?_
      refine XOps.gs rfl rfl rfl rfl rfl rfl rfl (fun hg => Q.move_d rfl) ?_
      refine XOps.gs rfl rfl rfl rfl rfl rfl rfl (fun hg => Quiet.open 45 hg rfl (Quiet.open 46 hg rfl (Q.leq rfl rfl))) ?_
      refine XOps.s rfl rfl rfl (Q.pick_and rfl rfl rfl (fun h => by first | (rw [h]; rfl) | (rw [hg, h]; rfl) | (simp [h, hg]; done))) ?_
      refine XOps.nil ?_
      refine W.cond rfl (fun hc48 => ?_) (fun hc48 => ?_)
      · try simp only [Bool.or_eq_true, Bool.or_eq_false_iff, Bool.and_eq_true, Bool.and_eq_false_iff, decide_eq_true_eq, decide_eq_false_iff_not, Bool.not_eq_true', Bool.not_eq_false', Int.not_lt, Int.not_le, List.length_map] at hc48
        have hb := hb' (by omega)
        have hb2 : l[k + 1]? = some b := by rw [← show ((k : Int) + 1).toNat = k + 1 by omega]; exact hb
        have hst := seg_step (t := t) ha hb2
        rw [if_pos (by omega)] at hst
        refine W.skip ?_
        refine W.block ?_
        refine W.region ?_
        refine XOps.s rfl rfl rfl (Q.move_d rfl) ?_
        refine XOps.s rfl rfl rfl (Q.add rfl rfl (wi64 (by first | omega | (dsimp only; omega) | (simp only [List.length_map]; omega)) (by first | omega | (dsimp only; omega) | (simp only [List.length_map]; omega)))) ?_
        refine XOps.s rfl rfl rfl (Q.assign_d rfl) ?_
        refine XOps.nil ?_
        refine ⟨k + 1, ?_, ?_, ?_, ?_⟩
        · exact ⟨by omega, fun x hx => by rw [hb2] at hx; obtain rfl := Option.some.inj hx; omega, by rw [hI3, hst]⟩
        · omega
        · exact ⟨by first | rfl | exact int_eq (by omega) | exact len_eq (by simp) | exact int_eq (by simp; done), by first | rfl | exact int_eq (by omega) | exact len_eq (by simp) | exact int_eq (by simp; done), by first | rfl | exact int_eq (by omega) | exact len_eq (by simp) | exact int_eq (by simp; done), by first | rfl | exact int_eq (by omega) | exact len_eq (by simp) | exact int_eq (by simp; done), trivial⟩
        · exact HLe.refl _
      · try simp only [Bool.or_eq_true, Bool.or_eq_false_iff, Bool.and_eq_true, Bool.and_eq_false_iff, decide_eq_true_eq, decide_eq_false_iff_not, Bool.not_eq_true', Bool.not_eq_false', Int.not_lt, Int.not_le, List.length_map] at hc48
        have hbt : k + 1 < l.length → ¬ b.t ≤ t := fun h => by omega
        have hb3 : k + 1 < l.length → l[k + 1]? = some b := fun h => by rw [← show ((k : Int) + 1).toNat = k + 1 by omega]; exact hb' (by omega)
        refine W.exit ?_
        refine W.reg ?_
        refine XOps.s rfl rfl rfl (Q.move_d rfl) ?_
        refine XOps.s rfl rfl rfl (Q.move_d rfl) ?_
        refine XOps.s rfl rfl rfl (Q.idx_sl sl33 (by decide) rfl rfl (by first | omega | (simp only [List.length_map]; omega)) (by first | exact p0 | exact pl | exact map_at ha | exact map_at hb | exact map_atI (z := (k : Int) + 1) (hb' (by first | omega | (simp at hg; omega))))) ?_
        refine XOps.s rfl rfl rfl (Q.ld_dpn ag47 rfl rfl) ?_
        (refine XOps.loud rfl (L.alloc tz47 rfl rfl) ?_; rintro _ _ ⟨b7, rfl, rfl⟩)
        refine XOps.loud rfl (L.storen (k := 0) ag47 rfl rfl rfl rfl rfl) ?_
        rintro _ _ ⟨rfl, rfl⟩
        refine XOps.nil ?_
        refine W.seq ?_
        refine W.reg ?_
        refine XOps.s rfl rfl rfl (Q.fld_ptr fl47_0 rfl) ?_
        refine XOps.s rfl rfl rfl (Q.fld_ptr fl45_0 rfl) ?_
        refine XOps.s rfl rfl rfl (Q.ld_ptr (k := 0) ag3 rfl rfl rfl) ?_
        refine XOps.s rfl rfl rfl (Q.move_d rfl) ?_
        refine XOps.s rfl rfl rfl (Q.eql rfl rfl) ?_
        refine XOps.nil ?_
        refine W.cond rfl (fun hc59 => ?_) (fun hc59 => ?_)
        · try simp only [Bool.or_eq_true, Bool.or_eq_false_iff, Bool.and_eq_true, Bool.and_eq_false_iff, decide_eq_true_eq, decide_eq_false_iff_not, Bool.not_eq_true', Bool.not_eq_false', Int.not_lt, Int.not_le, List.length_map] at hc59
          have h59 : seg l t = a := by
            rw [hI3]
            by_cases h1 : k + 1 < l.length
            · rw [seg_step ha (hb3 h1), if_neg (hbt h1), if_pos hc59]
            · exact seg_last ha h1
          rw [h59]
          refine W.reg ?_
          refine XOps.s rfl rfl rfl (Q.ld_ptrn (k := 0) ag47 rfl rfl rfl) ?_
          refine XOps.loud rfl (L.storen (k := 1) ag47 rfl rfl rfl rfl rfl) ?_
          rintro _ _ ⟨rfl, rfl⟩
          refine XOps.s rfl rfl rfl (Q.assign_d rfl) ?_
          refine XOps.nil ?_
          refine W.ret ?_
          exact ⟨_, hs, (.cons (by first | exact .celln 0 ag47 rfl rfl rfl | exact .cell1 0 ag47 rfl rfl rfl | exact .celln 1 ag47 rfl rfl rfl | exact .cell1 1 ag47 rfl rfl rfl | exact .celln 2 ag47 rfl rfl rfl | exact .cell1 2 ag47 rfl rfl rfl | exact .celln 3 ag47 rfl rfl rfl | exact .cell1 3 ag47 rfl rfl rfl | exact .celln 4 ag47 rfl rfl rfl | exact .cell1 4 ag47 rfl rfl rfl) (.cons (.tmp _) .nil)), HLe.skip _ (HLe.skip _ (HLe.refl _)), rfl, rfl⟩
        · try simp only [Bool.or_eq_true, Bool.or_eq_false_iff, Bool.and_eq_true, Bool.and_eq_false_iff, decide_eq_true_eq, decide_eq_false_iff_not, Bool.not_eq_true', Bool.not_eq_false', Int.not_lt, Int.not_le, List.length_map] at hc59
          have hk1 : k + 1 < l.length := by
            rcases Nat.lt_or_ge (k + 1) l.length with h1 | h1
            · exact h1
            · exfalso
              have h2 := la_get ok.ne
              rw [show l.length - 1 = k by omega, ha] at h2
              have h3 := Option.some.inj h2
              rw [← h3] at hc31
              omega
          have hb := hb' (by omega)
          have hb2 := hb3 hk1
          have h59 : seg l t = mid a b t := by rw [hI3, seg_step ha hb2, if_neg (hbt hk1), if_neg hc59]
          rw [h59]
          have oa := ok.mem (List.mem_of_getElem? ha)
          have ob := ok.mem (List.mem_of_getElem? hb2)
          have hlt := ok.inc.lt k (k + 1) a b (by omega) ha hb2
          have ta := oa.t0
          have tb := ob.t1
          have hbt1 := hbt hk1
          refine W.skip ?_
          refine W.reg ?_
          refine XOps.s rfl rfl rfl (Q.move_d rfl) ?_
          refine XOps.s rfl rfl rfl (Q.move_d rfl) ?_
          refine XOps.s rfl rfl rfl (Q.add rfl rfl (wi64 (by first | omega | (dsimp only; omega) | (simp only [List.length_map]; omega)) (by first | omega | (dsimp only; omega) | (simp only [List.length_map]; omega)))) ?_
          refine XOps.s rfl rfl rfl (Q.idx_sl sl33 (by decide) rfl rfl (by omega) (map_atI (z := (k : Int) + 1) hb)) ?_
          refine XOps.s rfl rfl rfl (Q.ld_dpn ag47 rfl rfl) ?_
          (refine XOps.loud rfl (L.alloc tz47 rfl rfl) ?_; rintro _ _ ⟨b8, rfl, rfl⟩)
          refine XOps.loud rfl (L.storen (k := 0) ag47 rfl rfl rfl rfl rfl) ?_
          rintro _ _ ⟨rfl, rfl⟩
          refine XOps.nil ?_
          refine W.drawreg 13 follows (by kernel_rfl) ?_
          refine Chain.cons _ (GQ.q rfl (Q.move_d rfl)) rfl ?_
          refine Chain.cons _ (GQ.q rfl (Q.fld_ptr fl47_0 rfl)) rfl ?_
          refine Chain.cons _ (GQ.q rfl (Q.fld_ptr fl45_0 rfl)) rfl ?_
          refine Chain.cons _ (GQ.q rfl (Q.ld_ptr (k := 1) ag3 rfl rfl rfl)) rfl ?_
          refine Chain.cons _ (GQ.q rfl (Q.sub rfl rfl (wi64 (by first | omega | (dsimp only; omega) | (simp only [List.length_map]; omega)) (by first | omega | (dsimp only; omega) | (simp only [List.length_map]; omega))))) rfl ?_
          refine Chain.cons _ (GQ.q rfl (Q.fld_ptr fl47_0 rfl)) rfl ?_
          refine Chain.cons _ (GQ.q rfl (Q.fld_ptr fl45_0 rfl)) rfl ?_
          refine Chain.cons _ (GQ.q rfl (Q.ld_ptr (k := 0) ag3 rfl rfl rfl)) rfl ?_
          refine Chain.cons _ (GQ.q rfl (Q.fld_ptr fl47_0 rfl)) rfl ?_
          refine Chain.cons _ (GQ.q rfl (Q.fld_ptr fl45_0 rfl)) rfl ?_
          refine Chain.cons _ (GQ.q rfl (Q.ld_ptr (k := 1) ag3 rfl rfl rfl)) rfl ?_
          refine Chain.cons _ (GQ.q rfl (Q.sub rfl rfl (wi64 (by first | omega | (dsimp only; omega) | (simp only [List.length_map]; omega)) (by first | omega | (dsimp only; omega) | (simp only [List.length_map]; omega))))) rfl ?_
          refine Chain.cons _ (GQ.q rfl (Q.assign_d rfl)) rfl ?_
          refine Chain.nil ?_
          refine XOps.s rfl rfl rfl (Q.assign_d rfl) ?_
          refine XOps.nil ?_
          refine W.reg ?_
          refine XOps.s rfl rfl rfl (Q.fld_ptr fl47_0 rfl) ?_
          refine XOps.s rfl rfl rfl (Q.fld_ptr fl45_1 rfl) ?_
          refine XOps.s rfl rfl rfl (Q.ld_ptrn (k := 1) ag43 rfl rfl rfl) ?_
          refine XOps.s rfl rfl rfl (Q.fld_ptr fl47_0 rfl) ?_
          refine XOps.s rfl rfl rfl (Q.fld_ptr fl45_1 rfl) ?_
          refine XOps.s rfl rfl rfl (Q.ld_ptrn (k := 0) ag43 rfl rfl rfl) ?_
          refine XOps.s rfl rfl rfl (Q.move_d rfl) ?_
          refine XOps.s rfl rfl rfl (Q.move_d rfl) ?_
          refine XOps.s rfl rfl rfl (Q.call rfl Tryz.func67 go67 rfl (toward_c a.x a.y b.x b.y (t - a.t) (b.t - a.t) _ oa.p ob.p (by omega) (by omega) (by omega) (by omega))) ?_
          refine XOps.s rfl rfl rfl (Q.move_tup rfl) ?_
          refine XOps.s rfl rfl rfl (Q.extract rfl rfl) ?_
          refine XOps.s rfl rfl rfl (Q.extract rfl rfl) ?_
          (refine XOps.loud rfl (L.alloc tz43 rfl rfl) ?_; rintro _ _ ⟨b11, rfl, rfl⟩)
          refine XOps.loud rfl (L.storen (k := 0) ag43 rfl rfl rfl rfl rfl) ?_
          rintro _ _ ⟨rfl, rfl⟩
          refine XOps.s rfl rfl rfl (Q.assign_d rfl) ?_
          refine XOps.nil ?_
          refine W.drawreg 27 follows (by kernel_rfl) ?_
          refine Chain.cons _ (GQ.q rfl (Q.move_d rfl)) rfl ?_
          refine Chain.cons _ (GQ.q rfl (Q.ld_ptrn (k := 0) ag43 rfl rfl rfl)) rfl ?_
          refine Chain.cons _ (GQ.q rfl (Q.fld_ptr fl47_0 rfl)) rfl ?_
          refine Chain.cons _ (GQ.q rfl (Q.fld_ptr fl45_2 rfl)) rfl ?_
          refine Chain.cons _ (GQ.q rfl (Q.ld_ptr (k := 2) ag3 rfl rfl rfl)) rfl ?_
          refine Chain.cons _ (GQ.q rfl (Q.fld_ptr fl47_0 rfl)) rfl ?_
          refine Chain.cons _ (GQ.q rfl (Q.fld_ptr fl45_2 rfl)) rfl ?_
          refine Chain.cons _ (GQ.q rfl (Q.ld_ptr (k := 1) ag3 rfl rfl rfl)) rfl ?_
          refine Chain.cons _ (GQ.q rfl (Q.move_d rfl)) rfl ?_
          refine Chain.cons _ (GQ.q rfl (Q.move_d rfl)) rfl ?_
          refine Chain.cons _ (GQ.q rfl (Q.call rfl Tryz.func68 go68 rfl (between_c (a.h) (b.h) (t - a.t) (b.t - a.t) _ oa.h0 (by have := oa.h1; omega) ob.h0 (by have := ob.h1; omega) (by omega) (by omega) (by omega) (by omega)))) rfl ?_
          refine Chain.cons _ (GQ.q rfl (Q.build pl45 tz45 tzd45 rfl)) rfl ?_
          refine Chain.cons _ (GQ.q rfl (Q.fld_ptr fl47_1 rfl)) rfl ?_
          refine Chain.cons _ (GQ.q rfl (Q.ld_ptr (k := 2) ag3 rfl rfl rfl)) rfl ?_
          refine Chain.cons _ (GQ.q rfl (Q.fld_ptr fl47_1 rfl)) rfl ?_
          refine Chain.cons _ (GQ.q rfl (Q.ld_ptr (k := 1) ag3 rfl rfl rfl)) rfl ?_
          refine Chain.cons _ (GQ.q rfl (Q.move_d rfl)) rfl ?_
          refine Chain.cons _ (GQ.q rfl (Q.move_d rfl)) rfl ?_
          refine Chain.cons _ (GQ.q rfl (Q.call rfl Tryz.func69 go69 rfl (above_c (a.r) (b.r) (t - a.t) (b.t - a.t) _ oa.r0 (by have := oa.r1; omega) ob.r0 (by have := ob.r1; omega) (by omega) (by omega) (by omega) (by omega)))) rfl ?_
          refine Chain.cons _ (GQ.q rfl (Q.fld_ptr fl47_2 rfl)) rfl ?_
          refine Chain.cons _ (GQ.q rfl (Q.ld_ptr (k := 2) ag3 rfl rfl rfl)) rfl ?_
          refine Chain.cons _ (GQ.q rfl (Q.fld_ptr fl47_2 rfl)) rfl ?_
          refine Chain.cons _ (GQ.q rfl (Q.ld_ptr (k := 1) ag3 rfl rfl rfl)) rfl ?_
          refine Chain.cons _ (GQ.q rfl (Q.move_d rfl)) rfl ?_
          refine Chain.cons _ (GQ.q rfl (Q.move_d rfl)) rfl ?_
          refine Chain.cons _ (GQ.q rfl (Q.call rfl Tryz.func69 go69 rfl (above_c (a.b) (b.b) (t - a.t) (b.t - a.t) _ oa.b0 (by have := oa.b1; omega) ob.b0 (by have := ob.b1; omega) (by omega) (by omega) (by omega) (by omega)))) rfl ?_
          refine Chain.cons _ (GQ.q rfl (Q.build pl47 tz47 tzd47 rfl)) rfl ?_
          refine Chain.nil ?_
          refine XOps.loud rfl (L.storen (k := 3) ag47 rfl rfl rfl rfl rfl) ?_
          rintro _ _ ⟨rfl, rfl⟩
          refine XOps.s rfl rfl rfl (Q.assign_d rfl) ?_
          refine XOps.nil ?_
          refine W.ret ?_
          exact ⟨_, hs, (.cons (by first | exact .celln 0 ag47 rfl rfl rfl | exact .cell1 0 ag47 rfl rfl rfl | exact .celln 1 ag47 rfl rfl rfl | exact .cell1 1 ag47 rfl rfl rfl | exact .celln 2 ag47 rfl rfl rfl | exact .cell1 2 ag47 rfl rfl rfl | exact .celln 3 ag47 rfl rfl rfl | exact .cell1 3 ag47 rfl rfl rfl | exact .celln 4 ag47 rfl rfl rfl | exact .cell1 4 ag47 rfl rfl rfl) (.cons (.tmp _) .nil)), HLe.skip _ (HLe.skip _ (HLe.skip _ (HLe.skip _ (HLe.refl _)))), rfl, rfl⟩
end Go.Proofs.YtaegeaajhbfkgaaGreatDoorA

