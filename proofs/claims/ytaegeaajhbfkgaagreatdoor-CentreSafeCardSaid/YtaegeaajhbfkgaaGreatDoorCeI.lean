/- Flights: covers, leg, nodes, landings, long. -/
import Derived.Test.YtaegeaajhbfkgaaGreatDoorFrB
import Derived.Test.YtaegeaajhbfkgaaGreatDoorCeD
import Derived.Test.YtaegeaajhbfkgaaGreatDoorCen5
set_option linter.unusedVariables false
set_option linter.unusedSimpArgs false
set_option linter.unnecessarySimpa false
namespace Go.Proofs.YtaegeaajhbfkgaaGreatDoorA.FCeI
open Go
theorem ag3 : tAgg P 3 = some ((false, 1)) := by kernel_rfl
theorem ag33 : tAgg P 33 = some ((false, 1)) := by kernel_rfl
theorem ag39 : tAgg P 39 = some ((false, 1)) := by kernel_rfl
theorem ag4 : tAgg P 4 = some ((false, 1)) := by kernel_rfl
theorem ag41 : tAgg P 41 = some ((true, 8)) := by kernel_rfl
theorem ag47 : tAgg P 47 = some ((true, 6)) := by kernel_rfl
theorem ap32 : tApp P 32 = some ((6, 48)) := by kernel_rfl
theorem fl41_3 : tFld P 41 3 = some (3) := by kernel_rfl
theorem fl41_4 : tFld P 41 4 = some (4) := by kernel_rfl
theorem fl41_5 : tFld P 41 5 = some (5) := by kernel_rfl
theorem fl41_6 : tFld P 41 6 = some (6) := by kernel_rfl
theorem fl41_7 : tFld P 41 7 = some (7) := by kernel_rfl
theorem fl45_0 : tFld P 45 0 = some (0) := by kernel_rfl
theorem fl47_0 : tFld P 47 0 = some (0) := by kernel_rfl
theorem go73 : callGo Go.Proofs.Tryz.f73 = true := by kernel_rfl
theorem go74 : callGo Go.Proofs.Tryz.f74 = true := by kernel_rfl
theorem go75 : callGo Go.Proofs.Tryz.f75 = true := by kernel_rfl
theorem isl33 : isSl P 33 = true := by kernel_rfl
theorem isl39 : isSl P 39 = true := by kernel_rfl
theorem sl151 : tSl P 151 = some (1) := by kernel_rfl
theorem sl32 : tSl P 32 = some (6) := by kernel_rfl
theorem sl33 : tSl P 33 = some (6) := by kernel_rfl
theorem sl39 : tSl P 39 = some (1) := by kernel_rfl
theorem tz47 : tZero P 47 = some ([.int .i64 0, .int .i64 0, .int .i64 0, .int .i64 0, .int .i64 0, .int .i64 0]) := by kernel_rfl
theorem zr151 : tZrow P 151 = some ([.int .i64 0]) := by kernel_rfl
theorem zr32 : tZrow P 32 = some ([.int .i64 0, .int .i64 0, .int .i64 0, .int .i64 0, .int .i64 0, .int .i64 0]) := by kernel_rfl
theorem zrd151 : cellsD [.int .i64 0] = some ([.int .i64 0]) := rfl
theorem zrd32 : cellsD [.int .i64 0, .int .i64 0, .int .i64 0, .int .i64 0, .int .i64 0, .int .i64 0] = some ([.int .i64 0, .int .i64 0, .int .i64 0, .int .i64 0, .int .i64 0, .int .i64 0]) := rfl
end Go.Proofs.YtaegeaajhbfkgaaGreatDoorA.FCeI
namespace Go.Proofs.YtaegeaajhbfkgaaGreatDoorA
open Go FCeI
attribute [local irreducible] XOps Quiet Loud W AC GQ DT
theorem ne_of_len {l : List Nd} (h : decide ((0 : Int) < ((l.map Nd.enc).length : Nat)) = true) : l ≠ [] := by
  rintro rfl; simp at h
theorem len_pos {l : List Nd} : decide ((0 : Int) < ((l.map Nd.enc).length : Nat)) = decide ((0 : Int) < (l.length : Nat)) := by rw [List.length_map]
set_option maxHeartbeats 1000000 in
set_option maxRecDepth 100000 in
theorem cov_c (l : List Nd) (t : Int) (hs : Hp) (hL : l.length ≤ 4611686018427387904) : AC P 75 [.d (tuD l), .d (.int .i64 (t))] hs (fun r h => r = .d (.bool (covT l t)) ∧ h = hs) := by
  have hml : (l.map Nd.enc).length = l.length := List.length_map _
  refine AC.of 29 Tryz.func75 rfl rfl rfl ?_
  refine W.reg ?_
  refine XOps.s rfl rfl rfl (Q.assign_d rfl) ?_
  refine XOps.nil ?_
  refine W.reg ?_
  refine XOps.s rfl rfl rfl (Q.move_d rfl) ?_
  refine XOps.s rfl rfl rfl (Q.len_sl isl33 rfl) ?_
  refine XOps.s rfl rfl rfl (Q.gtr rfl rfl) ?_
  refine XOps.s rfl rfl rfl (Q.move_d rfl) ?_
  refine XOps.gs rfl rfl rfl rfl rfl rfl rfl (fun hg => Q.move_d rfl) ?_
  refine XOps.gs rfl rfl rfl rfl rfl rfl rfl (fun hg => Q.move_d rfl) ?_
  refine XOps.gs rfl rfl rfl rfl rfl rfl rfl (fun hg => Quiet.open 10 hg rfl (Q.idx_sl sl33 (by decide) rfl rfl (by omega) (hd_row (by first | exact ne_of_len hg | exact ne_of_len (Bool.and_eq_true_iff.1 hg).1 | exact ne_of_len (beq_iff_eq.1 hg) | exact ne_of_len (Bool.and_eq_true_iff.1 (beq_iff_eq.1 hg)).1)))) ?_
  refine XOps.gs rfl rfl rfl rfl rfl rfl rfl (fun hg => Quiet.open 11 hg rfl (Q.fld_dp fl47_0 rfl)) ?_
  refine XOps.gs rfl rfl rfl rfl rfl rfl rfl (fun hg => Quiet.open 12 hg rfl (Q.fld_dp fl45_0 rfl)) ?_
  refine XOps.gs rfl rfl rfl rfl rfl rfl rfl (fun hg => Quiet.open 13 hg rfl (Q.ld_dp ag3 rfl rfl)) ?_
  refine XOps.gs rfl rfl rfl rfl rfl rfl rfl (fun hg => Quiet.open 9 hg rfl (Quiet.open 14 hg rfl (Q.geq rfl rfl))) ?_
  refine XOps.s rfl rfl rfl (Q.pick_and rfl rfl rfl (fun h => by first | (rw [h]; rfl) | (rw [hg, h]; rfl) | (simp [h, hg]; done))) ?_
  refine XOps.s rfl rfl rfl (Q.move_d rfl) ?_
  refine XOps.gs rfl rfl rfl rfl rfl rfl rfl (fun hg => Q.move_d rfl) ?_
  refine XOps.gs rfl rfl rfl rfl rfl rfl rfl (fun hg => Q.move_d rfl) ?_
  refine XOps.gs rfl rfl rfl rfl rfl rfl rfl (fun hg => Q.move_d rfl) ?_
  refine XOps.gs rfl rfl rfl rfl rfl rfl rfl (fun hg => Quiet.open 20 hg rfl (Q.len_sl isl33 rfl)) ?_
  refine XOps.gs rfl rfl rfl rfl rfl rfl rfl (fun hg => Quiet.open 21 hg rfl (Q.sub rfl rfl (wi64 (by first | omega | (dsimp only; omega) | (simp only [List.length_map]; omega)) (by first | omega | (dsimp only; omega) | (simp only [List.length_map]; omega))))) ?_
  refine XOps.gs rfl rfl rfl rfl rfl rfl rfl (fun hg => Quiet.open 19 hg rfl (Quiet.open 22 hg rfl (Q.idx_sl sl33 (by decide) rfl rfl (by have h := List.length_pos_iff.2 (show l ≠ [] from (by first | exact ne_of_len hg | exact ne_of_len (Bool.and_eq_true_iff.1 hg).1 | exact ne_of_len (beq_iff_eq.1 hg) | exact ne_of_len (Bool.and_eq_true_iff.1 (beq_iff_eq.1 hg)).1)); omega) (la_row (by first | exact ne_of_len hg | exact ne_of_len (Bool.and_eq_true_iff.1 hg).1 | exact ne_of_len (beq_iff_eq.1 hg) | exact ne_of_len (Bool.and_eq_true_iff.1 (beq_iff_eq.1 hg)).1))))) ?_
  refine XOps.gs rfl rfl rfl rfl rfl rfl rfl (fun hg => Quiet.open 23 hg rfl (Q.fld_dp fl47_0 rfl)) ?_
  refine XOps.gs rfl rfl rfl rfl rfl rfl rfl (fun hg => Quiet.open 24 hg rfl (Q.fld_dp fl45_0 rfl)) ?_
  refine XOps.gs rfl rfl rfl rfl rfl rfl rfl (fun hg => Quiet.open 25 hg rfl (Q.ld_dp ag3 rfl rfl)) ?_
  refine XOps.gs rfl rfl rfl rfl rfl rfl rfl (fun hg => Quiet.open 18 hg rfl (Quiet.open 26 hg rfl (Q.leq rfl rfl))) ?_
  refine XOps.s rfl rfl rfl (Q.pick_and rfl rfl rfl (fun h => by first | (rw [h]; rfl) | (rw [hg, h]; rfl) | (simp [h, hg]; done))) ?_
  refine XOps.s rfl rfl rfl (Q.assign_d rfl) ?_
  refine XOps.nil ?_
  refine W.ret ?_
  refine ⟨_, hs, rfl, HLe.refl _, ?_, rfl⟩
  show AV.d (.bool _) = _
  unfold covT
  rw [← len_pos]; rfl
set_option maxHeartbeats 4000000 in
set_option maxRecDepth 100000 in
theorem leg_c (f : Fl) (t : Int) (hs : Hp) (hl : ∀ l ∈ f.legs, TuOk l) (hz : f.legs.length ≤ 1000) : AC P 73 [.d (.agg (Fl.enc f)), .d (.int .i64 (t))] hs (fun r h => r = .d (.int .i64 (legK f.legs t)) ∧ h = hs) := by
  have hml : (f.legs.map tuR).length = f.legs.length := List.length_map _
  refine AC.of 33 Tryz.func73 rfl rfl rfl ?_
  refine W.reg ?_
  refine XOps.loud rfl (L.boxn rfl rfl) ?_
  rintro _ _ ⟨b2, rfl, rfl⟩
  refine XOps.s rfl rfl rfl (Q.assign_d rfl) ?_
  refine XOps.nil ?_
  refine W.seq ?_
  refine W.reg ?_
  refine XOps.s rfl rfl rfl (Q.fld_ptr fl41_4 rfl) ?_
  refine XOps.s rfl rfl rfl (Q.ld_ptr (k := 0) ag39 rfl rfl rfl) ?_
  refine XOps.s rfl rfl rfl (Q.len_sl isl39 rfl) ?_
  refine XOps.s rfl rfl rfl (Q.sub rfl rfl (wi64 (by first | omega | (dsimp only; omega) | (simp only [List.length_map]; omega)) (by first | omega | (dsimp only; omega) | (simp only [List.length_map]; omega)))) ?_
  refine XOps.s rfl rfl rfl (Q.assign_d rfl) ?_
  refine XOps.nil ?_
  refine W.block ?_
  refine W.loop (ι := Nat) (fun q => [(1, .d (.int .i64 (t))), (2, .ptr b2 0), (5, .d (.int .i64 ((q : Int) - 1)))]) (fun q => (b2, .cells (f.enc.map .d)) :: hs) (fun q => q ≤ f.legs.length ∧ legK f.legs t = legF f.legs t q) (fun q => q) f.legs.length ?_ ?_ ?_ ?_
  · exact ⟨Nat.le_refl _, rfl⟩
  · exact ⟨by first | rfl | exact int_eq (by omega) | exact len_eq (by simp) | exact int_eq (by simp; done), by first | rfl | exact int_eq (by omega) | exact len_eq (by simp) | exact int_eq (by simp; done), by exact int_eq (by simp [lgD]), trivial⟩
  · exact HLe.refl _
  · rintro q ⟨hk, hI⟩
    refine W.seq ?_
    refine W.reg ?_
    refine XOps.s rfl rfl rfl (Q.move_d rfl) ?_
    refine XOps.s rfl rfl rfl (Q.geq rfl rfl) ?_
    refine XOps.nil ?_
    refine W.cond rfl (fun hc11 => ?_) (fun hc11 => ?_)
    · try simp only [Bool.or_eq_true, Bool.or_eq_false_iff, Bool.and_eq_true, Bool.and_eq_false_iff, decide_eq_true_eq, decide_eq_false_iff_not, Bool.not_eq_true', Bool.not_eq_false', Int.not_lt, Int.not_le, List.length_map] at hc11
      have hq0 : 0 < q := by omega
      obtain ⟨q1, hq1⟩ : ∃ q1, q = q1 + 1 := ⟨q - 1, by omega⟩
      have hgl := legs_getD (legs := f.legs) (k := q - 1) (by omega)
      have okl := hl _ (List.mem_of_getElem? hgl)
      have hx : (f.legs.map tuR)[((q : Int) - 1).toNat]? = some (tuR (f.legs.getD (q - 1) [])) := by rw [show ((q : Int) - 1).toNat = q - 1 by omega, List.getElem?_map, hgl]; rfl
      have hx0 := hd_row okl.ne
      have hst : legF f.legs t q = if hdT (f.legs.getD (q - 1) []) ≤ t then (if covT (f.legs.getD (q - 1) []) t = true then ((q : Int) - 1) else -1) else legF f.legs t (q - 1) := by
        subst hq1; rw [legF]; simp only [Nat.add_sub_cancel]; rw [show (((q1 + 1 : Nat) : Int) - 1) = (q1 : Int) by omega]
      refine W.skip ?_
      refine W.seq ?_
      refine W.block ?_
      refine W.reg ?_
      refine XOps.s rfl rfl rfl (Q.move_d rfl) ?_
      refine XOps.s rfl rfl rfl (Q.fld_ptr fl41_4 rfl) ?_
      refine XOps.s rfl rfl rfl (Q.ld_ptr (k := 0) ag39 rfl rfl rfl) ?_
      refine XOps.s rfl rfl rfl (Q.move_d rfl) ?_
      refine XOps.s rfl rfl rfl (Q.idx_sl sl39 (by decide) rfl rfl (by first | omega | (simp only [List.length_map]; omega)) (by first | exact hx | exact hx0)) ?_
      refine XOps.s rfl rfl rfl (Q.ld_dp ag33 rfl rfl) ?_
      refine XOps.s rfl rfl rfl (Q.idx_sl sl33 (by decide) rfl rfl (by first | omega | (simp only [List.length_map]; omega)) (by first | exact hx | exact hx0)) ?_
      refine XOps.s rfl rfl rfl (Q.fld_dp fl47_0 rfl) ?_
      refine XOps.s rfl rfl rfl (Q.fld_dp fl45_0 rfl) ?_
      refine XOps.s rfl rfl rfl (Q.ld_dp ag3 rfl rfl) ?_
      refine XOps.s rfl rfl rfl (Q.geq rfl rfl) ?_
      refine XOps.nil ?_
      refine W.cond rfl (fun hc24 => ?_) (fun hc24 => ?_)
      · try simp only [Bool.or_eq_true, Bool.or_eq_false_iff, Bool.and_eq_true, Bool.and_eq_false_iff, decide_eq_true_eq, decide_eq_false_iff_not, Bool.not_eq_true', Bool.not_eq_false', Int.not_lt, Int.not_le, List.length_map] at hc24
        rw [if_pos (show hdT (f.legs.getD (q - 1) []) ≤ t from hc24)] at hst
        refine W.seq ?_
        refine W.reg ?_
        refine XOps.s rfl rfl rfl (Q.fld_ptr fl41_4 rfl) ?_
        refine XOps.s rfl rfl rfl (Q.ld_ptr (k := 0) ag39 rfl rfl rfl) ?_
        refine XOps.s rfl rfl rfl (Q.move_d rfl) ?_
        refine XOps.s rfl rfl rfl (Q.idx_sl sl39 (by decide) rfl rfl (by first | omega | (simp only [List.length_map]; omega)) (by first | exact hx | exact hx0)) ?_
        refine XOps.s rfl rfl rfl (Q.ld_dp ag33 rfl rfl) ?_
        refine XOps.s rfl rfl rfl (Q.move_d rfl) ?_
        refine XOps.s rfl rfl rfl (Q.call rfl Tryz.func75 go75 rfl (cov_c (f.legs.getD (q - 1) []) t _ (by have := okl.len; omega))) ?_
        refine XOps.nil ?_
        refine W.cond rfl (fun hc31 => ?_) (fun hc31 => ?_)
        · try simp only [Bool.or_eq_true, Bool.or_eq_false_iff, Bool.and_eq_true, Bool.and_eq_false_iff, decide_eq_true_eq, decide_eq_false_iff_not, Bool.not_eq_true', Bool.not_eq_false', Int.not_lt, Int.not_le, List.length_map] at hc31
          rw [if_pos hc31] at hst
          have hE : legK f.legs t = (q : Int) - 1 := by rw [hI, hst]
          rw [hE]
          refine W.reg ?_
          refine XOps.s rfl rfl rfl (Q.move_d rfl) ?_
          refine XOps.s rfl rfl rfl (Q.assign_d rfl) ?_
          refine XOps.nil ?_
          refine W.ret ?_
          exact ⟨_, hs, rfl, HLe.skip _ (HLe.refl _), rfl, rfl⟩
        · try simp only [Bool.or_eq_true, Bool.or_eq_false_iff, Bool.and_eq_true, Bool.and_eq_false_iff, decide_eq_true_eq, decide_eq_false_iff_not, Bool.not_eq_true', Bool.not_eq_false', Int.not_lt, Int.not_le, List.length_map] at hc31
          rw [if_neg (by rw [hc31]; simp)] at hst
          have hE : legK f.legs t = -1 := by rw [hI, hst]
          rw [hE]
          refine W.skip ?_
          refine W.reg ?_
          refine XOps.s rfl rfl rfl (Q.assign_d rfl) ?_
          refine XOps.nil ?_
          refine W.ret ?_
          exact ⟨_, hs, rfl, HLe.skip _ (HLe.refl _), rfl, rfl⟩
      · try simp only [Bool.or_eq_true, Bool.or_eq_false_iff, Bool.and_eq_true, Bool.and_eq_false_iff, decide_eq_true_eq, decide_eq_false_iff_not, Bool.not_eq_true', Bool.not_eq_false', Int.not_lt, Int.not_le, List.length_map] at hc24
        rw [if_neg (show ¬ hdT (f.legs.getD (q - 1) []) ≤ t by unfold hdT; omega)] at hst
        refine W.skip ?_
        refine W.region ?_
        refine XOps.s rfl rfl rfl (Q.move_d rfl) ?_
        refine XOps.s rfl rfl rfl (Q.sub rfl rfl (wi64 (by first | omega | (dsimp only; omega) | (simp only [List.length_map]; omega)) (by first | omega | (dsimp only; omega) | (simp only [List.length_map]; omega)))) ?_
        refine XOps.s rfl rfl rfl (Q.assign_d rfl) ?_
        refine XOps.nil ?_
        refine ⟨q - 1, ?_, ?_, ?_, ?_⟩
        · exact ⟨by omega, by rw [hI, hst]⟩
        · omega
        · exact ⟨by first | rfl | exact int_eq (by omega) | exact len_eq (by simp) | exact int_eq (by simp; done), by first | rfl | exact int_eq (by omega) | exact len_eq (by simp) | exact int_eq (by simp; done), by exact int_eq (by omega), trivial⟩
        · exact HLe.refl _
    · try simp only [Bool.or_eq_true, Bool.or_eq_false_iff, Bool.and_eq_true, Bool.and_eq_false_iff, decide_eq_true_eq, decide_eq_false_iff_not, Bool.not_eq_true', Bool.not_eq_false', Int.not_lt, Int.not_le, List.length_map] at hc11
      obtain rfl : q = 0 := by omega
      have hE : legK f.legs t = -1 := hI
      rw [hE]
      refine W.exit ?_
      refine W.reg ?_
      refine XOps.s rfl rfl rfl (Q.assign_d rfl) ?_
      refine XOps.nil ?_
      refine W.ret ?_
      exact ⟨_, hs, rfl, HLe.skip _ (HLe.refl _), rfl, rfl⟩
set_option maxHeartbeats 4000000 in
set_option maxRecDepth 100000 in
theorem nodes_c (f : Fl) (t : Int) (hs : Hp) (hl : ∀ l ∈ f.legs, TuOk l) (hn : f.next.length ≤ 1000000) (hz : f.legs.length ≤ 1000) : AC P 46 [.d (.agg (Fl.enc f)), .d (.int .i64 (t))] hs (fun r h => r = .d (.sl 6 ((nodesF f.legs f.next t).map Nd.enc)) ∧ h = hs) := by
  have hml : (f.legs.map tuR).length = f.legs.length := List.length_map _
  have hbd := legF_bd f.legs t f.legs.length
  refine AC.of 46 Tryz.func46 rfl rfl rfl ?_
  refine W.reg ?_
  refine XOps.loud rfl (L.boxn rfl rfl) ?_
  rintro _ _ ⟨b2, rfl, rfl⟩
  refine XOps.s rfl rfl rfl (Q.assign_nilsl rfl) ?_
  refine XOps.nil ?_
  refine W.reg ?_
  refine XOps.s rfl rfl rfl (Q.assign_nilsl rfl) ?_
  refine XOps.nil ?_
  refine W.ghost 5 6 (by decide) rfl rfl (fun v5 => ?_)
  refine W.seq ?_
  refine W.reg ?_
  refine XOps.s rfl rfl rfl (Q.ld_ptrn (k := 1) ag41 rfl rfl rfl) ?_
  refine XOps.s rfl rfl rfl (Q.move_d rfl) ?_
  refine XOps.s rfl rfl rfl (Q.call rfl Tryz.func73 go73 rfl (leg_c f t _ hl hz)) ?_
  refine XOps.s rfl rfl rfl (Q.assign_d rfl) ?_
  refine XOps.nil ?_
  refine W.reg ?_
  refine XOps.s rfl rfl rfl (Q.move_d rfl) ?_
  refine XOps.s rfl rfl rfl (Q.geq rfl rfl) ?_
  refine XOps.nil ?_
  refine W.cond rfl (fun hc15 => ?_) (fun hc15 => ?_)
  · try simp only [Bool.or_eq_true, Bool.or_eq_false_iff, Bool.and_eq_true, Bool.and_eq_false_iff, decide_eq_true_eq, decide_eq_false_iff_not, Bool.not_eq_true', Bool.not_eq_false', Int.not_lt, Int.not_le, List.length_map] at hc15
    have hbd2 : 0 ≤ legK f.legs t ∧ legK f.legs t < f.legs.length := by unfold legK at hc15 ⊢; omega
    have hgl := legs_getD (legs := f.legs) (k := (legK f.legs t).toNat) (by omega)
    have okl := hl _ (List.mem_of_getElem? hgl)
    have hx : (f.legs.map tuR)[(legK f.legs t).toNat]? = some (tuR (f.legs.getD (legK f.legs t).toNat [])) := by rw [List.getElem?_map, hgl]; rfl
    obtain ⟨A9, hA9⟩ : ∃ A9, A9 = [AtN (f.legs.getD (legK f.legs t).toNat []) t] := ⟨_, rfl⟩
    have hA : (if 0 ≤ legK f.legs t then [AtN (f.legs.getD (legK f.legs t).toNat []) t] else []) = A9 := by rw [if_pos hbd2.1, hA9]
    refine W.reg ?_
    refine XOps.s rfl rfl rfl (Q.fld_ptr fl41_4 rfl) ?_
    refine XOps.s rfl rfl rfl (Q.ld_ptr (k := 1) ag39 rfl rfl rfl) ?_
    refine XOps.s rfl rfl rfl (Q.move_d rfl) ?_
    refine XOps.s rfl rfl rfl (Q.idx_sl sl39 (by decide) rfl rfl (by first | omega | (simp only [List.length_map]; omega)) (by exact hx)) ?_
    refine XOps.s rfl rfl rfl (Q.ld_dp ag33 rfl rfl) ?_
    refine XOps.s rfl rfl rfl (Q.move_d rfl) ?_
    refine XOps.s rfl rfl rfl (Q.call rfl Tryz.func74 go74 rfl (At_c (f.legs.getD (legK f.legs t).toNat []) t _ (by have := okl.len; omega))) ?_
    refine XOps.s rfl rfl rfl (Q.move_tup rfl) ?_
    refine XOps.s rfl rfl rfl (Q.extract rfl rfl) ?_
    refine XOps.s rfl rfl rfl (Q.extract rfl rfl) ?_
    (refine XOps.loud rfl (L.alloc tz47 rfl rfl) ?_; rintro _ _ ⟨b7, rfl, rfl⟩)
    refine XOps.loud rfl (L.storen (k := 0) ag47 rfl rfl rfl rfl rfl) ?_
    rintro _ _ ⟨rfl, rfl⟩
    refine XOps.s rfl rfl rfl (Q.assign_d rfl) ?_
    refine XOps.nil ?_
    refine W.region ?_
    refine XOps.s rfl rfl rfl (Q.move_vs rfl) ?_
    refine XOps.s rfl rfl rfl (Q.ld_ptrn (k := 0) ag47 rfl rfl rfl) ?_
    refine XOps.s rfl rfl rfl (Q.bsl1n sl32 (by decide) zr32 rfl zrd32 rfl rfl (by decide)) ?_
    refine XOps.loud rfl (L.app (k := 1) ap32 rfl rfl (by first | rfl | (simp [List.length_map]; done)) rfl (by first | decide | (simp; done) | (simp; omega)) rfl) ?_
    rintro _ _ ⟨v29, rfl, rfl⟩
    refine XOps.s rfl rfl rfl (Q.assign_vs rfl) ?_
    refine XOps.nil ?_
    refine W.seq ?_
    refine W.reg ?_
    refine XOps.s rfl rfl rfl (Q.fld_ptr fl41_5 rfl) ?_
    refine XOps.s rfl rfl rfl (Q.ld_ptr (k := 2) ag33 rfl rfl rfl) ?_
    refine XOps.s rfl rfl rfl (Q.move_d rfl) ?_
    refine XOps.s rfl rfl rfl (Q.call rfl Tryz.func75 go75 rfl (cov_c f.next t _ (by omega))) ?_
    refine XOps.nil ?_
    refine W.cond rfl (fun hc33 => ?_) (fun hc33 => ?_)
    · try simp only [Bool.or_eq_true, Bool.or_eq_false_iff, Bool.and_eq_true, Bool.and_eq_false_iff, decide_eq_true_eq, decide_eq_false_iff_not, Bool.not_eq_true', Bool.not_eq_false', Int.not_lt, Int.not_le, List.length_map] at hc33
      obtain ⟨B9, hB9⟩ : ∃ B9, B9 = [AtN f.next t] := ⟨_, rfl⟩
      have hB : (if covT f.next t = true then [AtN f.next t] else []) = B9 := by rw [if_pos hc33, hB9]
      refine W.reg ?_
      refine XOps.s rfl rfl rfl (Q.fld_ptr fl41_5 rfl) ?_
      refine XOps.s rfl rfl rfl (Q.ld_ptr (k := 2) ag33 rfl rfl rfl) ?_
      refine XOps.s rfl rfl rfl (Q.move_d rfl) ?_
      refine XOps.s rfl rfl rfl (Q.call rfl Tryz.func74 go74 rfl (At_c f.next t _ (by omega))) ?_
      refine XOps.s rfl rfl rfl (Q.move_tup rfl) ?_
      refine XOps.s rfl rfl rfl (Q.extract rfl rfl) ?_
      refine XOps.s rfl rfl rfl (Q.extract rfl rfl) ?_
      (refine XOps.loud rfl (L.alloc tz47 rfl rfl) ?_; rintro _ _ ⟨b9, rfl, rfl⟩)
      refine XOps.loud rfl (L.storen (k := 0) ag47 rfl rfl rfl rfl rfl) ?_
      rintro _ _ ⟨rfl, rfl⟩
      refine XOps.s rfl rfl rfl (Q.assign_d rfl) ?_
      refine XOps.nil ?_
      refine W.region ?_
      refine XOps.s rfl rfl rfl (Q.move_vs rfl) ?_
      refine XOps.s rfl rfl rfl (Q.ld_ptrn (k := 0) ag47 rfl rfl rfl) ?_
      refine XOps.s rfl rfl rfl (Q.bsl1n sl32 (by decide) zr32 rfl zrd32 rfl rfl (by decide)) ?_
      refine XOps.loud rfl (L.app (k := 1) ap32 rfl rfl (by first | rfl | (simp [List.length_map]; done)) rfl (by first | decide | (simp; done) | (simp; omega)) rfl) ?_
      rintro _ _ ⟨v44, rfl, rfl⟩
      refine XOps.s rfl rfl rfl (Q.assign_vs rfl) ?_
      refine XOps.nil ?_
      refine W.freeze 5 0 rfl rfl (by simp) ?_
      have hN : nodesF f.legs f.next t = A9 ++ B9 := by unfold nodesF; rw [hA, hB]
      rw [hN, hA9, hB9]
      refine W.reg ?_
      refine XOps.s rfl rfl rfl (Q.move_d rfl) ?_
      refine XOps.s rfl rfl rfl (Q.assign_d rfl) ?_
      refine XOps.nil ?_
      refine W.ret ?_
      exact ⟨_, hs, rfl, HLe.skip _ (HLe.skip _ (HLe.skip _ (HLe.refl _))), rfl, rfl⟩
    · try simp only [Bool.or_eq_true, Bool.or_eq_false_iff, Bool.and_eq_true, Bool.and_eq_false_iff, decide_eq_true_eq, decide_eq_false_iff_not, Bool.not_eq_true', Bool.not_eq_false', Int.not_lt, Int.not_le, List.length_map] at hc33
      obtain ⟨B9, hB9⟩ : ∃ B9 : List Nd, B9 = [] := ⟨_, rfl⟩
      have hB : (if covT f.next t = true then [AtN f.next t] else []) = B9 := by rw [if_neg (by simp [hc33]), hB9]
      refine W.skip ?_
      refine W.freeze 5 0 rfl rfl (by simp) ?_
      have hN : nodesF f.legs f.next t = A9 ++ B9 := by unfold nodesF; rw [hA, hB]
      rw [hN, hA9, hB9]
      refine W.reg ?_
      refine XOps.s rfl rfl rfl (Q.move_d rfl) ?_
      refine XOps.s rfl rfl rfl (Q.assign_d rfl) ?_
      refine XOps.nil ?_
      refine W.ret ?_
      exact ⟨_, hs, rfl, HLe.skip _ (HLe.skip _ (HLe.refl _)), rfl, rfl⟩
  · try simp only [Bool.or_eq_true, Bool.or_eq_false_iff, Bool.and_eq_true, Bool.and_eq_false_iff, decide_eq_true_eq, decide_eq_false_iff_not, Bool.not_eq_true', Bool.not_eq_false', Int.not_lt, Int.not_le, List.length_map] at hc15
    obtain ⟨A9, hA9⟩ : ∃ A9 : List Nd, A9 = [] := ⟨_, rfl⟩
    have hA : (if 0 ≤ legK f.legs t then [AtN (f.legs.getD (legK f.legs t).toNat []) t] else []) = A9 := by rw [if_neg (by omega), hA9]
    refine W.skip ?_
    refine W.seq ?_
    refine W.reg ?_
    refine XOps.s rfl rfl rfl (Q.fld_ptr fl41_5 rfl) ?_
    refine XOps.s rfl rfl rfl (Q.ld_ptr (k := 1) ag33 rfl rfl rfl) ?_
    refine XOps.s rfl rfl rfl (Q.move_d rfl) ?_
    refine XOps.s rfl rfl rfl (Q.call rfl Tryz.func75 go75 rfl (cov_c f.next t _ (by omega))) ?_
    refine XOps.nil ?_
    refine W.cond rfl (fun hc33 => ?_) (fun hc33 => ?_)
    · try simp only [Bool.or_eq_true, Bool.or_eq_false_iff, Bool.and_eq_true, Bool.and_eq_false_iff, decide_eq_true_eq, decide_eq_false_iff_not, Bool.not_eq_true', Bool.not_eq_false', Int.not_lt, Int.not_le, List.length_map] at hc33
      obtain ⟨B9, hB9⟩ : ∃ B9, B9 = [AtN f.next t] := ⟨_, rfl⟩
      have hB : (if covT f.next t = true then [AtN f.next t] else []) = B9 := by rw [if_pos hc33, hB9]
      refine W.reg ?_
      refine XOps.s rfl rfl rfl (Q.fld_ptr fl41_5 rfl) ?_
      refine XOps.s rfl rfl rfl (Q.ld_ptr (k := 1) ag33 rfl rfl rfl) ?_
      refine XOps.s rfl rfl rfl (Q.move_d rfl) ?_
      refine XOps.s rfl rfl rfl (Q.call rfl Tryz.func74 go74 rfl (At_c f.next t _ (by omega))) ?_
      refine XOps.s rfl rfl rfl (Q.move_tup rfl) ?_
      refine XOps.s rfl rfl rfl (Q.extract rfl rfl) ?_
      refine XOps.s rfl rfl rfl (Q.extract rfl rfl) ?_
      (refine XOps.loud rfl (L.alloc tz47 rfl rfl) ?_; rintro _ _ ⟨b9, rfl, rfl⟩)
      refine XOps.loud rfl (L.storen (k := 0) ag47 rfl rfl rfl rfl rfl) ?_
      rintro _ _ ⟨rfl, rfl⟩
      refine XOps.s rfl rfl rfl (Q.assign_d rfl) ?_
      refine XOps.nil ?_
      refine W.region ?_
      refine XOps.s rfl rfl rfl (Q.move_vs rfl) ?_
      refine XOps.s rfl rfl rfl (Q.ld_ptrn (k := 0) ag47 rfl rfl rfl) ?_
      refine XOps.s rfl rfl rfl (Q.bsl1n sl32 (by decide) zr32 rfl zrd32 rfl rfl (by decide)) ?_
      refine XOps.loud rfl (L.app (k := 1) ap32 rfl rfl (by first | rfl | (simp [List.length_map]; done)) rfl (by first | decide | (simp; done) | (simp; omega)) rfl) ?_
      rintro _ _ ⟨v44, rfl, rfl⟩
      refine XOps.s rfl rfl rfl (Q.assign_vs rfl) ?_
      refine XOps.nil ?_
      refine W.freeze 5 0 rfl rfl (by simp) ?_
      have hN : nodesF f.legs f.next t = A9 ++ B9 := by unfold nodesF; rw [hA, hB]
      rw [hN, hA9, hB9]
      refine W.reg ?_
      refine XOps.s rfl rfl rfl (Q.move_d rfl) ?_
      refine XOps.s rfl rfl rfl (Q.assign_d rfl) ?_
      refine XOps.nil ?_
      refine W.ret ?_
      exact ⟨_, hs, rfl, HLe.skip _ (HLe.skip _ (HLe.refl _)), rfl, rfl⟩
    · try simp only [Bool.or_eq_true, Bool.or_eq_false_iff, Bool.and_eq_true, Bool.and_eq_false_iff, decide_eq_true_eq, decide_eq_false_iff_not, Bool.not_eq_true', Bool.not_eq_false', Int.not_lt, Int.not_le, List.length_map] at hc33
      obtain ⟨B9, hB9⟩ : ∃ B9 : List Nd, B9 = [] := ⟨_, rfl⟩
      have hB : (if covT f.next t = true then [AtN f.next t] else []) = B9 := by rw [if_neg (by simp [hc33]), hB9]
      refine W.skip ?_
      refine W.freeze 5 0 rfl rfl (by simp) ?_
      have hN : nodesF f.legs f.next t = A9 ++ B9 := by unfold nodesF; rw [hA, hB]
      rw [hN, hA9, hB9]
      refine W.reg ?_
      refine XOps.s rfl rfl rfl (Q.move_d rfl) ?_
      refine XOps.s rfl rfl rfl (Q.assign_d rfl) ?_
      refine XOps.nil ?_
      refine W.ret ?_
      exact ⟨_, hs, rfl, HLe.skip _ (HLe.refl _), rfl, rfl⟩
set_option maxHeartbeats 1000000 in
set_option maxRecDepth 100000 in
theorem ldg_c (f : Fl) (hs : Hp) : AC P 104 [.d (.agg (Fl.enc f))] hs (fun r h => r = .d (slN (landL f)) ∧ h = hs) := by
  refine AC.of 20 Tryz.func104 rfl rfl rfl ?_
  refine W.reg ?_
  refine XOps.loud rfl (L.boxn rfl rfl) ?_
  rintro _ _ ⟨b1, rfl, rfl⟩
  refine XOps.s rfl rfl rfl (Q.assign_nilsl rfl) ?_
  refine XOps.nil ?_
  refine W.seq ?_
  refine W.block ?_
  refine W.reg ?_
  refine XOps.s rfl rfl rfl (Q.fld_ptr fl41_3 rfl) ?_
  refine XOps.s rfl rfl rfl (Q.ld_ptr (k := 0) ag4 rfl rfl rfl) ?_
  refine XOps.s rfl rfl rfl (Q.not rfl) ?_
  refine XOps.s rfl rfl rfl (Q.assign_d rfl) ?_
  refine XOps.nil ?_
  refine W.cond rfl (fun hc3 => ?_) (fun hc3 => ?_)
  · try simp only [Bool.or_eq_true, Bool.or_eq_false_iff, Bool.and_eq_true, Bool.and_eq_false_iff, decide_eq_true_eq, decide_eq_false_iff_not, Bool.not_eq_true', Bool.not_eq_false', Int.not_lt, Int.not_le, List.length_map] at hc3
    have h3 : f.lands = false := by simpa using hc3
    have hE : landL f = [] := if_pos h3
    rw [hE]
    refine W.reg ?_
    refine XOps.s rfl rfl rfl (Q.assign_nilsl rfl) ?_
    refine XOps.nil ?_
    refine W.nild 2 1 rfl ?_
    refine W.ret ?_
    exact ⟨_, hs, rfl, HLe.skip _ (HLe.refl _), rfl, rfl⟩
  · try simp only [Bool.or_eq_true, Bool.or_eq_false_iff, Bool.and_eq_true, Bool.and_eq_false_iff, decide_eq_true_eq, decide_eq_false_iff_not, Bool.not_eq_true', Bool.not_eq_false', Int.not_lt, Int.not_le, List.length_map] at hc3
    have h3 : ¬ f.lands = false := by simpa using hc3
    refine W.reg ?_
    refine XOps.s rfl rfl rfl (Q.fld_ptr fl41_5 rfl) ?_
    refine XOps.s rfl rfl rfl (Q.ld_ptr (k := 0) ag33 rfl rfl rfl) ?_
    refine XOps.s rfl rfl rfl (Q.len_sl isl33 rfl) ?_
    refine XOps.s rfl rfl rfl (Q.gtr rfl rfl) ?_
    refine XOps.s rfl rfl rfl (Q.assign_d rfl) ?_
    refine XOps.nil ?_
    refine W.cond rfl (fun hc7 => ?_) (fun hc7 => ?_)
    · try simp only [Bool.or_eq_true, Bool.or_eq_false_iff, Bool.and_eq_true, Bool.and_eq_false_iff, decide_eq_true_eq, decide_eq_false_iff_not, Bool.not_eq_true', Bool.not_eq_false', Int.not_lt, Int.not_le, List.length_map] at hc7
      have hE : landL f = [f.land, f.nland] := by unfold landL; rw [if_neg h3, if_pos hc7]
      rw [hE]
      refine W.reg ?_
      refine XOps.s rfl rfl rfl (Q.fld_ptr fl41_6 rfl) ?_
      refine XOps.s rfl rfl rfl (Q.ld_ptr (k := 0) ag3 rfl rfl rfl) ?_
      refine XOps.s rfl rfl rfl (Q.fld_ptr fl41_7 rfl) ?_
      refine XOps.s rfl rfl rfl (Q.ld_ptr (k := 0) ag3 rfl rfl rfl) ?_
      refine XOps.s rfl rfl rfl (Q.bsl sl151 (by decide) zr151 rfl zrd151 (by decide) rfl rfl) ?_
      refine XOps.s rfl rfl rfl (Q.assign_d rfl) ?_
      refine XOps.nil ?_
      refine W.ret ?_
      exact ⟨_, hs, rfl, HLe.skip _ (HLe.refl _), rfl, rfl⟩
    · try simp only [Bool.or_eq_true, Bool.or_eq_false_iff, Bool.and_eq_true, Bool.and_eq_false_iff, decide_eq_true_eq, decide_eq_false_iff_not, Bool.not_eq_true', Bool.not_eq_false', Int.not_lt, Int.not_le, List.length_map] at hc7
      have hE : landL f = [f.land] := by unfold landL; rw [if_neg h3, if_neg (by omega)]
      rw [hE]
      refine W.skip ?_
      refine W.reg ?_
      refine XOps.s rfl rfl rfl (Q.fld_ptr fl41_6 rfl) ?_
      refine XOps.s rfl rfl rfl (Q.ld_ptr (k := 0) ag3 rfl rfl rfl) ?_
      refine XOps.s rfl rfl rfl (Q.bsl1 sl151 zr151 rfl zrd151 rfl rfl) ?_
      refine XOps.s rfl rfl rfl (Q.assign_d rfl) ?_
      refine XOps.nil ?_
      refine W.ret ?_
      exact ⟨_, hs, rfl, HLe.skip _ (HLe.refl _), rfl, rfl⟩
set_option maxHeartbeats 1000000 in
set_option maxRecDepth 100000 in
theorem long_c (l : List Nd) (hs : Hp) (ok : TuOk l) : AC P 79 [.d (tuD l)] hs (fun r h => r = .d (.bool (longB l)) ∧ h = hs) := by
  have p0 := hd_row ok.ne
  have pl := la_row ok.ne
  have hml : (l.map Nd.enc).length = l.length := List.length_map _
  have hl0 : l.length ≠ 0 := fun e => ok.ne (List.eq_nil_of_length_eq_zero e)
  have hlen := ok.len
  obtain ⟨⟨a1, a2⟩, a3, a4⟩ := hd_bd ok
  unfold hdT at a1 a2
  unfold laT at a3 a4
  refine AC.of 18 Tryz.func79 rfl rfl rfl ?_
  refine W.reg ?_
  refine XOps.s rfl rfl rfl (Q.assign_d rfl) ?_
  refine XOps.nil ?_
  refine W.drawreg 15 follows (by kernel_rfl) ?_
  refine Chain.cons _ (GQ.q rfl (Q.move_d rfl)) rfl ?_
  refine Chain.cons _ (GQ.q rfl (Q.move_d rfl)) rfl ?_
  refine Chain.cons _ (GQ.q rfl (Q.len_sl isl33 rfl)) rfl ?_
  refine Chain.cons _ (GQ.q rfl (Q.sub rfl rfl (wi64 (by first | omega | (dsimp only; omega) | (simp only [List.length_map]; omega)) (by first | omega | (dsimp only; omega) | (simp only [List.length_map]; omega))))) rfl ?_
  refine Chain.cons _ (GQ.q rfl (Q.idx_sl sl33 (by decide) rfl rfl (by first | omega | (simp only [List.length_map]; omega)) (by first | exact p0 | exact pl))) rfl ?_
  refine Chain.cons _ (GQ.q rfl (Q.fld_dp fl47_0 rfl)) rfl ?_
  refine Chain.cons _ (GQ.q rfl (Q.fld_dp fl45_0 rfl)) rfl ?_
  refine Chain.cons _ (GQ.q rfl (Q.ld_dp ag3 rfl rfl)) rfl ?_
  refine Chain.cons _ (GQ.q rfl (Q.move_d rfl)) rfl ?_
  refine Chain.cons _ (GQ.q rfl (Q.idx_sl sl33 (by decide) rfl rfl (by first | omega | (simp only [List.length_map]; omega)) (by first | exact p0 | exact pl))) rfl ?_
  refine Chain.cons _ (GQ.q rfl (Q.fld_dp fl47_0 rfl)) rfl ?_
  refine Chain.cons _ (GQ.q rfl (Q.fld_dp fl45_0 rfl)) rfl ?_
  refine Chain.cons _ (GQ.q rfl (Q.ld_dp ag3 rfl rfl)) rfl ?_
  refine Chain.cons _ (GQ.q rfl (Q.sub rfl rfl (wi64 (by first | omega | (dsimp only; omega) | (simp only [List.length_map]; omega)) (by first | omega | (dsimp only; omega) | (simp only [List.length_map]; omega))))) rfl ?_
  refine Chain.cons _ (GQ.q rfl (Q.gtr rfl rfl)) rfl ?_
  refine Chain.nil ?_
  refine XOps.s rfl rfl rfl (Q.assign_d rfl) ?_
  refine XOps.nil ?_
  refine W.ret ?_
  exact ⟨_, hs, rfl, HLe.refl _, rfl, rfl⟩
end Go.Proofs.YtaegeaajhbfkgaaGreatDoorA

