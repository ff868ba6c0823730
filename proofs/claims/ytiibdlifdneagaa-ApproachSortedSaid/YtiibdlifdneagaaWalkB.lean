/- approach.Times, the fixed example, the law ApproachGaps. -/
import Derived.Test.YtiibdlifdneagaaBase
import Derived.Test.YtiibdlifdneagaaWalkA
set_option linter.unusedVariables false
set_option linter.unusedSimpArgs false
set_option linter.unnecessarySimpa false
namespace Go.Proofs.YtiibdlifdneagaaA.FWalkB
open Go
theorem ag24 : tAgg P 24 = some ((true, 16)) := by kernel_rfl
theorem ag3 : tAgg P 3 = some ((false, 1)) := by kernel_rfl
theorem ag32 : tAgg P 32 = some ((true, 4)) := by kernel_rfl
theorem ar23 : tArr P 23 = some ((4, 1)) := by kernel_rfl
theorem ar24 : tArr P 24 = some ((4, 4)) := by kernel_rfl
theorem fl32_1 : tFld P 32 1 = some (1) := by kernel_rfl
theorem fl32_2 : tFld P 32 2 = some (2) := by kernel_rfl
theorem go10 : callGo Go.Proofs.Try.f10 = true := by kernel_rfl
theorem go13 : callGo Go.Proofs.Try.f13 = true := by kernel_rfl
theorem go23 : callGo Go.Proofs.Try.f23 = true := by kernel_rfl
theorem go8 : callGo Go.Proofs.Try.f8 = true := by kernel_rfl
theorem go9 : callGo Go.Proofs.Try.f9 = true := by kernel_rfl
theorem isl22 : isSl P 22 = true := by kernel_rfl
theorem isl25 : isSl P 25 = true := by kernel_rfl
theorem pl32 : tPl P 32 = some ([(0, 1), (1, 1), (2, 1), (3, 1)]) := by kernel_rfl
theorem sl22 : tSl P 22 = some (4) := by kernel_rfl
theorem sl25 : tSl P 25 = some (1) := by kernel_rfl
theorem tz23 : tZero P 23 = some ([.int .i64 0, .int .i64 0, .int .i64 0, .int .i64 0]) := by kernel_rfl
theorem tz24 : tZero P 24 = some ([.int .i64 0, .int .i64 0, .int .i64 0, .int .i64 0, .int .i64 0, .int .i64 0, .int .i64 0, .int .i64 0, .int .i64 0, .int .i64 0, .int .i64 0, .int .i64 0, .int .i64 0, .int .i64 0, .int .i64 0, .int .i64 0]) := by kernel_rfl
theorem tz32 : tZero P 32 = some ([.string ⟨#[]⟩, .int .i64 0, .int .i64 0, .int .i64 0]) := by kernel_rfl
theorem tzd23 : cellsD [.int .i64 0, .int .i64 0, .int .i64 0, .int .i64 0] = some ([.int .i64 0, .int .i64 0, .int .i64 0, .int .i64 0]) := rfl
theorem tzd24 : cellsD [.int .i64 0, .int .i64 0, .int .i64 0, .int .i64 0, .int .i64 0, .int .i64 0, .int .i64 0, .int .i64 0, .int .i64 0, .int .i64 0, .int .i64 0, .int .i64 0, .int .i64 0, .int .i64 0, .int .i64 0, .int .i64 0] = some ([.int .i64 0, .int .i64 0, .int .i64 0, .int .i64 0, .int .i64 0, .int .i64 0, .int .i64 0, .int .i64 0, .int .i64 0, .int .i64 0, .int .i64 0, .int .i64 0, .int .i64 0, .int .i64 0, .int .i64 0, .int .i64 0]) := rfl
theorem tzd32 : cellsD [.string ⟨#[]⟩, .int .i64 0, .int .i64 0, .int .i64 0] = some ([.str ⟨#[]⟩, .int .i64 0, .int .i64 0, .int .i64 0]) := rfl
theorem zr22 : tZrow P 22 = some ([.string ⟨#[]⟩, .int .i64 0, .int .i64 0, .int .i64 0]) := by kernel_rfl
theorem zr25 : tZrow P 25 = some ([.int .i64 0]) := by kernel_rfl
theorem zrd22 : cellsD [.string ⟨#[]⟩, .int .i64 0, .int .i64 0, .int .i64 0] = some ([.str ⟨#[]⟩, .int .i64 0, .int .i64 0, .int .i64 0]) := rfl
theorem zrd25 : cellsD [.int .i64 0] = some ([.int .i64 0]) := rfl
end Go.Proofs.YtiibdlifdneagaaA.FWalkB
namespace Go.Proofs.YtiibdlifdneagaaA
open Go FWalkB
set_option maxHeartbeats 1000000 in
set_option maxRecDepth 100000 in
theorem times2_c (l : List Item) (gv : Nat → Int) (hs : Hp) : AC P 8 [.d (slI l), .d (.agg (gD gv))] hs (fun r h => r = .tup [.d (slN (timesT l gv)), .d (.int .i64 (checkA l gv))] ∧ h = hs) := by
  refine AC.of 16 Try.func8 rfl rfl rfl ?_
  refine W.reg ?_
  refine XOps.loud rfl (L.boxn rfl rfl) ?_
  rintro _ _ ⟨b3, rfl, rfl⟩
  refine XOps.s rfl rfl rfl (Q.assign_nil 1 rfl) ?_
  refine XOps.s rfl rfl rfl (Q.assign_d rfl) ?_
  refine XOps.nil ?_
  refine W.seq ?_
  refine W.reg ?_
  refine XOps.s rfl rfl rfl (Q.move_d rfl) ?_
  refine XOps.s rfl rfl rfl (Q.ld_ptrn (k := 0) ag24 rfl rfl rfl) ?_
  refine XOps.s rfl rfl rfl (Q.call rfl Try.func10 go10 rfl (check_c l gv _)) ?_
  refine XOps.s rfl rfl rfl (Q.assign_d rfl) ?_
  refine XOps.nil ?_
  refine W.reg ?_
  refine XOps.s rfl rfl rfl (Q.move_d rfl) ?_
  refine XOps.s rfl rfl rfl (Q.neq rfl rfl) ?_
  refine XOps.nil ?_
  refine W.cond rfl (fun hc11 => ?_) (fun hc11 => ?_)
  · try simp only [Bool.or_eq_true, Bool.or_eq_false_iff, Bool.and_eq_true, Bool.and_eq_false_iff, decide_eq_true_eq, decide_eq_false_iff_not, Bool.not_eq_true', Bool.not_eq_false', Int.not_lt, Int.not_le, List.length_map] at hc11
    have ht : timesT l gv = [] := timesT_bad hc11
    refine W.reg ?_
    refine XOps.s rfl rfl rfl (Q.move_d rfl) ?_
    refine XOps.s rfl rfl rfl (Q.assign_nil 1 rfl) ?_
    refine XOps.s rfl rfl rfl (Q.assign_d rfl) ?_
    refine XOps.nil ?_
    refine W.ret ?_
    refine ⟨_, hs, rfl, by repeat (first | exact HLe.refl _ | refine HLe.cons' (by first | rfl | (simp; done)) ?_ | refine HLe.pick 1 rfl (by first | rfl | (simp; done)) ?_ | refine HLe.pick 2 rfl (by first | rfl | (simp; done)) ?_ | refine HLe.pick 3 rfl (by first | rfl | (simp; done)) ?_ | refine HLe.pick 4 rfl (by first | rfl | (simp; done)) ?_ | refine HLe.pick 5 rfl (by first | rfl | (simp; done)) ?_ | refine HLe.skip _ ?_), ?_, rfl⟩
    first | (rw [ht]; rfl) | (rw [ht, h0]; rfl)
  · try simp only [Bool.or_eq_true, Bool.or_eq_false_iff, Bool.and_eq_true, Bool.and_eq_false_iff, decide_eq_true_eq, decide_eq_false_iff_not, Bool.not_eq_true', Bool.not_eq_false', Int.not_lt, Int.not_le, List.length_map] at hc11
    have h0 : checkA l gv = 0 := by omega
    have ht := timesT_ok h0
    obtain ⟨hg, hl, hn⟩ := checkA_zero h0
    refine W.skip ?_
    refine W.reg ?_
    refine XOps.s rfl rfl rfl (Q.move_d rfl) ?_
    refine XOps.s rfl rfl rfl (Q.ld_ptrn (k := 0) ag24 rfl rfl rfl) ?_
    refine XOps.s rfl rfl rfl (Q.call rfl Try.func23 go23 rfl (times_c l gv _ hg hl hn)) ?_
    refine XOps.s rfl rfl rfl (Q.assign_d rfl) ?_
    refine XOps.s rfl rfl rfl (Q.assign_d rfl) ?_
    refine XOps.nil ?_
    refine W.ret ?_
    refine ⟨_, hs, rfl, by repeat (first | exact HLe.refl _ | refine HLe.cons' (by first | rfl | (simp; done)) ?_ | refine HLe.pick 1 rfl (by first | rfl | (simp; done)) ?_ | refine HLe.pick 2 rfl (by first | rfl | (simp; done)) ?_ | refine HLe.pick 3 rfl (by first | rfl | (simp; done)) ?_ | refine HLe.pick 4 rfl (by first | rfl | (simp; done)) ?_ | refine HLe.pick 5 rfl (by first | rfl | (simp; done)) ?_ | refine HLe.skip _ ?_), ?_, rfl⟩
    first | (rw [ht]; rfl) | (rw [ht, h0]; rfl)

theorem times_fact (hs : Hp) : AC P 8 [.d (slI factL), .d (.agg (gD factG))] hs (fun r h => r = .tup [.d (slN [100, 190]), .d (.int .i64 0)] ∧ h = hs) :=
  (times2_c factL factG hs).mono fun r h ⟨h1, h2⟩ => ⟨by rw [h1, fact_times, fact_check], h2⟩

set_option maxHeartbeats 1000000 in
set_option maxRecDepth 100000 in
theorem fact_c (hs : Hp) : AC P 9 [] hs (fun r h => r = .d (.bool true) ∧ h = hs) := by
  refine AC.of 19 Try.func9 rfl rfl rfl ?_
  refine W.reg ?_
  refine XOps.s rfl rfl rfl (Q.assign_d rfl) ?_
  refine XOps.nil ?_
  refine W.reg ?_
  refine XOps.s rfl rfl rfl (Q.build pl32 tz32 tzd32 rfl) ?_
  refine XOps.s rfl rfl rfl (Q.build pl32 tz32 tzd32 rfl) ?_
  refine XOps.s rfl rfl rfl (Q.bsl sl22 (by decide) zr22 rfl zrd22 (by decide) rfl rfl) ?_
  refine XOps.s rfl rfl rfl (Q.buildArr ar23 tz23 tzd23 rfl) ?_
  refine XOps.s rfl rfl rfl (Q.buildArr ar24 tz24 tzd24 rfl) ?_
  refine XOps.s rfl rfl rfl (Q.call rfl Try.func8 go8 rfl (times_fact _)) ?_
  refine XOps.s rfl rfl rfl (Q.move_tup rfl) ?_
  refine XOps.s rfl rfl rfl (Q.extract rfl rfl) ?_
  refine XOps.s rfl rfl rfl (Q.extract rfl rfl) ?_
  refine XOps.s rfl rfl rfl (Q.assign_d rfl) ?_
  refine XOps.s rfl rfl rfl (Q.assign_d rfl) ?_
  refine XOps.nil ?_
  refine W.reg ?_
  refine XOps.s rfl rfl rfl (Q.move_d rfl) ?_
  refine XOps.s rfl rfl rfl (Q.eql rfl rfl) ?_
  refine XOps.s rfl rfl rfl (Q.move_d rfl) ?_
  refine XOps.gs rfl rfl rfl rfl rfl rfl rfl (fun hg => Q.move_d rfl) ?_
  refine XOps.gs rfl rfl rfl rfl rfl rfl rfl (fun hg => Q.bsl sl25 (by decide) zr25 rfl zrd25 (by decide) rfl rfl) ?_
  refine XOps.gs rfl rfl rfl rfl rfl rfl rfl (fun hg => Quiet.open 15 hg rfl (Quiet.open 16 hg rfl (Q.call rfl Try.func13 go13 rfl (equal_c [100, 190] [100, 190] _ (by decide))))) ?_
  refine XOps.s rfl rfl rfl (Q.pick_and rfl rfl rfl (fun h => by first | (rw [h]; rfl) | (rw [hg, h]; rfl) | (simp [h, hg]; done))) ?_
  refine XOps.s rfl rfl rfl (Q.assign_d rfl) ?_
  refine XOps.nil ?_
  refine W.ret ?_
  refine ⟨_, hs, rfl, by repeat (first | exact HLe.refl _ | refine HLe.cons' (by first | rfl | (simp; done)) ?_ | refine HLe.pick 1 rfl (by first | rfl | (simp; done)) ?_ | refine HLe.pick 2 rfl (by first | rfl | (simp; done)) ?_ | refine HLe.pick 3 rfl (by first | rfl | (simp; done)) ?_ | refine HLe.pick 4 rfl (by first | rfl | (simp; done)) ?_ | refine HLe.pick 5 rfl (by first | rfl | (simp; done)) ?_ | refine HLe.skip _ ?_), ?_, rfl⟩
  rfl

set_option maxHeartbeats 1000000 in
set_option maxRecDepth 100000 in
theorem gaps_c (l : List Item) (gv : Nat → Int) (hs : Hp) (hL : l.length ≤ 140737488351232) : AC P 3 [.d (slI l), .d (.agg (gD gv))] hs (fun r _ => r = .d (.bool true)) := by
  refine AC.of 106 Try.func3 rfl rfl rfl ?_
  refine W.reg ?_
  refine XOps.loud rfl (L.boxn rfl rfl) ?_
  rintro _ _ ⟨b3, rfl, rfl⟩
  refine XOps.s rfl rfl rfl (Q.assign_d rfl) ?_
  refine XOps.nil ?_
  refine W.reg ?_
  refine XOps.s rfl rfl rfl (Q.move_d rfl) ?_
  refine XOps.s rfl rfl rfl (Q.ld_ptrn (k := 0) ag24 rfl rfl rfl) ?_
  refine XOps.s rfl rfl rfl (Q.call rfl Try.func8 go8 rfl (times2_c l gv _)) ?_
  refine XOps.s rfl rfl rfl (Q.move_tup rfl) ?_
  refine XOps.s rfl rfl rfl (Q.extract rfl rfl) ?_
  refine XOps.s rfl rfl rfl (Q.extract rfl rfl) ?_
  refine XOps.s rfl rfl rfl (Q.assign_d rfl) ?_
  refine XOps.s rfl rfl rfl (Q.assign_d rfl) ?_
  refine XOps.nil ?_
  refine W.seq ?_
  refine W.reg ?_
  refine XOps.s rfl rfl rfl (Q.move_d rfl) ?_
  refine XOps.s rfl rfl rfl (Q.neq rfl rfl) ?_
  refine XOps.nil ?_
  refine W.cond rfl (fun hc20 => ?_) (fun hc20 => ?_)
  · try simp only [Bool.or_eq_true, Bool.or_eq_false_iff, Bool.and_eq_true, Bool.and_eq_false_iff, decide_eq_true_eq, decide_eq_false_iff_not, Bool.not_eq_true', Bool.not_eq_false', Int.not_lt, Int.not_le, List.length_map] at hc20
    have ht : timesT l gv = [] := timesT_bad hc20
    refine W.reg ?_
    refine XOps.s rfl rfl rfl (Q.call rfl Try.func9 go9 rfl (fact_c _)) ?_
    refine XOps.s rfl rfl rfl (Q.move_d rfl) ?_
    refine XOps.gs rfl rfl rfl rfl rfl rfl rfl (fun hg => Q.move_d rfl) ?_
    refine XOps.gs rfl rfl rfl rfl rfl rfl rfl (fun hg => Q.ld_ptrn (k := 0) ag24 rfl rfl rfl) ?_
    refine XOps.gs rfl rfl rfl rfl rfl rfl rfl (fun hg => Quiet.open 23 hg rfl (Quiet.open 24 hg rfl (Q.call rfl Try.func10 go10 rfl (check_c l gv _)))) ?_
    refine XOps.gs rfl rfl rfl rfl rfl rfl rfl (fun hg => Q.move_d rfl) ?_
    refine XOps.gs rfl rfl rfl rfl rfl rfl rfl (fun hg => Quiet.open 25 hg rfl (Quiet.open 26 hg rfl (Q.eql rfl rfl))) ?_
    refine XOps.s rfl rfl rfl (Q.pick_and rfl rfl rfl (fun h => by first | (rw [h]; rfl) | (rw [hg, h]; rfl) | (simp [h, hg]; done))) ?_
    refine XOps.s rfl rfl rfl (Q.move_d rfl) ?_
    refine XOps.gs rfl rfl rfl rfl rfl rfl rfl (fun hg => Q.move_d rfl) ?_
    refine XOps.gs rfl rfl rfl rfl rfl rfl rfl (fun hg => Quiet.open 30 hg rfl (Q.len_sl isl25 rfl)) ?_
    refine XOps.gs rfl rfl rfl rfl rfl rfl rfl (fun hg => Quiet.open 31 hg rfl (Q.eql rfl rfl)) ?_
    refine XOps.s rfl rfl rfl (Q.pick_and rfl rfl rfl (fun h => by first | (rw [h]; rfl) | (rw [hg, h]; rfl) | (simp [h, hg]; done))) ?_
    refine XOps.s rfl rfl rfl (Q.assign_d rfl) ?_
    refine XOps.nil ?_
    refine W.ret ?_
    refine ⟨_, hs, rfl, by repeat (first | exact HLe.refl _ | refine HLe.cons' (by first | rfl | (simp; done)) ?_ | refine HLe.pick 1 rfl (by first | rfl | (simp; done)) ?_ | refine HLe.pick 2 rfl (by first | rfl | (simp; done)) ?_ | refine HLe.pick 3 rfl (by first | rfl | (simp; done)) ?_ | refine HLe.pick 4 rfl (by first | rfl | (simp; done)) ?_ | refine HLe.pick 5 rfl (by first | rfl | (simp; done)) ?_ | refine HLe.skip _ ?_), ?_⟩
    first | rfl | (simp [ht]; done) | (simp [ht]; rfl)
  · try simp only [Bool.or_eq_true, Bool.or_eq_false_iff, Bool.and_eq_true, Bool.and_eq_false_iff, decide_eq_true_eq, decide_eq_false_iff_not, Bool.not_eq_true', Bool.not_eq_false', Int.not_lt, Int.not_le, List.length_map] at hc20
    have h0 : checkA l gv = 0 := by omega
    have ht := timesT_ok h0
    have htl : (timesT l gv).length = l.length := by rw [ht, timesS_length]
    obtain ⟨hg, hl, hn⟩ := checkA_zero h0
    refine W.skip ?_
    refine W.seq ?_
    refine W.reg ?_
    refine XOps.s rfl rfl rfl (Q.call rfl Try.func9 go9 rfl (fact_c _)) ?_
    refine XOps.s rfl rfl rfl (Q.not rfl) ?_
    refine XOps.s rfl rfl rfl (Q.move_d rfl) ?_
    refine XOps.gs rfl rfl rfl rfl rfl rfl rfl (fun hg => Q.move_d rfl) ?_
    refine XOps.gs rfl rfl rfl rfl rfl rfl rfl (fun hg => Quiet.open 37 hg rfl (Q.len_sl isl25 rfl)) ?_
    refine XOps.gs rfl rfl rfl rfl rfl rfl rfl (fun hg => Q.move_d rfl) ?_
    refine XOps.gs rfl rfl rfl rfl rfl rfl rfl (fun hg => Quiet.open 39 hg rfl (Q.len_sl isl22 rfl)) ?_
    refine XOps.gs rfl rfl rfl rfl rfl rfl rfl (fun hg => Quiet.open 38 hg rfl (Quiet.open 40 hg rfl (Q.neq rfl rfl))) ?_
    refine XOps.s rfl rfl rfl (Q.pick_or rfl rfl rfl (fun h => by first | (rw [h]; rfl) | (rw [hg, h]; rfl) | (simp [h, hg]; done))) ?_
    refine XOps.nil ?_
    refine W.cond rfl (fun hc42 => ?_) (fun hc42 => ?_)
    · try simp only [Bool.or_eq_true, Bool.or_eq_false_iff, Bool.and_eq_true, Bool.and_eq_false_iff, decide_eq_true_eq, decide_eq_false_iff_not, Bool.not_eq_true', Bool.not_eq_false', Int.not_lt, Int.not_le, List.length_map] at hc42
      exact absurd hc42 (by simp [htl])
    · try simp only [Bool.or_eq_true, Bool.or_eq_false_iff, Bool.and_eq_true, Bool.and_eq_false_iff, decide_eq_true_eq, decide_eq_false_iff_not, Bool.not_eq_true', Bool.not_eq_false', Int.not_lt, Int.not_le, List.length_map] at hc42
      refine W.skip ?_
      refine W.seq ?_
      refine W.reg ?_
      refine XOps.s rfl rfl rfl (Q.move_d rfl) ?_
      refine XOps.s rfl rfl rfl (Q.len_sl isl22 rfl) ?_
      refine XOps.s rfl rfl rfl (Q.move_d rfl) ?_
      refine XOps.nil ?_
      refine W.block ?_
      refine W.loop (ι := Nat) (fun i => [(0, .d (slI l)), (3, .ptr b3 0), (5, .d (slN (timesT l gv))), (43, .d (slI l)), (44, .d (.int .i64 l.length)), (45, .d (.int .i64 i))]) (fun i => (b3, .cells ((gD gv).map .d)) :: hs) (fun i => i ≤ l.length) (fun i => l.length - i) 0 ?_ ?_ ?_ ?_
      · exact Nat.zero_le _
      · exact ⟨by first | rfl | exact int_eq (by omega) | exact len_eq (by simp) | exact int_eq (by simp; done), by first | rfl | exact int_eq (by omega) | exact len_eq (by simp) | exact int_eq (by simp; done), by first | rfl | exact int_eq (by omega) | exact len_eq (by simp) | exact int_eq (by simp; done), by first | rfl | exact int_eq (by omega) | exact len_eq (by simp) | exact int_eq (by simp; done), by first | rfl | exact int_eq (by omega) | exact len_eq (by simp) | exact int_eq (by simp; done), by first | rfl | exact int_eq (by omega) | exact len_eq (by simp) | exact int_eq (by simp; done), trivial⟩
      · repeat (first | exact HLe.refl _ | refine HLe.cons' (by first | rfl | (simp; done)) ?_ | refine HLe.pick 1 rfl (by first | rfl | (simp; done)) ?_ | refine HLe.pick 2 rfl (by first | rfl | (simp; done)) ?_ | refine HLe.pick 3 rfl (by first | rfl | (simp; done)) ?_ | refine HLe.pick 4 rfl (by first | rfl | (simp; done)) ?_ | refine HLe.pick 5 rfl (by first | rfl | (simp; done)) ?_ | refine HLe.skip _ ?_)
      · rintro i hi
        try dsimp only
        refine W.reg ?_
        refine XOps.s rfl rfl rfl (Q.lss rfl rfl) ?_
        refine XOps.nil ?_
        refine W.seq ?_
        refine W.cond rfl (fun hc46 => ?_) (fun hc46 => ?_)
        · try simp only [Bool.or_eq_true, Bool.or_eq_false_iff, Bool.and_eq_true, Bool.and_eq_false_iff, decide_eq_true_eq, decide_eq_false_iff_not, Bool.not_eq_true', Bool.not_eq_false', Int.not_lt, Int.not_le, List.length_map] at hc46
          obtain ⟨x, hx⟩ : ∃ x, l[i]? = some x := ⟨_, List.getElem?_eq_getElem (by omega)⟩
          obtain ⟨ti, hti⟩ : ∃ y, (timesT l gv)[i]? = some y := ⟨_, List.getElem?_eq_getElem (by omega)⟩
          have hti2 := times_at (ht ▸ hti)
          refine W.skip ?_
          refine W.seq ?_
          refine W.block ?_
          refine W.reg ?_
          refine XOps.s rfl rfl rfl (Q.move_d rfl) ?_
          refine XOps.s rfl rfl rfl (Q.idx_sl sl22 (by decide) rfl rfl (by first | omega | (simp only [List.length_map]; omega)) (by first | exact map_at (by assumption) | exact map_at0 (by assumption) | assumption)) ?_
          refine XOps.s rfl rfl rfl (Q.ld_dpn ag32 rfl rfl) ?_
          (refine XOps.loud rfl (L.alloc tz32 rfl rfl) ?_; rintro _ _ ⟨b8, rfl, rfl⟩)
          refine XOps.s rfl rfl rfl (Q.assign_d rfl) ?_
          refine XOps.loud rfl (L.storen (k := 0) ag32 rfl rfl rfl rfl rfl) ?_
          rintro _ _ ⟨rfl, rfl⟩
          refine XOps.nil ?_
          refine W.drawreg 7 follows (by kernel_rfl) ?_
          refine Chain.cons _ (GQ.q rfl (Q.move_d rfl)) rfl ?_
          refine Chain.cons _ (GQ.q rfl (Q.move_d rfl)) rfl ?_
          refine Chain.cons _ (GQ.q rfl (Q.idx_sl sl25 (by decide) rfl rfl (by first | omega | (simp only [List.length_map]; omega)) (by first | exact map_at (by assumption) | exact map_at0 (by assumption) | assumption))) rfl ?_
          refine Chain.cons _ (GQ.q rfl (Q.ld_dp ag3 rfl rfl)) rfl ?_
          refine Chain.cons _ (GQ.q rfl (Q.fld_ptr fl32_2 rfl)) rfl ?_
          refine Chain.cons _ (GQ.q rfl (Q.ld_ptr (k := 0) ag3 rfl rfl rfl)) rfl ?_
          refine Chain.cons _ (GQ.q rfl (Q.eql rfl rfl)) rfl ?_
          refine Chain.nil ?_
          refine XOps.s rfl rfl rfl (Q.assign_d rfl) ?_
          refine XOps.nil ?_
          refine W.seq ?_
          refine W.reg ?_
          refine XOps.s rfl rfl rfl (Q.move_d rfl) ?_
          refine XOps.s rfl rfl rfl (Q.move_d rfl) ?_
          refine XOps.s rfl rfl rfl (Q.cut_slm sl22 rfl rfl rfl (by omega) (by omega) (by omega)) ?_
          refine XOps.s rfl rfl rfl (Q.len_sl isl22 rfl) ?_
          refine XOps.s rfl rfl rfl (Q.move_d rfl) ?_
          refine XOps.nil ?_
          refine W.block ?_
          refine W.loop (ι := Nat × Bool) (fun q => [(0, .d (slI l)), (3, .ptr b3 0), (5, .d (slN (timesT l gv))), (7, .d (.int .i64 i)), (8, .ptr b8 0), (9, .d (.bool q.2)), (43, .d (slI l)), (44, .d (.int .i64 l.length)), (45, .d (.int .i64 i)), (59, .d (.sl 4 ((l.take i).map Item.enc))), (60, .d (.int .i64 ((l.take i).length : Nat))), (61, .d (.int .i64 q.1))]) (fun q => (b8, .cells [.d (.str x.call), .d (.int .i64 x.wake), .d (.int .i64 x.ready), .d (.int .i64 x.slot)]) :: (b3, .cells ((gD gv).map .d)) :: hs) (fun q => q.1 ≤ i ∧ (tin l gv (tlist l gv i) i q.1 = ti → q.2 = true)) (fun q => i - q.1) (0, decide (ti = x.ready)) ?_ ?_ ?_ ?_
          · refine ⟨Nat.zero_le _, fun h => ?_⟩
            simp only [tin] at h
            simp [← h, hx]
          · exact ⟨by first | rfl | exact int_eq (by omega) | exact len_eq (by simp) | exact int_eq (by simp; done), by first | rfl | exact int_eq (by omega) | exact len_eq (by simp) | exact int_eq (by simp; done), by first | rfl | exact int_eq (by omega) | exact len_eq (by simp) | exact int_eq (by simp; done), by first | rfl | exact int_eq (by omega) | exact len_eq (by simp) | exact int_eq (by simp; done), by first | rfl | exact int_eq (by omega) | exact len_eq (by simp) | exact int_eq (by simp; done), by first | rfl | exact int_eq (by omega) | exact len_eq (by simp) | exact int_eq (by simp; done), by first | rfl | exact int_eq (by omega) | exact len_eq (by simp) | exact int_eq (by simp; done), by first | rfl | exact int_eq (by omega) | exact len_eq (by simp) | exact int_eq (by simp; done), by first | rfl | exact int_eq (by omega) | exact len_eq (by simp) | exact int_eq (by simp; done), by first | rfl | exact int_eq (by omega) | exact len_eq (by simp) | exact int_eq (by simp; done), by exact len_eq (by simp), by first | rfl | exact int_eq (by omega) | exact len_eq (by simp) | exact int_eq (by simp; done), trivial⟩
          · repeat (first | exact HLe.refl _ | refine HLe.cons' (by first | rfl | (simp; done)) ?_ | refine HLe.pick 1 rfl (by first | rfl | (simp; done)) ?_ | refine HLe.pick 2 rfl (by first | rfl | (simp; done)) ?_ | refine HLe.pick 3 rfl (by first | rfl | (simp; done)) ?_ | refine HLe.pick 4 rfl (by first | rfl | (simp; done)) ?_ | refine HLe.pick 5 rfl (by first | rfl | (simp; done)) ?_ | refine HLe.skip _ ?_)
          · rintro ⟨j, p⟩ ⟨hj, hJ⟩
            try dsimp only at hj hJ ⊢
            refine W.reg ?_
            refine XOps.s rfl rfl rfl (Q.lss rfl rfl) ?_
            refine XOps.nil ?_
            refine W.seq ?_
            refine W.cond rfl (fun hc62 => ?_) (fun hc62 => ?_)
            · try simp only [Bool.or_eq_true, Bool.or_eq_false_iff, Bool.and_eq_true, Bool.and_eq_false_iff, decide_eq_true_eq, decide_eq_false_iff_not, Bool.not_eq_true', Bool.not_eq_false', Int.not_lt, Int.not_le, List.length_map] at hc62
              simp only [Int.toNat_natCast, Int.toNat_zero, List.drop_zero, List.length_take, List.length_map] at hc62
              have hji : j < i := by omega
              obtain ⟨y, hy⟩ : ∃ y, l[j]? = some y := ⟨_, List.getElem?_eq_getElem (by omega)⟩
              have hyt : (l.take i)[j]? = some y := by rw [List.getElem?_take, if_pos hji]; exact hy
              obtain ⟨tj, htj⟩ : ∃ y, (timesT l gv)[j]? = some y := ⟨_, List.getElem?_eq_getElem (by omega)⟩
              have hw1 := hl x (List.mem_of_getElem? hx)
              have hw2 := hl y (List.mem_of_getElem? hy)
              unfold itemOk at hw1 hw2
              have hgb := hg (4 * y.wake.toNat + x.wake.toNat) (by omega)
              have htb := times_before (ht ▸ htj) hji (by omega)
              have hstep : tin l gv (tlist l gv i) i (j + 1) = max (tin l gv (tlist l gv i) i j) (tj + gv (4 * y.wake.toNat + x.wake.toNat)) := by
                simp only [tin, htb]; simp [hx, hy]
              have hmono := tin_mono l gv (tlist l gv i) i i (j + 1) (by omega)
              have htjb := tlist_bound hg hl l.length (Nat.le_refl _) tj (by have := List.mem_of_getElem? htj; rw [ht] at this; exact this)
              refine W.skip ?_
              refine W.seq ?_
              refine W.block ?_
              refine W.reg ?_
              refine XOps.s rfl rfl rfl (Q.move_d rfl) ?_
              refine XOps.s rfl rfl rfl (Q.idx_sl sl22 (by decide) rfl rfl (by omega) (by exact map_at hyt)) ?_
              refine XOps.s rfl rfl rfl (Q.ld_dpn ag32 rfl rfl) ?_
              (refine XOps.loud rfl (L.alloc tz32 rfl rfl) ?_; rintro _ _ ⟨b11, rfl, rfl⟩)
              refine XOps.s rfl rfl rfl (Q.assign_d rfl) ?_
              refine XOps.loud rfl (L.storen (k := 0) ag32 rfl rfl rfl rfl rfl) ?_
              rintro _ _ ⟨rfl, rfl⟩
              refine XOps.nil ?_
              refine W.drawreg 12 follows (by kernel_rfl) ?_
              refine Chain.cons _ (GQ.q rfl (Q.move_d rfl)) rfl ?_
              refine Chain.cons _ (GQ.q rfl (Q.move_d rfl)) rfl ?_
              refine Chain.cons _ (GQ.q rfl (Q.idx_sl sl25 (by decide) rfl rfl (by first | omega | (simp only [List.length_map]; omega)) (by first | exact map_at (by assumption) | exact map_at0 (by assumption) | assumption))) rfl ?_
              refine Chain.cons _ (GQ.q rfl (Q.ld_dp ag3 rfl rfl)) rfl ?_
              refine Chain.cons _ (GQ.q rfl (Q.fld_ptr fl32_1 rfl)) rfl ?_
              refine Chain.cons _ (GQ.q rfl (Q.ld_ptr (k := 0) ag3 rfl rfl rfl)) rfl ?_
              refine Chain.cons _ (GQ.q rfl (Q.fld_ptr fl32_1 rfl)) rfl ?_
              refine Chain.cons _ (GQ.q rfl (Q.ld_ptr (k := 1) ag3 rfl rfl rfl)) rfl ?_
              refine Chain.cons _ (GQ.q rfl (Q.idx_arr ar24 rfl rfl (by omega) (by omega))) rfl ?_
              refine Chain.cons _ (GQ.q rfl (Q.idx_arr ar23 rfl rfl (by omega) (by omega))) rfl ?_
              refine Chain.cons _ (GQ.q rfl (Q.ld_ptr (k := 2) ag3 rfl rfl (gD_at gv (by omega) (by omega) (by omega) (by omega)))) rfl ?_
              refine Chain.cons _ (GQ.q rfl (Q.add rfl rfl (wi64 (by first | omega | (dsimp only; omega) | (simp only [List.length_map]; omega)) (by first | omega | (dsimp only; omega) | (simp only [List.length_map]; omega))))) rfl ?_
              refine Chain.nil ?_
              refine XOps.s rfl rfl rfl (Q.assign_d rfl) ?_
              refine XOps.nil ?_
              refine W.seq ?_
              refine W.reg ?_
              refine XOps.s rfl rfl rfl (Q.move_d rfl) ?_
              refine XOps.s rfl rfl rfl (Q.move_d rfl) ?_
              refine XOps.s rfl rfl rfl (Q.idx_sl sl25 (by decide) rfl rfl (by first | omega | (simp only [List.length_map]; omega)) (by first | exact map_at (by assumption) | exact map_at0 (by assumption) | assumption)) ?_
              refine XOps.s rfl rfl rfl (Q.ld_dp ag3 rfl rfl) ?_
              refine XOps.s rfl rfl rfl (Q.move_d rfl) ?_
              refine XOps.s rfl rfl rfl (Q.lss rfl rfl) ?_
              refine XOps.nil ?_
              refine W.cond rfl (fun hc83 => ?_) (fun hc83 => ?_)
              · try simp only [Bool.or_eq_true, Bool.or_eq_false_iff, Bool.and_eq_true, Bool.and_eq_false_iff, decide_eq_true_eq, decide_eq_false_iff_not, Bool.not_eq_true', Bool.not_eq_false', Int.not_lt, Int.not_le, List.length_map] at hc83
                exact absurd hc83 (by omega)
              · try simp only [Bool.or_eq_true, Bool.or_eq_false_iff, Bool.and_eq_true, Bool.and_eq_false_iff, decide_eq_true_eq, decide_eq_false_iff_not, Bool.not_eq_true', Bool.not_eq_false', Int.not_lt, Int.not_le, List.length_map] at hc83
                refine W.skip ?_
                refine W.region ?_
                refine XOps.s rfl rfl rfl (Q.move_d rfl) ?_
                refine XOps.s rfl rfl rfl (Q.move_d rfl) ?_
                refine XOps.gs rfl rfl rfl rfl rfl rfl rfl (fun hg => Q.move_d rfl) ?_
                refine XOps.gs rfl rfl rfl rfl rfl rfl rfl (fun hg => Q.move_d rfl) ?_
                refine XOps.gs rfl rfl rfl rfl rfl rfl rfl (fun hg => Quiet.open 86 hg rfl (Quiet.open 87 hg rfl (Q.idx_sl sl25 (by decide) rfl rfl (by first | omega | (simp only [List.length_map]; omega)) (by first | exact map_at (by assumption) | exact map_at0 (by assumption) | assumption)))) ?_
                refine XOps.gs rfl rfl rfl rfl rfl rfl rfl (fun hg => Quiet.open 88 hg rfl (Q.ld_dp ag3 rfl rfl)) ?_
                refine XOps.gs rfl rfl rfl rfl rfl rfl rfl (fun hg => Q.move_d rfl) ?_
                refine XOps.gs rfl rfl rfl rfl rfl rfl rfl (fun hg => Quiet.open 89 hg rfl (Quiet.open 90 hg rfl (Q.eql rfl rfl))) ?_
                refine XOps.s rfl rfl rfl (Q.pick_or rfl rfl rfl (fun h => by first | (rw [h]; rfl) | (rw [hg, h]; rfl) | (simp [h, hg]; done))) ?_
                refine XOps.s rfl rfl rfl (Q.assign_d rfl) ?_
                refine XOps.nil ?_
                refine W.region ?_
                refine XOps.s rfl rfl rfl (Q.add rfl rfl (wi64 (by first | omega | (dsimp only; omega) | (simp only [List.length_map]; omega)) (by first | omega | (dsimp only; omega) | (simp only [List.length_map]; omega)))) ?_
                refine XOps.s rfl rfl rfl (Q.move_d rfl) ?_
                refine XOps.nil ?_
                refine ⟨(j + 1, p || decide (ti = tj + gv (4 * y.wake.toNat + x.wake.toNat))), ?_, ?_, ?_, ?_⟩
                · refine ⟨by show j + 1 ≤ i; omega, fun h => ?_⟩
                  show (p || decide _) = true
                  simp only at h
                  rw [hstep] at h
                  rw [Bool.or_eq_true, decide_eq_true_eq]
                  rcases (show tin l gv (tlist l gv i) i j = ti ∨ ti = tj + gv (4 * y.wake.toNat + x.wake.toNat) by omega) with h | h
                  · exact .inl (hJ h)
                  · exact .inr h
                · show i - (j + 1) < i - j; omega
                · exact ⟨by first | rfl | exact int_eq (by omega) | exact len_eq (by simp) | exact int_eq (by simp; done), by first | rfl | exact int_eq (by omega) | exact len_eq (by simp) | exact int_eq (by simp; done), by first | rfl | exact int_eq (by omega) | exact len_eq (by simp) | exact int_eq (by simp; done), by first | rfl | exact int_eq (by omega) | exact len_eq (by simp) | exact int_eq (by simp; done), by first | rfl | exact int_eq (by omega) | exact len_eq (by simp) | exact int_eq (by simp; done), by first | rfl | exact int_eq (by omega) | exact len_eq (by simp) | exact int_eq (by simp; done), by first | rfl | exact int_eq (by omega) | exact len_eq (by simp) | exact int_eq (by simp; done), by first | rfl | exact int_eq (by omega) | exact len_eq (by simp) | exact int_eq (by simp; done), by first | rfl | exact int_eq (by omega) | exact len_eq (by simp) | exact int_eq (by simp; done), by first | rfl | exact int_eq (by omega) | exact len_eq (by simp) | exact int_eq (by simp; done), by first | rfl | exact int_eq (by omega) | exact len_eq (by simp) | exact int_eq (by simp; done), by first | rfl | exact int_eq (by omega) | exact len_eq (by simp) | exact int_eq (by simp; done), trivial⟩
                · repeat (first | exact HLe.refl _ | refine HLe.cons' (by first | rfl | (simp; done)) ?_ | refine HLe.pick 1 rfl (by first | rfl | (simp; done)) ?_ | refine HLe.pick 2 rfl (by first | rfl | (simp; done)) ?_ | refine HLe.pick 3 rfl (by first | rfl | (simp; done)) ?_ | refine HLe.pick 4 rfl (by first | rfl | (simp; done)) ?_ | refine HLe.pick 5 rfl (by first | rfl | (simp; done)) ?_ | refine HLe.skip _ ?_)
            · try simp only [Bool.or_eq_true, Bool.or_eq_false_iff, Bool.and_eq_true, Bool.and_eq_false_iff, decide_eq_true_eq, decide_eq_false_iff_not, Bool.not_eq_true', Bool.not_eq_false', Int.not_lt, Int.not_le, List.length_map] at hc62
              simp only [Int.toNat_natCast, Int.toNat_zero, List.drop_zero, List.length_take, List.length_map] at hc62
              have hji : i = j := by omega
              subst hji
              have htight : p = true := hJ hti2.symm
              subst htight
              have h00 := tin_mono l gv (tlist l gv i) i i 0 (Nat.zero_le _)
              simp only [tin] at h00
              have hxr : (l.getD i d0).ready = x.ready := by simp [hx]
              rw [hxr] at h00
              refine W.exit ?_
              refine W.drawreg 11 follows (by kernel_rfl) ?_
              refine Chain.cons _ (GQ.q rfl (Q.move_d rfl)) rfl ?_
              refine Chain.cons _ (GQ.q rfl (Q.not rfl)) rfl ?_
              refine Chain.cons _ (GQ.q rfl (Q.move_d rfl)) rfl ?_
              refine Chain.cons _ (GQ.g rfl rfl rfl rfl rfl (fun hg => Q.move_d rfl)) rfl ?_
              refine Chain.cons _ (GQ.g rfl rfl rfl rfl rfl (fun hg => Q.move_d rfl)) rfl ?_
              refine Chain.cons _ (GQ.g rfl rfl rfl rfl rfl (fun hg => Quiet.open 97 hg rfl (Quiet.open 98 hg rfl (Q.idx_sl sl25 (by decide) rfl rfl (by first | omega | (simp only [List.length_map]; omega)) (by first | exact map_at (by assumption) | exact map_at0 (by assumption) | assumption))))) rfl ?_
              refine Chain.cons _ (GQ.g rfl rfl rfl rfl rfl (fun hg => Quiet.open 99 hg rfl (Q.ld_dp ag3 rfl rfl))) rfl ?_
              refine Chain.cons _ (GQ.g rfl rfl rfl rfl rfl (fun hg => Q.fld_ptr fl32_2 rfl)) rfl ?_
              refine Chain.cons _ (GQ.g rfl rfl rfl rfl rfl (fun hg => Quiet.open 101 hg rfl (Q.ld_ptr (k := 0) ag3 rfl rfl rfl))) rfl ?_
              refine Chain.cons _ (GQ.g rfl rfl rfl rfl rfl (fun hg => Quiet.open 100 hg rfl (Quiet.open 102 hg rfl (Q.lss rfl rfl)))) rfl ?_
              refine Chain.cons _ (GQ.q rfl (Q.pick_or rfl rfl rfl (fun h => by first | (rw [h]; rfl) | (rw [hg, h]; rfl) | (simp [h, hg]; done)))) rfl ?_
              refine Chain.nil ?_
              refine XOps.nil ?_
              refine W.cond rfl (fun hc104 => ?_) (fun hc104 => ?_)
              · try simp only [Bool.or_eq_true, Bool.or_eq_false_iff, Bool.and_eq_true, Bool.and_eq_false_iff, decide_eq_true_eq, decide_eq_false_iff_not, Bool.not_eq_true', Bool.not_eq_false', Int.not_lt, Int.not_le, List.length_map] at hc104
                exact absurd hc104 (by simp; omega)
              · try simp only [Bool.or_eq_true, Bool.or_eq_false_iff, Bool.and_eq_true, Bool.and_eq_false_iff, decide_eq_true_eq, decide_eq_false_iff_not, Bool.not_eq_true', Bool.not_eq_false', Int.not_lt, Int.not_le, List.length_map] at hc104
                refine W.skip ?_
                refine W.region ?_
                refine XOps.s rfl rfl rfl (Q.add rfl rfl (wi64 (by first | omega | (dsimp only; omega) | (simp only [List.length_map]; omega)) (by first | omega | (dsimp only; omega) | (simp only [List.length_map]; omega)))) ?_
                refine XOps.s rfl rfl rfl (Q.move_d rfl) ?_
                refine XOps.nil ?_
                refine ⟨i + 1, ?_, ?_, ?_, ?_⟩
                · omega
                · omega
                · exact ⟨by first | rfl | exact int_eq (by omega) | exact len_eq (by simp) | exact int_eq (by simp; done), by first | rfl | exact int_eq (by omega) | exact len_eq (by simp) | exact int_eq (by simp; done), by first | rfl | exact int_eq (by omega) | exact len_eq (by simp) | exact int_eq (by simp; done), by first | rfl | exact int_eq (by omega) | exact len_eq (by simp) | exact int_eq (by simp; done), by first | rfl | exact int_eq (by omega) | exact len_eq (by simp) | exact int_eq (by simp; done), by first | rfl | exact int_eq (by omega) | exact len_eq (by simp) | exact int_eq (by simp; done), trivial⟩
                · repeat (first | exact HLe.refl _ | refine HLe.cons' (by first | rfl | (simp; done)) ?_ | refine HLe.pick 1 rfl (by first | rfl | (simp; done)) ?_ | refine HLe.pick 2 rfl (by first | rfl | (simp; done)) ?_ | refine HLe.pick 3 rfl (by first | rfl | (simp; done)) ?_ | refine HLe.pick 4 rfl (by first | rfl | (simp; done)) ?_ | refine HLe.pick 5 rfl (by first | rfl | (simp; done)) ?_ | refine HLe.skip _ ?_)
        · try simp only [Bool.or_eq_true, Bool.or_eq_false_iff, Bool.and_eq_true, Bool.and_eq_false_iff, decide_eq_true_eq, decide_eq_false_iff_not, Bool.not_eq_true', Bool.not_eq_false', Int.not_lt, Int.not_le, List.length_map] at hc46
          refine W.exit ?_
          refine W.reg ?_
          refine XOps.s rfl rfl rfl (Q.assign_d rfl) ?_
          refine XOps.nil ?_
          refine W.ret ?_
          refine ⟨_, hs, rfl, by repeat (first | exact HLe.refl _ | refine HLe.cons' (by first | rfl | (simp; done)) ?_ | refine HLe.pick 1 rfl (by first | rfl | (simp; done)) ?_ | refine HLe.pick 2 rfl (by first | rfl | (simp; done)) ?_ | refine HLe.pick 3 rfl (by first | rfl | (simp; done)) ?_ | refine HLe.pick 4 rfl (by first | rfl | (simp; done)) ?_ | refine HLe.pick 5 rfl (by first | rfl | (simp; done)) ?_ | refine HLe.skip _ ?_), ?_⟩
          first | rfl | (simp [ht]; done) | (simp [ht]; rfl)
end Go.Proofs.YtiibdlifdneagaaA
