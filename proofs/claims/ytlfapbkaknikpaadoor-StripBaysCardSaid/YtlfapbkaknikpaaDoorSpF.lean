/- Move of package strip. -/
import Derived.Test.YtlfapbkaknikpaaDoorFrB
import Derived.Test.YtlfapbkaknikpaaDoorSpE
import Derived.Test.YtlfapbkaknikpaaDoorSt5
import Derived.Test.YtlfapbkaknikpaaDoorSt6
set_option linter.unusedVariables false
set_option linter.unusedSimpArgs false
set_option linter.unnecessarySimpa false
namespace Go.Proofs.YtlfapbkaknikpaaDoorA.FSpF
open Go
theorem ag22 : tAgg P 22 = some ((false, 1)) := by kernel_rfl
theorem ag3 : tAgg P 3 = some ((false, 1)) := by kernel_rfl
theorem fl24_4 : tFld P 24 4 = some (4) := by kernel_rfl
theorem fl44_0 : tFld P 44 0 = some (0) := by kernel_rfl
theorem go18 : callGo Go.Proofs.Tryd.f18 = true := by kernel_rfl
theorem go19 : callGo Go.Proofs.Tryd.f19 = true := by kernel_rfl
theorem go20 : callGo Go.Proofs.Tryd.f20 = true := by kernel_rfl
theorem sl22 : tSl P 22 = some (5) := by kernel_rfl
end Go.Proofs.YtlfapbkaknikpaaDoorA.FSpF
namespace Go.Proofs.YtlfapbkaknikpaaDoorA
open Go FSpF
attribute [local irreducible] XOps Quiet Loud W AC GQ DT
set_option maxHeartbeats 1000000 in
set_option maxRecDepth 100000 in
theorem perm_c (x y : Int) (hs : Hp) : AC P 20 [.d (.int .i64 x), .d (.int .i64 y)] hs (fun r h => r = .d (.bool (prB x y)) ∧ h = hs) := by
  refine AC.of 26 Tryd.func20 rfl rfl rfl ?_
  refine W.reg ?_
  refine XOps.s rfl rfl rfl (Q.assign_d rfl) ?_
  refine XOps.nil ?_
  refine W.seq ?_
  refine W.reg ?_
  refine XOps.s rfl rfl rfl (Q.move_d rfl) ?_
  refine XOps.nil ?_
  refine W.block ?_
  refine W.reg ?_
  refine XOps.s rfl rfl rfl (Q.eql rfl rfl) ?_
  refine XOps.s rfl rfl rfl (Q.assign_d rfl) ?_
  refine XOps.nil ?_
  refine W.cond rfl (fun hc6 => ?_) (fun hc6 => ?_)
  · try simp only [Bool.or_eq_true, Bool.or_eq_false_iff, Bool.and_eq_true, Bool.and_eq_false_iff, decide_eq_true_eq, decide_eq_false_iff_not, Bool.not_eq_true', Bool.not_eq_false', Int.not_lt, Int.not_le, List.length_map] at hc6
    have hE : prB x y = decide (y = 1) := if_pos (by omega)
    rw [hE]
    refine W.reg ?_
    refine XOps.s rfl rfl rfl (Q.move_d rfl) ?_
    refine XOps.s rfl rfl rfl (Q.eql rfl rfl) ?_
    refine XOps.s rfl rfl rfl (Q.assign_d rfl) ?_
    refine XOps.nil ?_
    refine W.ret ?_
    exact ⟨_, hs, rfl, HLe.refl _, rfl, rfl⟩
  · try simp only [Bool.or_eq_true, Bool.or_eq_false_iff, Bool.and_eq_true, Bool.and_eq_false_iff, decide_eq_true_eq, decide_eq_false_iff_not, Bool.not_eq_true', Bool.not_eq_false', Int.not_lt, Int.not_le, List.length_map] at hc6
    refine W.reg ?_
    refine XOps.s rfl rfl rfl (Q.eql rfl rfl) ?_
    refine XOps.s rfl rfl rfl (Q.assign_d rfl) ?_
    refine XOps.nil ?_
    refine W.cond rfl (fun hc10 => ?_) (fun hc10 => ?_)
    · try simp only [Bool.or_eq_true, Bool.or_eq_false_iff, Bool.and_eq_true, Bool.and_eq_false_iff, decide_eq_true_eq, decide_eq_false_iff_not, Bool.not_eq_true', Bool.not_eq_false', Int.not_lt, Int.not_le, List.length_map] at hc10
      have hE : prB x y = (decide (y = 2) || decide (y = 3)) := by unfold prB; rw [if_neg (by omega), if_pos (by omega)]
      rw [hE]
      refine W.reg ?_
      refine XOps.s rfl rfl rfl (Q.move_d rfl) ?_
      refine XOps.s rfl rfl rfl (Q.eql rfl rfl) ?_
      refine XOps.s rfl rfl rfl (Q.move_d rfl) ?_
      refine XOps.gs rfl rfl rfl rfl rfl rfl rfl (fun hg => Q.move_d rfl) ?_
      refine XOps.gs rfl rfl rfl rfl rfl rfl rfl (fun hg => Quiet.open 15 hg rfl (Q.eql rfl rfl)) ?_
      refine XOps.s rfl rfl rfl (Q.pick_or rfl rfl rfl (fun h => by first | (rw [h]; rfl) | (rw [hg, h]; rfl) | (simp [h, hg]; done))) ?_
      refine XOps.s rfl rfl rfl (Q.assign_d rfl) ?_
      refine XOps.nil ?_
      refine W.ret ?_
      exact ⟨_, hs, rfl, HLe.refl _, rfl, rfl⟩
    · try simp only [Bool.or_eq_true, Bool.or_eq_false_iff, Bool.and_eq_true, Bool.and_eq_false_iff, decide_eq_true_eq, decide_eq_false_iff_not, Bool.not_eq_true', Bool.not_eq_false', Int.not_lt, Int.not_le, List.length_map] at hc10
      refine W.reg ?_
      refine XOps.s rfl rfl rfl (Q.eql rfl rfl) ?_
      refine XOps.s rfl rfl rfl (Q.assign_d rfl) ?_
      refine XOps.nil ?_
      refine W.cond rfl (fun hc18 => ?_) (fun hc18 => ?_)
      · try simp only [Bool.or_eq_true, Bool.or_eq_false_iff, Bool.and_eq_true, Bool.and_eq_false_iff, decide_eq_true_eq, decide_eq_false_iff_not, Bool.not_eq_true', Bool.not_eq_false', Int.not_lt, Int.not_le, List.length_map] at hc18
        have hE : prB x y = (decide (y = 1) || decide (y = 3)) := by unfold prB; rw [if_neg (by omega), if_neg (by omega), if_pos (by omega)]
        rw [hE]
        refine W.reg ?_
        refine XOps.s rfl rfl rfl (Q.move_d rfl) ?_
        refine XOps.s rfl rfl rfl (Q.eql rfl rfl) ?_
        refine XOps.s rfl rfl rfl (Q.move_d rfl) ?_
        refine XOps.gs rfl rfl rfl rfl rfl rfl rfl (fun hg => Q.move_d rfl) ?_
        refine XOps.gs rfl rfl rfl rfl rfl rfl rfl (fun hg => Quiet.open 23 hg rfl (Q.eql rfl rfl)) ?_
        refine XOps.s rfl rfl rfl (Q.pick_or rfl rfl rfl (fun h => by first | (rw [h]; rfl) | (rw [hg, h]; rfl) | (simp [h, hg]; done))) ?_
        refine XOps.s rfl rfl rfl (Q.assign_d rfl) ?_
        refine XOps.nil ?_
        refine W.ret ?_
        exact ⟨_, hs, rfl, HLe.refl _, rfl, rfl⟩
      · try simp only [Bool.or_eq_true, Bool.or_eq_false_iff, Bool.and_eq_true, Bool.and_eq_false_iff, decide_eq_true_eq, decide_eq_false_iff_not, Bool.not_eq_true', Bool.not_eq_false', Int.not_lt, Int.not_le, List.length_map] at hc18
        have hE : prB x y = false := by unfold prB; rw [if_neg (by omega), if_neg (by omega), if_neg (by omega)]
        rw [hE]
        refine W.skip ?_
        refine W.reg ?_
        refine XOps.s rfl rfl rfl (Q.assign_d rfl) ?_
        refine XOps.nil ?_
        refine W.ret ?_
        exact ⟨_, hs, rfl, HLe.refl _, rfl, rfl⟩

set_option maxHeartbeats 4000000 in
set_option maxRecDepth 100000 in
theorem move_c (b : Nat) (l : List ST) (f : Nat) (c : ByteArray) (q : Int) (hs : Hp) (hl : l.length ≤ 900) : AC P 10 [.ptr b 0, .d (.str c), .d (.int .i64 q)] (stH b l f hs) (fun r h => r = .d (.int .i64 (mvE l c q)) ∧ h = stH b (mvL l c q) f hs) := by
  refine AC.of 46 Tryd.func10 rfl rfl rfl ?_
  refine W.reg ?_
  refine XOps.s rfl rfl rfl (Q.assign_d rfl) ?_
  refine XOps.nil ?_
  refine W.reg ?_
  refine XOps.s rfl rfl rfl (Q.move_ptr rfl) ?_
  refine XOps.s rfl rfl rfl (Q.move_d rfl) ?_
  refine XOps.s rfl rfl rfl (Q.call rfl Tryd.func18 go18 rfl (find_c b l f c hs (by omega))) ?_
  refine XOps.s rfl rfl rfl (Q.assign_d rfl) ?_
  refine XOps.nil ?_
  refine W.seq ?_
  refine W.block ?_
  refine W.reg ?_
  refine XOps.s rfl rfl rfl (Q.move_d rfl) ?_
  refine XOps.s rfl rfl rfl (Q.lss rfl rfl) ?_
  refine XOps.s rfl rfl rfl (Q.move_d rfl) ?_
  refine XOps.gs rfl rfl rfl rfl rfl rfl rfl (fun hg => Q.move_d rfl) ?_
  refine XOps.gs rfl rfl rfl rfl rfl rfl rfl (fun hg => Quiet.open 15 hg rfl (Q.geq rfl rfl)) ?_
  refine XOps.s rfl rfl rfl (Q.pick_or rfl rfl rfl (fun h => by first | (rw [h]; rfl) | (rw [hg, h]; rfl) | (simp [h, hg]; done))) ?_
  refine XOps.s rfl rfl rfl (Q.assign_d rfl) ?_
  refine XOps.nil ?_
  refine W.cond rfl (fun hc11 => ?_) (fun hc11 => ?_)
  · try simp only [Bool.or_eq_true, Bool.or_eq_false_iff, Bool.and_eq_true, Bool.and_eq_false_iff, decide_eq_true_eq, decide_eq_false_iff_not, Bool.not_eq_true', Bool.not_eq_false', Int.not_lt, Int.not_le, List.length_map] at hc11
    have hE : mvE l c q = 4 := if_pos (by omega)
    have hV : mvL l c q = l := if_pos (by omega)
    rw [hE, hV]
    refine W.reg ?_
    refine XOps.s rfl rfl rfl (Q.assign_d rfl) ?_
    refine XOps.nil ?_
    refine W.ret ?_
    exact ⟨_, stH b l f hs, rfl, HLe.refl _, rfl, rfl⟩
  · try simp only [Bool.or_eq_true, Bool.or_eq_false_iff, Bool.and_eq_true, Bool.and_eq_false_iff, decide_eq_true_eq, decide_eq_false_iff_not, Bool.not_eq_true', Bool.not_eq_false', Int.not_lt, Int.not_le, List.length_map] at hc11
    refine W.reg ?_
    refine XOps.s rfl rfl rfl (Q.move_d rfl) ?_
    refine XOps.s rfl rfl rfl (Q.lss rfl rfl) ?_
    refine XOps.s rfl rfl rfl (Q.assign_d rfl) ?_
    refine XOps.nil ?_
    refine W.cond rfl (fun hc18 => ?_) (fun hc18 => ?_)
    · try simp only [Bool.or_eq_true, Bool.or_eq_false_iff, Bool.and_eq_true, Bool.and_eq_false_iff, decide_eq_true_eq, decide_eq_false_iff_not, Bool.not_eq_true', Bool.not_eq_false', Int.not_lt, Int.not_le, List.length_map] at hc18
      have hE : mvE l c q = 8 := by unfold mvE; rw [if_neg (by omega), if_pos (by omega)]
      have hV : mvL l c q = l := if_pos (by omega)
      rw [hE, hV]
      refine W.reg ?_
      refine XOps.s rfl rfl rfl (Q.assign_d rfl) ?_
      refine XOps.nil ?_
      refine W.ret ?_
      exact ⟨_, stH b l f hs, rfl, HLe.refl _, rfl, rfl⟩
    · try simp only [Bool.or_eq_true, Bool.or_eq_false_iff, Bool.and_eq_true, Bool.and_eq_false_iff, decide_eq_true_eq, decide_eq_false_iff_not, Bool.not_eq_true', Bool.not_eq_false', Int.not_lt, Int.not_le, List.length_map] at hc18
      obtain ⟨j, hj⟩ : ∃ j : Nat, findS l c = j := ⟨(findS l c).toNat, by omega⟩
      obtain ⟨x, hx, _⟩ := idxP_at hj
      have hjl := (List.getElem?_eq_some_iff.1 hx).1
      have hgd : l.getD (findS l c).toNat ST.zero = x := by rw [hj, Int.toNat_natCast, List.getD_eq_getElem?_getD, hx]; rfl
      rw [hj]
      refine W.reg ?_
      refine XOps.s rfl rfl rfl (Q.move_ptr rfl) ?_
      refine XOps.s rfl rfl rfl (Q.nil_ptr rfl) ?_
      refine XOps.s rfl rfl rfl (Q.fld_ptr fl44_0 rfl) ?_
      refine XOps.s rfl rfl rfl (Q.ld_ptr (k := 0) ag22 rfl rfl rfl) ?_
      refine XOps.s rfl rfl rfl (Q.move_d rfl) ?_
      refine XOps.s rfl rfl rfl (Q.idx_vs (kk := 1) sl22 rfl rfl rfl (by first | omega | (simp at hg; omega)) (by first | omega | (dsimp only; omega))) ?_
      refine XOps.s rfl rfl rfl (Q.fld_ep fl24_4 rfl) ?_
      refine XOps.s rfl rfl rfl (Q.ld_ep (k := 1) ag3 rfl rfl (by exact map_at0 hx) rfl) ?_
      refine XOps.s rfl rfl rfl (Q.move_d rfl) ?_
      refine XOps.s rfl rfl rfl (Q.call rfl Tryd.func20 go20 rfl (perm_c x.bay q _)) ?_
      refine XOps.s rfl rfl rfl (Q.not rfl) ?_
      refine XOps.s rfl rfl rfl (Q.assign_d rfl) ?_
      refine XOps.nil ?_
      refine W.cond rfl (fun hc21 => ?_) (fun hc21 => ?_)
      · try simp only [Bool.or_eq_true, Bool.or_eq_false_iff, Bool.and_eq_true, Bool.and_eq_false_iff, decide_eq_true_eq, decide_eq_false_iff_not, Bool.not_eq_true', Bool.not_eq_false', Int.not_lt, Int.not_le, List.length_map] at hc21
        have h21 : prB x.bay q = false := by simpa using hc21
        have hE : mvE l c q = 11 := by unfold mvE; rw [if_neg (by omega), if_neg (by omega), hgd, if_pos h21]
        have hV : mvL l c q = l := if_pos (by omega)
        rw [hE, hV]
        refine W.reg ?_
        refine XOps.s rfl rfl rfl (Q.assign_d rfl) ?_
        refine XOps.nil ?_
        refine W.ret ?_
        exact ⟨_, stH b l f hs, rfl, HLe.refl _, rfl, rfl⟩
      · try simp only [Bool.or_eq_true, Bool.or_eq_false_iff, Bool.and_eq_true, Bool.and_eq_false_iff, decide_eq_true_eq, decide_eq_false_iff_not, Bool.not_eq_true', Bool.not_eq_false', Int.not_lt, Int.not_le, List.length_map] at hc21
        have h21 : ¬ prB x.bay q = false := by simpa using hc21
        refine W.reg ?_
        refine XOps.s rfl rfl rfl (Q.move_ptr rfl) ?_
        refine XOps.s rfl rfl rfl (Q.move_d rfl) ?_
        refine XOps.s rfl rfl rfl (Q.call rfl Tryd.func19 go19 rfl (cnt_c b l f q hs (by omega))) ?_
        refine XOps.s rfl rfl rfl (Q.eql rfl rfl) ?_
        refine XOps.s rfl rfl rfl (Q.assign_d rfl) ?_
        refine XOps.nil ?_
        refine W.cond rfl (fun hc33 => ?_) (fun hc33 => ?_)
        · try simp only [Bool.or_eq_true, Bool.or_eq_false_iff, Bool.and_eq_true, Bool.and_eq_false_iff, decide_eq_true_eq, decide_eq_false_iff_not, Bool.not_eq_true', Bool.not_eq_false', Int.not_lt, Int.not_le, List.length_map] at hc33
          have hE : mvE l c q = 9 := by unfold mvE; rw [if_neg (by omega), if_neg (by omega), hgd, if_neg h21, if_pos (by omega)]
          have hV : mvL l c q = l := if_pos (by omega)
          rw [hE, hV]
          refine W.reg ?_
          refine XOps.s rfl rfl rfl (Q.assign_d rfl) ?_
          refine XOps.nil ?_
          refine W.ret ?_
          exact ⟨_, stH b l f hs, rfl, HLe.refl _, rfl, rfl⟩
        · try simp only [Bool.or_eq_true, Bool.or_eq_false_iff, Bool.and_eq_true, Bool.and_eq_false_iff, decide_eq_true_eq, decide_eq_false_iff_not, Bool.not_eq_true', Bool.not_eq_false', Int.not_lt, Int.not_le, List.length_map] at hc33
          have hE : mvE l c q = 0 := by unfold mvE; rw [if_neg (by omega), if_neg (by omega), hgd, if_neg h21, if_neg (by omega)]
          have hV : mvL l c q = l.set j ⟨x.call, x.fix, x.tm, x.ht, q⟩ := by unfold mvL; rw [if_neg (by omega), hgd, hj, Int.toNat_natCast]
          rw [hE, hV]
          refine W.skip ?_
          refine W.reg ?_
          refine XOps.s rfl rfl rfl (Q.move_ptr rfl) ?_
          refine XOps.s rfl rfl rfl (Q.nil_ptr rfl) ?_
          refine XOps.s rfl rfl rfl (Q.fld_ptr fl44_0 rfl) ?_
          refine XOps.s rfl rfl rfl (Q.ld_ptr (k := 0) ag22 rfl rfl rfl) ?_
          refine XOps.s rfl rfl rfl (Q.move_d rfl) ?_
          refine XOps.s rfl rfl rfl (Q.move_d rfl) ?_
          refine XOps.s rfl rfl rfl (Q.idx_vs (kk := 1) sl22 rfl rfl rfl (by first | omega | (simp at hg; omega)) (by first | omega | (dsimp only; omega))) ?_
          refine XOps.s rfl rfl rfl (Q.fld_ep fl24_4 rfl) ?_
          refine XOps.loud rfl (L.store_ep (k := 1) ag3 rfl rfl (by exact map_at0 hx) rfl rfl rfl) ?_
          rintro _ _ ⟨rfl, rfl⟩
          refine XOps.nil ?_
          refine W.reg ?_
          refine XOps.s rfl rfl rfl (Q.assign_d rfl) ?_
          refine XOps.nil ?_
          refine W.ret ?_
          exact ⟨_, stH b (l.set j ⟨x.call, x.fix, x.tm, x.ht, q⟩) f hs, rfl, HLe.pick 0 rfl (by rw [List.length_set]) (HLe.pick 0 rfl (by rw [List.map_set]; simp [ST.enc]) (HLe.refl _)), rfl, rfl⟩
end Go.Proofs.YtlfapbkaknikpaaDoorA
