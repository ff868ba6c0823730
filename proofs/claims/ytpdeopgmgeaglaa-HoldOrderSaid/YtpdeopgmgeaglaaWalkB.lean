/- Enter, Leave and Down of package hold. -/
import Derived.Test.YtpdeopgmgeaglaaBase
import Derived.Test.YtpdeopgmgeaglaaWalkA
set_option linter.unusedVariables false
set_option linter.unusedSimpArgs false
set_option linter.unnecessarySimpa false
namespace Go.Proofs.YtpdeopgmgeaglaaA.FWalkB
open Go
theorem ag3 : tAgg P 3 = some ((false, 1)) := by kernel_rfl
theorem ag36 : tAgg P 36 = some ((false, 1)) := by kernel_rfl
theorem ap36 : tApp P 36 = some ((3, 32)) := by kernel_rfl
theorem fl28_0 : tFld P 28 0 = some (0) := by kernel_rfl
theorem fl28_1 : tFld P 28 1 = some (1) := by kernel_rfl
theorem fl28_2 : tFld P 28 2 = some (2) := by kernel_rfl
theorem fl39_1 : tFld P 39 1 = some (1) := by kernel_rfl
theorem fl39_2 : tFld P 39 2 = some (2) := by kernel_rfl
theorem fl46_0 : tFld P 46 0 = some (0) := by kernel_rfl
theorem fl46_1 : tFld P 46 1 = some (3) := by kernel_rfl
theorem fl46_2 : tFld P 46 2 = some (4) := by kernel_rfl
theorem go17 : callGo Go.Proofs.Try.f17 = true := by kernel_rfl
theorem go18 : callGo Go.Proofs.Try.f18 = true := by kernel_rfl
theorem go19 : callGo Go.Proofs.Try.f19 = true := by kernel_rfl
theorem go20 : callGo Go.Proofs.Try.f20 = true := by kernel_rfl
theorem isl36 : isSl P 36 = true := by kernel_rfl
theorem pl39 : tPl P 39 = some ([(0, 1), (1, 1), (2, 1)]) := by kernel_rfl
theorem sl36 : tSl P 36 = some (3) := by kernel_rfl
theorem tz39 : tZero P 39 = some ([.string ⟨#[]⟩, .int .i64 0, .int .i64 0]) := by kernel_rfl
theorem tzd39 : cellsD [.string ⟨#[]⟩, .int .i64 0, .int .i64 0] = some ([.str ⟨#[]⟩, .int .i64 0, .int .i64 0]) := rfl
theorem zr36 : tZrow P 36 = some ([.string ⟨#[]⟩, .int .i64 0, .int .i64 0]) := by kernel_rfl
theorem zrd36 : cellsD [.string ⟨#[]⟩, .int .i64 0, .int .i64 0] = some ([.str ⟨#[]⟩, .int .i64 0, .int .i64 0]) := rfl
end Go.Proofs.YtpdeopgmgeaglaaA.FWalkB
namespace Go.Proofs.YtpdeopgmgeaglaaA
open Go FWalkB
set_option maxHeartbeats 1000000 in
set_option maxRecDepth 100000 in
theorem enter_c (b id : Nat) (s : HSt) (c : ByteArray) (t : Int) (hs : Hp) (hok : s.ok) (hc : c.size ≤ 140737488351232) : AC P 9 [.ptr b 0, .d (.str c), .d (.int .i64 t)] (stH b s id hs) (fun r h => ∃ id2, r = .tup [.d (.int .i64 (s.enterH c t)), .d (.int .i64 (s.enterE c t))] ∧ h = stH b (s.enter c t) id2 hs) := by
  have hln := hok.len
  have hnx := HSt.next_ok hok
  have hst := hok.step
  have hlo := hok.low
  have hhi := hok.high
  refine AC.of 76 Try.func9 rfl rfl rfl ?_
  refine W.reg ?_
  refine XOps.s rfl rfl rfl (Q.assign_d rfl) ?_
  refine XOps.s rfl rfl rfl (Q.assign_d rfl) ?_
  refine XOps.nil ?_
  refine W.seq ?_
  refine W.block ?_
  refine W.reg ?_
  refine XOps.s rfl rfl rfl (Q.move_d rfl) ?_
  refine XOps.s rfl rfl rfl (Q.call rfl Try.func17 go17 rfl (named_c c _ hc)) ?_
  refine XOps.s rfl rfl rfl (Q.not rfl) ?_
  refine XOps.s rfl rfl rfl (Q.assign_d rfl) ?_
  refine XOps.nil ?_
  refine W.cond rfl (fun hc10 => ?_) (fun hc10 => ?_)
  · try simp only [Bool.or_eq_true, Bool.or_eq_false_iff, Bool.and_eq_true, Bool.and_eq_false_iff, decide_eq_true_eq, decide_eq_false_iff_not, Bool.not_eq_true', Bool.not_eq_false', Int.not_lt, Int.not_le, List.length_map] at hc10
    have hE : s.enterE c t = 6 := by unfold HSt.enterE; rw [if_pos (by simpa using hc10)]
    have hH : s.enterH c t = 0 := by unfold HSt.enterH; rw [if_neg (by omega)]
    have hS : s.enter c t = s := by unfold HSt.enter; rw [if_neg (by omega)]
    rw [hE, hH, hS]
    refine W.reg ?_
    refine XOps.s rfl rfl rfl (Q.assign_d rfl) ?_
    refine XOps.s rfl rfl rfl (Q.assign_d rfl) ?_
    refine XOps.nil ?_
    refine W.ret ?_
    exact ⟨_, stH b s id hs, rfl, HLe.refl _, id, rfl, rfl⟩
  · try simp only [Bool.or_eq_true, Bool.or_eq_false_iff, Bool.and_eq_true, Bool.and_eq_false_iff, decide_eq_true_eq, decide_eq_false_iff_not, Bool.not_eq_true', Bool.not_eq_false', Int.not_lt, Int.not_le, List.length_map] at hc10
    have hn : ¬ namedS c = false := by simpa using hc10
    refine W.reg ?_
    refine XOps.s rfl rfl rfl (Q.move_ptr rfl) ?_
    refine XOps.s rfl rfl rfl (Q.move_d rfl) ?_
    refine XOps.s rfl rfl rfl (Q.call rfl Try.func18 go18 rfl (find_c b id s c hs hln)) ?_
    refine XOps.s rfl rfl rfl (Q.geq rfl rfl) ?_
    refine XOps.s rfl rfl rfl (Q.assign_d rfl) ?_
    refine XOps.nil ?_
    refine W.cond rfl (fun hc14 => ?_) (fun hc14 => ?_)
    · try simp only [Bool.or_eq_true, Bool.or_eq_false_iff, Bool.and_eq_true, Bool.and_eq_false_iff, decide_eq_true_eq, decide_eq_false_iff_not, Bool.not_eq_true', Bool.not_eq_false', Int.not_lt, Int.not_le, List.length_map] at hc14
      have hE : s.enterE c t = 7 := by unfold HSt.enterE; rw [if_neg hn, if_pos hc14]
      have hH : s.enterH c t = 0 := by unfold HSt.enterH; rw [if_neg (by omega)]
      have hS : s.enter c t = s := by unfold HSt.enter; rw [if_neg (by omega)]
      rw [hE, hH, hS]
      refine W.reg ?_
      refine XOps.s rfl rfl rfl (Q.assign_d rfl) ?_
      refine XOps.s rfl rfl rfl (Q.assign_d rfl) ?_
      refine XOps.nil ?_
      refine W.ret ?_
      exact ⟨_, stH b s id hs, rfl, HLe.refl _, id, rfl, rfl⟩
    · try simp only [Bool.or_eq_true, Bool.or_eq_false_iff, Bool.and_eq_true, Bool.and_eq_false_iff, decide_eq_true_eq, decide_eq_false_iff_not, Bool.not_eq_true', Bool.not_eq_false', Int.not_lt, Int.not_le, List.length_map] at hc14
      refine W.reg ?_
      refine XOps.s rfl rfl rfl (Q.move_ptr rfl) ?_
      refine XOps.s rfl rfl rfl (Q.move_d rfl) ?_
      refine XOps.s rfl rfl rfl (Q.call rfl Try.func19 go19 rfl (at_c b id s t hs)) ?_
      refine XOps.s rfl rfl rfl (Q.not rfl) ?_
      refine XOps.s rfl rfl rfl (Q.assign_d rfl) ?_
      refine XOps.nil ?_
      refine W.cond rfl (fun hc19 => ?_) (fun hc19 => ?_)
      · try simp only [Bool.or_eq_true, Bool.or_eq_false_iff, Bool.and_eq_true, Bool.and_eq_false_iff, decide_eq_true_eq, decide_eq_false_iff_not, Bool.not_eq_true', Bool.not_eq_false', Int.not_lt, Int.not_le, List.length_map] at hc19
        have hE : s.enterE c t = 12 := by unfold HSt.enterE; rw [if_neg hn, if_neg (by omega), if_pos (by simpa using hc19)]
        have hH : s.enterH c t = 0 := by unfold HSt.enterH; rw [if_neg (by omega)]
        have hS : s.enter c t = s := by unfold HSt.enter; rw [if_neg (by omega)]
        rw [hE, hH, hS]
        refine W.reg ?_
        refine XOps.s rfl rfl rfl (Q.assign_d rfl) ?_
        refine XOps.s rfl rfl rfl (Q.assign_d rfl) ?_
        refine XOps.nil ?_
        refine W.ret ?_
        exact ⟨_, stH b s id hs, rfl, HLe.refl _, id, rfl, rfl⟩
      · try simp only [Bool.or_eq_true, Bool.or_eq_false_iff, Bool.and_eq_true, Bool.and_eq_false_iff, decide_eq_true_eq, decide_eq_false_iff_not, Bool.not_eq_true', Bool.not_eq_false', Int.not_lt, Int.not_le, List.length_map] at hc19
        have ha : ¬ s.atS t = false := by simpa using hc19
        refine W.skip ?_
        refine W.reg ?_
        refine XOps.s rfl rfl rfl (Q.move_ptr rfl) ?_
        refine XOps.s rfl rfl rfl (Q.nil_ptr rfl) ?_
        refine XOps.s rfl rfl rfl (Q.fld_ptr fl46_0 rfl) ?_
        refine XOps.s rfl rfl rfl (Q.fld_ptr fl28_0 rfl) ?_
        refine XOps.s rfl rfl rfl (Q.ld_ptr (k := 0) ag3 rfl rfl rfl) ?_
        refine XOps.s rfl rfl rfl (Q.assign_d rfl) ?_
        refine XOps.nil ?_
        refine W.seq ?_
        refine W.reg ?_
        refine XOps.s rfl rfl rfl (Q.move_ptr rfl) ?_
        refine XOps.s rfl rfl rfl (Q.nil_ptr rfl) ?_
        refine XOps.s rfl rfl rfl (Q.fld_ptr fl46_1 rfl) ?_
        refine XOps.s rfl rfl rfl (Q.ld_ptr (k := 0) ag36 rfl rfl rfl) ?_
        refine XOps.s rfl rfl rfl (Q.len_vs isl36 rfl) ?_
        refine XOps.s rfl rfl rfl (Q.assign_d rfl) ?_
        refine XOps.nil ?_
        refine W.reg ?_
        refine XOps.s rfl rfl rfl (Q.move_d rfl) ?_
        refine XOps.s rfl rfl rfl (Q.gtr rfl rfl) ?_
        refine XOps.nil ?_
        refine W.cond rfl (fun hc35 => ?_) (fun hc35 => ?_)
        · try simp only [Bool.or_eq_true, Bool.or_eq_false_iff, Bool.and_eq_true, Bool.and_eq_false_iff, decide_eq_true_eq, decide_eq_false_iff_not, Bool.not_eq_true', Bool.not_eq_false', Int.not_lt, Int.not_le, List.length_map] at hc35
          obtain ⟨x, hx, hxl⟩ := last_at (l := s.l) (by omega)
          have hnl := next_last hxl
          have hxb := hok.lv x (List.mem_of_getElem? hx)
          have hrow : (s.l.map Lv.enc)[0 + (((s.l.length : Nat) : Int) - 1).toNat]? = some x.enc := by rw [show 0 + (((s.l.length : Nat) : Int) - 1).toNat = s.l.length - 1 by omega, List.getElem?_map, hx]; rfl
          refine W.draw 15 follows (by kernel_rfl) ?_
          refine Chain.cons _ (GQ.q rfl (Q.move_ptr rfl)) rfl ?_
          refine Chain.cons _ (GQ.q rfl (Q.nil_ptr rfl)) rfl ?_
          refine Chain.cons _ (GQ.q rfl (Q.fld_ptr fl46_1 rfl)) rfl ?_
          refine Chain.cons _ (GQ.q rfl (Q.ld_ptr (k := 0) ag36 rfl rfl rfl)) rfl ?_
          refine Chain.cons _ (GQ.q rfl (Q.move_d rfl)) rfl ?_
          refine Chain.cons _ (GQ.q rfl (Q.sub rfl rfl (wi64 (by first | omega | (dsimp only; omega)) (by first | omega | (dsimp only; omega))))) rfl ?_
          refine Chain.cons _ (GQ.q rfl (Q.idx_vs (kk := 1) sl36 rfl rfl rfl (by omega) (by first | omega | (dsimp only; omega)))) rfl ?_
          refine Chain.cons _ (GQ.q rfl (Q.fld_ep fl39_1 rfl)) rfl ?_
          refine Chain.cons _ (GQ.q rfl (Q.ld_ep (k := 1) ag3 rfl rfl (by exact hrow) rfl)) rfl ?_
          refine Chain.cons _ (GQ.q rfl (Q.move_ptr rfl)) rfl ?_
          refine Chain.cons _ (GQ.q rfl (Q.nil_ptr rfl)) rfl ?_
          refine Chain.cons _ (GQ.q rfl (Q.fld_ptr fl46_0 rfl)) rfl ?_
          refine Chain.cons _ (GQ.q rfl (Q.fld_ptr fl28_2 rfl)) rfl ?_
          refine Chain.cons _ (GQ.q rfl (Q.ld_ptr (k := 0) ag3 rfl rfl rfl)) rfl ?_
          refine Chain.cons _ (GQ.q rfl (Q.add rfl rfl (wi64 (by first | omega | (dsimp only; omega)) (by first | omega | (dsimp only; omega))))) rfl ?_
          refine Chain.nil ?_
          refine XOps.s rfl rfl rfl (Q.assign_d rfl) ?_
          refine XOps.nil ?_
          refine W.seq ?_
          refine W.reg ?_
          refine XOps.s rfl rfl rfl (Q.move_d rfl) ?_
          refine XOps.s rfl rfl rfl (Q.move_ptr rfl) ?_
          refine XOps.s rfl rfl rfl (Q.nil_ptr rfl) ?_
          refine XOps.s rfl rfl rfl (Q.fld_ptr fl46_0 rfl) ?_
          refine XOps.s rfl rfl rfl (Q.fld_ptr fl28_1 rfl) ?_
          refine XOps.s rfl rfl rfl (Q.ld_ptr (k := 0) ag3 rfl rfl rfl) ?_
          refine XOps.s rfl rfl rfl (Q.gtr rfl rfl) ?_
          refine XOps.nil ?_
          refine W.cond rfl (fun hc57 => ?_) (fun hc57 => ?_)
          · try simp only [Bool.or_eq_true, Bool.or_eq_false_iff, Bool.and_eq_true, Bool.and_eq_false_iff, decide_eq_true_eq, decide_eq_false_iff_not, Bool.not_eq_true', Bool.not_eq_false', Int.not_lt, Int.not_le, List.length_map] at hc57
            have hE : s.enterE c t = 9 := by unfold HSt.enterE; rw [if_neg hn, if_neg (by omega), if_neg ha, if_pos (by omega)]
            have hH : s.enterH c t = 0 := by unfold HSt.enterH; rw [if_neg (by omega)]
            have hS : s.enter c t = s := by unfold HSt.enter; rw [if_neg (by omega)]
            rw [hE, hH, hS]
            refine W.reg ?_
            refine XOps.s rfl rfl rfl (Q.assign_d rfl) ?_
            refine XOps.s rfl rfl rfl (Q.assign_d rfl) ?_
            refine XOps.nil ?_
            refine W.ret ?_
            exact ⟨_, stH b s id hs, rfl, HLe.refl _, id, rfl, rfl⟩
          · try simp only [Bool.or_eq_true, Bool.or_eq_false_iff, Bool.and_eq_true, Bool.and_eq_false_iff, decide_eq_true_eq, decide_eq_false_iff_not, Bool.not_eq_true', Bool.not_eq_false', Int.not_lt, Int.not_le, List.length_map] at hc57
            have hE : s.enterE c t = 0 := by unfold HSt.enterE; rw [if_neg hn, if_neg (by omega), if_neg ha, if_neg (by omega)]
            have hH : s.enterH c t = s.next := by unfold HSt.enterH; rw [if_pos hE]
            have hS : s.enter c t = ⟨s.low, s.high, s.step, s.l ++ [⟨c, s.next, t⟩], t⟩ := by unfold HSt.enter; rw [if_pos hE]
            rw [hE, hH, hS, hnl]
            refine W.skip ?_
            refine W.reg ?_
            refine XOps.s rfl rfl rfl (Q.move_ptr rfl) ?_
            refine XOps.s rfl rfl rfl (Q.move_ptr rfl) ?_
            refine XOps.s rfl rfl rfl (Q.nil_ptr rfl) ?_
            refine XOps.s rfl rfl rfl (Q.fld_ptr fl46_1 rfl) ?_
            refine XOps.s rfl rfl rfl (Q.ld_ptr (k := 0) ag36 rfl rfl rfl) ?_
            refine XOps.s rfl rfl rfl (Q.move_d rfl) ?_
            refine XOps.s rfl rfl rfl (Q.move_d rfl) ?_
            refine XOps.s rfl rfl rfl (Q.move_d rfl) ?_
            refine XOps.s rfl rfl rfl (Q.build pl39 tz39 tzd39 rfl) ?_
            refine XOps.s rfl rfl rfl (Q.bsl1n sl36 (by decide) zr36 rfl zrd36 rfl rfl (by decide)) ?_
            refine XOps.loud rfl (L.app (k := 1) ap36 rfl rfl (by first | rfl | (simp; done)) rfl (by simp; omega) rfl) ?_
            rintro _ _ ⟨v68, rfl, rfl⟩
            refine XOps.s rfl rfl rfl (Q.nil_ptr rfl) ?_
            refine XOps.s rfl rfl rfl (Q.fld_ptr fl46_1 rfl) ?_
            refine XOps.loud rfl (L.store (k := 1) ag36 rfl rfl rfl rfl rfl) ?_
            rintro _ _ ⟨rfl, rfl⟩
            refine XOps.nil ?_
            refine W.reg ?_
            refine XOps.s rfl rfl rfl (Q.move_ptr rfl) ?_
            refine XOps.s rfl rfl rfl (Q.move_d rfl) ?_
            refine XOps.s rfl rfl rfl (Q.nil_ptr rfl) ?_
            refine XOps.s rfl rfl rfl (Q.fld_ptr fl46_2 rfl) ?_
            refine XOps.loud rfl (L.store (k := 1) ag3 rfl rfl rfl rfl rfl) ?_
            rintro _ _ ⟨rfl, rfl⟩
            refine XOps.nil ?_
            refine W.reg ?_
            refine XOps.s rfl rfl rfl (Q.move_d rfl) ?_
            refine XOps.s rfl rfl rfl (Q.assign_d rfl) ?_
            refine XOps.s rfl rfl rfl (Q.assign_d rfl) ?_
            refine XOps.nil ?_
            refine W.ret ?_
            exact ⟨_, stH b ⟨s.low, s.high, s.step, s.l ++ [_], t⟩ v68 hs, rfl, HLe.trans (HLe.perm (List.Perm.swap _ _ _)) (HLe.cons' (by simp [Lv.enc]) (HLe.cons' (by first | (simp [HSt.cells]; done) | (simp [HSt.cells]; rfl) | (simp [HSt.cells]; exact ⟨rfl, rfl⟩)) (HLe.refl _))), v68, rfl, rfl⟩
        · try simp only [Bool.or_eq_true, Bool.or_eq_false_iff, Bool.and_eq_true, Bool.and_eq_false_iff, decide_eq_true_eq, decide_eq_false_iff_not, Bool.not_eq_true', Bool.not_eq_false', Int.not_lt, Int.not_le, List.length_map] at hc35
          have hnl := next_nil (s := s) (by omega)
          refine W.skip ?_
          refine W.seq ?_
          refine W.reg ?_
          refine XOps.s rfl rfl rfl (Q.move_d rfl) ?_
          refine XOps.s rfl rfl rfl (Q.move_ptr rfl) ?_
          refine XOps.s rfl rfl rfl (Q.nil_ptr rfl) ?_
          refine XOps.s rfl rfl rfl (Q.fld_ptr fl46_0 rfl) ?_
          refine XOps.s rfl rfl rfl (Q.fld_ptr fl28_1 rfl) ?_
          refine XOps.s rfl rfl rfl (Q.ld_ptr (k := 0) ag3 rfl rfl rfl) ?_
          refine XOps.s rfl rfl rfl (Q.gtr rfl rfl) ?_
          refine XOps.nil ?_
          refine W.cond rfl (fun hc57 => ?_) (fun hc57 => ?_)
          · try simp only [Bool.or_eq_true, Bool.or_eq_false_iff, Bool.and_eq_true, Bool.and_eq_false_iff, decide_eq_true_eq, decide_eq_false_iff_not, Bool.not_eq_true', Bool.not_eq_false', Int.not_lt, Int.not_le, List.length_map] at hc57
            have hE : s.enterE c t = 9 := by unfold HSt.enterE; rw [if_neg hn, if_neg (by omega), if_neg ha, if_pos (by omega)]
            have hH : s.enterH c t = 0 := by unfold HSt.enterH; rw [if_neg (by omega)]
            have hS : s.enter c t = s := by unfold HSt.enter; rw [if_neg (by omega)]
            rw [hE, hH, hS]
            refine W.reg ?_
            refine XOps.s rfl rfl rfl (Q.assign_d rfl) ?_
            refine XOps.s rfl rfl rfl (Q.assign_d rfl) ?_
            refine XOps.nil ?_
            refine W.ret ?_
            exact ⟨_, stH b s id hs, rfl, HLe.refl _, id, rfl, rfl⟩
          · try simp only [Bool.or_eq_true, Bool.or_eq_false_iff, Bool.and_eq_true, Bool.and_eq_false_iff, decide_eq_true_eq, decide_eq_false_iff_not, Bool.not_eq_true', Bool.not_eq_false', Int.not_lt, Int.not_le, List.length_map] at hc57
            have hE : s.enterE c t = 0 := by unfold HSt.enterE; rw [if_neg hn, if_neg (by omega), if_neg ha, if_neg (by omega)]
            have hH : s.enterH c t = s.next := by unfold HSt.enterH; rw [if_pos hE]
            have hS : s.enter c t = ⟨s.low, s.high, s.step, s.l ++ [⟨c, s.next, t⟩], t⟩ := by unfold HSt.enter; rw [if_pos hE]
            rw [hE, hH, hS, hnl]
            refine W.skip ?_
            refine W.reg ?_
            refine XOps.s rfl rfl rfl (Q.move_ptr rfl) ?_
            refine XOps.s rfl rfl rfl (Q.move_ptr rfl) ?_
            refine XOps.s rfl rfl rfl (Q.nil_ptr rfl) ?_
            refine XOps.s rfl rfl rfl (Q.fld_ptr fl46_1 rfl) ?_
            refine XOps.s rfl rfl rfl (Q.ld_ptr (k := 0) ag36 rfl rfl rfl) ?_
            refine XOps.s rfl rfl rfl (Q.move_d rfl) ?_
            refine XOps.s rfl rfl rfl (Q.move_d rfl) ?_
            refine XOps.s rfl rfl rfl (Q.move_d rfl) ?_
            refine XOps.s rfl rfl rfl (Q.build pl39 tz39 tzd39 rfl) ?_
            refine XOps.s rfl rfl rfl (Q.bsl1n sl36 (by decide) zr36 rfl zrd36 rfl rfl (by decide)) ?_
            refine XOps.loud rfl (L.app (k := 1) ap36 rfl rfl (by first | rfl | (simp; done)) rfl (by simp; omega) rfl) ?_
            rintro _ _ ⟨v68, rfl, rfl⟩
            refine XOps.s rfl rfl rfl (Q.nil_ptr rfl) ?_
            refine XOps.s rfl rfl rfl (Q.fld_ptr fl46_1 rfl) ?_
            refine XOps.loud rfl (L.store (k := 1) ag36 rfl rfl rfl rfl rfl) ?_
            rintro _ _ ⟨rfl, rfl⟩
            refine XOps.nil ?_
            refine W.reg ?_
            refine XOps.s rfl rfl rfl (Q.move_ptr rfl) ?_
            refine XOps.s rfl rfl rfl (Q.move_d rfl) ?_
            refine XOps.s rfl rfl rfl (Q.nil_ptr rfl) ?_
            refine XOps.s rfl rfl rfl (Q.fld_ptr fl46_2 rfl) ?_
            refine XOps.loud rfl (L.store (k := 1) ag3 rfl rfl rfl rfl rfl) ?_
            rintro _ _ ⟨rfl, rfl⟩
            refine XOps.nil ?_
            refine W.reg ?_
            refine XOps.s rfl rfl rfl (Q.move_d rfl) ?_
            refine XOps.s rfl rfl rfl (Q.assign_d rfl) ?_
            refine XOps.s rfl rfl rfl (Q.assign_d rfl) ?_
            refine XOps.nil ?_
            refine W.ret ?_
            exact ⟨_, stH b ⟨s.low, s.high, s.step, s.l ++ [_], t⟩ v68 hs, rfl, HLe.trans (HLe.perm (List.Perm.swap _ _ _)) (HLe.cons' (by simp [Lv.enc]) (HLe.cons' (by first | (simp [HSt.cells]; done) | (simp [HSt.cells]; rfl) | (simp [HSt.cells]; exact ⟨rfl, rfl⟩)) (HLe.refl _))), v68, rfl, rfl⟩

set_option maxHeartbeats 1000000 in
set_option maxRecDepth 100000 in
theorem leave_c (b id : Nat) (s : HSt) (c : ByteArray) (t : Int) (hs : Hp) (hok : s.ok) : AC P 10 [.ptr b 0, .d (.str c), .d (.int .i64 t)] (stH b s id hs) (fun r h => ∃ id2, r = .tup [.d (.int .i64 (s.leaveV c t)), .d (.int .i64 (s.leaveE c t))] ∧ h = stH b (s.leave c t) id2 hs) := by
  have hln := hok.len
  refine AC.of 46 Try.func10 rfl rfl rfl ?_
  refine W.reg ?_
  refine XOps.s rfl rfl rfl (Q.assign_d rfl) ?_
  refine XOps.s rfl rfl rfl (Q.assign_d rfl) ?_
  refine XOps.nil ?_
  refine W.reg ?_
  refine XOps.s rfl rfl rfl (Q.move_ptr rfl) ?_
  refine XOps.s rfl rfl rfl (Q.move_d rfl) ?_
  refine XOps.s rfl rfl rfl (Q.call rfl Try.func18 go18 rfl (find_c b id s c hs hln)) ?_
  refine XOps.s rfl rfl rfl (Q.assign_d rfl) ?_
  refine XOps.nil ?_
  refine W.seq ?_
  refine W.block ?_
  refine W.reg ?_
  refine XOps.s rfl rfl rfl (Q.move_d rfl) ?_
  refine XOps.s rfl rfl rfl (Q.lss rfl rfl) ?_
  refine XOps.s rfl rfl rfl (Q.assign_d rfl) ?_
  refine XOps.nil ?_
  refine W.cond rfl (fun hc13 => ?_) (fun hc13 => ?_)
  · try simp only [Bool.or_eq_true, Bool.or_eq_false_iff, Bool.and_eq_true, Bool.and_eq_false_iff, decide_eq_true_eq, decide_eq_false_iff_not, Bool.not_eq_true', Bool.not_eq_false', Int.not_lt, Int.not_le, List.length_map] at hc13
    have hE : s.leaveE c t = 8 := by unfold HSt.leaveE; rw [if_pos hc13]
    have hH : s.leaveV c t = 0 := by unfold HSt.leaveV; rw [if_neg (by omega)]
    have hS : s.leave c t = s := by unfold HSt.leave; rw [if_neg (by omega)]
    rw [hE, hH, hS]
    refine W.reg ?_
    refine XOps.s rfl rfl rfl (Q.assign_d rfl) ?_
    refine XOps.s rfl rfl rfl (Q.assign_d rfl) ?_
    refine XOps.nil ?_
    refine W.ret ?_
    exact ⟨_, stH b s id hs, rfl, HLe.refl _, id, rfl, rfl⟩
  · try simp only [Bool.or_eq_true, Bool.or_eq_false_iff, Bool.and_eq_true, Bool.and_eq_false_iff, decide_eq_true_eq, decide_eq_false_iff_not, Bool.not_eq_true', Bool.not_eq_false', Int.not_lt, Int.not_le, List.length_map] at hc13
    refine W.reg ?_
    refine XOps.s rfl rfl rfl (Q.move_ptr rfl) ?_
    refine XOps.s rfl rfl rfl (Q.move_d rfl) ?_
    refine XOps.s rfl rfl rfl (Q.call rfl Try.func19 go19 rfl (at_c b id s t hs)) ?_
    refine XOps.s rfl rfl rfl (Q.not rfl) ?_
    refine XOps.s rfl rfl rfl (Q.assign_d rfl) ?_
    refine XOps.nil ?_
    refine W.cond rfl (fun hc16 => ?_) (fun hc16 => ?_)
    · try simp only [Bool.or_eq_true, Bool.or_eq_false_iff, Bool.and_eq_true, Bool.and_eq_false_iff, decide_eq_true_eq, decide_eq_false_iff_not, Bool.not_eq_true', Bool.not_eq_false', Int.not_lt, Int.not_le, List.length_map] at hc16
      have hE : s.leaveE c t = 12 := by unfold HSt.leaveE; rw [if_neg (by omega), if_pos (by simpa using hc16)]
      have hH : s.leaveV c t = 0 := by unfold HSt.leaveV; rw [if_neg (by omega)]
      have hS : s.leave c t = s := by unfold HSt.leave; rw [if_neg (by omega)]
      rw [hE, hH, hS]
      refine W.reg ?_
      refine XOps.s rfl rfl rfl (Q.assign_d rfl) ?_
      refine XOps.s rfl rfl rfl (Q.assign_d rfl) ?_
      refine XOps.nil ?_
      refine W.ret ?_
      exact ⟨_, stH b s id hs, rfl, HLe.refl _, id, rfl, rfl⟩
    · try simp only [Bool.or_eq_true, Bool.or_eq_false_iff, Bool.and_eq_true, Bool.and_eq_false_iff, decide_eq_true_eq, decide_eq_false_iff_not, Bool.not_eq_true', Bool.not_eq_false', Int.not_lt, Int.not_le, List.length_map] at hc16
      have ha : ¬ s.atS t = false := by simpa using hc16
      refine W.reg ?_
      refine XOps.s rfl rfl rfl (Q.move_d rfl) ?_
      refine XOps.s rfl rfl rfl (Q.gtr rfl rfl) ?_
      refine XOps.s rfl rfl rfl (Q.assign_d rfl) ?_
      refine XOps.nil ?_
      refine W.cond rfl (fun hc21 => ?_) (fun hc21 => ?_)
      · try simp only [Bool.or_eq_true, Bool.or_eq_false_iff, Bool.and_eq_true, Bool.and_eq_false_iff, decide_eq_true_eq, decide_eq_false_iff_not, Bool.not_eq_true', Bool.not_eq_false', Int.not_lt, Int.not_le, List.length_map] at hc21
        have hE : s.leaveE c t = 11 := by unfold HSt.leaveE; rw [if_neg (by omega), if_neg ha, if_pos (by omega)]
        have hH : s.leaveV c t = 0 := by unfold HSt.leaveV; rw [if_neg (by omega)]
        have hS : s.leave c t = s := by unfold HSt.leave; rw [if_neg (by omega)]
        rw [hE, hH, hS]
        refine W.reg ?_
        refine XOps.s rfl rfl rfl (Q.assign_d rfl) ?_
        refine XOps.s rfl rfl rfl (Q.assign_d rfl) ?_
        refine XOps.nil ?_
        refine W.ret ?_
        exact ⟨_, stH b s id hs, rfl, HLe.refl _, id, rfl, rfl⟩
      · try simp only [Bool.or_eq_true, Bool.or_eq_false_iff, Bool.and_eq_true, Bool.and_eq_false_iff, decide_eq_true_eq, decide_eq_false_iff_not, Bool.not_eq_true', Bool.not_eq_false', Int.not_lt, Int.not_le, List.length_map] at hc21
        have hE : s.leaveE c t = 0 := by unfold HSt.leaveE; rw [if_neg (by omega), if_neg ha, if_neg (by omega)]
        obtain ⟨x, rr, hxr⟩ := find_zero (l := s.l) (c := c) (by omega)
        have hxb := hok.lv x (by rw [hxr]; simp)
        have htb : s.last ≤ t ∧ t ≤ 200000 := by have := eq_true_of_ne_false ha; unfold HSt.atS at this; simpa using this
        have hlb := hok.last
        have hll : s.l.length = rr.length + 1 := by rw [hxr]; rfl
        have hH : s.leaveV c t = t - x.f := by unfold HSt.leaveV; rw [if_pos hE, hxr]; rfl
        have hS : s.leave c t = ⟨s.low, s.high, s.step, s.l.drop 1, t⟩ := by unfold HSt.leave; rw [if_pos hE]
        rw [hE, hH, hS]
        have hrow : (s.l.map Lv.enc)[0 + (0 : Int).toNat]? = some x.enc := by rw [hxr]; rfl
        refine W.skip ?_
        refine W.reg ?_
        refine XOps.s rfl rfl rfl (Q.move_ptr rfl) ?_
        refine XOps.s rfl rfl rfl (Q.nil_ptr rfl) ?_
        refine XOps.s rfl rfl rfl (Q.fld_ptr fl46_1 rfl) ?_
        refine XOps.s rfl rfl rfl (Q.ld_ptr (k := 0) ag36 rfl rfl rfl) ?_
        refine XOps.s rfl rfl rfl (Q.idx_vs (kk := 1) sl36 rfl rfl rfl (by omega) (by first | omega | (dsimp only; omega))) ?_
        refine XOps.s rfl rfl rfl (Q.fld_ep fl39_2 rfl) ?_
        refine XOps.s rfl rfl rfl (Q.ld_ep (k := 1) ag3 rfl rfl (by exact hrow) rfl) ?_
        refine XOps.s rfl rfl rfl (Q.assign_d rfl) ?_
        refine XOps.nil ?_
        refine W.reg ?_
        refine XOps.s rfl rfl rfl (Q.move_ptr rfl) ?_
        refine XOps.s rfl rfl rfl (Q.move_ptr rfl) ?_
        refine XOps.s rfl rfl rfl (Q.nil_ptr rfl) ?_
        refine XOps.s rfl rfl rfl (Q.fld_ptr fl46_1 rfl) ?_
        refine XOps.s rfl rfl rfl (Q.ld_ptr (k := 0) ag36 rfl rfl rfl) ?_
        (refine XOps.loud rfl (L.call rfl Try.func20 go20 rfl (AC.le (delL0_c s.l id _ (by omega) hln) (HLe.perm (List.Perm.swap _ _ _))) rfl) ?_; rintro _ _ ⟨_, rfl, rfl, rfl⟩)
        refine XOps.s rfl rfl rfl (Q.nil_ptr rfl) ?_
        refine XOps.s rfl rfl rfl (Q.fld_ptr fl46_1 rfl) ?_
        refine XOps.loud rfl (L.store (k := 1) ag36 rfl rfl rfl rfl rfl) ?_
        rintro _ _ ⟨rfl, rfl⟩
        refine XOps.nil ?_
        refine W.reg ?_
        refine XOps.s rfl rfl rfl (Q.move_ptr rfl) ?_
        refine XOps.s rfl rfl rfl (Q.move_d rfl) ?_
        refine XOps.s rfl rfl rfl (Q.nil_ptr rfl) ?_
        refine XOps.s rfl rfl rfl (Q.fld_ptr fl46_2 rfl) ?_
        refine XOps.loud rfl (L.store (k := 1) ag3 rfl rfl rfl rfl rfl) ?_
        rintro _ _ ⟨rfl, rfl⟩
        refine XOps.nil ?_
        refine W.reg ?_
        refine XOps.s rfl rfl rfl (Q.move_d rfl) ?_
        refine XOps.s rfl rfl rfl (Q.move_d rfl) ?_
        refine XOps.s rfl rfl rfl (Q.sub rfl rfl (wi64 (by first | omega | (dsimp only; omega)) (by first | omega | (dsimp only; omega)))) ?_
        refine XOps.s rfl rfl rfl (Q.assign_d rfl) ?_
        refine XOps.s rfl rfl rfl (Q.assign_d rfl) ?_
        refine XOps.nil ?_
        refine W.ret ?_
        exact ⟨_, stH b ⟨s.low, s.high, s.step, s.l.drop 1, t⟩ id hs, rfl, HLe.trans (HLe.perm (List.Perm.swap _ _ _)) (HLe.cons' (by simp [Lv.enc]) (HLe.cons' (by first | (simp [HSt.cells]; done) | (simp [HSt.cells]; rfl) | (simp [HSt.cells]; exact ⟨rfl, rfl⟩)) (HLe.refl _))), id, rfl, rfl⟩

set_option maxHeartbeats 1000000 in
set_option maxRecDepth 100000 in
theorem down_c (b id : Nat) (s : HSt) (t : Int) (hs : Hp) (hok : s.ok) : AC P 13 [.ptr b 0, .d (.int .i64 t)] (stH b s id hs) (fun r h => r = .tup [.d (.int .i64 (s.downN t)), .d (.int .i64 (s.downE t))] ∧ h = stH b (s.down t) id hs) := by
  have hln := hok.len
  have hst := hok.step
  refine AC.of 74 Try.func13 rfl rfl rfl ?_
  refine W.reg ?_
  refine XOps.s rfl rfl rfl (Q.assign_d rfl) ?_
  refine XOps.s rfl rfl rfl (Q.assign_d rfl) ?_
  refine XOps.nil ?_
  refine W.seq ?_
  refine W.reg ?_
  refine XOps.s rfl rfl rfl (Q.move_ptr rfl) ?_
  refine XOps.s rfl rfl rfl (Q.move_d rfl) ?_
  refine XOps.s rfl rfl rfl (Q.call rfl Try.func19 go19 rfl (at_c b id s t hs)) ?_
  refine XOps.s rfl rfl rfl (Q.not rfl) ?_
  refine XOps.nil ?_
  refine W.cond rfl (fun hc12 => ?_) (fun hc12 => ?_)
  · try simp only [Bool.or_eq_true, Bool.or_eq_false_iff, Bool.and_eq_true, Bool.and_eq_false_iff, decide_eq_true_eq, decide_eq_false_iff_not, Bool.not_eq_true', Bool.not_eq_false', Int.not_lt, Int.not_le, List.length_map] at hc12
    have ha : s.atS t = false := by simpa using hc12
    have hN : s.downN t = 0 := by unfold HSt.downN; rw [if_pos ha]
    have hE : s.downE t = 12 := by unfold HSt.downE; rw [if_pos ha]
    have hS : s.down t = s := by unfold HSt.down; rw [if_pos ha]
    rw [hN, hE, hS]
    refine W.reg ?_
    refine XOps.s rfl rfl rfl (Q.assign_d rfl) ?_
    refine XOps.s rfl rfl rfl (Q.assign_d rfl) ?_
    refine XOps.nil ?_
    refine W.ret ?_
    exact ⟨_, stH b s id hs, rfl, HLe.refl _, rfl, rfl⟩
  · try simp only [Bool.or_eq_true, Bool.or_eq_false_iff, Bool.and_eq_true, Bool.and_eq_false_iff, decide_eq_true_eq, decide_eq_false_iff_not, Bool.not_eq_true', Bool.not_eq_false', Int.not_lt, Int.not_le, List.length_map] at hc12
    have ha : ¬ s.atS t = false := by simpa using hc12
    have hN : s.downN t = (dnK s s.l.length).2.2 := by unfold HSt.downN; rw [if_neg ha]
    have hE : s.downE t = 0 := by unfold HSt.downE; rw [if_neg ha]
    have hS : s.down t = ⟨s.low, s.high, s.step, (dnK s s.l.length).1, t⟩ := by unfold HSt.down; rw [if_neg ha]
    rw [hN, hE, hS]
    refine W.skip ?_
    refine W.reg ?_
    refine XOps.s rfl rfl rfl (Q.move_ptr rfl) ?_
    refine XOps.s rfl rfl rfl (Q.move_d rfl) ?_
    refine XOps.s rfl rfl rfl (Q.nil_ptr rfl) ?_
    refine XOps.s rfl rfl rfl (Q.fld_ptr fl46_2 rfl) ?_
    refine XOps.loud rfl (L.store (k := 0) ag3 rfl rfl rfl rfl rfl) ?_
    rintro _ _ ⟨rfl, rfl⟩
    refine XOps.nil ?_
    refine W.reg ?_
    refine XOps.s rfl rfl rfl (Q.assign_d rfl) ?_
    refine XOps.nil ?_
    refine W.reg ?_
    refine XOps.s rfl rfl rfl (Q.move_ptr rfl) ?_
    refine XOps.s rfl rfl rfl (Q.nil_ptr rfl) ?_
    refine XOps.s rfl rfl rfl (Q.fld_ptr fl46_0 rfl) ?_
    refine XOps.s rfl rfl rfl (Q.fld_ptr fl28_0 rfl) ?_
    refine XOps.s rfl rfl rfl (Q.ld_ptr (k := 0) ag3 rfl rfl rfl) ?_
    refine XOps.s rfl rfl rfl (Q.assign_d rfl) ?_
    refine XOps.nil ?_
    refine W.seq ?_
    refine W.reg ?_
    refine XOps.s rfl rfl rfl (Q.move_ptr rfl) ?_
    refine XOps.s rfl rfl rfl (Q.nil_ptr rfl) ?_
    refine XOps.s rfl rfl rfl (Q.fld_ptr fl46_1 rfl) ?_
    refine XOps.s rfl rfl rfl (Q.ld_ptr (k := 0) ag36 rfl rfl rfl) ?_
    refine XOps.s rfl rfl rfl (Q.len_vs isl36 rfl) ?_
    refine XOps.s rfl rfl rfl (Q.move_d rfl) ?_
    refine XOps.nil ?_
    refine W.block ?_
    refine W.loop (ι := Nat) (fun k => [(0, .ptr b 0), (6, .d (.int .i64 (dnK s k).2.2)), (7, .d (.int .i64 (dnK s k).2.1)), (26, .d (.int .i64 s.l.length)), (27, .d (.int .i64 k))]) (fun k => stH b ⟨s.low, s.high, s.step, (dnK s k).1, t⟩ id hs) (fun k => k ≤ s.l.length) (fun k => s.l.length - k) 0 ?_ ?_ ?_ ?_
    · exact Nat.zero_le _
    · exact ⟨by first | rfl | exact int_eq (by omega) | exact len_eq (by simp) | exact int_eq (by simp; done), by first | rfl | exact int_eq (by omega) | exact len_eq (by simp) | exact int_eq (by simp; done), by first | rfl | exact int_eq (by omega) | exact len_eq (by simp) | exact int_eq (by simp; done), by first | rfl | exact int_eq (by omega) | exact len_eq (by simp) | exact int_eq (by simp; done), by first | rfl | exact int_eq (by omega) | exact len_eq (by simp) | exact int_eq (by simp; done), trivial⟩
    · exact HLe.refl _
    · rintro k hk
      try dsimp only
      have hkl := dnK_len s k
      refine W.reg ?_
      refine XOps.s rfl rfl rfl (Q.lss rfl rfl) ?_
      refine XOps.nil ?_
      refine W.seq ?_
      refine W.cond rfl (fun hc28 => ?_) (fun hc28 => ?_)
      · try simp only [Bool.or_eq_true, Bool.or_eq_false_iff, Bool.and_eq_true, Bool.and_eq_false_iff, decide_eq_true_eq, decide_eq_false_iff_not, Bool.not_eq_true', Bool.not_eq_false', Int.not_lt, Int.not_le, List.length_map] at hc28
        obtain ⟨x, hx⟩ : ∃ x, (dnK s k).1[k]? = some x := ⟨_, List.getElem?_eq_getElem (by omega)⟩
        have hxs : s.l[k]? = some x := by rw [← dnK_at s k k (Nat.le_refl _)]; exact hx
        have hxb := hok.lv x (List.mem_of_getElem? hxs)
        have hkb := dnK_bound hok k (by omega)
        have hstep : dnK s (k + 1) = if (dnK s k).2.1 < x.h then ((dnK s k).1.set k ⟨x.call, x.h - s.step, x.f⟩, x.h - s.step + s.step, (dnK s k).2.2 + 1) else ((dnK s k).1, x.h + s.step, (dnK s k).2.2) := by rw [dnK]; unfold dnStep; simp only [List.getD_eq_getElem?_getD, hx, Option.getD_some]
        refine W.skip ?_
        refine W.seq ?_
        refine W.block ?_
        refine W.reg ?_
        refine XOps.s rfl rfl rfl (Q.move_d rfl) ?_
        refine XOps.s rfl rfl rfl (Q.assign_d rfl) ?_
        refine XOps.nil ?_
        refine W.seq ?_
        refine W.reg ?_
        refine XOps.s rfl rfl rfl (Q.move_ptr rfl) ?_
        refine XOps.s rfl rfl rfl (Q.nil_ptr rfl) ?_
        refine XOps.s rfl rfl rfl (Q.fld_ptr fl46_1 rfl) ?_
        refine XOps.s rfl rfl rfl (Q.ld_ptr (k := 0) ag36 rfl rfl rfl) ?_
        refine XOps.s rfl rfl rfl (Q.move_d rfl) ?_
        refine XOps.s rfl rfl rfl (Q.idx_vs (kk := 1) sl36 rfl rfl rfl (by omega) (by first | omega | (dsimp only; omega))) ?_
        refine XOps.s rfl rfl rfl (Q.fld_ep fl39_1 rfl) ?_
        refine XOps.s rfl rfl rfl (Q.ld_ep (k := 1) ag3 rfl rfl (by first | exact map_at0 hx | (show (((dnK s k).1.map Lv.enc).set (0 + ((k : Nat) : Int).toNat) _)[0 + ((k : Nat) : Int).toNat]? = _; exact List.getElem?_set_self (by simp; omega))) rfl) ?_
        refine XOps.s rfl rfl rfl (Q.move_d rfl) ?_
        refine XOps.s rfl rfl rfl (Q.gtr rfl rfl) ?_
        refine XOps.nil ?_
        refine W.cond rfl (fun hc39 => ?_) (fun hc39 => ?_)
        · try simp only [Bool.or_eq_true, Bool.or_eq_false_iff, Bool.and_eq_true, Bool.and_eq_false_iff, decide_eq_true_eq, decide_eq_false_iff_not, Bool.not_eq_true', Bool.not_eq_false', Int.not_lt, Int.not_le, List.length_map] at hc39
          rw [if_pos hc39] at hstep
          refine W.drawTreg 17 [16] follows (by kernel_rfl) (by decide) ?_
          apply DT.moreS [.new, .new, .new, .new, .new, .new, .new, .new, .new, .new, .new, .new, .new, .new, .new, .new, .now] (by kernel_rfl)
          refine PC.new _ rfl (GQ.q rfl (Q.move_ptr rfl)) rfl ?_
          refine PC.new _ rfl (GQ.q rfl (Q.nil_ptr rfl)) rfl ?_
          refine PC.new _ rfl (GQ.q rfl (Q.fld_ptr fl46_1 rfl)) rfl ?_
          refine PC.new _ rfl (GQ.q rfl (Q.ld_ptr (k := 0) ag36 rfl rfl rfl)) rfl ?_
          refine PC.new _ rfl (GQ.q rfl (Q.move_d rfl)) rfl ?_
          refine PC.new _ rfl (GQ.q rfl (Q.idx_vs (kk := 1) sl36 rfl rfl rfl (by omega) (by first | omega | (dsimp only; omega)))) rfl ?_
          refine PC.new _ rfl (GQ.q rfl (Q.fld_ep fl39_1 rfl)) rfl ?_
          refine PC.new _ rfl (GQ.q rfl (Q.ld_ep (k := 1) ag3 rfl rfl (by first | exact map_at0 hx | (show (((dnK s k).1.map Lv.enc).set (0 + ((k : Nat) : Int).toNat) _)[0 + ((k : Nat) : Int).toNat]? = _; exact List.getElem?_set_self (by simp; omega))) rfl)) rfl ?_
          refine PC.new _ rfl (GQ.q rfl (Q.move_ptr rfl)) rfl ?_
          refine PC.new _ rfl (GQ.q rfl (Q.nil_ptr rfl)) rfl ?_
          refine PC.new _ rfl (GQ.q rfl (Q.fld_ptr fl46_0 rfl)) rfl ?_
          refine PC.new _ rfl (GQ.q rfl (Q.fld_ptr fl28_2 rfl)) rfl ?_
          refine PC.new _ rfl (GQ.q rfl (Q.ld_ptr (k := 0) ag3 rfl rfl rfl)) rfl ?_
          refine PC.new _ rfl (GQ.q rfl (Q.sub rfl rfl (wi64 (by first | omega | (dsimp only; omega)) (by first | omega | (dsimp only; omega))))) rfl ?_
          refine PC.new _ rfl (GQ.q rfl (Q.idx_vs (kk := 1) sl36 rfl rfl rfl (by omega) (by first | omega | (dsimp only; omega)))) rfl ?_
          refine PC.new _ rfl (GQ.q rfl (Q.fld_ep fl39_1 rfl)) rfl ?_
          refine PC.now rfl rfl (fun τ => Loud.to (L.store_ep (k := 1) ag3 ((oev_app rfl).trans rfl) rfl (by first | exact map_at0 hx | (show (((dnK s k).1.map Lv.enc).set (0 + ((k : Nat) : Int).toNat) _)[0 + ((k : Nat) : Int).toNat]? = _; exact List.getElem?_set_self (by simp; omega))) rfl ((oev_app rfl).trans rfl) rfl) (fun _ _ h => ⟨.any, h.1, h.2⟩)) ?_
          refine PC.nil ?_
          rintro _ _ rfl
          refine DT.last [.did, .did, .did, .did, .did, .did, .did, .did, .did, .did, .did, .did, .did, .did, .did, .did, .did] (by kernel_rfl) ?_
          refine PC.did rfl ?_
          refine PC.did rfl ?_
          refine PC.did rfl ?_
          refine PC.did rfl ?_
          refine PC.did rfl ?_
          refine PC.did rfl ?_
          refine PC.did rfl ?_
          refine PC.did rfl ?_
          refine PC.did rfl ?_
          refine PC.did rfl ?_
          refine PC.did rfl ?_
          refine PC.did rfl ?_
          refine PC.did rfl ?_
          refine PC.did rfl ?_
          refine PC.did rfl ?_
          refine PC.did rfl ?_
          refine PC.did rfl ?_
          refine PC.nil ?_
          refine XOps.nil ?_
          refine W.region ?_
          refine XOps.s rfl rfl rfl (Q.move_d rfl) ?_
          refine XOps.s rfl rfl rfl (Q.add rfl rfl (wi64 (by first | omega | (dsimp only; omega)) (by first | omega | (dsimp only; omega)))) ?_
          refine XOps.s rfl rfl rfl (Q.assign_d rfl) ?_
          refine XOps.nil ?_
          refine W.draw 14 follows (by kernel_rfl) ?_
          refine Chain.cons _ (GQ.q rfl (Q.move_ptr rfl)) rfl ?_
          refine Chain.cons _ (GQ.q rfl (Q.nil_ptr rfl)) rfl ?_
          refine Chain.cons _ (GQ.q rfl (Q.fld_ptr fl46_1 rfl)) rfl ?_
          refine Chain.cons _ (GQ.q rfl (Q.ld_ptr (k := 0) ag36 rfl rfl rfl)) rfl ?_
          refine Chain.cons _ (GQ.q rfl (Q.move_d rfl)) rfl ?_
          refine Chain.cons _ (GQ.q rfl (Q.idx_vs (kk := 1) sl36 rfl rfl rfl (by omega) (by first | omega | (dsimp only; omega)))) rfl ?_
          refine Chain.cons _ (GQ.q rfl (Q.fld_ep fl39_1 rfl)) rfl ?_
          refine Chain.cons _ (GQ.q rfl (Q.ld_ep (k := 1) ag3 rfl rfl (by first | exact map_at0 hx | (show (((dnK s k).1.map Lv.enc).set (0 + ((k : Nat) : Int).toNat) _)[0 + ((k : Nat) : Int).toNat]? = _; exact List.getElem?_set_self (by simp; omega))) rfl)) rfl ?_
          refine Chain.cons _ (GQ.q rfl (Q.move_ptr rfl)) rfl ?_
          refine Chain.cons _ (GQ.q rfl (Q.nil_ptr rfl)) rfl ?_
          refine Chain.cons _ (GQ.q rfl (Q.fld_ptr fl46_0 rfl)) rfl ?_
          refine Chain.cons _ (GQ.q rfl (Q.fld_ptr fl28_2 rfl)) rfl ?_
          refine Chain.cons _ (GQ.q rfl (Q.ld_ptr (k := 0) ag3 rfl rfl rfl)) rfl ?_
          refine Chain.cons _ (GQ.q rfl (Q.add rfl rfl (wi64 (by first | omega | (dsimp only; omega)) (by first | omega | (dsimp only; omega))))) rfl ?_
          refine Chain.nil ?_
          refine XOps.s rfl rfl rfl (Q.assign_d rfl) ?_
          refine XOps.nil ?_
          refine W.region ?_
          refine XOps.s rfl rfl rfl (Q.add rfl rfl (wi64 (by first | omega | (dsimp only; omega)) (by first | omega | (dsimp only; omega)))) ?_
          refine XOps.s rfl rfl rfl (Q.move_d rfl) ?_
          refine XOps.nil ?_
          refine ⟨k + 1, ?_, ?_, ?_, ?_⟩
          · omega
          · omega
          · exact ⟨by first | rfl | exact int_eq (by omega) | exact len_eq (by simp) | exact int_eq (by simp; done), by (rw [hstep]; rfl), by (rw [hstep]; rfl), by first | rfl | exact int_eq (by omega) | exact len_eq (by simp) | exact int_eq (by simp; done), by first | rfl | exact int_eq (by omega) | exact len_eq (by simp) | exact int_eq (by simp; done), trivial⟩
          · (show HLe (stH b ⟨s.low, s.high, s.step, (dnK s (k + 1)).1, t⟩ id hs) _; rw [hstep]; first | exact HLe.refl _ | exact HLe.cons' (by first | (simp [HSt.cells]; done) | (simp [HSt.cells]; rfl) | (simp [HSt.cells]; exact ⟨rfl, rfl⟩)) (HLe.cons' (by simp [Lv.enc, List.map_set]) (HLe.refl _)))
        · try simp only [Bool.or_eq_true, Bool.or_eq_false_iff, Bool.and_eq_true, Bool.and_eq_false_iff, decide_eq_true_eq, decide_eq_false_iff_not, Bool.not_eq_true', Bool.not_eq_false', Int.not_lt, Int.not_le, List.length_map] at hc39
          rw [if_neg (by omega)] at hstep
          refine W.skip ?_
          refine W.draw 14 follows (by kernel_rfl) ?_
          refine Chain.cons _ (GQ.q rfl (Q.move_ptr rfl)) rfl ?_
          refine Chain.cons _ (GQ.q rfl (Q.nil_ptr rfl)) rfl ?_
          refine Chain.cons _ (GQ.q rfl (Q.fld_ptr fl46_1 rfl)) rfl ?_
          refine Chain.cons _ (GQ.q rfl (Q.ld_ptr (k := 0) ag36 rfl rfl rfl)) rfl ?_
          refine Chain.cons _ (GQ.q rfl (Q.move_d rfl)) rfl ?_
          refine Chain.cons _ (GQ.q rfl (Q.idx_vs (kk := 1) sl36 rfl rfl rfl (by omega) (by first | omega | (dsimp only; omega)))) rfl ?_
          refine Chain.cons _ (GQ.q rfl (Q.fld_ep fl39_1 rfl)) rfl ?_
          refine Chain.cons _ (GQ.q rfl (Q.ld_ep (k := 1) ag3 rfl rfl (by first | exact map_at0 hx | (show (((dnK s k).1.map Lv.enc).set (0 + ((k : Nat) : Int).toNat) _)[0 + ((k : Nat) : Int).toNat]? = _; exact List.getElem?_set_self (by simp; omega))) rfl)) rfl ?_
          refine Chain.cons _ (GQ.q rfl (Q.move_ptr rfl)) rfl ?_
          refine Chain.cons _ (GQ.q rfl (Q.nil_ptr rfl)) rfl ?_
          refine Chain.cons _ (GQ.q rfl (Q.fld_ptr fl46_0 rfl)) rfl ?_
          refine Chain.cons _ (GQ.q rfl (Q.fld_ptr fl28_2 rfl)) rfl ?_
          refine Chain.cons _ (GQ.q rfl (Q.ld_ptr (k := 0) ag3 rfl rfl rfl)) rfl ?_
          refine Chain.cons _ (GQ.q rfl (Q.add rfl rfl (wi64 (by first | omega | (dsimp only; omega)) (by first | omega | (dsimp only; omega))))) rfl ?_
          refine Chain.nil ?_
          refine XOps.s rfl rfl rfl (Q.assign_d rfl) ?_
          refine XOps.nil ?_
          refine W.region ?_
          refine XOps.s rfl rfl rfl (Q.add rfl rfl (wi64 (by first | omega | (dsimp only; omega)) (by first | omega | (dsimp only; omega)))) ?_
          refine XOps.s rfl rfl rfl (Q.move_d rfl) ?_
          refine XOps.nil ?_
          refine ⟨k + 1, ?_, ?_, ?_, ?_⟩
          · omega
          · omega
          · exact ⟨by first | rfl | exact int_eq (by omega) | exact len_eq (by simp) | exact int_eq (by simp; done), by (rw [hstep]; rfl), by (rw [hstep]; rfl), by first | rfl | exact int_eq (by omega) | exact len_eq (by simp) | exact int_eq (by simp; done), by first | rfl | exact int_eq (by omega) | exact len_eq (by simp) | exact int_eq (by simp; done), trivial⟩
          · (show HLe (stH b ⟨s.low, s.high, s.step, (dnK s (k + 1)).1, t⟩ id hs) _; rw [hstep]; first | exact HLe.refl _ | exact HLe.cons' (by first | (simp [HSt.cells]; done) | (simp [HSt.cells]; rfl) | (simp [HSt.cells]; exact ⟨rfl, rfl⟩)) (HLe.cons' (by simp [Lv.enc, List.map_set]) (HLe.refl _)))
      · try simp only [Bool.or_eq_true, Bool.or_eq_false_iff, Bool.and_eq_true, Bool.and_eq_false_iff, decide_eq_true_eq, decide_eq_false_iff_not, Bool.not_eq_true', Bool.not_eq_false', Int.not_lt, Int.not_le, List.length_map] at hc28
        obtain rfl : k = s.l.length := by omega
        refine W.exit ?_
        refine W.reg ?_
        refine XOps.s rfl rfl rfl (Q.move_d rfl) ?_
        refine XOps.s rfl rfl rfl (Q.assign_d rfl) ?_
        refine XOps.s rfl rfl rfl (Q.assign_d rfl) ?_
        refine XOps.nil ?_
        refine W.ret ?_
        exact ⟨_, stH b ⟨s.low, s.high, s.step, (dnK s s.l.length).1, t⟩ id hs, rfl, HLe.refl _, rfl, rfl⟩
end Go.Proofs.YtpdeopgmgeaglaaA
