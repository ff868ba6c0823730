/- Put, Get and Change of package strip. -/
import Derived.Test.YtlfapbkaknikpaaDoorFrB
import Derived.Test.YtlfapbkaknikpaaDoorSpA
set_option linter.unusedVariables false
set_option linter.unusedSimpArgs false
set_option linter.unnecessarySimpa false
namespace Go.Proofs.YtlfapbkaknikpaaDoorA.FSpB
open Go
theorem ag22 : tAgg P 22 = some ((false, 1)) := by kernel_rfl
theorem ag24 : tAgg P 24 = some ((true, 5)) := by kernel_rfl
theorem ag3 : tAgg P 3 = some ((false, 1)) := by kernel_rfl
theorem ag9 : tAgg P 9 = some ((false, 1)) := by kernel_rfl
theorem ap22 : tApp P 22 = some ((5, 56)) := by kernel_rfl
theorem fl24_0 : tFld P 24 0 = some (0) := by kernel_rfl
theorem fl24_4 : tFld P 24 4 = some (4) := by kernel_rfl
theorem fl44_0 : tFld P 44 0 = some (0) := by kernel_rfl
theorem go17 : callGo Go.Proofs.Tryd.f17 = true := by kernel_rfl
theorem go18 : callGo Go.Proofs.Tryd.f18 = true := by kernel_rfl
theorem go19 : callGo Go.Proofs.Tryd.f19 = true := by kernel_rfl
theorem pl24 : tPl P 24 = some ([(0, 1), (1, 1), (2, 1), (3, 1), (4, 1)]) := by kernel_rfl
theorem sl22 : tSl P 22 = some (5) := by kernel_rfl
theorem tz24 : tZero P 24 = some ([.string ⟨#[]⟩, .string ⟨#[]⟩, .int .i64 0, .int .i64 0, .int .i64 0]) := by kernel_rfl
theorem tzd24 : cellsD [.string ⟨#[]⟩, .string ⟨#[]⟩, .int .i64 0, .int .i64 0, .int .i64 0] = some ([.str ⟨#[]⟩, .str ⟨#[]⟩, .int .i64 0, .int .i64 0, .int .i64 0]) := rfl
theorem zr22 : tZrow P 22 = some ([.string ⟨#[]⟩, .string ⟨#[]⟩, .int .i64 0, .int .i64 0, .int .i64 0]) := by kernel_rfl
theorem zrd22 : cellsD [.string ⟨#[]⟩, .string ⟨#[]⟩, .int .i64 0, .int .i64 0, .int .i64 0] = some ([.str ⟨#[]⟩, .str ⟨#[]⟩, .int .i64 0, .int .i64 0, .int .i64 0]) := rfl
end Go.Proofs.YtlfapbkaknikpaaDoorA.FSpB
namespace Go.Proofs.YtlfapbkaknikpaaDoorA
open Go FSpB
attribute [local irreducible] XOps Quiet Loud W AC GQ DT
set_option maxHeartbeats 4000000 in
set_option maxRecDepth 100000 in
theorem put_c (b : Nat) (l : List ST) (f : Nat) (s : ST) (hs : Hp) (hl : l.length ≤ 900) (h1 : s.call.size ≤ 140737488351232) (h2 : s.fix.size ≤ 140737488351232) : AC P 7 [.ptr b 0, .d (.agg s.enc)] (stH b l f hs) (fun r h => ∃ f2, r = .d (.int .i64 (pBE l s)) ∧ h = stH b (pBL l s) f2 hs) := by
  refine AC.of 31 Tryd.func7 rfl rfl rfl ?_
  refine W.reg ?_
  refine XOps.loud rfl (L.boxn rfl rfl) ?_
  rintro _ _ ⟨b3, rfl, rfl⟩
  refine XOps.s rfl rfl rfl (Q.assign_d rfl) ?_
  refine XOps.nil ?_
  refine W.seq ?_
  refine W.reg ?_
  refine XOps.s rfl rfl rfl (Q.ld_ptrn (k := 0) ag24 rfl rfl rfl) ?_
  refine XOps.s rfl rfl rfl (Q.call rfl Tryd.func17 go17 rfl (check_c s _ h1 h2)) ?_
  refine XOps.s rfl rfl rfl (Q.assign_d rfl) ?_
  refine XOps.nil ?_
  refine W.reg ?_
  refine XOps.s rfl rfl rfl (Q.move_d rfl) ?_
  refine XOps.s rfl rfl rfl (Q.neq rfl rfl) ?_
  refine XOps.nil ?_
  refine W.cond rfl (fun hc9 => ?_) (fun hc9 => ?_)
  · try simp only [Bool.or_eq_true, Bool.or_eq_false_iff, Bool.and_eq_true, Bool.and_eq_false_iff, decide_eq_true_eq, decide_eq_false_iff_not, Bool.not_eq_true', Bool.not_eq_false', Int.not_lt, Int.not_le, List.length_map] at hc9
    have h9 : checkS s ≠ 0 := by first | exact hc9 | (simpa using hc9)
    have hE : pBE l s = checkS s := if_pos h9
    have hV : pBL l s = l := if_pos (by rw [hE]; exact h9)
    rw [hE, hV]
    refine W.reg ?_
    refine XOps.s rfl rfl rfl (Q.move_d rfl) ?_
    refine XOps.s rfl rfl rfl (Q.assign_d rfl) ?_
    refine XOps.nil ?_
    refine W.ret ?_
    exact ⟨_, stH b l f hs, rfl, HLe.skip _ (HLe.refl _), f, rfl, rfl⟩
  · try simp only [Bool.or_eq_true, Bool.or_eq_false_iff, Bool.and_eq_true, Bool.and_eq_false_iff, decide_eq_true_eq, decide_eq_false_iff_not, Bool.not_eq_true', Bool.not_eq_false', Int.not_lt, Int.not_le, List.length_map] at hc9
    have h9 : checkS s = 0 := by first | exact hc9 | (simpa using hc9)
    refine W.skip ?_
    refine W.seq ?_
    refine W.reg ?_
    refine XOps.s rfl rfl rfl (Q.move_ptr rfl) ?_
    refine XOps.s rfl rfl rfl (Q.fld_ptr fl24_0 rfl) ?_
    refine XOps.s rfl rfl rfl (Q.ld_ptr (k := 0) ag9 rfl rfl rfl) ?_
    (refine XOps.loud rfl (L.call rfl Tryd.func18 go18 rfl (AC.le (find_c b l f s.call ((b3, .cells (s.enc.map .d)) :: hs) (by omega)) (HLe.pick 1 rfl rfl (HLe.pick 1 rfl rfl (HLe.refl _)))) rfl) ?_; rintro _ _ ⟨_, rfl, rfl, rfl⟩)
    refine XOps.s rfl rfl rfl (Q.geq rfl rfl) ?_
    refine XOps.nil ?_
    refine W.cond rfl (fun hc15 => ?_) (fun hc15 => ?_)
    · try simp only [Bool.or_eq_true, Bool.or_eq_false_iff, Bool.and_eq_true, Bool.and_eq_false_iff, decide_eq_true_eq, decide_eq_false_iff_not, Bool.not_eq_true', Bool.not_eq_false', Int.not_lt, Int.not_le, List.length_map] at hc15
      have hE : pBE l s = 7 := by unfold pBE; rw [if_neg (by omega), if_pos (by omega)]
      have hV : pBL l s = l := if_pos (by omega)
      rw [hE, hV]
      refine W.reg ?_
      refine XOps.s rfl rfl rfl (Q.assign_d rfl) ?_
      refine XOps.nil ?_
      refine W.ret ?_
      exact ⟨_, stH b l f hs, rfl, HLe.pick 0 rfl rfl (HLe.pick 0 rfl rfl (HLe.skip _ (HLe.refl _))), f, rfl, rfl⟩
    · try simp only [Bool.or_eq_true, Bool.or_eq_false_iff, Bool.and_eq_true, Bool.and_eq_false_iff, decide_eq_true_eq, decide_eq_false_iff_not, Bool.not_eq_true', Bool.not_eq_false', Int.not_lt, Int.not_le, List.length_map] at hc15
      refine W.skip ?_
      refine W.seq ?_
      refine W.reg ?_
      refine XOps.s rfl rfl rfl (Q.move_ptr rfl) ?_
      refine XOps.s rfl rfl rfl (Q.fld_ptr fl24_4 rfl) ?_
      refine XOps.s rfl rfl rfl (Q.ld_ptr (k := 2) ag3 rfl rfl rfl) ?_
      refine XOps.s rfl rfl rfl (Q.call rfl Tryd.func19 go19 rfl (cnt_c b l f s.bay ((b3, .cells (s.enc.map .d)) :: hs) (by omega))) ?_
      refine XOps.s rfl rfl rfl (Q.eql rfl rfl) ?_
      refine XOps.nil ?_
      refine W.cond rfl (fun hc20 => ?_) (fun hc20 => ?_)
      · try simp only [Bool.or_eq_true, Bool.or_eq_false_iff, Bool.and_eq_true, Bool.and_eq_false_iff, decide_eq_true_eq, decide_eq_false_iff_not, Bool.not_eq_true', Bool.not_eq_false', Int.not_lt, Int.not_le, List.length_map] at hc20
        have hE : pBE l s = 9 := by unfold pBE; rw [if_neg (by omega), if_neg (by omega), if_pos (by omega)]
        have hV : pBL l s = l := if_pos (by omega)
        rw [hE, hV]
        refine W.reg ?_
        refine XOps.s rfl rfl rfl (Q.assign_d rfl) ?_
        refine XOps.nil ?_
        refine W.ret ?_
        exact ⟨_, stH b l f hs, rfl, HLe.pick 0 rfl rfl (HLe.pick 0 rfl rfl (HLe.skip _ (HLe.refl _))), f, rfl, rfl⟩
      · try simp only [Bool.or_eq_true, Bool.or_eq_false_iff, Bool.and_eq_true, Bool.and_eq_false_iff, decide_eq_true_eq, decide_eq_false_iff_not, Bool.not_eq_true', Bool.not_eq_false', Int.not_lt, Int.not_le, List.length_map] at hc20
        have hE : pBE l s = 0 := by unfold pBE; rw [if_neg (by omega), if_neg (by omega), if_neg (by omega)]
        have hV : pBL l s = l ++ [s] := if_neg (by omega)
        rw [hE, hV]
        refine W.skip ?_
        refine W.drawTreg 11 [7, 10] follows (by kernel_rfl) (by decide) ?_
        apply DT.moreE [.new, .new, .new, .new, .new, .new, .new, .now, .later, .later, .later] (by kernel_rfl)
        refine PC.new _ rfl (GQ.q rfl (Q.move_ptr rfl)) rfl ?_
        refine PC.new _ rfl (GQ.q rfl (Q.move_ptr rfl)) rfl ?_
        refine PC.new _ rfl (GQ.q rfl (Q.nil_ptr rfl)) rfl ?_
        refine PC.new _ rfl (GQ.q rfl (Q.fld_ptr fl44_0 rfl)) rfl ?_
        refine PC.new _ rfl (GQ.q rfl (Q.ld_ptr (k := 0) ag22 rfl rfl rfl)) rfl ?_
        refine PC.new _ rfl (GQ.q rfl (Q.ld_ptrn (k := 2) ag24 rfl rfl rfl)) rfl ?_
        refine PC.new _ rfl (GQ.q rfl (Q.bsl1n sl22 (by decide) zr22 rfl zrd22 rfl rfl (by decide))) rfl ?_
        refine PC.now rfl rfl (fun τ => Loud.to (L.app (k := 1) ap22 rfl rfl (by first | rfl | (simp [List.length_map]; done)) rfl (by simp; omega) rfl) (fun _ _ ⟨v, h1, h2⟩ => ⟨_, h1, v, rfl, h2⟩)) ?_
        refine PC.later rfl ?_
        refine PC.later rfl ?_
        refine PC.later rfl ?_
        refine PC.nil ?_
        rintro _ _ ⟨v28, rfl, rfl⟩
        apply DT.moreS [.old, .did, .did, .did, .did, .did, .did, .did, .new, .new, .now] (by kernel_rfl)
        refine PC.old rfl (GQ.q rfl (Q.move_ptr rfl)) rfl ?_
        refine PC.did rfl ?_
        refine PC.did rfl ?_
        refine PC.did rfl ?_
        refine PC.did rfl ?_
        refine PC.did rfl ?_
        refine PC.did rfl ?_
        refine PC.did rfl ?_
        refine PC.new _ rfl (GQ.q rfl (Q.nil_ptr rfl)) rfl ?_
        refine PC.new _ rfl (GQ.q rfl (Q.fld_ptr fl44_0 rfl)) rfl ?_
        refine PC.now rfl rfl (fun τ => Loud.to (L.store (k := 1) ag22 ((oev_app rfl).trans rfl) rfl rfl ((oev_app rfl).trans rfl) rfl) (fun _ _ h => ⟨.any, h.1, h.2⟩)) ?_
        refine PC.nil ?_
        rintro _ _ rfl
        refine DT.last [.did, .did, .did, .did, .did, .did, .did, .did, .did, .did, .did] (by kernel_rfl) ?_
        refine PC.did rfl ?_
        refine PC.did rfl ?_
        refine PC.did rfl ?_
        refine PC.did rfl ?_
        refine PC.did rfl ?_
        refine PC.did rfl ?_
        refine PC.did rfl ?_
        refine PC.did rfl ?_
        refine PC.did rfl ?_
        refine PC.did rfl ?_
        refine PC.did rfl ?_
        refine PC.nil ?_
        refine XOps.nil ?_
        refine W.reg ?_
        refine XOps.s rfl rfl rfl (Q.assign_d rfl) ?_
        refine XOps.nil ?_
        refine W.ret ?_
        exact ⟨_, stH b (l ++ [s]) v28 hs, rfl, HLe.pick 1 rfl (by simp only [List.length_append, List.length_map]; rfl) (HLe.pick 0 rfl (by simp; rfl) (HLe.skip _ (HLe.refl _))), v28, rfl, rfl⟩

set_option maxHeartbeats 1000000 in
set_option maxRecDepth 100000 in
theorem get_c (b : Nat) (l : List ST) (f : Nat) (c : ByteArray) (hs : Hp) (hl : l.length ≤ 900) : AC P 9 [.ptr b 0, .d (.str c)] (stH b l f hs) (fun r h => r = .tup [.d (.agg (getV l c).enc), .d (.int .i64 (getE l c))] ∧ h = stH b l f hs) := by
  refine AC.ofc 20 Tryd.func9 rfl rfl rfl ?_
  refine W.reg ?_
  (refine XOps.loud rfl (L.alloc tz24 rfl rfl) ?_; rintro _ _ ⟨b4, rfl, rfl⟩)
  refine XOps.s rfl rfl rfl (Q.assign_d rfl) ?_
  refine XOps.nil ?_
  refine W.reg ?_
  refine XOps.s rfl rfl rfl (Q.move_ptr rfl) ?_
  refine XOps.s rfl rfl rfl (Q.move_d rfl) ?_
  (refine XOps.loud rfl (L.call rfl Tryd.func18 go18 rfl (AC.le (find_c b l f c ((b4, .cells (ST.zero.enc.map .d)) :: hs) (by omega)) (HLe.pick 1 rfl rfl (HLe.pick 1 rfl rfl (HLe.refl _)))) rfl) ?_; rintro _ _ ⟨_, rfl, rfl, rfl⟩)
  refine XOps.s rfl rfl rfl (Q.assign_d rfl) ?_
  refine XOps.nil ?_
  refine W.seq ?_
  refine W.reg ?_
  refine XOps.s rfl rfl rfl (Q.move_d rfl) ?_
  refine XOps.s rfl rfl rfl (Q.lss rfl rfl) ?_
  refine XOps.nil ?_
  refine W.cond rfl (fun hc11 => ?_) (fun hc11 => ?_)
  · try simp only [Bool.or_eq_true, Bool.or_eq_false_iff, Bool.and_eq_true, Bool.and_eq_false_iff, decide_eq_true_eq, decide_eq_false_iff_not, Bool.not_eq_true', Bool.not_eq_false', Int.not_lt, Int.not_le, List.length_map] at hc11
    have hE : getE l c = 8 := if_pos (by omega)
    have hV : getV l c = ST.zero := if_pos (by omega)
    rw [hE, hV]
    refine W.reg ?_
    refine XOps.s rfl rfl rfl (Q.build pl24 tz24 tzd24 rfl) ?_
    refine XOps.loud rfl (L.storen (k := 2) ag24 rfl rfl rfl rfl rfl) ?_
    rintro _ _ ⟨rfl, rfl⟩
    refine XOps.s rfl rfl rfl (Q.assign_d rfl) ?_
    refine XOps.nil ?_
    refine W.ret ?_
    exact ⟨_, stH b l f hs, (.cons (by first | exact .celln 0 ag24 rfl rfl rfl | exact .cell1 0 ag24 rfl rfl rfl | exact .celln 1 ag24 rfl rfl rfl | exact .cell1 1 ag24 rfl rfl rfl | exact .celln 2 ag24 rfl rfl rfl | exact .cell1 2 ag24 rfl rfl rfl | exact .celln 3 ag24 rfl rfl rfl | exact .cell1 3 ag24 rfl rfl rfl | exact .celln 4 ag24 rfl rfl rfl | exact .cell1 4 ag24 rfl rfl rfl | exact .celln 5 ag24 rfl rfl rfl | exact .cell1 5 ag24 rfl rfl rfl) (.cons (.tmp _) .nil)), HLe.pick 0 rfl rfl (HLe.pick 0 rfl rfl (HLe.skip _ (HLe.refl _))), rfl, rfl⟩
  · try simp only [Bool.or_eq_true, Bool.or_eq_false_iff, Bool.and_eq_true, Bool.and_eq_false_iff, decide_eq_true_eq, decide_eq_false_iff_not, Bool.not_eq_true', Bool.not_eq_false', Int.not_lt, Int.not_le, List.length_map] at hc11
    have hE : getE l c = 0 := if_neg (by omega)
    have hV : getV l c = l.getD (findS l c).toNat ST.zero := if_neg (by omega)
    obtain ⟨j, hj⟩ : ∃ j : Nat, findS l c = j := ⟨(findS l c).toNat, by omega⟩
    obtain ⟨x, hx, _⟩ := idxP_at hj
    have hjl := (List.getElem?_eq_some_iff.1 hx).1
    have hgd : l.getD j ST.zero = x := by rw [List.getD_eq_getElem?_getD, hx]; rfl
    rw [hj, Int.toNat_natCast, hgd] at hV
    rw [hE, hV, hj]
    refine W.skip ?_
    refine W.reg ?_
    refine XOps.s rfl rfl rfl (Q.move_ptr rfl) ?_
    refine XOps.s rfl rfl rfl (Q.nil_ptr rfl) ?_
    refine XOps.s rfl rfl rfl (Q.fld_ptr fl44_0 rfl) ?_
    refine XOps.s rfl rfl rfl (Q.ld_ptr (k := 0) ag22 rfl rfl rfl) ?_
    refine XOps.s rfl rfl rfl (Q.move_d rfl) ?_
    refine XOps.s rfl rfl rfl (Q.idx_vs (kk := 1) sl22 rfl rfl rfl (by first | omega | (simp at hg; omega)) (by first | omega | (dsimp only; omega))) ?_
    refine XOps.s rfl rfl rfl (Q.ld_epn (k := 1) ag24 rfl rfl (by exact map_at0 hx) rfl) ?_
    refine XOps.loud rfl (L.storen (k := 2) ag24 rfl rfl rfl rfl rfl) ?_
    rintro _ _ ⟨rfl, rfl⟩
    refine XOps.s rfl rfl rfl (Q.assign_d rfl) ?_
    refine XOps.nil ?_
    refine W.ret ?_
    exact ⟨_, stH b l f hs, (.cons (by first | exact .celln 0 ag24 rfl rfl rfl | exact .cell1 0 ag24 rfl rfl rfl | exact .celln 1 ag24 rfl rfl rfl | exact .cell1 1 ag24 rfl rfl rfl | exact .celln 2 ag24 rfl rfl rfl | exact .cell1 2 ag24 rfl rfl rfl | exact .celln 3 ag24 rfl rfl rfl | exact .cell1 3 ag24 rfl rfl rfl | exact .celln 4 ag24 rfl rfl rfl | exact .cell1 4 ag24 rfl rfl rfl | exact .celln 5 ag24 rfl rfl rfl | exact .cell1 5 ag24 rfl rfl rfl) (.cons (.tmp _) .nil)), HLe.pick 0 rfl rfl (HLe.pick 0 rfl rfl (HLe.skip _ (HLe.refl _))), rfl, rfl⟩

set_option maxHeartbeats 4000000 in
set_option maxRecDepth 100000 in
theorem change_c (b : Nat) (l : List ST) (f : Nat) (s : ST) (hs : Hp) (hl : l.length ≤ 900) (h1 : s.call.size ≤ 140737488351232) (h2 : s.fix.size ≤ 140737488351232) : AC P 8 [.ptr b 0, .d (.agg s.enc)] (stH b l f hs) (fun r h => r = .d (.int .i64 (chgE l s)) ∧ h = stH b (chgL l s) f hs) := by
  refine AC.of 49 Tryd.func8 rfl rfl rfl ?_
  refine W.reg ?_
  refine XOps.loud rfl (L.boxn rfl rfl) ?_
  rintro _ _ ⟨b3, rfl, rfl⟩
  refine XOps.s rfl rfl rfl (Q.assign_d rfl) ?_
  refine XOps.nil ?_
  refine W.seq ?_
  refine W.reg ?_
  refine XOps.s rfl rfl rfl (Q.ld_ptrn (k := 0) ag24 rfl rfl rfl) ?_
  refine XOps.s rfl rfl rfl (Q.call rfl Tryd.func17 go17 rfl (check_c s _ h1 h2)) ?_
  refine XOps.s rfl rfl rfl (Q.assign_d rfl) ?_
  refine XOps.nil ?_
  refine W.reg ?_
  refine XOps.s rfl rfl rfl (Q.move_d rfl) ?_
  refine XOps.s rfl rfl rfl (Q.neq rfl rfl) ?_
  refine XOps.nil ?_
  refine W.cond rfl (fun hc10 => ?_) (fun hc10 => ?_)
  · try simp only [Bool.or_eq_true, Bool.or_eq_false_iff, Bool.and_eq_true, Bool.and_eq_false_iff, decide_eq_true_eq, decide_eq_false_iff_not, Bool.not_eq_true', Bool.not_eq_false', Int.not_lt, Int.not_le, List.length_map] at hc10
    have h9 : checkS s ≠ 0 := by first | exact hc10 | (simpa using hc10)
    have hE : chgE l s = checkS s := if_pos h9
    have hV : chgL l s = l := if_pos (by rw [hE]; exact h9)
    rw [hE, hV]
    refine W.reg ?_
    refine XOps.s rfl rfl rfl (Q.move_d rfl) ?_
    refine XOps.s rfl rfl rfl (Q.assign_d rfl) ?_
    refine XOps.nil ?_
    refine W.ret ?_
    exact ⟨_, stH b l f hs, rfl, HLe.skip _ (HLe.refl _), rfl, rfl⟩
  · try simp only [Bool.or_eq_true, Bool.or_eq_false_iff, Bool.and_eq_true, Bool.and_eq_false_iff, decide_eq_true_eq, decide_eq_false_iff_not, Bool.not_eq_true', Bool.not_eq_false', Int.not_lt, Int.not_le, List.length_map] at hc10
    have h9 : checkS s = 0 := by first | exact hc10 | (simpa using hc10)
    refine W.skip ?_
    refine W.reg ?_
    refine XOps.s rfl rfl rfl (Q.move_ptr rfl) ?_
    refine XOps.s rfl rfl rfl (Q.fld_ptr fl24_0 rfl) ?_
    refine XOps.s rfl rfl rfl (Q.ld_ptr (k := 0) ag9 rfl rfl rfl) ?_
    (refine XOps.loud rfl (L.call rfl Tryd.func18 go18 rfl (AC.le (find_c b l f s.call ((b3, .cells (s.enc.map .d)) :: hs) (by omega)) (HLe.pick 1 rfl rfl (HLe.pick 1 rfl rfl (HLe.refl _)))) rfl) ?_; rintro _ _ ⟨_, rfl, rfl, rfl⟩)
    refine XOps.s rfl rfl rfl (Q.assign_d rfl) ?_
    refine XOps.nil ?_
    refine W.seq ?_
    refine W.block ?_
    refine W.reg ?_
    refine XOps.s rfl rfl rfl (Q.move_d rfl) ?_
    refine XOps.s rfl rfl rfl (Q.lss rfl rfl) ?_
    refine XOps.s rfl rfl rfl (Q.assign_d rfl) ?_
    refine XOps.nil ?_
    refine W.cond rfl (fun hc16 => ?_) (fun hc16 => ?_)
    · try simp only [Bool.or_eq_true, Bool.or_eq_false_iff, Bool.and_eq_true, Bool.and_eq_false_iff, decide_eq_true_eq, decide_eq_false_iff_not, Bool.not_eq_true', Bool.not_eq_false', Int.not_lt, Int.not_le, List.length_map] at hc16
      have hE : chgE l s = 8 := by unfold chgE; rw [if_neg (by omega), if_pos (by omega)]
      have hV : chgL l s = l := if_pos (by omega)
      rw [hE, hV]
      refine W.reg ?_
      refine XOps.s rfl rfl rfl (Q.assign_d rfl) ?_
      refine XOps.nil ?_
      refine W.ret ?_
      exact ⟨_, stH b l f hs, rfl, HLe.pick 0 rfl rfl (HLe.pick 0 rfl rfl (HLe.skip _ (HLe.refl _))), rfl, rfl⟩
    · try simp only [Bool.or_eq_true, Bool.or_eq_false_iff, Bool.and_eq_true, Bool.and_eq_false_iff, decide_eq_true_eq, decide_eq_false_iff_not, Bool.not_eq_true', Bool.not_eq_false', Int.not_lt, Int.not_le, List.length_map] at hc16
      obtain ⟨j, hj⟩ : ∃ j : Nat, findS l s.call = j := ⟨(findS l s.call).toNat, by omega⟩
      obtain ⟨x, hx, _⟩ := idxP_at hj
      have hjl := (List.getElem?_eq_some_iff.1 hx).1
      have hgd : l.getD (findS l s.call).toNat ST.zero = x := by rw [hj, Int.toNat_natCast, List.getD_eq_getElem?_getD, hx]; rfl
      rw [hj]
      refine W.drawreg 23 follows (by kernel_rfl) ?_
      refine Chain.cons _ (GQ.q rfl (Q.move_ptr rfl)) rfl ?_
      refine Chain.cons _ (GQ.q rfl (Q.nil_ptr rfl)) rfl ?_
      refine Chain.cons _ (GQ.q rfl (Q.fld_ptr fl44_0 rfl)) rfl ?_
      refine Chain.cons _ (GQ.q rfl (Q.ld_ptr (k := 0) ag22 rfl rfl rfl)) rfl ?_
      refine Chain.cons _ (GQ.q rfl (Q.move_d rfl)) rfl ?_
      refine Chain.cons _ (GQ.q rfl (Q.idx_vs (kk := 1) sl22 rfl rfl rfl (by first | omega | (simp at hg; omega)) (by first | omega | (dsimp only; omega)))) rfl ?_
      refine Chain.cons _ (GQ.q rfl (Q.fld_ep fl24_4 rfl)) rfl ?_
      refine Chain.cons _ (GQ.q rfl (Q.ld_ep (k := 1) ag3 rfl rfl (by exact map_at0 hx) rfl)) rfl ?_
      refine Chain.cons _ (GQ.q rfl (Q.eql rfl rfl)) rfl ?_
      refine Chain.cons _ (GQ.q rfl (Q.move_d rfl)) rfl ?_
      refine Chain.cons _ (GQ.g rfl rfl rfl rfl rfl (fun hg => Q.move_ptr rfl)) rfl ?_
      refine Chain.cons _ (GQ.g rfl rfl rfl rfl rfl (fun hg => Quiet.open 30 hg rfl (Q.nil_ptr rfl))) rfl ?_
      refine Chain.cons _ (GQ.g rfl rfl rfl rfl rfl (fun hg => Quiet.open 31 hg rfl (Q.fld_ptr fl44_0 rfl))) rfl ?_
      refine Chain.cons _ (GQ.g rfl rfl rfl rfl rfl (fun hg => Quiet.open 32 hg rfl (Q.ld_ptr (k := 0) ag22 rfl rfl rfl))) rfl ?_
      refine Chain.cons _ (GQ.g rfl rfl rfl rfl rfl (fun hg => Q.move_d rfl)) rfl ?_
      refine Chain.cons _ (GQ.g rfl rfl rfl rfl rfl (fun hg => Quiet.open 33 hg rfl (Quiet.open 34 hg rfl (Q.idx_vs (kk := 1) sl22 rfl rfl rfl (by first | omega | (simp at hg; omega)) (by first | omega | (dsimp only; omega)))))) rfl ?_
      refine Chain.cons _ (GQ.g rfl rfl rfl rfl rfl (fun hg => Quiet.open 35 hg rfl (Q.fld_ep fl24_4 rfl))) rfl ?_
      refine Chain.cons _ (GQ.g rfl rfl rfl rfl rfl (fun hg => Quiet.open 36 hg rfl (Q.ld_ep (k := 1) ag3 rfl rfl (by exact map_at0 hx) rfl))) rfl ?_
      refine Chain.cons _ (GQ.g rfl rfl rfl rfl rfl (fun hg => Q.fld_ptr fl24_4 rfl)) rfl ?_
      refine Chain.cons _ (GQ.g rfl rfl rfl rfl rfl (fun hg => Quiet.open 38 hg rfl (Q.ld_ptr (k := 2) ag3 rfl rfl rfl))) rfl ?_
      refine Chain.cons _ (GQ.g rfl rfl rfl rfl rfl (fun hg => Quiet.open 37 hg rfl (Quiet.open 39 hg rfl (Q.neq rfl rfl)))) rfl ?_
      refine Chain.cons _ (GQ.q rfl (Q.pick_or rfl rfl rfl (fun h => by first | (rw [h]; rfl) | (rw [hg, h]; rfl) | (simp [h, hg]; done)))) rfl ?_
      refine Chain.cons _ (GQ.q rfl (Q.assign_d rfl)) rfl ?_
      refine Chain.nil ?_
      refine XOps.nil ?_
      refine W.cond rfl (fun hc19 => ?_) (fun hc19 => ?_)
      · try simp only [Bool.or_eq_true, Bool.or_eq_false_iff, Bool.and_eq_true, Bool.and_eq_false_iff, decide_eq_true_eq, decide_eq_false_iff_not, Bool.not_eq_true', Bool.not_eq_false', Int.not_lt, Int.not_le, List.length_map] at hc19
        have hE : chgE l s = 11 := by unfold chgE; rw [if_neg (by omega), if_neg (by omega), hgd, if_pos (by omega)]
        have hV : chgL l s = l := if_pos (by omega)
        rw [hE, hV]
        refine W.reg ?_
        refine XOps.s rfl rfl rfl (Q.assign_d rfl) ?_
        refine XOps.nil ?_
        refine W.ret ?_
        exact ⟨_, stH b l f hs, rfl, HLe.pick 0 rfl rfl (HLe.pick 0 rfl rfl (HLe.skip _ (HLe.refl _))), rfl, rfl⟩
      · try simp only [Bool.or_eq_true, Bool.or_eq_false_iff, Bool.and_eq_true, Bool.and_eq_false_iff, decide_eq_true_eq, decide_eq_false_iff_not, Bool.not_eq_true', Bool.not_eq_false', Int.not_lt, Int.not_le, List.length_map] at hc19
        have hE : chgE l s = 0 := by unfold chgE; rw [if_neg (by omega), if_neg (by omega), hgd, if_neg (by omega)]
        have hV : chgL l s = l.set j s := by unfold chgL; rw [if_neg (by omega), hj, Int.toNat_natCast]
        rw [hE, hV]
        refine W.skip ?_
        refine W.drawreg 6 follows (by kernel_rfl) ?_
        refine Chain.cons _ (GQ.q rfl (Q.move_ptr rfl)) rfl ?_
        refine Chain.cons _ (GQ.q rfl (Q.nil_ptr rfl)) rfl ?_
        refine Chain.cons _ (GQ.q rfl (Q.fld_ptr fl44_0 rfl)) rfl ?_
        refine Chain.cons _ (GQ.q rfl (Q.ld_ptr (k := 0) ag22 rfl rfl rfl)) rfl ?_
        refine Chain.cons _ (GQ.q rfl (Q.move_d rfl)) rfl ?_
        refine Chain.cons _ (GQ.q rfl (Q.ld_ptrn (k := 2) ag24 rfl rfl rfl)) rfl ?_
        refine Chain.nil ?_
        refine XOps.s rfl rfl rfl (Q.idx_vs (kk := 1) sl22 rfl rfl rfl (by first | omega | (simp at hg; omega)) (by first | omega | (dsimp only; omega))) ?_
        refine XOps.loud rfl (L.storen_ep (k := 1) ag24 rfl rfl (by exact map_at0 hx) rfl rfl rfl) ?_
        rintro _ _ ⟨rfl, rfl⟩
        refine XOps.nil ?_
        refine W.reg ?_
        refine XOps.s rfl rfl rfl (Q.assign_d rfl) ?_
        refine XOps.nil ?_
        refine W.ret ?_
        exact ⟨_, stH b (l.set j s) f hs, rfl, HLe.pick 0 rfl (by rw [List.length_set]) (HLe.pick 0 rfl (by rw [List.map_set]; simp [ST.enc]) (HLe.skip _ (HLe.refl _))), rfl, rfl⟩
end Go.Proofs.YtlfapbkaknikpaaDoorA
