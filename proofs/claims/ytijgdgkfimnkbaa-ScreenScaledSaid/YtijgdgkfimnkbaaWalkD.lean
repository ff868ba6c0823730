/- The laws ScreenSwapped, ScreenMoved and ScreenScaled. -/
import Derived.Test.YtijgdgkfimnkbaaBase
import Derived.Test.YtijgdgkfimnkbaaWalkC
import Derived.Test.YtijgdgkfimnkbaaSpec3
set_option linter.unusedVariables false
set_option linter.unusedSimpArgs false
set_option linter.unnecessarySimpa false
namespace Go.Proofs.YtijgdgkfimnkbaaA.FWalkD
open Go
theorem ag23 : tAgg P 23 = some ((true, 2)) := by kernel_rfl
theorem ag25 : tAgg P 25 = some ((true, 5)) := by kernel_rfl
theorem ag27 : tAgg P 27 = some ((true, 2)) := by kernel_rfl
theorem ag3 : tAgg P 3 = some ((false, 1)) := by kernel_rfl
theorem ag9 : tAgg P 9 = some ((false, 1)) := by kernel_rfl
theorem eqt27 : tEq P 27 = some ([.int .i64, .int .i64]) := by kernel_rfl
theorem fl23_0 : tFld P 23 0 = some (0) := by kernel_rfl
theorem fl23_1 : tFld P 23 1 = some (1) := by kernel_rfl
theorem fl25_0 : tFld P 25 0 = some (0) := by kernel_rfl
theorem fl25_1 : tFld P 25 1 = some (2) := by kernel_rfl
theorem fl27_0 : tFld P 27 0 = some (0) := by kernel_rfl
theorem fl27_1 : tFld P 27 1 = some (1) := by kernel_rfl
theorem go10 : callGo Go.Proofs.Try.f10 = true := by kernel_rfl
theorem go13 : callGo Go.Proofs.Try.f13 = true := by kernel_rfl
theorem go15 : callGo Go.Proofs.Try.f15 = true := by kernel_rfl
theorem go16 : callGo Go.Proofs.Try.f16 = true := by kernel_rfl
theorem go17 : callGo Go.Proofs.Try.f17 = true := by kernel_rfl
theorem go8 : callGo Go.Proofs.Try.f8 = true := by kernel_rfl
theorem go9 : callGo Go.Proofs.Try.f9 = true := by kernel_rfl
theorem isb4 : isB P 4 = true := by kernel_rfl
theorem isl37 : isSl P 37 = true := by kernel_rfl
theorem isl42 : isSl P 42 = true := by kernel_rfl
theorem pl23 : tPl P 23 = some ([(0, 1), (1, 1)]) := by kernel_rfl
theorem pl25 : tPl P 25 = some ([(0, 2), (2, 1), (3, 1), (4, 1)]) := by kernel_rfl
theorem pl27 : tPl P 27 = some ([(0, 1), (1, 1)]) := by kernel_rfl
theorem sl34 : tSl P 34 = some (2) := by kernel_rfl
theorem sl37 : tSl P 37 = some (1) := by kernel_rfl
theorem sl42 : tSl P 42 = some (2) := by kernel_rfl
theorem tz23 : tZero P 23 = some ([.int .i64 0, .int .i64 0]) := by kernel_rfl
theorem tz25 : tZero P 25 = some ([.int .i64 0, .int .i64 0, .int .i64 0, .int .i64 0, .int .i64 0]) := by kernel_rfl
theorem tz27 : tZero P 27 = some ([.int .i64 0, .int .i64 0]) := by kernel_rfl
theorem tzd23 : cellsD [.int .i64 0, .int .i64 0] = some ([.int .i64 0, .int .i64 0]) := rfl
theorem tzd25 : cellsD [.int .i64 0, .int .i64 0, .int .i64 0, .int .i64 0, .int .i64 0] = some ([.int .i64 0, .int .i64 0, .int .i64 0, .int .i64 0, .int .i64 0]) := rfl
theorem tzd27 : cellsD [.int .i64 0, .int .i64 0] = some ([.int .i64 0, .int .i64 0]) := rfl
theorem zr34 : tZrow P 34 = some ([.int .i64 0, .int .i64 0]) := by kernel_rfl
theorem zrd34 : cellsD [.int .i64 0, .int .i64 0] = some ([.int .i64 0, .int .i64 0]) := rfl
end Go.Proofs.YtijgdgkfimnkbaaA.FWalkD
namespace Go.Proofs.YtijgdgkfimnkbaaA
open Go FWalkD
theorem pic_c (v : Vw) (l : List Ce) (hs : Hp) (hl : l.length ≤ 32) (hv : v.ok) (hp : ∀ p ∈ l, pointS p = true) : AC P 13 [.d (.agg v.enc), .nilsl, .d (.sl 2 (l.map ceE))] hs (fun r h => r = .tup [.d (.sl 1 ((outK (marksS v (blankS v) l l.length) v.h.toNat v.h.toNat).map sE)), .d (.int .i64 0)] ∧ h = hs) :=
  AC.frz2 ((pic_own v l hs hl hv hp).mono fun r h ⟨o, h1, h2⟩ => ⟨o, _, _, h2, h1, .vs (by simp [outK_len]), .same _⟩)
theorem pic1_c (hs : Hp) : AC P 13 [.d (.agg [.int .i64 0, .int .i64 0, .int .i64 10, .int .i64 3, .int .i64 1]), .nilsl, .d (.sl 2 [[.int .i64 0, .int .i64 0]])] hs (fun r h => r = .tup [.d (.sl 1 [[.str ⟨#[32, 111, 32]⟩]]), .d (.int .i64 0)] ∧ h = hs) :=
  (pic_c ⟨0, 0, 10, 3, 1⟩ [(0, 0)] hs (by decide) ⟨by decide, by decide, by decide, by decide, by decide⟩ (by decide)).mono fun r h ⟨h1, h2⟩ => ⟨by rw [h1]; exact congrArg (fun z => AV.tup [.d (.sl 1 (z.map sE)), .d (.int .i64 0)]) fact_out, h2⟩

set_option maxHeartbeats 1000000 in
set_option maxRecDepth 100000 in
theorem fact_c (hs : Hp) : AC P 10 [] hs (fun r h => r = .d (.bool true) ∧ h = hs) := by
  refine AC.of 23 Try.func10 rfl rfl rfl ?_
  refine W.reg ?_
  refine XOps.s rfl rfl rfl (Q.assign_d rfl) ?_
  refine XOps.nil ?_
  refine W.reg ?_
  refine XOps.s rfl rfl rfl (Q.build pl25 tz25 tzd25 rfl) ?_
  refine XOps.s rfl rfl rfl (Q.build pl23 tz23 tzd23 rfl) ?_
  refine XOps.s rfl rfl rfl (Q.bsl1n sl34 (by decide) zr34 rfl zrd34 rfl rfl (by decide)) ?_
  refine XOps.s rfl rfl rfl (Q.call rfl Try.func13 go13 rfl (pic1_c _)) ?_
  refine XOps.s rfl rfl rfl (Q.move_tup rfl) ?_
  refine XOps.s rfl rfl rfl (Q.extract rfl rfl) ?_
  refine XOps.s rfl rfl rfl (Q.extract rfl rfl) ?_
  refine XOps.s rfl rfl rfl (Q.assign_d rfl) ?_
  refine XOps.s rfl rfl rfl (Q.assign_d rfl) ?_
  refine XOps.nil ?_
  refine W.reg ?_
  refine XOps.s rfl rfl rfl (Q.move_d rfl) ?_
  refine XOps.s rfl rfl rfl (Q.eql rfl rfl) ?_
  refine XOps.s rfl rfl rfl (Q.move_d rfl) ?_
  refine XOps.gs rfl rfl rfl rfl rfl rfl rfl (fun hg => Q.move_d rfl) ?_
  refine XOps.gs rfl rfl rfl rfl rfl rfl rfl (fun hg => Quiet.open 13 hg rfl (Q.len_sl isl37 rfl)) ?_
  refine XOps.gs rfl rfl rfl rfl rfl rfl rfl (fun hg => Quiet.open 14 hg rfl (Q.eql rfl rfl)) ?_
  refine XOps.s rfl rfl rfl (Q.pick_and rfl rfl rfl (fun h => by first | (rw [h]; rfl) | (rw [hg, h]; rfl) | (simp [h, hg]; done))) ?_
  refine XOps.s rfl rfl rfl (Q.move_d rfl) ?_
  refine XOps.gs rfl rfl rfl rfl rfl rfl rfl (fun hg => Q.move_d rfl) ?_
  refine XOps.gs rfl rfl rfl rfl rfl rfl rfl (fun hg => Quiet.open 18 hg rfl (Q.idx_sl (i := 0) sl37 (by decide) rfl rfl (by decide) rfl)) ?_
  refine XOps.gs rfl rfl rfl rfl rfl rfl rfl (fun hg => Quiet.open 19 hg rfl (Q.ld_dp ag9 rfl rfl)) ?_
  refine XOps.gs rfl rfl rfl rfl rfl rfl rfl (fun hg => Quiet.open 20 hg rfl (Q.eql_str rfl rfl)) ?_
  refine XOps.s rfl rfl rfl (Q.pick_and rfl rfl rfl (fun h => by first | (rw [h]; rfl) | (rw [hg, h]; rfl) | (simp [h, hg]; done))) ?_
  refine XOps.s rfl rfl rfl (Q.assign_d rfl) ?_
  refine XOps.nil ?_
  refine W.ret ?_
  exact ⟨_, hs, rfl, HLe.refl _, by show AV.d (.bool _) = _; simp, rfl⟩

set_option maxHeartbeats 1000000 in
set_option maxRecDepth 100000 in
theorem swapped_c (a b : Ce) (hs : Hp) : AC P 5 [.d (.agg (ceE a)), .d (.agg (ceE b))] hs (fun r _ => r = .d (.bool true)) := by
  have hlb : (lineL a b).length ≤ 4611686018427387904 := lineL_len a b
  have hlb2 : (lineL (swS a) (swS b)).length ≤ 4611686018427387904 := lineL_len _ _
  refine AC.of 58 Try.func5 rfl rfl rfl ?_
  refine W.reg ?_
  refine XOps.loud rfl (L.boxn rfl rfl) ?_
  rintro _ _ ⟨b2, rfl, rfl⟩
  refine XOps.loud rfl (L.boxn rfl rfl) ?_
  rintro _ _ ⟨b3, rfl, rfl⟩
  refine XOps.s rfl rfl rfl (Q.assign_d rfl) ?_
  refine XOps.nil ?_
  refine W.reg ?_
  refine XOps.s rfl rfl rfl (Q.ld_ptrn (k := 1) ag27 rfl rfl rfl) ?_
  refine XOps.s rfl rfl rfl (Q.ld_ptrn (k := 0) ag27 rfl rfl rfl) ?_
  refine XOps.loud rfl (L.call rfl Try.func15 go15 rfl (lineL_c a b _) rfl) ?_
  rintro _ _ ⟨_, rfl, v1, rfl, rfl⟩
  refine XOps.s rfl rfl rfl (Q.move_tup rfl) ?_
  refine XOps.s rfl rfl rfl (Q.extract rfl rfl) ?_
  refine XOps.s rfl rfl rfl (Q.extract rfl rfl) ?_
  refine XOps.s rfl rfl rfl (Q.assign_vs rfl) ?_
  refine XOps.s rfl rfl rfl (Q.assign_d rfl) ?_
  refine XOps.nil ?_
  refine W.reg ?_
  refine XOps.s rfl rfl rfl (Q.fld_ptr fl27_1 rfl) ?_
  refine XOps.s rfl rfl rfl (Q.ld_ptr (k := 2) ag3 rfl rfl rfl) ?_
  refine XOps.s rfl rfl rfl (Q.fld_ptr fl27_0 rfl) ?_
  refine XOps.s rfl rfl rfl (Q.ld_ptr (k := 2) ag3 rfl rfl rfl) ?_
  refine XOps.s rfl rfl rfl (Q.build pl27 tz27 tzd27 rfl) ?_
  refine XOps.s rfl rfl rfl (Q.fld_ptr fl27_1 rfl) ?_
  refine XOps.s rfl rfl rfl (Q.ld_ptr (k := 1) ag3 rfl rfl rfl) ?_
  refine XOps.s rfl rfl rfl (Q.fld_ptr fl27_0 rfl) ?_
  refine XOps.s rfl rfl rfl (Q.ld_ptr (k := 1) ag3 rfl rfl rfl) ?_
  refine XOps.s rfl rfl rfl (Q.build pl27 tz27 tzd27 rfl) ?_
  refine XOps.loud rfl (L.call rfl Try.func15 go15 rfl (lineL_c (swS a) (swS b) _) rfl) ?_
  rintro _ _ ⟨_, rfl, v2, rfl, rfl⟩
  refine XOps.s rfl rfl rfl (Q.move_tup rfl) ?_
  refine XOps.s rfl rfl rfl (Q.extract rfl rfl) ?_
  refine XOps.s rfl rfl rfl (Q.extract rfl rfl) ?_
  refine XOps.s rfl rfl rfl (Q.assign_vs rfl) ?_
  refine XOps.s rfl rfl rfl (Q.assign_d rfl) ?_
  refine XOps.nil ?_
  refine W.seq ?_
  refine W.reg ?_
  refine XOps.s rfl rfl rfl (Q.move_vs rfl) ?_
  refine XOps.s rfl rfl rfl (Q.len_vs isl42 rfl) ?_
  refine XOps.s rfl rfl rfl (Q.move_d rfl) ?_
  refine XOps.nil ?_
  refine W.block ?_
  refine W.loop (ι := Nat) (fun k => [(5, .vs v1 0 (lineL a b).length 2), (6, .d (.int .i64 (lineE a b))), (7, .vs v2 0 (lineL (swS a) (swS b)).length 2), (8, .d (.int .i64 (lineE (swS a) (swS b)))), (31, .vs v2 0 (lineL (swS a) (swS b)).length 2), (32, .d (.int .i64 (lineL (swS a) (swS b)).length)), (33, .d (.int .i64 k))]) (fun k => (v2, .lst 2 ((fK swS (lineL (swS a) (swS b)) k).map ceE)) :: (v1, .lst 2 ((lineL a b).map ceE)) :: (b3, .cells ((ceE b).map .d)) :: (b2, .cells ((ceE a).map .d)) :: hs) (fun k => k ≤ (lineL (swS a) (swS b)).length) (fun k => (lineL (swS a) (swS b)).length - k) 0 ?_ ?_ ?_ ?_
  · exact Nat.zero_le _
  · exact ⟨by first | rfl | exact int_eq (by omega) | exact len_eq (by simp) | exact int_eq (by simp; done), by first | rfl | exact int_eq (by omega) | exact len_eq (by simp) | exact int_eq (by simp; done), by first | rfl | exact int_eq (by omega) | exact len_eq (by simp) | exact int_eq (by simp; done), by first | rfl | exact int_eq (by omega) | exact len_eq (by simp) | exact int_eq (by simp; done), by first | rfl | exact int_eq (by omega) | exact len_eq (by simp) | exact int_eq (by simp; done), by first | rfl | exact int_eq (by omega) | exact len_eq (by simp) | exact int_eq (by simp; done), by first | rfl | exact int_eq (by omega) | exact len_eq (by simp) | exact int_eq (by simp; done), trivial⟩
  · exact HLe.cons' (by rw [fK_zero]) (HLe.refl _)
  · rintro k hk
    try dsimp only
    refine W.reg ?_
    refine XOps.s rfl rfl rfl (Q.lss rfl rfl) ?_
    refine XOps.nil ?_
    refine W.seq ?_
    refine W.cond rfl (fun hc34 => ?_) (fun hc34 => ?_)
    · try simp only [Bool.or_eq_true, Bool.or_eq_false_iff, Bool.and_eq_true, Bool.and_eq_false_iff, decide_eq_true_eq, decide_eq_false_iff_not, Bool.not_eq_true', Bool.not_eq_false', Int.not_lt, Int.not_le, List.length_map] at hc34
      obtain ⟨x, hx⟩ : ∃ x, (lineL (swS a) (swS b))[k]? = some x := ⟨_, List.getElem?_eq_getElem (by omega)⟩
      have hxk := fK_at (f := swS) hx
      have hst := fK_set (f := swS) hx
      refine W.skip ?_
      refine W.seq ?_
      refine W.block ?_
      refine W.reg ?_
      refine XOps.s rfl rfl rfl (Q.move_d rfl) ?_
      refine XOps.s rfl rfl rfl (Q.idx_vs (kk := 0) sl42 rfl rfl rfl (by first | omega | (simp at hg; omega)) (by first | omega | (dsimp only; omega))) ?_
      refine XOps.s rfl rfl rfl (Q.ld_epn (k := 0) ag27 rfl rfl (by first | exact map_at0 hxk) rfl) ?_
      (refine XOps.loud rfl (L.alloc tz27 rfl rfl) ?_; rintro _ _ ⟨b10, rfl, rfl⟩)
      refine XOps.s rfl rfl rfl (Q.assign_d rfl) ?_
      refine XOps.loud rfl (L.storen (k := 0) ag27 rfl rfl rfl rfl rfl) ?_
      rintro _ _ ⟨rfl, rfl⟩
      refine XOps.nil ?_
      refine W.region ?_
      refine XOps.s rfl rfl rfl (Q.move_vs rfl) ?_
      refine XOps.s rfl rfl rfl (Q.move_d rfl) ?_
      refine XOps.s rfl rfl rfl (Q.fld_ptr fl27_1 rfl) ?_
      refine XOps.s rfl rfl rfl (Q.ld_ptr (k := 0) ag3 rfl rfl rfl) ?_
      refine XOps.s rfl rfl rfl (Q.fld_ptr fl27_0 rfl) ?_
      refine XOps.s rfl rfl rfl (Q.ld_ptr (k := 0) ag3 rfl rfl rfl) ?_
      refine XOps.s rfl rfl rfl (Q.build pl27 tz27 tzd27 rfl) ?_
      refine XOps.s rfl rfl rfl (Q.idx_vs (kk := 1) sl42 rfl rfl rfl (by first | omega | (simp at hg; omega)) (by first | omega | (dsimp only; omega))) ?_
      (refine XOps.loud rfl (L.storen_ep (k := 1) ag27 rfl rfl (map_at0 hxk) rfl rfl rfl) ?_; rintro _ _ ⟨rfl, rfl⟩)
      refine XOps.nil ?_
      refine W.region ?_
      refine XOps.s rfl rfl rfl (Q.add rfl rfl (wi64 (by first | omega | (dsimp only; omega) | (simp only [List.length_map]; omega)) (by first | omega | (dsimp only; omega) | (simp only [List.length_map]; omega)))) ?_
      refine XOps.s rfl rfl rfl (Q.move_d rfl) ?_
      refine XOps.nil ?_
      refine ⟨k + 1, ?_, ?_, ?_, ?_⟩
      · omega
      · omega
      · exact ⟨by first | rfl | exact int_eq (by omega) | exact len_eq (by simp) | exact int_eq (by simp; done), by first | rfl | exact int_eq (by omega) | exact len_eq (by simp) | exact int_eq (by simp; done), by first | rfl | exact int_eq (by omega) | exact len_eq (by simp) | exact int_eq (by simp; done), by first | rfl | exact int_eq (by omega) | exact len_eq (by simp) | exact int_eq (by simp; done), by first | rfl | exact int_eq (by omega) | exact len_eq (by simp) | exact int_eq (by simp; done), by first | rfl | exact int_eq (by omega) | exact len_eq (by simp) | exact int_eq (by simp; done), by first | rfl | exact int_eq (by omega) | exact len_eq (by simp) | exact int_eq (by simp; done), trivial⟩
      · exact HLe.skip _ (HLe.cons' (by rw [← hst, List.map_set, show 0 + ((k : Nat) : Int).toNat = k by omega]; rfl) (HLe.refl _))
    · try simp only [Bool.or_eq_true, Bool.or_eq_false_iff, Bool.and_eq_true, Bool.and_eq_false_iff, decide_eq_true_eq, decide_eq_false_iff_not, Bool.not_eq_true', Bool.not_eq_false', Int.not_lt, Int.not_le, List.length_map] at hc34
      obtain rfl : k = (lineL (swS a) (swS b)).length := by omega
      rw [fK_all]
      refine W.exit ?_
      have hll : (lineL a b).length ≤ 4611686018427387904 := hlb
      refine W.freeze 5 1 rfl rfl (by simp) ?_
      refine W.freeze 7 0 rfl rfl (by simp) ?_
      refine W.reg ?_
      refine XOps.s rfl rfl rfl (Q.call rfl Try.func10 go10 rfl (fact_c _)) ?_
      refine XOps.s rfl rfl rfl (Q.move_d rfl) ?_
      refine XOps.gs rfl rfl rfl rfl rfl rfl rfl (fun hg => Q.move_d rfl) ?_
      refine XOps.gs rfl rfl rfl rfl rfl rfl rfl (fun hg => Q.move_d rfl) ?_
      refine XOps.gs rfl rfl rfl rfl rfl rfl rfl (fun hg => Quiet.open 49 hg rfl (Quiet.open 50 hg rfl (Q.eql rfl rfl))) ?_
      refine XOps.s rfl rfl rfl (Q.pick_and rfl rfl rfl (fun h => by first | (rw [h]; rfl) | (rw [hg, h]; rfl) | (simp [h, hg]; done))) ?_
      refine XOps.s rfl rfl rfl (Q.move_d rfl) ?_
      refine XOps.gs rfl rfl rfl rfl rfl rfl rfl (fun hg => Q.move_d rfl) ?_
      refine XOps.gs rfl rfl rfl rfl rfl rfl rfl (fun hg => Q.move_d rfl) ?_
      refine XOps.gs rfl rfl rfl rfl rfl rfl rfl (fun hg => Quiet.open 54 hg rfl (Quiet.open 55 hg rfl (Q.call rfl Try.func16 go16 rfl (equalC_c (lineL a b) ((lineL (swS a) (swS b)).map swS) _ hll)))) ?_
      refine XOps.s rfl rfl rfl (Q.pick_and rfl rfl rfl (fun h => by first | (rw [h]; rfl) | (rw [hg, h]; rfl) | (simp [h, hg]; done))) ?_
      refine XOps.s rfl rfl rfl (Q.assign_d rfl) ?_
      refine XOps.nil ?_
      refine W.ret ?_
      exact ⟨_, _, rfl, HLe.refl _, by show AV.d (.bool _) = _; simp [lineE_sw, lineL_sw]⟩

set_option maxHeartbeats 1000000 in
set_option maxRecDepth 100000 in
theorem moved_c (a b d : Ce) (hs : Hp) : AC P 6 [.d (.agg (ceE a)), .d (.agg (ceE b)), .d (.agg (ceE d))] hs (fun r _ => r = .d (.bool true)) := by
  have ca1 := cutI_bounds a.1 (show (-40 : Int) ≤ 40 by decide)
  have ca2 := cutI_bounds a.2 (show (-40 : Int) ≤ 40 by decide)
  have cb1 := cutI_bounds b.1 (show (-40 : Int) ≤ 40 by decide)
  have cb2 := cutI_bounds b.2 (show (-40 : Int) ≤ 40 by decide)
  have cd1 := cutI_bounds d.1 (show (-40 : Int) ≤ 40 by decide)
  have cd2 := cutI_bounds d.2 (show (-40 : Int) ≤ 40 by decide)
  refine AC.of 99 Try.func6 rfl rfl rfl ?_
  refine W.reg ?_
  refine XOps.loud rfl (L.boxn rfl rfl) ?_
  rintro _ _ ⟨b3, rfl, rfl⟩
  refine XOps.loud rfl (L.boxn rfl rfl) ?_
  rintro _ _ ⟨b4, rfl, rfl⟩
  refine XOps.loud rfl (L.boxn rfl rfl) ?_
  rintro _ _ ⟨b5, rfl, rfl⟩
  refine XOps.s rfl rfl rfl (Q.assign_d rfl) ?_
  refine XOps.nil ?_
  refine W.reg ?_
  refine XOps.s rfl rfl rfl (Q.assign_fn rfl) ?_
  refine XOps.nil ?_
  refine W.drawTreg 11 [9, 10] follows (by kernel_rfl) (by decide) ?_
  apply DT.moreS [.new, .new, .new, .new, .new, .new, .new, .new, .new, .now, .later] (by kernel_rfl)
  refine PC.new _ rfl (GQ.q rfl (Q.move_fn rfl)) rfl ?_
  refine PC.new _ rfl (GQ.q rfl (Q.ld_ptrn (k := 2) ag27 rfl rfl rfl)) rfl ?_
  refine PC.new _ rfl (GQ.q rfl (Q.call rfl Try.func17 go17 rfl (mv1_c a _))) rfl ?_
  refine PC.new _ rfl (GQ.q rfl (Q.move_fn rfl)) rfl ?_
  refine PC.new _ rfl (GQ.q rfl (Q.ld_ptrn (k := 1) ag27 rfl rfl rfl)) rfl ?_
  refine PC.new _ rfl (GQ.q rfl (Q.call rfl Try.func17 go17 rfl (mv1_c b _))) rfl ?_
  refine PC.new _ rfl (GQ.q rfl (Q.move_fn rfl)) rfl ?_
  refine PC.new _ rfl (GQ.q rfl (Q.ld_ptrn (k := 0) ag27 rfl rfl rfl)) rfl ?_
  refine PC.new _ rfl (GQ.q rfl (Q.call rfl Try.func17 go17 rfl (mv1_c d _))) rfl ?_
  refine PC.now rfl rfl (fun τ => Loud.to (L.storen (k := 2) ag27 ((oev_app rfl).trans rfl) rfl ((oev_app rfl).trans rfl) rfl rfl) (fun _ _ h => ⟨.any, h.1, h.2⟩)) ?_
  refine PC.later rfl ?_
  refine PC.nil ?_
  rintro _ _ rfl
  apply DT.moreS [.did, .did, .did, .did, .did, .did, .did, .did, .did, .did, .now] (by kernel_rfl)
  refine PC.did rfl ?_
  refine PC.did rfl ?_
  refine PC.did rfl ?_
  refine PC.did rfl ?_
  refine PC.did rfl ?_
  refine PC.did rfl ?_
  refine PC.did rfl ?_
  refine PC.did rfl ?_
  refine PC.did rfl ?_
  refine PC.did rfl ?_
  refine PC.now rfl rfl (fun τ => Loud.to (L.storen (k := 1) ag27 ((oev_app rfl).trans rfl) rfl ((oev_app rfl).trans rfl) rfl rfl) (fun _ _ h => ⟨.any, h.1, h.2⟩)) ?_
  refine PC.nil ?_
  rintro _ _ rfl
  refine DT.last [.did, .did, .did, .did, .did, .did, .did, .did, .did, .did, .did] (by kernel_rfl) ?_
  refine PC.did rfl ?_
  refine PC.did rfl ?_
  refine PC.did rfl ?_
  refine PC.did rfl ?_
  refine PC.did rfl ?_
  refine PC.did rfl ?_
  refine PC.did rfl ?_
  refine PC.did rfl ?_
  refine PC.did rfl ?_
  refine PC.did rfl ?_
  refine PC.did rfl ?_
  refine PC.nil ?_
  refine XOps.loud rfl (L.storen (k := 0) ag27 rfl rfl rfl rfl rfl) ?_
  rintro _ _ ⟨rfl, rfl⟩
  refine XOps.nil ?_
  obtain ⟨a2, ha2⟩ : ∃ z : Ce, z = (cutI a.1 (-40) 40, cutI a.2 (-40) 40) := ⟨_, rfl⟩
  obtain ⟨b2, hb2⟩ : ∃ z : Ce, z = (cutI b.1 (-40) 40, cutI b.2 (-40) 40) := ⟨_, rfl⟩
  obtain ⟨d2, hd2⟩ : ∃ z : Ce, z = (cutI d.1 (-40) 40, cutI d.2 (-40) 40) := ⟨_, rfl⟩
  have ga : -40 ≤ a2.1 ∧ a2.1 ≤ 40 ∧ -40 ≤ a2.2 ∧ a2.2 ≤ 40 := by rw [ha2]; dsimp only; omega
  have gb : -40 ≤ b2.1 ∧ b2.1 ≤ 40 ∧ -40 ≤ b2.2 ∧ b2.2 ≤ 40 := by rw [hb2]; dsimp only; omega
  have gd : -40 ≤ d2.1 ∧ d2.1 ≤ 40 ∧ -40 ≤ d2.2 ∧ d2.2 ≤ 40 := by rw [hd2]; dsimp only; omega
  refine W.heap ((b5, .cells ((ceE d2).map .d)) :: (b4, .cells ((ceE b2).map .d)) :: (b3, .cells ((ceE a2).map .d)) :: hs) (HLe.cons' (by rw [hd2]; rfl) (HLe.cons' (by rw [hb2]; rfl) (HLe.cons' (by rw [ha2]; rfl) (HLe.refl _)))) ?_
  clear ha2 hb2 hd2
  refine W.reg ?_
  refine XOps.s rfl rfl rfl (Q.ld_ptrn (k := 2) ag27 rfl rfl rfl) ?_
  refine XOps.s rfl rfl rfl (Q.ld_ptrn (k := 1) ag27 rfl rfl rfl) ?_
  refine XOps.loud rfl (L.call rfl Try.func15 go15 rfl (lineL_c a2 b2 _) rfl) ?_
  rintro _ _ ⟨_, rfl, v1, rfl, rfl⟩
  refine XOps.s rfl rfl rfl (Q.move_tup rfl) ?_
  refine XOps.s rfl rfl rfl (Q.extract rfl rfl) ?_
  refine XOps.s rfl rfl rfl (Q.extract rfl rfl) ?_
  refine XOps.s rfl rfl rfl (Q.assign_vs rfl) ?_
  refine XOps.s rfl rfl rfl (Q.assign_d rfl) ?_
  refine XOps.nil ?_
  refine W.reg ?_
  refine XOps.s rfl rfl rfl (Q.fld_ptr fl27_0 rfl) ?_
  refine XOps.s rfl rfl rfl (Q.ld_ptr (k := 3) ag3 rfl rfl rfl) ?_
  refine XOps.s rfl rfl rfl (Q.fld_ptr fl27_0 rfl) ?_
  refine XOps.s rfl rfl rfl (Q.ld_ptr (k := 1) ag3 rfl rfl rfl) ?_
  refine XOps.s rfl rfl rfl (Q.add rfl rfl (wi64 (by first | omega | (dsimp only; omega) | (simp only [List.length_map]; omega)) (by first | omega | (dsimp only; omega) | (simp only [List.length_map]; omega)))) ?_
  refine XOps.s rfl rfl rfl (Q.fld_ptr fl27_1 rfl) ?_
  refine XOps.s rfl rfl rfl (Q.ld_ptr (k := 3) ag3 rfl rfl rfl) ?_
  refine XOps.s rfl rfl rfl (Q.fld_ptr fl27_1 rfl) ?_
  refine XOps.s rfl rfl rfl (Q.ld_ptr (k := 1) ag3 rfl rfl rfl) ?_
  refine XOps.s rfl rfl rfl (Q.add rfl rfl (wi64 (by first | omega | (dsimp only; omega) | (simp only [List.length_map]; omega)) (by first | omega | (dsimp only; omega) | (simp only [List.length_map]; omega)))) ?_
  refine XOps.s rfl rfl rfl (Q.build pl27 tz27 tzd27 rfl) ?_
  refine XOps.s rfl rfl rfl (Q.fld_ptr fl27_0 rfl) ?_
  refine XOps.s rfl rfl rfl (Q.ld_ptr (k := 2) ag3 rfl rfl rfl) ?_
  refine XOps.s rfl rfl rfl (Q.fld_ptr fl27_0 rfl) ?_
  refine XOps.s rfl rfl rfl (Q.ld_ptr (k := 1) ag3 rfl rfl rfl) ?_
  refine XOps.s rfl rfl rfl (Q.add rfl rfl (wi64 (by first | omega | (dsimp only; omega) | (simp only [List.length_map]; omega)) (by first | omega | (dsimp only; omega) | (simp only [List.length_map]; omega)))) ?_
  refine XOps.s rfl rfl rfl (Q.fld_ptr fl27_1 rfl) ?_
  refine XOps.s rfl rfl rfl (Q.ld_ptr (k := 2) ag3 rfl rfl rfl) ?_
  refine XOps.s rfl rfl rfl (Q.fld_ptr fl27_1 rfl) ?_
  refine XOps.s rfl rfl rfl (Q.ld_ptr (k := 1) ag3 rfl rfl rfl) ?_
  refine XOps.s rfl rfl rfl (Q.add rfl rfl (wi64 (by first | omega | (dsimp only; omega) | (simp only [List.length_map]; omega)) (by first | omega | (dsimp only; omega) | (simp only [List.length_map]; omega)))) ?_
  refine XOps.s rfl rfl rfl (Q.build pl27 tz27 tzd27 rfl) ?_
  refine XOps.loud rfl (L.call rfl Try.func15 go15 rfl (lineL_c (mvS d2 a2) (mvS d2 b2) _) rfl) ?_
  rintro _ _ ⟨_, rfl, v2, rfl, rfl⟩
  refine XOps.s rfl rfl rfl (Q.move_tup rfl) ?_
  refine XOps.s rfl rfl rfl (Q.extract rfl rfl) ?_
  refine XOps.s rfl rfl rfl (Q.extract rfl rfl) ?_
  refine XOps.s rfl rfl rfl (Q.assign_vs rfl) ?_
  refine XOps.s rfl rfl rfl (Q.assign_d rfl) ?_
  refine XOps.nil ?_
  have hE1 : lineE a2 b2 = 0 := lineE_near (by omega) (by omega)
  have hE2 : lineE (mvS d2 a2) (mvS d2 b2) = 0 := lineE_near (by unfold mvS; dsimp only; omega) (by unfold mvS; dsimp only; omega)
  have hL1 : lineL a2 b2 = lineS a2 b2 := lineL_near (by omega) (by omega)
  have hL2 : lineL (mvS d2 a2) (mvS d2 b2) = lineS (mvS d2 a2) (mvS d2 b2) := lineL_near (by unfold mvS; dsimp only; omega) (by unfold mvS; dsimp only; omega)
  rw [hE1, hE2, hL1, hL2]
  have hbd := lineS_bound (a := a2) (b := b2) (by omega) (by omega)
  have hln : (lineS a2 b2).length = (longS a2 b2).toNat + 1 := lineK_len _ _ _
  have hlb : (lineS a2 b2).length ≤ 4611686018427387904 := by rw [← hL1]; exact lineL_len _ _
  have hlp : 0 < (lineS a2 b2).length := by omega
  refine W.seq ?_
  refine W.reg ?_
  refine XOps.s rfl rfl rfl (Q.move_vs rfl) ?_
  refine XOps.s rfl rfl rfl (Q.len_vs isl42 rfl) ?_
  refine XOps.s rfl rfl rfl (Q.move_d rfl) ?_
  refine XOps.nil ?_
  refine W.block ?_
  refine W.loop (ι := Nat) (fun k => [(5, .ptr b5 0), (8, .vs v1 0 (lineS a2 b2).length 2), (9, .d (.int .i64 0)), (10, .vs v2 0 (lineS (mvS d2 a2) (mvS d2 b2)).length 2), (11, .d (.int .i64 0)), (54, .vs v1 0 (lineS a2 b2).length 2), (55, .d (.int .i64 (lineS a2 b2).length)), (56, .d (.int .i64 k))]) (fun k => (v2, .lst 2 ((lineS (mvS d2 a2) (mvS d2 b2)).map ceE)) :: (v1, .lst 2 ((fK (mvS d2) (lineS a2 b2) k).map ceE)) :: (b5, .cells ((ceE d2).map .d)) :: hs) (fun k => k ≤ (lineS a2 b2).length) (fun k => (lineS a2 b2).length - k) 0 ?_ ?_ ?_ ?_
  · exact Nat.zero_le _
  · exact ⟨by first | rfl | exact int_eq (by omega) | exact len_eq (by simp) | exact int_eq (by simp; done), by first | rfl | exact int_eq (by omega) | exact len_eq (by simp) | exact int_eq (by simp; done), by first | rfl | exact int_eq (by omega) | exact len_eq (by simp) | exact int_eq (by simp; done), by first | rfl | exact int_eq (by omega) | exact len_eq (by simp) | exact int_eq (by simp; done), by first | rfl | exact int_eq (by omega) | exact len_eq (by simp) | exact int_eq (by simp; done), by first | rfl | exact int_eq (by omega) | exact len_eq (by simp) | exact int_eq (by simp; done), by first | rfl | exact int_eq (by omega) | exact len_eq (by simp) | exact int_eq (by simp; done), by first | rfl | exact int_eq (by omega) | exact len_eq (by simp) | exact int_eq (by simp; done), trivial⟩
  · exact HLe.cons _ (HLe.cons' (by rw [fK_zero]) (HLe.cons _ (HLe.skip _ (HLe.skip _ (HLe.refl _)))))
  · rintro k hk
    try dsimp only
    refine W.reg ?_
    refine XOps.s rfl rfl rfl (Q.lss rfl rfl) ?_
    refine XOps.nil ?_
    refine W.seq ?_
    refine W.cond rfl (fun hc57 => ?_) (fun hc57 => ?_)
    · try simp only [Bool.or_eq_true, Bool.or_eq_false_iff, Bool.and_eq_true, Bool.and_eq_false_iff, decide_eq_true_eq, decide_eq_false_iff_not, Bool.not_eq_true', Bool.not_eq_false', Int.not_lt, Int.not_le, List.length_map] at hc57
      obtain ⟨x, hx⟩ : ∃ x, (lineS a2 b2)[k]? = some x := ⟨_, List.getElem?_eq_getElem (by omega)⟩
      have hxk := fK_at (f := mvS d2) hx
      have hst := fK_set (f := mvS d2) hx
      have hxb := hbd x (List.mem_of_getElem? hx)
      refine W.skip ?_
      refine W.seq ?_
      refine W.block ?_
      refine W.reg ?_
      refine XOps.s rfl rfl rfl (Q.move_d rfl) ?_
      refine XOps.s rfl rfl rfl (Q.assign_d rfl) ?_
      refine XOps.nil ?_
      refine W.drawTreg 11 [10] follows (by kernel_rfl) (by decide) ?_
      apply DT.moreS [.new, .new, .new, .new, .new, .new, .new, .new, .new, .new, .now] (by kernel_rfl)
      refine PC.new _ rfl (GQ.q rfl (Q.move_vs rfl)) rfl ?_
      refine PC.new _ rfl (GQ.q rfl (Q.move_d rfl)) rfl ?_
      refine PC.new _ rfl (GQ.q rfl (Q.idx_vs (kk := 1) sl42 rfl rfl rfl (by first | omega | (simp at hg; omega)) (by first | omega | (dsimp only; omega)))) rfl ?_
      refine PC.new _ rfl (GQ.q rfl (Q.fld_ep fl27_0 rfl)) rfl ?_
      refine PC.new _ rfl (GQ.q rfl (Q.ld_ep (k := 1) ag3 rfl rfl (by first | exact map_at0 hxk | exact set_at0 (by rw [List.length_map, fK_len]; omega)) rfl)) rfl ?_
      refine PC.new _ rfl (GQ.q rfl (Q.fld_ptr fl27_0 rfl)) rfl ?_
      refine PC.new _ rfl (GQ.q rfl (Q.ld_ptr (k := 2) ag3 rfl rfl rfl)) rfl ?_
      refine PC.new _ rfl (GQ.q rfl (Q.add rfl rfl (wi64 (by first | omega | (dsimp only; omega) | (simp only [List.length_map]; omega)) (by first | omega | (dsimp only; omega) | (simp only [List.length_map]; omega))))) rfl ?_
      refine PC.new _ rfl (GQ.q rfl (Q.idx_vs (kk := 1) sl42 rfl rfl rfl (by first | omega | (simp at hg; omega)) (by first | omega | (dsimp only; omega)))) rfl ?_
      refine PC.new _ rfl (GQ.q rfl (Q.fld_ep fl27_0 rfl)) rfl ?_
      refine PC.now rfl rfl (fun τ => Loud.to (L.store_ep (k := 1) ag3 rfl rfl (map_at0 hxk) rfl rfl rfl) (fun _ _ h => ⟨.any, h.1, h.2⟩)) ?_
      refine PC.nil ?_
      rintro _ _ rfl
      refine DT.last [.did, .did, .did, .did, .did, .did, .did, .did, .did, .did, .did] (by kernel_rfl) ?_
      refine PC.did rfl ?_
      refine PC.did rfl ?_
      refine PC.did rfl ?_
      refine PC.did rfl ?_
      refine PC.did rfl ?_
      refine PC.did rfl ?_
      refine PC.did rfl ?_
      refine PC.did rfl ?_
      refine PC.did rfl ?_
      refine PC.did rfl ?_
      refine PC.did rfl ?_
      refine PC.nil ?_
      refine XOps.nil ?_
      refine W.drawT 11 [10] follows (by kernel_rfl) (by decide) ?_
      apply DT.moreS [.new, .new, .new, .new, .new, .new, .new, .new, .new, .new, .now] (by kernel_rfl)
      refine PC.new _ rfl (GQ.q rfl (Q.move_vs rfl)) rfl ?_
      refine PC.new _ rfl (GQ.q rfl (Q.move_d rfl)) rfl ?_
      refine PC.new _ rfl (GQ.q rfl (Q.idx_vs (kk := 1) sl42 rfl rfl rfl (by first | omega | (simp at hg; omega)) (by first | omega | (dsimp only; omega)))) rfl ?_
      refine PC.new _ rfl (GQ.q rfl (Q.fld_ep fl27_1 rfl)) rfl ?_
      refine PC.new _ rfl (GQ.q rfl (Q.ld_ep (k := 1) ag3 rfl rfl (by first | exact map_at0 hxk | exact set_at0 (by rw [List.length_map, fK_len]; omega)) rfl)) rfl ?_
      refine PC.new _ rfl (GQ.q rfl (Q.fld_ptr fl27_1 rfl)) rfl ?_
      refine PC.new _ rfl (GQ.q rfl (Q.ld_ptr (k := 2) ag3 rfl rfl rfl)) rfl ?_
      refine PC.new _ rfl (GQ.q rfl (Q.add rfl rfl (wi64 (by first | omega | (dsimp only; omega) | (simp only [List.length_map]; omega)) (by first | omega | (dsimp only; omega) | (simp only [List.length_map]; omega))))) rfl ?_
      refine PC.new _ rfl (GQ.q rfl (Q.idx_vs (kk := 1) sl42 rfl rfl rfl (by first | omega | (simp at hg; omega)) (by first | omega | (dsimp only; omega)))) rfl ?_
      refine PC.new _ rfl (GQ.q rfl (Q.fld_ep fl27_1 rfl)) rfl ?_
      refine PC.now rfl rfl (fun τ => Loud.to (L.store_ep (k := 1) ag3 rfl rfl (set_at0 (by rw [List.length_map, fK_len]; omega)) rfl rfl rfl) (fun _ _ h => ⟨.any, h.1, h.2⟩)) ?_
      refine PC.nil ?_
      rintro _ _ rfl
      refine DT.last [.did, .did, .did, .did, .did, .did, .did, .did, .did, .did, .did] (by kernel_rfl) ?_
      refine PC.did rfl ?_
      refine PC.did rfl ?_
      refine PC.did rfl ?_
      refine PC.did rfl ?_
      refine PC.did rfl ?_
      refine PC.did rfl ?_
      refine PC.did rfl ?_
      refine PC.did rfl ?_
      refine PC.did rfl ?_
      refine PC.did rfl ?_
      refine PC.did rfl ?_
      refine PC.nil ?_
      refine XOps.nil ?_
      refine W.region ?_
      refine XOps.s rfl rfl rfl (Q.add rfl rfl (wi64 (by first | omega | (dsimp only; omega) | (simp only [List.length_map]; omega)) (by first | omega | (dsimp only; omega) | (simp only [List.length_map]; omega)))) ?_
      refine XOps.s rfl rfl rfl (Q.move_d rfl) ?_
      refine XOps.nil ?_
      refine ⟨k + 1, ?_, ?_, ?_, ?_⟩
      · omega
      · omega
      · exact ⟨by first | rfl | exact int_eq (by omega) | exact len_eq (by simp) | exact int_eq (by simp; done), by first | rfl | exact int_eq (by omega) | exact len_eq (by simp) | exact int_eq (by simp; done), by first | rfl | exact int_eq (by omega) | exact len_eq (by simp) | exact int_eq (by simp; done), by first | rfl | exact int_eq (by omega) | exact len_eq (by simp) | exact int_eq (by simp; done), by first | rfl | exact int_eq (by omega) | exact len_eq (by simp) | exact int_eq (by simp; done), by first | rfl | exact int_eq (by omega) | exact len_eq (by simp) | exact int_eq (by simp; done), by first | rfl | exact int_eq (by omega) | exact len_eq (by simp) | exact int_eq (by simp; done), by first | rfl | exact int_eq (by omega) | exact len_eq (by simp) | exact int_eq (by simp; done), trivial⟩
      · exact HLe.cons _ (HLe.cons' (by rw [← hst, List.map_set, List.set_set, show 0 + ((k : Nat) : Int).toNat = k by omega]; rfl) (HLe.refl _))
    · try simp only [Bool.or_eq_true, Bool.or_eq_false_iff, Bool.and_eq_true, Bool.and_eq_false_iff, decide_eq_true_eq, decide_eq_false_iff_not, Bool.not_eq_true', Bool.not_eq_false', Int.not_lt, Int.not_le, List.length_map] at hc57
      obtain rfl : k = (lineS a2 b2).length := by omega
      rw [fK_all]
      refine W.exit ?_
      refine W.freeze 8 1 rfl rfl (by simp) ?_
      refine W.freeze 10 0 rfl rfl (by simp) ?_
      refine W.reg ?_
      refine XOps.s rfl rfl rfl (Q.call rfl Try.func10 go10 rfl (fact_c _)) ?_
      refine XOps.s rfl rfl rfl (Q.move_d rfl) ?_
      refine XOps.gs rfl rfl rfl rfl rfl rfl rfl (fun hg => Q.move_d rfl) ?_
      refine XOps.gs rfl rfl rfl rfl rfl rfl rfl (fun hg => Quiet.open 82 hg rfl (Q.eql rfl rfl)) ?_
      refine XOps.s rfl rfl rfl (Q.pick_and rfl rfl rfl (fun h => by first | (rw [h]; rfl) | (rw [hg, h]; rfl) | (simp [h, hg]; done))) ?_
      refine XOps.s rfl rfl rfl (Q.move_d rfl) ?_
      refine XOps.gs rfl rfl rfl rfl rfl rfl rfl (fun hg => Q.move_d rfl) ?_
      refine XOps.gs rfl rfl rfl rfl rfl rfl rfl (fun hg => Quiet.open 86 hg rfl (Q.eql rfl rfl)) ?_
      refine XOps.s rfl rfl rfl (Q.pick_and rfl rfl rfl (fun h => by first | (rw [h]; rfl) | (rw [hg, h]; rfl) | (simp [h, hg]; done))) ?_
      refine XOps.s rfl rfl rfl (Q.move_d rfl) ?_
      refine XOps.gs rfl rfl rfl rfl rfl rfl rfl (fun hg => Q.move_d rfl) ?_
      refine XOps.gs rfl rfl rfl rfl rfl rfl rfl (fun hg => Q.move_d rfl) ?_
      refine XOps.gs rfl rfl rfl rfl rfl rfl rfl (fun hg => Quiet.open 90 hg rfl (Quiet.open 91 hg rfl (Q.call rfl Try.func16 go16 rfl (equalC_c ((lineS a2 b2).map (mvS d2)) (lineS (mvS d2 a2) (mvS d2 b2)) _ (by rw [List.length_map]; exact hlb))))) ?_
      refine XOps.s rfl rfl rfl (Q.pick_and rfl rfl rfl (fun h => by first | (rw [h]; rfl) | (rw [hg, h]; rfl) | (simp [h, hg]; done))) ?_
      refine XOps.s rfl rfl rfl (Q.move_d rfl) ?_
      refine XOps.gs rfl rfl rfl rfl rfl rfl rfl (fun hg => Q.move_d rfl) ?_
      refine XOps.gs rfl rfl rfl rfl rfl rfl rfl (fun hg => Quiet.open 95 hg rfl (Q.len_sl isl42 rfl)) ?_
      refine XOps.gs rfl rfl rfl rfl rfl rfl rfl (fun hg => Quiet.open 96 hg rfl (Q.gtr rfl rfl)) ?_
      refine XOps.s rfl rfl rfl (Q.pick_and rfl rfl rfl (fun h => by first | (rw [h]; rfl) | (rw [hg, h]; rfl) | (simp [h, hg]; done))) ?_
      refine XOps.s rfl rfl rfl (Q.assign_d rfl) ?_
      refine XOps.nil ?_
      refine W.ret ?_
      refine ⟨_, _, rfl, HLe.refl _, ?_⟩
      show AV.d (.bool _) = _
      simp [lineS_mv]
      first | done | omega | (intro h; rw [h] at hlp; simp at hlp)

set_option maxHeartbeats 1000000 in
set_option maxRecDepth 100000 in
theorem scaled_c (v : Vw) (p : Ce) (q : Int) (hs : Hp) : AC P 3 [.d (.agg v.enc), .d (.agg (ceE p)), .d (.int .i64 q)] hs (fun r _ => r = .d (.bool true)) := by
  have ck := cutI_bounds q (show (1 : Int) ≤ 9 by decide)
  have cr := cutI_bounds v.res (show (1 : Int) ≤ 5000 by decide)
  have cx := cutI_bounds v.mx (show (-90000 : Int) ≤ 90000 by decide)
  have cy := cutI_bounds v.my (show (-90000 : Int) ≤ 90000 by decide)
  have cp := cutI_bounds p.1 (show (-90000 : Int) ≤ 90000 by decide)
  have cq := cutI_bounds p.2 (show (-90000 : Int) ≤ 90000 by decide)
  refine AC.of 93 Try.func3 rfl rfl rfl ?_
  refine W.reg ?_
  refine XOps.loud rfl (L.boxn rfl rfl) ?_
  rintro _ _ ⟨b3, rfl, rfl⟩
  refine XOps.loud rfl (L.boxn rfl rfl) ?_
  rintro _ _ ⟨b4, rfl, rfl⟩
  refine XOps.s rfl rfl rfl (Q.assign_d rfl) ?_
  refine XOps.nil ?_
  refine W.reg ?_
  refine XOps.s rfl rfl rfl (Q.move_d rfl) ?_
  refine XOps.s rfl rfl rfl (Q.call rfl Try.func8 go8 rfl (cut_c q 1 9 _ (by decide) (by decide) (by decide))) ?_
  refine XOps.s rfl rfl rfl (Q.assign_d rfl) ?_
  refine XOps.nil ?_
  refine W.reg ?_
  refine XOps.s rfl rfl rfl (Q.fld_ptr fl25_1 rfl) ?_
  refine XOps.s rfl rfl rfl (Q.ld_ptr (k := 1) ag3 rfl rfl rfl) ?_
  refine XOps.s rfl rfl rfl (Q.call rfl Try.func8 go8 rfl (cut_c v.res 1 5000 _ (by decide) (by decide) (by decide))) ?_
  refine XOps.s rfl rfl rfl (Q.fld_ptr fl25_1 rfl) ?_
  refine XOps.loud rfl (L.store (k := 1) ag3 rfl rfl rfl rfl rfl) ?_
  rintro _ _ ⟨rfl, rfl⟩
  refine XOps.nil ?_
  refine W.drawreg 9 follows (by kernel_rfl) ?_
  refine Chain.cons _ (GQ.q rfl (Q.fld_ptr fl25_0 rfl)) rfl ?_
  refine Chain.cons _ (GQ.q rfl (Q.fld_ptr fl23_0 rfl)) rfl ?_
  refine Chain.cons _ (GQ.q rfl (Q.ld_ptr (k := 1) ag3 rfl rfl rfl)) rfl ?_
  refine Chain.cons _ (GQ.q rfl (Q.call rfl Try.func8 go8 rfl (cut_c v.mx (-90000) 90000 _ (by decide) (by decide) (by decide)))) rfl ?_
  refine Chain.cons _ (GQ.q rfl (Q.fld_ptr fl25_0 rfl)) rfl ?_
  refine Chain.cons _ (GQ.q rfl (Q.fld_ptr fl23_1 rfl)) rfl ?_
  refine Chain.cons _ (GQ.q rfl (Q.ld_ptr (k := 1) ag3 rfl rfl rfl)) rfl ?_
  refine Chain.cons _ (GQ.q rfl (Q.call rfl Try.func8 go8 rfl (cut_c v.my (-90000) 90000 _ (by decide) (by decide) (by decide)))) rfl ?_
  refine Chain.cons _ (GQ.q rfl (Q.build pl23 tz23 tzd23 rfl)) rfl ?_
  refine Chain.nil ?_
  refine XOps.s rfl rfl rfl (Q.fld_ptr fl25_0 rfl) ?_
  refine XOps.loud rfl (L.storen (k := 1) ag23 rfl rfl rfl rfl rfl) ?_
  rintro _ _ ⟨rfl, rfl⟩
  refine XOps.nil ?_
  refine W.drawreg 7 follows (by kernel_rfl) ?_
  refine Chain.cons _ (GQ.q rfl (Q.fld_ptr fl23_0 rfl)) rfl ?_
  refine Chain.cons _ (GQ.q rfl (Q.ld_ptr (k := 0) ag3 rfl rfl rfl)) rfl ?_
  refine Chain.cons _ (GQ.q rfl (Q.call rfl Try.func8 go8 rfl (cut_c p.1 (-90000) 90000 _ (by decide) (by decide) (by decide)))) rfl ?_
  refine Chain.cons _ (GQ.q rfl (Q.fld_ptr fl23_1 rfl)) rfl ?_
  refine Chain.cons _ (GQ.q rfl (Q.ld_ptr (k := 0) ag3 rfl rfl rfl)) rfl ?_
  refine Chain.cons _ (GQ.q rfl (Q.call rfl Try.func8 go8 rfl (cut_c p.2 (-90000) 90000 _ (by decide) (by decide) (by decide)))) rfl ?_
  refine Chain.cons _ (GQ.q rfl (Q.build pl23 tz23 tzd23 rfl)) rfl ?_
  refine Chain.nil ?_
  refine XOps.loud rfl (L.storen (k := 0) ag23 rfl rfl rfl rfl rfl) ?_
  rintro _ _ ⟨rfl, rfl⟩
  refine XOps.nil ?_
  obtain ⟨V, hV⟩ : ∃ z : Vw, z = ⟨cutI v.mx (-90000) 90000, cutI v.my (-90000) 90000, cutI v.res 1 5000, v.w, v.h⟩ := ⟨_, rfl⟩
  obtain ⟨q2, hQ⟩ : ∃ z : Ce, z = (cutI p.1 (-90000) 90000, cutI p.2 (-90000) 90000) := ⟨_, rfl⟩
  obtain ⟨K, hK⟩ : ∃ z : Int, z = cutI q 1 9 := ⟨_, rfl⟩
  rw [← hK] at ck ⊢
  have g1 : -90000 ≤ V.mx ∧ V.mx ≤ 90000 := by rw [hV]; exact cx
  have g2 : -90000 ≤ V.my ∧ V.my ≤ 90000 := by rw [hV]; exact cy
  have g3 : 1 ≤ V.res ∧ V.res ≤ 5000 := by rw [hV]; exact cr
  have g4 : -90000 ≤ q2.1 ∧ q2.1 ≤ 90000 := by rw [hQ]; exact cp
  have g5 : -90000 ≤ q2.2 ∧ q2.2 ≤ 90000 := by rw [hQ]; exact cq
  refine W.heap ((b4, .cells ((ceE q2).map .d)) :: (b3, .cells (V.enc.map .d)) :: hs) (HLe.cons' (by rw [hQ]; rfl) (HLe.cons' (by rw [hV]; rfl) (HLe.refl _))) ?_
  have kb : ∀ z : Int, -90000 ≤ z → z ≤ 90000 → -810000 ≤ K * z ∧ K * z ≤ 810000 := fun z h1 h2 => by
    clear hK
    rcases (show K = 1 ∨ K = 2 ∨ K = 3 ∨ K = 4 ∨ K = 5 ∨ K = 6 ∨ K = 7 ∨ K = 8 ∨ K = 9 by omega) with rfl | rfl | rfl | rfl | rfl | rfl | rfl | rfl | rfl <;> omega
  have m1 := kb V.mx g1.1 g1.2
  have m2 := kb V.my g2.1 g2.2
  have m3 := kb V.res (by omega) (by omega)
  have m4 := kb q2.1 g4.1 g4.2
  have m5 := kb q2.2 g5.1 g5.2
  clear hV hQ hK
  refine W.reg ?_
  refine XOps.s rfl rfl rfl (Q.ld_ptrn (k := 1) ag25 rfl rfl rfl) ?_
  (refine XOps.loud rfl (L.alloc tz25 rfl rfl) ?_; rintro _ _ ⟨b7, rfl, rfl⟩)
  refine XOps.loud rfl (L.storen (k := 0) ag25 rfl rfl rfl rfl rfl) ?_
  rintro _ _ ⟨rfl, rfl⟩
  refine XOps.nil ?_
  refine W.drawTreg 17 [16] follows (by kernel_rfl) (by decide) ?_
  apply DT.moreS [.new, .new, .new, .new, .new, .new, .new, .new, .new, .new, .new, .new, .new, .new, .new, .new, .now] (by kernel_rfl)
  refine PC.new _ rfl (GQ.q rfl (Q.move_d rfl)) rfl ?_
  refine PC.new _ rfl (GQ.q rfl (Q.fld_ptr fl25_1 rfl)) rfl ?_
  refine PC.new _ rfl (GQ.q rfl (Q.ld_ptr (k := 2) ag3 rfl rfl rfl)) rfl ?_
  refine PC.new _ rfl (GQ.q rfl (Q.mul rfl rfl (wi64 (by first | omega | (dsimp only; omega) | (simp only [List.length_map]; omega)) (by first | omega | (dsimp only; omega) | (simp only [List.length_map]; omega))))) rfl ?_
  refine PC.new _ rfl (GQ.q rfl (Q.move_d rfl)) rfl ?_
  refine PC.new _ rfl (GQ.q rfl (Q.fld_ptr fl25_0 rfl)) rfl ?_
  refine PC.new _ rfl (GQ.q rfl (Q.fld_ptr fl23_0 rfl)) rfl ?_
  refine PC.new _ rfl (GQ.q rfl (Q.ld_ptr (k := 2) ag3 rfl rfl rfl)) rfl ?_
  refine PC.new _ rfl (GQ.q rfl (Q.mul rfl rfl (wi64 (by first | omega | (dsimp only; omega) | (simp only [List.length_map]; omega)) (by first | omega | (dsimp only; omega) | (simp only [List.length_map]; omega))))) rfl ?_
  refine PC.new _ rfl (GQ.q rfl (Q.move_d rfl)) rfl ?_
  refine PC.new _ rfl (GQ.q rfl (Q.fld_ptr fl25_0 rfl)) rfl ?_
  refine PC.new _ rfl (GQ.q rfl (Q.fld_ptr fl23_1 rfl)) rfl ?_
  refine PC.new _ rfl (GQ.q rfl (Q.ld_ptr (k := 2) ag3 rfl rfl rfl)) rfl ?_
  refine PC.new _ rfl (GQ.q rfl (Q.mul rfl rfl (wi64 (by first | omega | (dsimp only; omega) | (simp only [List.length_map]; omega)) (by first | omega | (dsimp only; omega) | (simp only [List.length_map]; omega))))) rfl ?_
  refine PC.new _ rfl (GQ.q rfl (Q.build pl23 tz23 tzd23 rfl)) rfl ?_
  refine PC.new _ rfl (GQ.q rfl (Q.fld_ptr fl25_1 rfl)) rfl ?_
  refine PC.now rfl rfl (fun τ => Loud.to (L.store (k := 0) ag3 ((oev_app rfl).trans rfl) rfl rfl ((oev_app rfl).trans rfl) rfl) (fun _ _ h => ⟨.any, h.1, h.2⟩)) ?_
  refine PC.nil ?_
  rintro _ _ rfl
  refine DT.last [.did, .did, .did, .did, .old, .old, .old, .old, .old, .old, .old, .old, .old, .old, .old, .did, .did] (by kernel_rfl) ?_
  refine PC.did rfl ?_
  refine PC.did rfl ?_
  refine PC.did rfl ?_
  refine PC.did rfl ?_
  refine PC.old rfl (GQ.q rfl (Q.move_d rfl)) rfl ?_
  refine PC.old rfl (GQ.q rfl (Q.fld_ptr fl25_0 rfl)) rfl ?_
  refine PC.old rfl (GQ.q rfl (Q.fld_ptr fl23_0 rfl)) rfl ?_
  refine PC.old rfl (GQ.q rfl (Q.ld_ptr (k := 2) ag3 rfl rfl rfl)) rfl ?_
  refine PC.old rfl (GQ.q rfl (Q.mul rfl rfl (wi64 (by first | omega | (dsimp only; omega) | (simp only [List.length_map]; omega)) (by first | omega | (dsimp only; omega) | (simp only [List.length_map]; omega))))) rfl ?_
  refine PC.old rfl (GQ.q rfl (Q.move_d rfl)) rfl ?_
  refine PC.old rfl (GQ.q rfl (Q.fld_ptr fl25_0 rfl)) rfl ?_
  refine PC.old rfl (GQ.q rfl (Q.fld_ptr fl23_1 rfl)) rfl ?_
  refine PC.old rfl (GQ.q rfl (Q.ld_ptr (k := 2) ag3 rfl rfl rfl)) rfl ?_
  refine PC.old rfl (GQ.q rfl (Q.mul rfl rfl (wi64 (by first | omega | (dsimp only; omega) | (simp only [List.length_map]; omega)) (by first | omega | (dsimp only; omega) | (simp only [List.length_map]; omega))))) rfl ?_
  refine PC.old rfl (GQ.q rfl (Q.build pl23 tz23 tzd23 rfl)) rfl ?_
  refine PC.did rfl ?_
  refine PC.did rfl ?_
  refine PC.nil ?_
  refine XOps.s rfl rfl rfl (Q.fld_ptr fl25_0 rfl) ?_
  refine XOps.loud rfl (L.storen (k := 0) ag23 rfl rfl rfl rfl rfl) ?_
  rintro _ _ ⟨rfl, rfl⟩
  refine XOps.nil ?_
  refine W.reg ?_
  refine XOps.s rfl rfl rfl (Q.ld_ptrn (k := 2) ag25 rfl rfl rfl) ?_
  refine XOps.s rfl rfl rfl (Q.ld_ptrn (k := 1) ag23 rfl rfl rfl) ?_
  refine XOps.s rfl rfl rfl (Q.call rfl Try.func9 go9 rfl (cell9_c V q2 _)) ?_
  refine XOps.s rfl rfl rfl (Q.move_tup rfl) ?_
  refine XOps.s rfl rfl rfl (Q.extract rfl rfl) ?_
  refine XOps.s rfl rfl rfl (Q.extract rfl rfl) ?_
  refine XOps.s rfl rfl rfl (Q.extract rfl rfl) ?_
  (refine XOps.loud rfl (L.alloc tz27 rfl rfl) ?_; rintro _ _ ⟨b8, rfl, rfl⟩)
  refine XOps.loud rfl (L.storen (k := 0) ag27 rfl rfl rfl rfl rfl) ?_
  rintro _ _ ⟨rfl, rfl⟩
  refine XOps.s rfl rfl rfl (Q.assign_d rfl) ?_
  refine XOps.s rfl rfl rfl (Q.assign_d rfl) ?_
  refine XOps.nil ?_
  refine W.reg ?_
  refine XOps.s rfl rfl rfl (Q.ld_ptrn (k := 1) ag25 rfl rfl rfl) ?_
  refine XOps.s rfl rfl rfl (Q.move_d rfl) ?_
  refine XOps.s rfl rfl rfl (Q.fld_ptr fl23_0 rfl) ?_
  refine XOps.s rfl rfl rfl (Q.ld_ptr (k := 2) ag3 rfl rfl rfl) ?_
  refine XOps.s rfl rfl rfl (Q.mul rfl rfl (wi64 (by first | omega | (dsimp only; omega) | (simp only [List.length_map]; omega)) (by first | omega | (dsimp only; omega) | (simp only [List.length_map]; omega)))) ?_
  refine XOps.s rfl rfl rfl (Q.move_d rfl) ?_
  refine XOps.s rfl rfl rfl (Q.fld_ptr fl23_1 rfl) ?_
  refine XOps.s rfl rfl rfl (Q.ld_ptr (k := 2) ag3 rfl rfl rfl) ?_
  refine XOps.s rfl rfl rfl (Q.mul rfl rfl (wi64 (by first | omega | (dsimp only; omega) | (simp only [List.length_map]; omega)) (by first | omega | (dsimp only; omega) | (simp only [List.length_map]; omega)))) ?_
  refine XOps.s rfl rfl rfl (Q.build pl23 tz23 tzd23 rfl) ?_
  refine XOps.s rfl rfl rfl (Q.call rfl Try.func9 go9 rfl (cell9_c (scV V K) (K * q2.1, K * q2.2) _)) ?_
  refine XOps.s rfl rfl rfl (Q.move_tup rfl) ?_
  refine XOps.s rfl rfl rfl (Q.extract rfl rfl) ?_
  refine XOps.s rfl rfl rfl (Q.extract rfl rfl) ?_
  refine XOps.s rfl rfl rfl (Q.extract rfl rfl) ?_
  (refine XOps.loud rfl (L.alloc tz27 rfl rfl) ?_; rintro _ _ ⟨b11, rfl, rfl⟩)
  refine XOps.loud rfl (L.storen (k := 0) ag27 rfl rfl rfl rfl rfl) ?_
  rintro _ _ ⟨rfl, rfl⟩
  refine XOps.s rfl rfl rfl (Q.assign_d rfl) ?_
  refine XOps.s rfl rfl rfl (Q.assign_d rfl) ?_
  refine XOps.nil ?_
  obtain ⟨e1, e2, e3⟩ := scaled_eq ck g1 g2 g3 g4 g5
  rw [e1, e2, e3]
  refine W.reg ?_
  refine XOps.s rfl rfl rfl (Q.call rfl Try.func10 go10 rfl (fact_c _)) ?_
  refine XOps.s rfl rfl rfl (Q.move_d rfl) ?_
  refine XOps.gs rfl rfl rfl rfl rfl rfl rfl (fun hg => Q.ld_ptrn (k := 1) ag27 rfl rfl rfl) ?_
  refine XOps.gs rfl rfl rfl rfl rfl rfl rfl (fun hg => Q.ld_ptrn (k := 0) ag27 rfl rfl rfl) ?_
  refine XOps.gs rfl rfl rfl rfl rfl rfl rfl (fun hg => Quiet.open 79 hg rfl (Quiet.open 80 hg rfl (Q.eql_agg eqt27 rfl rfl rfl rfl rfl))) ?_
  refine XOps.s rfl rfl rfl (Q.pick_and rfl rfl rfl (fun h => by first | (rw [h]; rfl) | (rw [hg, h]; rfl) | (simp [h, hg]; done))) ?_
  refine XOps.s rfl rfl rfl (Q.move_d rfl) ?_
  refine XOps.gs rfl rfl rfl rfl rfl rfl rfl (fun hg => Q.move_d rfl) ?_
  refine XOps.gs rfl rfl rfl rfl rfl rfl rfl (fun hg => Q.move_d rfl) ?_
  refine XOps.gs rfl rfl rfl rfl rfl rfl rfl (fun hg => Quiet.open 84 hg rfl (Quiet.open 85 hg rfl (Q.eql_bool isb4 rfl rfl))) ?_
  refine XOps.s rfl rfl rfl (Q.pick_and rfl rfl rfl (fun h => by first | (rw [h]; rfl) | (rw [hg, h]; rfl) | (simp [h, hg]; done))) ?_
  refine XOps.s rfl rfl rfl (Q.move_d rfl) ?_
  refine XOps.gs rfl rfl rfl rfl rfl rfl rfl (fun hg => Q.move_d rfl) ?_
  refine XOps.gs rfl rfl rfl rfl rfl rfl rfl (fun hg => Q.move_d rfl) ?_
  refine XOps.gs rfl rfl rfl rfl rfl rfl rfl (fun hg => Quiet.open 89 hg rfl (Quiet.open 90 hg rfl (Q.eql rfl rfl))) ?_
  refine XOps.s rfl rfl rfl (Q.pick_and rfl rfl rfl (fun h => by first | (rw [h]; rfl) | (rw [hg, h]; rfl) | (simp [h, hg]; done))) ?_
  refine XOps.s rfl rfl rfl (Q.assign_d rfl) ?_
  refine XOps.nil ?_
  refine W.ret ?_
  exact ⟨_, _, rfl, HLe.refl _, by show AV.d (.bool _) = _; simp [ceE, allD, leafD]⟩
end Go.Proofs.YtijgdgkfimnkbaaA
