/- The law MailboxOrder. -/
import Derived.Test.YtdkeenmmhkhecaaBase
import Derived.Test.YtdkeenmmhkhecaaWalkB
set_option linter.unusedVariables false
set_option linter.unusedSimpArgs false
set_option linter.unnecessarySimpa false
namespace Go.Proofs.YtdkeenmmhkhecaaA.FWalkC
open Go
theorem ag3 : tAgg P 3 = some ((false, 1)) := by kernel_rfl
theorem ag35 : tAgg P 35 = some ((false, 1)) := by kernel_rfl
theorem ag39 : tAgg P 39 = some ((true, 2)) := by kernel_rfl
theorem ap35 : tApp P 35 = some ((2, 16)) := by kernel_rfl
theorem ar39 : tArr P 39 = some ((2, 1)) := by kernel_rfl
theorem eqt39 : tEq P 39 = some ([.int .i64, .int .i64]) := by kernel_rfl
theorem go10 : callGo Go.Proofs.Try.f10 = true := by kernel_rfl
theorem go11 : callGo Go.Proofs.Try.f11 = true := by kernel_rfl
theorem go12 : callGo Go.Proofs.Try.f12 = true := by kernel_rfl
theorem go13 : callGo Go.Proofs.Try.f13 = true := by kernel_rfl
theorem go16 : callGo Go.Proofs.Try.f16 = true := by kernel_rfl
theorem go7 : callGo Go.Proofs.Try.f7 = true := by kernel_rfl
theorem go9 : callGo Go.Proofs.Try.f9 = true := by kernel_rfl
theorem ipt23 : isPtr P 23 = true := by kernel_rfl
theorem isl22 : isSl P 22 = true := by kernel_rfl
theorem isl35 : isSl P 35 = true := by kernel_rfl
theorem sl35 : tSl P 35 = some (2) := by kernel_rfl
theorem tz35 : tZero P 35 = some ([.slice none 0 0]) := by kernel_rfl
theorem tz39 : tZero P 39 = some ([.int .i64 0, .int .i64 0]) := by kernel_rfl
theorem tzd39 : cellsD [.int .i64 0, .int .i64 0] = some ([.int .i64 0, .int .i64 0]) := rfl
theorem zr35 : tZrow P 35 = some ([.int .i64 0, .int .i64 0]) := by kernel_rfl
theorem zrd35 : cellsD [.int .i64 0, .int .i64 0] = some ([.int .i64 0, .int .i64 0]) := rfl
end Go.Proofs.YtdkeenmmhkhecaaA.FWalkC
namespace Go.Proofs.YtdkeenmmhkhecaaA
open Go FWalkC
set_option maxHeartbeats 1000000 in
set_option maxRecDepth 100000 in
theorem order_c (size : Int) (l : List Int) (hs : Hp) (hL : l.length ≤ 140737488351232) : AC P 4 [.d (.int .i64 size), .d (slN l)] hs (fun r h => r = .d (.bool true)) := by
  have hcs := cutI_bounds size (show (1 : Int) ≤ 12 by decide)
  obtain ⟨hBI, hMm⟩ := BI.box (size := cutI size 1 12) (by omega) l (lo := 0) (hi := 7) (by decide) (by decide) (by decide) (min l.length 12)
  have hok := boxK_ok (size := cutI size 1 12) (by omega) l 0 7 (min l.length 12)
  generalize hM : boxK (cutI size 1 12) l 0 7 (min l.length 12) = M at hBI hMm hok
  have hTm := hBI.many
  have hok3 := hok.mono (show min l.length 12 ≤ 1000 by omega)
  refine AC.of 121 Try.func4 rfl rfl rfl ?_
  refine W.reg ?_
  refine XOps.s rfl rfl rfl (Q.assign_d rfl) ?_
  refine XOps.nil ?_
  refine W.reg ?_
  refine XOps.s rfl rfl rfl (Q.move_d rfl) ?_
  refine XOps.s rfl rfl rfl (Q.move_d rfl) ?_
  (refine XOps.loud rfl (L.call rfl Try.func12 go12 rfl (boxOf_c size l hs hL) rfl) ?_; rintro _ _ ⟨_, rfl, b, ids, rfl, rfl⟩)
  refine XOps.s rfl rfl rfl (Q.assign_ptr rfl) ?_
  refine XOps.nil ?_
  rw [hM]
  refine W.seq ?_
  refine W.reg ?_
  refine XOps.s rfl rfl rfl (Q.move_ptr rfl) ?_
  refine XOps.s rfl rfl rfl (Q.eql_ptr ipt23 rfl rfl) ?_
  refine XOps.s rfl rfl rfl (Q.move_d rfl) ?_
  refine XOps.gs rfl rfl rfl rfl rfl rfl rfl (fun hg => Q.call rfl Try.func7 go7 rfl (fact_c _)) ?_
  refine XOps.gs rfl rfl rfl rfl rfl rfl rfl (fun hg => Quiet.open 23 hg rfl (Q.not rfl)) ?_
  refine XOps.s rfl rfl rfl (Q.pick_or rfl rfl rfl (fun h => by first | (rw [h]; rfl) | (rw [hg, h]; rfl) | (simp [h, hg]; done))) ?_
  refine XOps.nil ?_
  refine W.cond rfl (fun hc25 => ?_) (fun hc25 => ?_)
  · try simp only [Bool.or_eq_true, Bool.or_eq_false_iff, Bool.and_eq_true, Bool.and_eq_false_iff, decide_eq_true_eq, decide_eq_false_iff_not, Bool.not_eq_true', Bool.not_eq_false', Int.not_lt, Int.not_le, List.length_map] at hc25
    exact absurd hc25 (by simp)
  · try simp only [Bool.or_eq_true, Bool.or_eq_false_iff, Bool.and_eq_true, Bool.and_eq_false_iff, decide_eq_true_eq, decide_eq_false_iff_not, Bool.not_eq_true', Bool.not_eq_false', Int.not_lt, Int.not_le, List.length_map] at hc25
    refine W.skip ?_
    refine W.reg ?_
    (refine XOps.loud rfl (L.alloc tz35 rfl rfl) ?_; rintro _ _ ⟨b6, rfl, rfl⟩)
    refine XOps.nil ?_
    refine W.ghostc 0 0 2 (by decide) rfl rfl (fun o0 => ?_)
    refine W.seq ?_
    refine W.reg ?_
    refine XOps.s rfl rfl rfl (Q.move_ptr rfl) ?_
    (refine XOps.loud rfl (L.call rfl Try.func13 go13 rfl (all_c b _) rfl) ?_; rintro _ _ ⟨_, rfl, bb, rfl, rfl⟩)
    refine XOps.nil ?_
    refine W.block ?_
    refine W.range rfl Try.func16 go16 (fun id0 => ?_)
    refine ((iter_c b bb id0 M ids _ (fun k H => ∃ o, H = (b6, .cells [.vs o 0 k 2]) :: (o, .lst 2 (((allM M.q 8).take k).map encPV)) :: hs) ((b6, .cells [.vs o0 0 0 2]) :: (o0, .lst 2 []) :: hs) hok3 ⟨o0, rfl⟩ (fun k p v H priv hJ hk => ?_)).le (HLe.cons _ (HLe.cons _ (HLe.perm (box_in2 _ _ _ _ _ _))))).mono ?_
    ·
      obtain ⟨o, rfl⟩ := hJ
      refine YC.of rfl rfl (fun B l0 => ?_)
      have hkl := (List.getElem?_eq_some_iff.1 hk).1
      have hnk : k = (((allM M.q 8).take k).map encPV).length := by rw [List.length_map, List.length_take]; omega
      have htk : ((allM M.q 8).take (k + 1)).map encPV = ((allM M.q 8).take k).map encPV ++ [encPV (p, v)] := by rw [List.take_add_one, hk, Option.toList_some, List.map_append]; rfl
      refine W.reg ?_
      refine XOps.s rfl rfl rfl (Q.assign_d rfl) ?_
      refine XOps.nil ?_
      refine W.region ?_
      refine XOps.s rfl rfl rfl (Q.assign_d rfl) ?_
      refine XOps.nil ?_
      refine ⟨_, HLe.refl _, ?_⟩
      refine W.block ?_
      refine W.region ?_
      refine XOps.s rfl rfl rfl (Q.ld_ptr (k := 1) ag35 rfl rfl rfl) ?_
      refine XOps.s rfl rfl rfl (Q.move_d rfl) ?_
      refine XOps.s rfl rfl rfl (Q.move_d rfl) ?_
      refine XOps.s rfl rfl rfl (Q.buildArr ar39 tz39 tzd39 rfl) ?_
      refine XOps.s rfl rfl rfl (Q.bsl1n sl35 (by decide) zr35 rfl zrd35 rfl rfl (by decide)) ?_
      (refine XOps.loud rfl (L.app (k := 2) ap35 rfl rfl hnk rfl (by simp [List.length_take]; omega) rfl) ?_; rintro _ _ ⟨v35, rfl, rfl⟩)
      refine XOps.loud rfl (L.store (k := 2) ag35 rfl rfl rfl rfl rfl) ?_
      rintro _ _ ⟨rfl, rfl⟩
      refine XOps.nil ?_
      refine Post.block_n ?_
      refine roundQ.go ((b6, .cells [.vs v35 0 (k + 1) 2]) :: (v35, .lst 2 (((allM M.q 8).take (k + 1)).map encPV)) :: (hs ++ priv)) ?_ ?_
      · rw [htk]
        exact HLe.pick 1 rfl rfl (HLe.pick 1 rfl (congrArg (fun z => HO.cells [AV.vs v35 0 z 2]) (show k + 1 = (((allM M.q 8).take k).map encPV).length + 1 by omega)) (HLe.pick 0 rfl rfl (HLe.refl _)))
      · exact ⟨rfl, _, ⟨v35, rfl⟩, rfl⟩
    · rintro _ _ ⟨rfl, H2, ⟨o, rfl⟩, rfl⟩
      refine rangeQ.go (boxH b M ids ((b6, .cells [.vs o 0 (allM M.q 8).length 2]) :: (o, .lst 2 (((allM M.q 8)).map encPV)) :: hs)) (HLe.cons _ (HLe.skip _ (HLe.perm (by rw [List.take_length])))) ?_
      refine W.seq ?_
      refine W.drawreg 15 follows (by kernel_rfl) ?_
      refine Chain.cons _ (GQ.q rfl (Q.ld_ptr (k := 9) ag35 rfl rfl rfl)) rfl ?_
      refine Chain.cons _ (GQ.q rfl (Q.len_vs isl35 rfl)) rfl ?_
      refine Chain.cons _ (GQ.q rfl (Q.move_ptr rfl)) rfl ?_
      refine Chain.cons _ (GQ.q rfl (Q.call rfl Try.func10 go10 rfl (count_c b M ids _))) rfl ?_
      refine Chain.cons _ (GQ.q rfl (Q.neq rfl rfl)) rfl ?_
      refine Chain.cons _ (GQ.q rfl (Q.move_d rfl)) rfl ?_
      refine Chain.cons _ (GQ.g rfl rfl rfl rfl rfl (fun hg => Q.ld_ptr (k := 9) ag35 rfl rfl rfl)) rfl ?_
      refine Chain.cons _ (GQ.g rfl rfl rfl rfl rfl (fun hg => Quiet.open 42 hg rfl (Q.len_vs isl35 rfl))) rfl ?_
      refine Chain.cons _ (GQ.g rfl rfl rfl rfl rfl (fun hg => Q.move_d rfl)) rfl ?_
      refine Chain.cons _ (GQ.g rfl rfl rfl rfl rfl (fun hg => Quiet.open 44 hg rfl (Q.len_sl isl22 rfl))) rfl ?_
      refine Chain.cons _ (GQ.g rfl rfl rfl rfl rfl (fun hg => Q.move_d rfl)) rfl ?_
      refine Chain.cons _ (GQ.g rfl rfl rfl rfl rfl (fun hg => Quiet.open 46 hg rfl (Q.call rfl Try.func9 go9 rfl (cut_c size 1 12 _ (by decide) (by decide) (by decide))))) rfl ?_
      refine Chain.cons _ (GQ.g rfl rfl rfl rfl rfl (fun hg => Quiet.open 45 hg rfl (Quiet.open 47 hg rfl (Q.mini rfl rfl)))) rfl ?_
      refine Chain.cons _ (GQ.g rfl rfl rfl rfl rfl (fun hg => Quiet.open 43 hg rfl (Quiet.open 48 hg rfl (Q.neq rfl rfl)))) rfl ?_
      refine Chain.cons _ (GQ.q rfl (Q.pick_or rfl rfl rfl (fun h => by first | (rw [h]; rfl) | (rw [hg, h]; rfl) | (simp [h, hg]; done)))) rfl ?_
      refine Chain.nil ?_
      refine XOps.nil ?_
      refine W.cond rfl (fun hc50 => ?_) (fun hc50 => ?_)
      · try simp only [Bool.or_eq_true, Bool.or_eq_false_iff, Bool.and_eq_true, Bool.and_eq_false_iff, decide_eq_true_eq, decide_eq_false_iff_not, Bool.not_eq_true', Bool.not_eq_false', Int.not_lt, Int.not_le, List.length_map] at hc50
        exfalso
        rcases hc50 with h | h <;> omega --done
      · try simp only [Bool.or_eq_true, Bool.or_eq_false_iff, Bool.and_eq_true, Bool.and_eq_false_iff, decide_eq_true_eq, decide_eq_false_iff_not, Bool.not_eq_true', Bool.not_eq_false', Int.not_lt, Int.not_le, List.length_map] at hc50
        refine W.skip ?_
        refine W.seq ?_
        refine W.reg ?_
        refine XOps.s rfl rfl rfl (Q.ld_ptr (k := 9) ag35 rfl rfl rfl) ?_
        refine XOps.s rfl rfl rfl (Q.len_vs isl35 rfl) ?_
        refine XOps.s rfl rfl rfl (Q.move_d rfl) ?_
        refine XOps.nil ?_
        refine W.block ?_
        refine W.loop (ι := Nat × (Nat → Nat)) (fun z => [(5, .ptr b 0), (6, .ptr b6 0), (51, .vs o 0 (allM M.q 8).length 2), (52, .d (.int .i64 (allM M.q 8).length)), (53, .d (.int .i64 (z.1 : Nat)))]) (fun z => boxH b (getK M z.1) z.2 ((b6, .cells [.vs o 0 (allM M.q 8).length 2]) :: (o, .lst 2 (((allM M.q 8)).map encPV)) :: hs)) (fun z => z.1 ≤ (allM M.q 8).length) (fun z => (allM M.q 8).length - z.1) (0, ids) ?_ ?_ ?_ ?_
        · exact Nat.zero_le _
        · exact ⟨by first | rfl | exact int_eq (by omega) | exact len_eq (by simp) | exact int_eq (by simp; done), by first | rfl | exact int_eq (by omega) | exact len_eq (by simp) | exact int_eq (by simp; done), by first | rfl | exact int_eq (by omega) | exact len_eq (by simp) | exact int_eq (by simp; done), by first | rfl | exact int_eq (by omega) | exact len_eq (by simp) | exact int_eq (by simp; done), by first | rfl | exact int_eq (by omega) | exact len_eq (by simp) | exact int_eq (by simp; done), trivial⟩
        · exact HLe.refl _
        · rintro ⟨k, idk⟩ hk
          dsimp only at hk
          try dsimp only
          refine W.reg ?_
          refine XOps.s rfl rfl rfl (Q.lss rfl rfl) ?_
          refine XOps.nil ?_
          refine W.seq ?_
          refine W.cond rfl (fun hc54 => ?_) (fun hc54 => ?_)
          · try simp only [Bool.or_eq_true, Bool.or_eq_false_iff, Bool.and_eq_true, Bool.and_eq_false_iff, decide_eq_true_eq, decide_eq_false_iff_not, Bool.not_eq_true', Bool.not_eq_false', Int.not_lt, Int.not_le, List.length_map] at hc54
            obtain ⟨x, hx⟩ : ∃ x, (allM M.q 8)[k]? = some x := ⟨_, List.getElem?_eq_getElem (by omega)⟩
            obtain ⟨y, hy⟩ : ∃ y, (allM M.q 8)[((k : Int) - 1).toNat]? = some y := ⟨_, List.getElem?_eq_getElem (by omega)⟩
            have hrel : 0 < k → x.1 < y.1 ∨ x.1 = y.1 ∧ y.2 < x.2 := fun h0 => all_adj hBI.pw (k := k - 1) (by rw [show k - 1 + 1 = k by omega]; exact hx) (by rw [show ((k : Int) - 1).toNat = k - 1 by omega] at hy; exact hy)
            have hgk := getK_ok hok3 hTm k
            have hhd : allM (getK M k).q 8 = x :: (allM M.q 8).drop (k + 1) := by
              rw [hgk.2.2]; obtain ⟨hlt, rfl⟩ := List.getElem?_eq_some_iff.1 hx; exact List.drop_eq_getElem_cons hlt
            obtain ⟨hgE, hgP, hgV⟩ := get_head hhd
            refine W.skip ?_
            refine W.seq ?_
            refine W.block ?_
            refine W.reg ?_
            refine XOps.s rfl rfl rfl (Q.move_d rfl) ?_
            refine XOps.s rfl rfl rfl (Q.idx_vs (kk := 10) sl35 rfl rfl rfl (by omega) (by omega)) ?_
            refine XOps.s rfl rfl rfl (Q.ld_epn (k := 10) ag39 rfl rfl (map_at0 hx) rfl) ?_
            (refine XOps.loud rfl (L.alloc tz39 rfl rfl) ?_; rintro _ _ ⟨b10, rfl, rfl⟩)
            refine XOps.s rfl rfl rfl (Q.assign_d rfl) ?_
            refine XOps.loud rfl (L.storen (k := 0) ag39 rfl rfl rfl rfl rfl) ?_
            rintro _ _ ⟨rfl, rfl⟩
            refine XOps.nil ?_
            refine W.reg ?_
            refine XOps.s rfl rfl rfl (Q.move_ptr rfl) ?_
            refine XOps.loud rfl (L.call rfl Try.func11 go11 rfl (AC.le (get_c b (getK M k) idk ((b10, .cells ((encPV x).map .d)) :: (b6, .cells [.vs o 0 (allM M.q 8).length 2]) :: (o, .lst 2 (((allM M.q 8)).map encPV)) :: hs) hgk.1) (HLe.perm (box_in _ _ _ _ _))) rfl) ?_
            rintro _ _ ⟨_, rfl, ids2, rfl, rfl⟩
            refine XOps.s rfl rfl rfl (Q.move_tup rfl) ?_
            refine XOps.s rfl rfl rfl (Q.extract rfl rfl) ?_
            refine XOps.s rfl rfl rfl (Q.extract rfl rfl) ?_
            refine XOps.s rfl rfl rfl (Q.extract rfl rfl) ?_
            refine XOps.s rfl rfl rfl (Q.assign_d rfl) ?_
            refine XOps.s rfl rfl rfl (Q.assign_d rfl) ?_
            refine XOps.s rfl rfl rfl (Q.assign_d rfl) ?_
            refine XOps.nil ?_
            rw [hgE, hgP, hgV]
            refine W.reg ?_
            refine XOps.s rfl rfl rfl (Q.move_d rfl) ?_
            refine XOps.s rfl rfl rfl (Q.neq rfl rfl) ?_
            refine XOps.s rfl rfl rfl (Q.move_d rfl) ?_
            refine XOps.gs rfl rfl rfl rfl rfl rfl rfl (fun hg => Q.ld_ptrn (k := 9) ag39 rfl rfl rfl) ?_
            refine XOps.gs rfl rfl rfl rfl rfl rfl rfl (fun hg => Q.move_d rfl) ?_
            refine XOps.gs rfl rfl rfl rfl rfl rfl rfl (fun hg => Q.move_d rfl) ?_
            refine XOps.gs rfl rfl rfl rfl rfl rfl rfl (fun hg => Quiet.open 68 hg rfl (Quiet.open 69 hg rfl (Q.buildArr ar39 tz39 tzd39 rfl))) ?_
            refine XOps.gs rfl rfl rfl rfl rfl rfl rfl (fun hg => Quiet.open 67 hg rfl (Quiet.open 70 hg rfl (Q.neq_agg eqt39 rfl rfl rfl rfl rfl))) ?_
            refine XOps.s rfl rfl rfl (Q.pick_or rfl rfl rfl (fun h => by first | (rw [h]; rfl) | (rw [hg, h]; rfl) | (simp [h, hg]; done))) ?_
            refine XOps.s rfl rfl rfl (Q.move_d rfl) ?_
            refine XOps.gs rfl rfl rfl rfl rfl rfl rfl (fun hg => Q.move_d rfl) ?_
            refine XOps.gs rfl rfl rfl rfl rfl rfl rfl (fun hg => Quiet.open 74 hg rfl (Q.gtr rfl rfl)) ?_
            refine XOps.gs rfl rfl rfl rfl rfl rfl rfl (fun hg => Quiet.open 75 hg rfl (Q.move_d rfl)) ?_
            refine XOps.gsw rfl rfl rfl rfl rfl rfl rfl (fun hg => Q.move_d rfl) ?_
            refine XOps.gsw rfl rfl rfl rfl rfl rfl rfl (fun hg => Q.ld_ptr (k := 10) ag35 rfl rfl rfl) ?_
            refine XOps.gsw rfl rfl rfl rfl rfl rfl rfl (fun hg => Q.move_d rfl) ?_
            refine XOps.gsw rfl rfl rfl rfl rfl rfl rfl (fun hg => Quiet.open 79 hg rfl (Q.sub rfl rfl (wi64 (by first | omega | (dsimp only; omega) | (simp only [List.length_map]; omega)) (by first | omega | (dsimp only; omega) | (simp only [List.length_map]; omega))))) ?_
            refine XOps.gsw rfl rfl rfl rfl rfl rfl rfl (fun hg => Quiet.open 78 hg rfl (Quiet.open 80 hg rfl (Q.idx_vs (kk := 11) sl35 rfl rfl rfl (by simp at hg; omega) (by simp at hg; omega)))) ?_
            refine XOps.gsw rfl rfl rfl rfl rfl rfl rfl (fun hg => Quiet.open 81 hg rfl (Q.idx_ep ar39 rfl rfl (by decide) (by decide))) ?_
            refine XOps.gsw rfl rfl rfl rfl rfl rfl rfl (fun hg => Quiet.open 82 hg rfl (Q.ld_ep (k := 11) ag3 rfl rfl (map_atz hy) rfl)) ?_
            refine XOps.gsw rfl rfl rfl rfl rfl rfl rfl (fun hg => Quiet.open 77 hg rfl (Quiet.open 83 hg rfl (Q.gtr rfl rfl))) ?_
            refine XOps.gsw rfl rfl rfl rfl rfl rfl rfl (fun hg => Quiet.open 84 hg rfl (Q.move_d rfl)) ?_
            refine XOps.gsw rfl rfl rfl rfl rfl rfl rfl (fun hg => Q.move_d rfl) ?_
            refine XOps.gsw rfl rfl rfl rfl rfl rfl rfl (fun hg => Q.ld_ptr (k := 10) ag35 rfl rfl rfl) ?_
            refine XOps.gsw rfl rfl rfl rfl rfl rfl rfl (fun hg => Q.move_d rfl) ?_
            refine XOps.gsw rfl rfl rfl rfl rfl rfl rfl (fun hg => Quiet.open 88 hg rfl (Q.sub rfl rfl (wi64 (by first | omega | (dsimp only; omega) | (simp only [List.length_map]; omega)) (by first | omega | (dsimp only; omega) | (simp only [List.length_map]; omega))))) ?_
            refine XOps.gsw rfl rfl rfl rfl rfl rfl rfl (fun hg => Quiet.open 87 hg rfl (Quiet.open 89 hg rfl (Q.idx_vs (kk := 11) sl35 rfl rfl rfl (by simp at hg; omega) (by simp at hg; omega)))) ?_
            refine XOps.gsw rfl rfl rfl rfl rfl rfl rfl (fun hg => Quiet.open 90 hg rfl (Q.idx_ep ar39 rfl rfl (by decide) (by decide))) ?_
            refine XOps.gsw rfl rfl rfl rfl rfl rfl rfl (fun hg => Quiet.open 91 hg rfl (Q.ld_ep (k := 11) ag3 rfl rfl (map_atz hy) rfl)) ?_
            refine XOps.gsw rfl rfl rfl rfl rfl rfl rfl (fun hg => Quiet.open 86 hg rfl (Quiet.open 92 hg rfl (Q.eql rfl rfl))) ?_
            refine XOps.gsw rfl rfl rfl rfl rfl rfl rfl (fun hg => Quiet.open 93 hg rfl (Q.move_d rfl)) ?_
            refine XOps.gsw rfl rfl rfl rfl rfl rfl rfl (fun hg => Q.move_d rfl) ?_
            refine XOps.gsw rfl rfl rfl rfl rfl rfl rfl (fun hg => Q.ld_ptr (k := 10) ag35 rfl rfl rfl) ?_
            refine XOps.gsw rfl rfl rfl rfl rfl rfl rfl (fun hg => Q.move_d rfl) ?_
            refine XOps.gsw rfl rfl rfl rfl rfl rfl rfl (fun hg => Quiet.open 97 hg rfl (Q.sub rfl rfl (wi64 (by first | omega | (dsimp only; omega) | (simp only [List.length_map]; omega)) (by first | omega | (dsimp only; omega) | (simp only [List.length_map]; omega))))) ?_
            refine XOps.gsw rfl rfl rfl rfl rfl rfl rfl (fun hg => Quiet.open 96 hg rfl (Quiet.open 98 hg rfl (Q.idx_vs (kk := 11) sl35 rfl rfl rfl (by simp at hg; omega) (by simp at hg; omega)))) ?_
            refine XOps.gsw rfl rfl rfl rfl rfl rfl rfl (fun hg => Quiet.open 99 hg rfl (Q.idx_ep ar39 rfl rfl (by decide) (by decide))) ?_
            refine XOps.gsw rfl rfl rfl rfl rfl rfl rfl (fun hg => Quiet.open 100 hg rfl (Q.ld_ep (k := 11) ag3 rfl rfl (map_atz hy) rfl)) ?_
            refine XOps.gsw rfl rfl rfl rfl rfl rfl rfl (fun hg => Quiet.open 95 hg rfl (Quiet.open 101 hg rfl (Q.leq rfl rfl))) ?_
            refine XOps.gsw rfl rfl rfl rfl rfl rfl rfl (fun hg => Quiet.open 94 hg rfl (Q.pick_and rfl rfl rfl (fun h => by first | (rw [h]; rfl) | (rw [hg, h]; rfl) | (simp [h, hg]; done)))) ?_
            refine XOps.gsw rfl rfl rfl rfl rfl rfl rfl (fun hg => Quiet.open 85 hg rfl (Q.pick_or rfl rfl rfl (fun h => by first | (rw [h]; rfl) | (rw [hg, h]; rfl) | (simp [h, hg]; done)))) ?_
            refine XOps.gs rfl rfl rfl rfl rfl rfl rfl (fun hg => Quiet.open 76 hg rfl (Q.pick_and rfl rfl rfl (fun h => by first | (rw [h]; rfl) | (rw [hg, h]; rfl) | (simp [h, hg]; done)))) ?_
            refine XOps.s rfl rfl rfl (Q.pick_or rfl rfl rfl (fun h => by first | (rw [h]; rfl) | (rw [hg, h]; rfl) | (simp [h, hg]; done))) ?_
            refine XOps.nil ?_
            refine W.cond rfl (fun hc106 => ?_) (fun hc106 => ?_)
            · try simp only [Bool.or_eq_true, Bool.or_eq_false_iff, Bool.and_eq_true, Bool.and_eq_false_iff, decide_eq_true_eq, decide_eq_false_iff_not, Bool.not_eq_true', Bool.not_eq_false', Int.not_lt, Int.not_le, List.length_map] at hc106
              exfalso
              simp [allD, leafD] at hc106
              omega --done
            · try simp only [Bool.or_eq_true, Bool.or_eq_false_iff, Bool.and_eq_true, Bool.and_eq_false_iff, decide_eq_true_eq, decide_eq_false_iff_not, Bool.not_eq_true', Bool.not_eq_false', Int.not_lt, Int.not_le, List.length_map] at hc106
              refine W.skip ?_
              refine W.region ?_
              refine XOps.s rfl rfl rfl (Q.add rfl rfl (wi64 (by first | omega | (dsimp only; omega) | (simp only [List.length_map]; omega)) (by first | omega | (dsimp only; omega) | (simp only [List.length_map]; omega)))) ?_
              refine XOps.s rfl rfl rfl (Q.move_d rfl) ?_
              refine XOps.nil ?_
              refine ⟨(k + 1, ids2), ?_, ?_, ?_, ?_⟩
              · dsimp only; omega
              · dsimp only; omega
              · exact ⟨by first | rfl | exact int_eq (by omega) | exact len_eq (by simp) | exact int_eq (by simp; done), by first | rfl | exact int_eq (by omega) | exact len_eq (by simp) | exact int_eq (by simp; done), by first | rfl | exact int_eq (by omega) | exact len_eq (by simp) | exact int_eq (by simp; done), by first | rfl | exact int_eq (by omega) | exact len_eq (by simp) | exact int_eq (by simp; done), by first | rfl | exact int_eq (by omega) | exact len_eq (by simp) | exact int_eq (by simp; done), trivial⟩
              · exact HLe.trans (HLe.skip (b10, .cells ((encPV x).map .d)) (HLe.refl _)) (HLe.perm (box_in _ _ _ _ _).symm)
          · try simp only [Bool.or_eq_true, Bool.or_eq_false_iff, Bool.and_eq_true, Bool.and_eq_false_iff, decide_eq_true_eq, decide_eq_false_iff_not, Bool.not_eq_true', Bool.not_eq_false', Int.not_lt, Int.not_le, List.length_map] at hc54
            obtain rfl : k = (allM M.q 8).length := by omega
            have hgk := getK_ok hok3 hTm (allM M.q 8).length
            have hem : allM (getK M (allM M.q 8).length).q 8 = [] := by rw [hgk.2.2]; exact List.drop_length
            obtain ⟨hgE, hgG⟩ := get_empty hem
            have hm0 : (getK M (allM M.q 8).length).get.many = 0 := by rw [hgG, hgk.2.1, hem]; rfl
            refine W.exit ?_
            refine W.reg ?_
            refine XOps.s rfl rfl rfl (Q.move_ptr rfl) ?_
            refine XOps.loud rfl (L.call rfl Try.func11 go11 rfl (get_c b (getK M (allM M.q 8).length) idk ((b6, .cells [.vs o 0 (allM M.q 8).length 2]) :: (o, .lst 2 (((allM M.q 8)).map encPV)) :: hs) hgk.1) rfl) ?_
            rintro _ _ ⟨_, rfl, ids3, rfl, rfl⟩
            refine XOps.s rfl rfl rfl (Q.move_tup rfl) ?_
            refine XOps.s rfl rfl rfl (Q.extract rfl rfl) ?_
            refine XOps.s rfl rfl rfl (Q.extract rfl rfl) ?_
            refine XOps.s rfl rfl rfl (Q.extract rfl rfl) ?_
            refine XOps.s rfl rfl rfl (Q.assign_d rfl) ?_
            refine XOps.s rfl rfl rfl (Q.assign_d rfl) ?_
            refine XOps.s rfl rfl rfl (Q.assign_d rfl) ?_
            refine XOps.nil ?_
            rw [hgE]
            refine W.reg ?_
            refine XOps.s rfl rfl rfl (Q.move_d rfl) ?_
            refine XOps.s rfl rfl rfl (Q.eql rfl rfl) ?_
            refine XOps.s rfl rfl rfl (Q.move_d rfl) ?_
            refine XOps.gs rfl rfl rfl rfl rfl rfl rfl (fun hg => Q.move_ptr rfl) ?_
            refine XOps.gs rfl rfl rfl rfl rfl rfl rfl (fun hg => Quiet.open 117 hg rfl (Q.call rfl Try.func10 go10 rfl (count_c b (getK M (allM M.q 8).length).get ids3 _))) ?_
            refine XOps.gs rfl rfl rfl rfl rfl rfl rfl (fun hg => Quiet.open 118 hg rfl (Q.eql rfl rfl)) ?_
            refine XOps.s rfl rfl rfl (Q.pick_and rfl rfl rfl (fun h => by first | (rw [h]; rfl) | (rw [hg, h]; rfl) | (simp [h, hg]; done))) ?_
            refine XOps.s rfl rfl rfl (Q.assign_d rfl) ?_
            refine XOps.nil ?_
            refine W.ret ?_
            refine ⟨_, _, rfl, HLe.refl _, ?_⟩
            first | (rw [hm0]; rfl) | (simp [hm0]; done)
end Go.Proofs.YtdkeenmmhkhecaaA
