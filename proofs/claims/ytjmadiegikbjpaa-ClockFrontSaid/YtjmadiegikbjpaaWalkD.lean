/- The laws ClockApart, ClockVectors, ClockFront and ClockJoins, walked. -/
import Derived.Test.YtjmadiegikbjpaaBase
import Derived.Test.YtjmadiegikbjpaaWalkC
set_option linter.unusedVariables false
set_option linter.unusedSimpArgs false
set_option linter.unnecessarySimpa false
namespace Go.Proofs.YtjmadiegikbjpaaA.FWalkD
open Go
theorem ag22 : tAgg P 22 = some ((false, 1)) := by kernel_rfl
theorem ag3 : tAgg P 3 = some ((false, 1)) := by kernel_rfl
theorem ap22 : tApp P 22 = some ((1, 8)) := by kernel_rfl
theorem ap23 : tApp P 23 = some ((3, 24)) := by kernel_rfl
theorem fl26_0 : tFld P 26 0 = some (0) := by kernel_rfl
theorem go10 : callGo Go.Proofs.Try.f10 = true := by kernel_rfl
theorem go11 : callGo Go.Proofs.Try.f11 = true := by kernel_rfl
theorem go12 : callGo Go.Proofs.Try.f12 = true := by kernel_rfl
theorem go13 : callGo Go.Proofs.Try.f13 = true := by kernel_rfl
theorem go14 : callGo Go.Proofs.Try.f14 = true := by kernel_rfl
theorem go15 : callGo Go.Proofs.Try.f15 = true := by kernel_rfl
theorem go16 : callGo Go.Proofs.Try.f16 = true := by kernel_rfl
theorem go8 : callGo Go.Proofs.Try.f8 = true := by kernel_rfl
theorem go9 : callGo Go.Proofs.Try.f9 = true := by kernel_rfl
theorem isb4 : isB P 4 = true := by kernel_rfl
theorem isl22 : isSl P 22 = true := by kernel_rfl
theorem isl23 : isSl P 23 = true := by kernel_rfl
theorem isl32 : isSl P 32 = true := by kernel_rfl
theorem pl26 : tPl P 26 = some ([(0, 1), (1, 1), (2, 1)]) := by kernel_rfl
theorem sl22 : tSl P 22 = some (1) := by kernel_rfl
theorem sl23 : tSl P 23 = some (3) := by kernel_rfl
theorem sl32 : tSl P 32 = some (1) := by kernel_rfl
theorem tz26 : tZero P 26 = some ([.int .i64 0, .int .i64 0, .int .i64 0]) := by kernel_rfl
theorem tzd26 : cellsD [.int .i64 0, .int .i64 0, .int .i64 0] = some ([.int .i64 0, .int .i64 0, .int .i64 0]) := rfl
theorem zr22 : tZrow P 22 = some ([.int .i64 0]) := by kernel_rfl
theorem zr23 : tZrow P 23 = some ([.int .i64 0, .int .i64 0, .int .i64 0]) := by kernel_rfl
theorem zrd22 : cellsD [.int .i64 0] = some ([.int .i64 0]) := rfl
theorem zrd23 : cellsD [.int .i64 0, .int .i64 0, .int .i64 0] = some ([.int .i64 0, .int .i64 0, .int .i64 0]) := rfl
end Go.Proofs.YtjmadiegikbjpaaA.FWalkD
namespace Go.Proofs.YtjmadiegikbjpaaA
open Go FWalkD
set_option maxHeartbeats 1000000 in
set_option maxRecDepth 100000 in
theorem apart_c (l : List Int) (i k : Int) (hs : Hp) (hL : l.length ≤ 140737488351232) : AC P 3 [.d (slN l), .d (.int .i64 i), .d (.int .i64 k)] hs (fun r _ => r = .d (.bool true)) := by
  refine AC.of 75 Try.func3 rfl rfl rfl ?_
  refine W.reg ?_
  refine XOps.s rfl rfl rfl (Q.assign_d rfl) ?_
  refine XOps.nil ?_
  refine W.reg ?_
  refine XOps.s rfl rfl rfl (Q.assign_nilsl rfl) ?_
  refine XOps.nil ?_
  refine W.ghost 7 3 (by decide) rfl (by decide) (fun o => ?_)
  refine W.seq ?_
  refine W.reg ?_
  refine XOps.s rfl rfl rfl (Q.move_d rfl) ?_
  refine XOps.s rfl rfl rfl (Q.move_d rfl) ?_
  refine XOps.s rfl rfl rfl (Q.len_sl isl22 rfl) ?_
  refine XOps.s rfl rfl rfl (Q.mini rfl rfl) ?_
  refine XOps.s rfl rfl rfl (Q.cut_slm sl22 rfl rfl rfl (by omega) (by omega) (by simp; omega)) ?_
  refine XOps.s rfl rfl rfl (Q.len_sl isl22 rfl) ?_
  refine XOps.s rfl rfl rfl (Q.move_d rfl) ?_
  refine XOps.nil ?_
  have hcl : ((l.take (min (((l.map nE).length : Nat) : Int) 20).toNat).drop (0 : Int).toNat).length ≤ 20 := by simp; omega
  generalize ((l.take (min (((l.map nE).length : Nat) : Int) 20).toNat).drop (0 : Int).toNat) = c at hcl ⊢
  refine W.block ?_
  refine W.loop (ι := Nat × Nat) (fun p => [(1, .d (.int .i64 i)), (2, .d (.int .i64 k)), (7, .vs p.2 0 p.1 3), (16, .d (.sl 1 (c.map nE))), (17, .d (.int .i64 c.length)), (18, .d (.int .i64 (p.1 : Nat)))]) (fun p => (p.2, .lst 3 ((locL (c.take p.1)).map Ev.enc)) :: hs) (fun p => p.1 ≤ c.length) (fun p => c.length - p.1) (0, o) ?_ ?_ ?_ ?_
  · exact Nat.zero_le _
  · exact ⟨by first | rfl | exact int_eq (by omega) | exact len_eq (by simp) | exact int_eq (by simp; done), by first | rfl | exact int_eq (by omega) | exact len_eq (by simp) | exact int_eq (by simp; done), by first | rfl | exact int_eq (by omega) | exact len_eq (by simp) | exact int_eq (by simp; done), by first | rfl | exact int_eq (by omega) | exact len_eq (by simp) | exact int_eq (by simp; done), by first | rfl | exact int_eq (by omega) | exact len_eq (by simp) | exact int_eq (by simp; done), by first | rfl | exact int_eq (by omega) | exact len_eq (by simp) | exact int_eq (by simp; done), trivial⟩
  · exact HLe.refl _
  · rintro ⟨q, o⟩ hq
    try dsimp only at hq ⊢
    refine W.reg ?_
    refine XOps.s rfl rfl rfl (Q.lss rfl rfl) ?_
    refine XOps.nil ?_
    refine W.seq ?_
    refine W.cond rfl (fun hc19 => ?_) (fun hc19 => ?_)
    · try simp only [Bool.or_eq_true, Bool.or_eq_false_iff, Bool.and_eq_true, Bool.and_eq_false_iff, decide_eq_true_eq, decide_eq_false_iff_not, Bool.not_eq_true', Bool.not_eq_false', Int.not_lt, Int.not_le, List.length_map, slN] at hc19
      obtain ⟨z, hz⟩ : ∃ z, c[q]? = some z := ⟨_, List.getElem?_eq_getElem (by omega)⟩
      have hlk : ((locL (c.take q)).map Ev.enc).length = q := by rw [List.length_map]; unfold locL; rw [List.length_map, List.length_take]; omega
      have htk : locL (c.take (q + 1)) = locL (c.take q) ++ [⟨cutI z 0 7, 0, 0⟩] := by unfold locL; rw [List.take_add_one, hz, List.map_append]; rfl
      refine W.skip ?_
      refine W.seq ?_
      refine W.block ?_
      refine W.reg ?_
      refine XOps.s rfl rfl rfl (Q.idx_sl sl22 (by decide) rfl rfl (by first | omega | (simp only [List.length_map]; omega)) (by first | exact map_at (by assumption) | exact map_at0 (by assumption) | assumption)) ?_
      refine XOps.s rfl rfl rfl (Q.ld_dp ag3 rfl rfl) ?_
      refine XOps.s rfl rfl rfl (Q.assign_d rfl) ?_
      refine XOps.nil ?_
      refine W.region ?_
      refine XOps.s rfl rfl rfl (Q.move_vs rfl) ?_
      refine XOps.s rfl rfl rfl (Q.move_d rfl) ?_
      refine XOps.s rfl rfl rfl (Q.call rfl Try.func8 go8 rfl (cut_c z 0 7 _ (by decide) (by decide) (by decide))) ?_
      refine XOps.s rfl rfl rfl (Q.build pl26 tz26 tzd26 rfl) ?_
      refine XOps.s rfl rfl rfl (Q.bsl1n sl23 (by decide) zr23 rfl zrd23 rfl rfl (by decide)) ?_
      (refine XOps.loud rfl (L.app (k := 0) ap23 rfl rfl hlk.symm rfl (by rw [hlk]; simp; omega) rfl) ?_; rintro _ _ ⟨v27, rfl, rfl⟩)
      refine XOps.s rfl rfl rfl (Q.assign_vs rfl) ?_
      refine XOps.nil ?_
      refine W.region ?_
      refine XOps.s rfl rfl rfl (Q.add rfl rfl (wi64 (by first | omega | (dsimp only; omega) | (simp only [List.length_map]; omega)) (by first | omega | (dsimp only; omega) | (simp only [List.length_map]; omega)))) ?_
      refine XOps.s rfl rfl rfl (Q.move_d rfl) ?_
      refine XOps.nil ?_
      refine ⟨(q + 1, v27), ?_, ?_, ?_, ?_⟩
      · dsimp only; omega
      · dsimp only; omega
      · exact ⟨by first | rfl | exact int_eq (by omega) | exact len_eq (by simp) | exact int_eq (by simp; done), by first | rfl | exact int_eq (by omega) | exact len_eq (by simp) | exact int_eq (by simp; done), by (show AV.vs v27 0 (((locL (c.take q)).map Ev.enc).length + 1) 3 = AV.vs v27 0 (q + 1) 3; rw [hlk]), by first | rfl | exact int_eq (by omega) | exact len_eq (by simp) | exact int_eq (by simp; done), by first | rfl | exact int_eq (by omega) | exact len_eq (by simp) | exact int_eq (by simp; done), by exact int_eq (by dsimp only; omega), trivial⟩
      · exact HLe.cons' (by rw [htk, List.map_append]; rfl) (HLe.refl _)
    · try simp only [Bool.or_eq_true, Bool.or_eq_false_iff, Bool.and_eq_true, Bool.and_eq_false_iff, decide_eq_true_eq, decide_eq_false_iff_not, Bool.not_eq_true', Bool.not_eq_false', Int.not_lt, Int.not_le, List.length_map, slN] at hc19
      obtain rfl : q = c.length := by omega
      rw [List.take_length]
      refine W.exit ?_
      refine W.seq ?_
      refine W.freeze 7 0 rfl rfl (by simp [locL]) ?_
      have hc0 : checkS (locL c) = 0 := locL_check (by omega)
      have hlc : (locL c).length = c.length := by simp [locL]
      refine W.reg ?_
      refine XOps.s rfl rfl rfl (Q.move_d rfl) ?_
      refine XOps.s rfl rfl rfl (Q.len_sl isl23 rfl) ?_
      refine XOps.s rfl rfl rfl (Q.eql rfl rfl) ?_
      refine XOps.nil ?_
      refine W.cond rfl (fun hc31 => ?_) (fun hc31 => ?_)
      · try simp only [Bool.or_eq_true, Bool.or_eq_false_iff, Bool.and_eq_true, Bool.and_eq_false_iff, decide_eq_true_eq, decide_eq_false_iff_not, Bool.not_eq_true', Bool.not_eq_false', Int.not_lt, Int.not_le, List.length_map, slN] at hc31
        refine W.reg ?_
        refine XOps.s rfl rfl rfl (Q.call rfl Try.func9 go9 rfl (fact_c _)) ?_
        refine XOps.s rfl rfl rfl (Q.assign_d rfl) ?_
        refine XOps.nil ?_
        refine W.ret ?_
        exact ⟨_, hs, rfl, HLe.refl _, rfl⟩
      · try simp only [Bool.or_eq_true, Bool.or_eq_false_iff, Bool.and_eq_true, Bool.and_eq_false_iff, decide_eq_true_eq, decide_eq_false_iff_not, Bool.not_eq_true', Bool.not_eq_false', Int.not_lt, Int.not_le, List.length_map, slN] at hc31
        refine W.skip ?_
        refine W.reg ?_
        refine XOps.s rfl rfl rfl (Q.move_d rfl) ?_
        refine XOps.s rfl rfl rfl (Q.move_d rfl) ?_
        refine XOps.s rfl rfl rfl (Q.len_sl isl23 rfl) ?_
        refine XOps.s rfl rfl rfl (Q.sub rfl rfl (wi64 (by first | omega | (dsimp only; omega) | (simp only [List.length_map]; omega)) (by first | omega | (dsimp only; omega) | (simp only [List.length_map]; omega)))) ?_
        refine XOps.s rfl rfl rfl (Q.call rfl Try.func8 go8 rfl (cut_c i 0 _ _ (by decide) (by simp; omega) (by simp; omega))) ?_
        refine XOps.s rfl rfl rfl (Q.move_d rfl) ?_
        refine XOps.s rfl rfl rfl (Q.move_d rfl) ?_
        refine XOps.s rfl rfl rfl (Q.len_sl isl23 rfl) ?_
        refine XOps.s rfl rfl rfl (Q.sub rfl rfl (wi64 (by first | omega | (dsimp only; omega) | (simp only [List.length_map]; omega)) (by first | omega | (dsimp only; omega) | (simp only [List.length_map]; omega)))) ?_
        refine XOps.s rfl rfl rfl (Q.call rfl Try.func8 go8 rfl (cut_c k 0 _ _ (by decide) (by simp; omega) (by simp; omega))) ?_
        refine XOps.s rfl rfl rfl (Q.assign_d rfl) ?_
        refine XOps.s rfl rfl rfl (Q.assign_d rfl) ?_
        refine XOps.nil ?_
        obtain ⟨a, ha, ha2⟩ : ∃ a : Nat, cutI i 0 (((((locL c).map Ev.enc).length : Nat) : Int) - 1) = a ∧ a < (locL c).length := by
          have := cutI_bounds i (show (0 : Int) ≤ ((((locL c).map Ev.enc).length : Nat) : Int) - 1 by simp; omega)
          exact ⟨(cutI i 0 (((((locL c).map Ev.enc).length : Nat) : Int) - 1)).toNat, by omega, by simp at this ⊢; omega⟩
        obtain ⟨b, hb, hb2⟩ : ∃ a : Nat, cutI k 0 (((((locL c).map Ev.enc).length : Nat) : Int) - 1) = a ∧ a < (locL c).length := by
          have := cutI_bounds k (show (0 : Int) ≤ ((((locL c).map Ev.enc).length : Nat) : Int) - 1 by simp; omega)
          exact ⟨(cutI k 0 (((((locL c).map Ev.enc).length : Nat) : Int) - 1)).toNat, by omega, by simp at this ⊢; omega⟩
        rw [ha, hb]
        obtain ⟨x, hx⟩ : ∃ x, (locL c)[a]? = some x := ⟨_, List.getElem?_eq_getElem ha2⟩
        obtain ⟨y, hy⟩ : ∃ x, (locL c)[b]? = some x := ⟨_, List.getElem?_eq_getElem hb2⟩
        have hbe := loc_before (by omega) hx hy
        refine W.reg ?_
        refine XOps.s rfl rfl rfl (Q.move_d rfl) ?_
        refine XOps.s rfl rfl rfl (Q.move_d rfl) ?_
        refine XOps.s rfl rfl rfl (Q.move_d rfl) ?_
        refine XOps.s rfl rfl rfl (Q.call rfl Try.func10 go10 rfl (before_c (locL c) a b _ hc0 ha2 hb2)) ?_
        refine XOps.s rfl rfl rfl (Q.move_tup rfl) ?_
        refine XOps.s rfl rfl rfl (Q.extract rfl rfl) ?_
        refine XOps.s rfl rfl rfl (Q.extract rfl rfl) ?_
        refine XOps.s rfl rfl rfl (Q.assign_d rfl) ?_
        refine XOps.s rfl rfl rfl (Q.assign_d rfl) ?_
        refine XOps.nil ?_
        refine W.drawreg 25 follows (by kernel_rfl) ?_
        refine Chain.cons _ (GQ.q rfl (Q.call rfl Try.func9 go9 rfl (fact_c _))) rfl ?_
        refine Chain.cons _ (GQ.q rfl (Q.move_d rfl)) rfl ?_
        refine Chain.cons _ (GQ.g rfl rfl rfl rfl rfl (fun hg => Q.move_d rfl)) rfl ?_
        refine Chain.cons _ (GQ.g rfl rfl rfl rfl rfl (fun hg => Quiet.open 52 hg rfl (Q.eql rfl rfl))) rfl ?_
        refine Chain.cons _ (GQ.q rfl (Q.pick_and rfl rfl rfl (fun h => by first | (rw [h]; rfl) | (rw [hg, h]; rfl) | (simp [h, hg]; done)))) rfl ?_
        refine Chain.cons _ (GQ.q rfl (Q.move_d rfl)) rfl ?_
        refine Chain.cons _ (GQ.g rfl rfl rfl rfl rfl (fun hg => Q.move_d rfl)) rfl ?_
        refine Chain.cons _ (GQ.g rfl rfl rfl rfl rfl (fun hg => Q.move_d rfl)) rfl ?_
        refine Chain.cons _ (GQ.g rfl rfl rfl rfl rfl (fun hg => Q.move_d rfl)) rfl ?_
        refine Chain.cons _ (GQ.g rfl rfl rfl rfl rfl (fun hg => Quiet.open 57 hg rfl (Quiet.open 58 hg rfl (Q.lss rfl rfl)))) rfl ?_
        refine Chain.cons _ (GQ.g rfl rfl rfl rfl rfl (fun hg => Quiet.open 59 hg rfl (Q.move_d rfl))) rfl ?_
        refine Chain.cons _ (GQ.gw rfl rfl rfl rfl rfl (fun hg => Q.move_d rfl)) rfl ?_
        refine Chain.cons _ (GQ.gw rfl rfl rfl rfl rfl (fun hg => Q.move_d rfl)) rfl ?_
        refine Chain.cons _ (GQ.gw rfl rfl rfl rfl rfl (fun hg => Quiet.open 61 hg rfl (Quiet.open 62 hg rfl (Q.idx_sl sl23 (by decide) rfl rfl (by first | omega | (simp only [List.length_map]; omega)) (by first | exact map_at (by assumption) | exact map_at0 (by assumption) | assumption))))) rfl ?_
        refine Chain.cons _ (GQ.gw rfl rfl rfl rfl rfl (fun hg => Quiet.open 63 hg rfl (Q.fld_dp fl26_0 rfl))) rfl ?_
        refine Chain.cons _ (GQ.gw rfl rfl rfl rfl rfl (fun hg => Quiet.open 64 hg rfl (Q.ld_dp ag3 rfl rfl))) rfl ?_
        refine Chain.cons _ (GQ.gw rfl rfl rfl rfl rfl (fun hg => Q.move_d rfl)) rfl ?_
        refine Chain.cons _ (GQ.gw rfl rfl rfl rfl rfl (fun hg => Q.move_d rfl)) rfl ?_
        refine Chain.cons _ (GQ.gw rfl rfl rfl rfl rfl (fun hg => Quiet.open 66 hg rfl (Quiet.open 67 hg rfl (Q.idx_sl sl23 (by decide) rfl rfl (by first | omega | (simp only [List.length_map]; omega)) (by first | exact map_at (by assumption) | exact map_at0 (by assumption) | assumption))))) rfl ?_
        refine Chain.cons _ (GQ.gw rfl rfl rfl rfl rfl (fun hg => Quiet.open 68 hg rfl (Q.fld_dp fl26_0 rfl))) rfl ?_
        refine Chain.cons _ (GQ.gw rfl rfl rfl rfl rfl (fun hg => Quiet.open 69 hg rfl (Q.ld_dp ag3 rfl rfl))) rfl ?_
        refine Chain.cons _ (GQ.gw rfl rfl rfl rfl rfl (fun hg => Quiet.open 65 hg rfl (Quiet.open 70 hg rfl (Q.eql rfl rfl)))) rfl ?_
        refine Chain.cons _ (GQ.g rfl rfl rfl rfl rfl (fun hg => Quiet.open 60 hg rfl (Q.pick_and rfl rfl rfl (fun h => by first | (rw [h]; rfl) | (rw [hg, h]; rfl) | (simp [h, hg]; done))))) rfl ?_
        refine Chain.cons _ (GQ.g rfl rfl rfl rfl rfl (fun hg => Quiet.open 56 hg rfl (Quiet.open 72 hg rfl (Q.eql_bool isb4 rfl rfl)))) rfl ?_
        refine Chain.cons _ (GQ.q rfl (Q.pick_and rfl rfl rfl (fun h => by first | (rw [h]; rfl) | (rw [hg, h]; rfl) | (simp [h, hg]; done)))) rfl ?_
        refine Chain.nil ?_
        refine XOps.s rfl rfl rfl (Q.assign_d rfl) ?_
        refine XOps.nil ?_
        refine W.ret ?_
        (refine ⟨_, hs, rfl, HLe.refl _, bt ?_⟩; rw [hbe]; simp; done)

set_option maxHeartbeats 1000000 in
set_option maxRecDepth 100000 in
theorem vectorsL_c (l : List Ev) (hs : Hp) (hL : l.length ≤ 140737488351232) : AC P 4 [.d (.sl 3 (l.map Ev.enc))] hs (fun r _ => r = .d (.bool true)) := by
  refine AC.of 103 Try.func4 rfl rfl rfl ?_
  refine W.reg ?_
  refine XOps.s rfl rfl rfl (Q.assign_d rfl) ?_
  refine XOps.nil ?_
  refine W.reg ?_
  refine XOps.s rfl rfl rfl (Q.move_d rfl) ?_
  refine XOps.s rfl rfl rfl (Q.move_d rfl) ?_
  refine XOps.s rfl rfl rfl (Q.len_sl isl23 rfl) ?_
  refine XOps.s rfl rfl rfl (Q.mini rfl rfl) ?_
  refine XOps.s rfl rfl rfl (Q.cut_slm sl23 rfl rfl rfl (by omega) (by omega) (by simp; omega)) ?_
  refine XOps.s rfl rfl rfl (Q.assign_d rfl) ?_
  refine XOps.nil ?_
  have hcl : ((l.take (min (((l.map Ev.enc).length : Nat) : Int) 20).toNat).drop (0 : Int).toNat).length ≤ 20 := by simp; omega
  generalize ((l.take (min (((l.map Ev.enc).length : Nat) : Int) 20).toNat).drop (0 : Int).toNat) = c at hcl ⊢
  refine W.reg ?_
  refine XOps.s rfl rfl rfl (Q.move_d rfl) ?_
  refine XOps.s rfl rfl rfl (Q.call rfl Try.func11 go11 rfl (vecs_c c _ (by omega))) ?_
  refine XOps.s rfl rfl rfl (Q.move_tup rfl) ?_
  refine XOps.s rfl rfl rfl (Q.extract rfl rfl) ?_
  refine XOps.s rfl rfl rfl (Q.extract rfl rfl) ?_
  refine XOps.s rfl rfl rfl (Q.assign_d rfl) ?_
  refine XOps.s rfl rfl rfl (Q.assign_d rfl) ?_
  refine XOps.nil ?_
  refine W.seq ?_
  refine W.reg ?_
  refine XOps.s rfl rfl rfl (Q.move_d rfl) ?_
  refine XOps.s rfl rfl rfl (Q.neq rfl rfl) ?_
  refine XOps.nil ?_
  refine W.cond rfl (fun hc22 => ?_) (fun hc22 => ?_)
  · try simp only [Bool.or_eq_true, Bool.or_eq_false_iff, Bool.and_eq_true, Bool.and_eq_false_iff, decide_eq_true_eq, decide_eq_false_iff_not, Bool.not_eq_true', Bool.not_eq_false', Int.not_lt, Int.not_le, List.length_map, slN] at hc22
    have hE : vecE c = [] := by unfold vecE; rw [if_neg (by omega)]
    refine W.reg ?_
    refine XOps.s rfl rfl rfl (Q.call rfl Try.func9 go9 rfl (fact_c _)) ?_
    refine XOps.s rfl rfl rfl (Q.move_d rfl) ?_
    refine XOps.gs rfl rfl rfl rfl rfl rfl rfl (fun hg => Q.move_d rfl) ?_
    refine XOps.gs rfl rfl rfl rfl rfl rfl rfl (fun hg => Quiet.open 25 hg rfl (Q.len_sl isl32 rfl)) ?_
    refine XOps.gs rfl rfl rfl rfl rfl rfl rfl (fun hg => Quiet.open 26 hg rfl (Q.eql rfl rfl)) ?_
    refine XOps.s rfl rfl rfl (Q.pick_and rfl rfl rfl (fun h => by first | (rw [h]; rfl) | (rw [hg, h]; rfl) | (simp [h, hg]; done))) ?_
    refine XOps.s rfl rfl rfl (Q.assign_d rfl) ?_
    refine XOps.nil ?_
    refine W.ret ?_
    (refine ⟨_, hs, rfl, HLe.refl _, bt ?_⟩; simp [hE]; done)
  · try simp only [Bool.or_eq_true, Bool.or_eq_false_iff, Bool.and_eq_true, Bool.and_eq_false_iff, decide_eq_true_eq, decide_eq_false_iff_not, Bool.not_eq_true', Bool.not_eq_false', Int.not_lt, Int.not_le, List.length_map, slN] at hc22
    have hc0 : checkS c = 0 := by omega
    have hw := WF.of hc0
    have hvl := vecE_len c hc0
    have hvS : vecE c = vecS c := by unfold vecE; rw [if_pos hc0]
    refine W.skip ?_
    refine W.seq ?_
    refine W.reg ?_
    refine XOps.s rfl rfl rfl (Q.call rfl Try.func9 go9 rfl (fact_c _)) ?_
    refine XOps.s rfl rfl rfl (Q.not rfl) ?_
    refine XOps.s rfl rfl rfl (Q.move_d rfl) ?_
    refine XOps.gs rfl rfl rfl rfl rfl rfl rfl (fun hg => Q.move_d rfl) ?_
    refine XOps.gs rfl rfl rfl rfl rfl rfl rfl (fun hg => Quiet.open 32 hg rfl (Q.len_sl isl32 rfl)) ?_
    refine XOps.gs rfl rfl rfl rfl rfl rfl rfl (fun hg => Q.move_d rfl) ?_
    refine XOps.gs rfl rfl rfl rfl rfl rfl rfl (fun hg => Quiet.open 34 hg rfl (Q.len_sl isl23 rfl)) ?_
    refine XOps.gs rfl rfl rfl rfl rfl rfl rfl (fun hg => Quiet.open 33 hg rfl (Quiet.open 35 hg rfl (Q.neq rfl rfl))) ?_
    refine XOps.s rfl rfl rfl (Q.pick_or rfl rfl rfl (fun h => by first | (rw [h]; rfl) | (rw [hg, h]; rfl) | (simp [h, hg]; done))) ?_
    refine XOps.nil ?_
    refine W.cond rfl (fun hc37 => ?_) (fun hc37 => ?_)
    · try simp only [Bool.or_eq_true, Bool.or_eq_false_iff, Bool.and_eq_true, Bool.and_eq_false_iff, decide_eq_true_eq, decide_eq_false_iff_not, Bool.not_eq_true', Bool.not_eq_false', Int.not_lt, Int.not_le, List.length_map, slN] at hc37
      exact absurd hc37 (by simp [hvl])
    · try simp only [Bool.or_eq_true, Bool.or_eq_false_iff, Bool.and_eq_true, Bool.and_eq_false_iff, decide_eq_true_eq, decide_eq_false_iff_not, Bool.not_eq_true', Bool.not_eq_false', Int.not_lt, Int.not_le, List.length_map, slN] at hc37
      refine W.skip ?_
      refine W.seq ?_
      refine W.reg ?_
      refine XOps.s rfl rfl rfl (Q.move_d rfl) ?_
      refine XOps.s rfl rfl rfl (Q.len_sl isl23 rfl) ?_
      refine XOps.s rfl rfl rfl (Q.move_d rfl) ?_
      refine XOps.nil ?_
      refine W.block ?_
      refine W.loop (ι := Nat) (fun i => [(0, .d (.sl 3 (c.map Ev.enc))), (3, .d (.sl 1 ((vecE c).map rowV))), (39, .d (.int .i64 c.length)), (40, .d (.int .i64 (i : Nat)))]) (fun i => hs) (fun i => i ≤ c.length) (fun i => c.length - i) 0 ?_ ?_ ?_ ?_
      · exact Nat.zero_le _
      · exact ⟨by first | rfl | exact int_eq (by omega) | exact len_eq (by simp) | exact int_eq (by simp; done), by first | rfl | exact int_eq (by omega) | exact len_eq (by simp) | exact int_eq (by simp; done), by first | rfl | exact int_eq (by omega) | exact len_eq (by simp) | exact int_eq (by simp; done), by first | rfl | exact int_eq (by omega) | exact len_eq (by simp) | exact int_eq (by simp; done), trivial⟩
      · exact HLe.refl _
      · rintro i hi
        try dsimp only
        refine W.reg ?_
        refine XOps.s rfl rfl rfl (Q.lss rfl rfl) ?_
        refine XOps.nil ?_
        refine W.seq ?_
        refine W.cond rfl (fun hc41 => ?_) (fun hc41 => ?_)
        · try simp only [Bool.or_eq_true, Bool.or_eq_false_iff, Bool.and_eq_true, Bool.and_eq_false_iff, decide_eq_true_eq, decide_eq_false_iff_not, Bool.not_eq_true', Bool.not_eq_false', Int.not_lt, Int.not_le, List.length_map, slN] at hc41
          obtain ⟨w, hwi⟩ : ∃ w, (vecE c)[i]? = some w := ⟨_, List.getElem?_eq_getElem (by omega)⟩
          refine W.skip ?_
          refine W.seq ?_
          refine W.block ?_
          refine W.reg ?_
          refine XOps.s rfl rfl rfl (Q.move_d rfl) ?_
          refine XOps.s rfl rfl rfl (Q.assign_d rfl) ?_
          refine XOps.nil ?_
          refine W.reg ?_
          refine XOps.s rfl rfl rfl (Q.move_d rfl) ?_
          refine XOps.s rfl rfl rfl (Q.len_sl isl23 rfl) ?_
          refine XOps.s rfl rfl rfl (Q.move_d rfl) ?_
          refine XOps.nil ?_
          refine W.block ?_
          refine W.loop (ι := Nat) (fun j => [(0, .d (.sl 3 (c.map Ev.enc))), (3, .d (.sl 1 ((vecE c).map rowV))), (39, .d (.int .i64 c.length)), (40, .d (.int .i64 (i : Nat))), (5, .d (.int .i64 (i : Nat))), (44, .d (.int .i64 c.length)), (45, .d (.int .i64 (j : Nat)))]) (fun j => hs) (fun j => j ≤ c.length) (fun j => c.length - j) 0 ?_ ?_ ?_ ?_
          · exact Nat.zero_le _
          · exact ⟨by first | rfl | exact int_eq (by omega) | exact len_eq (by simp) | exact int_eq (by simp; done), by first | rfl | exact int_eq (by omega) | exact len_eq (by simp) | exact int_eq (by simp; done), by first | rfl | exact int_eq (by omega) | exact len_eq (by simp) | exact int_eq (by simp; done), by first | rfl | exact int_eq (by omega) | exact len_eq (by simp) | exact int_eq (by simp; done), by first | rfl | exact int_eq (by omega) | exact len_eq (by simp) | exact int_eq (by simp; done), by first | rfl | exact int_eq (by omega) | exact len_eq (by simp) | exact int_eq (by simp; done), by first | rfl | exact int_eq (by omega) | exact len_eq (by simp) | exact int_eq (by simp; done), trivial⟩
          · exact HLe.refl _
          · rintro j hj
            try dsimp only
            refine W.reg ?_
            refine XOps.s rfl rfl rfl (Q.lss rfl rfl) ?_
            refine XOps.nil ?_
            refine W.seq ?_
            refine W.cond rfl (fun hc46 => ?_) (fun hc46 => ?_)
            · try simp only [Bool.or_eq_true, Bool.or_eq_false_iff, Bool.and_eq_true, Bool.and_eq_false_iff, decide_eq_true_eq, decide_eq_false_iff_not, Bool.not_eq_true', Bool.not_eq_false', Int.not_lt, Int.not_le, List.length_map, slN] at hc46
              obtain ⟨u, huj⟩ : ∃ w, (vecE c)[j]? = some w := ⟨_, List.getElem?_eq_getElem (by omega)⟩
              have hbv : befS c i j = (!decide ((i : Int) = j) && allLe w u 8) := by
                rw [bef_vec hw (by omega) (by omega), ← hvS, getD_at hwi, getD_at huj]
              refine W.skip ?_
              refine W.seq ?_
              refine W.block ?_
              refine W.reg ?_
              refine XOps.s rfl rfl rfl (Q.move_d rfl) ?_
              refine XOps.s rfl rfl rfl (Q.assign_d rfl) ?_
              refine XOps.nil ?_
              refine W.seq ?_
              refine W.reg ?_
              refine XOps.s rfl rfl rfl (Q.move_d rfl) ?_
              refine XOps.s rfl rfl rfl (Q.move_d rfl) ?_
              refine XOps.s rfl rfl rfl (Q.idx_sl sl32 (by decide) rfl rfl (by first | omega | (simp only [List.length_map]; omega)) (by first | exact map_at (by assumption) | exact map_at0 (by assumption) | assumption)) ?_
              refine XOps.s rfl rfl rfl (Q.ld_dp ag22 rfl rfl) ?_
              refine XOps.s rfl rfl rfl (Q.len_sl isl22 rfl) ?_
              refine XOps.s rfl rfl rfl (Q.neq rfl rfl) ?_
              refine XOps.s rfl rfl rfl (Q.move_d rfl) ?_
              refine XOps.gs rfl rfl rfl rfl rfl rfl rfl (fun hg => Q.move_d rfl) ?_
              refine XOps.gs rfl rfl rfl rfl rfl rfl rfl (fun hg => Q.move_d rfl) ?_
              refine XOps.gs rfl rfl rfl rfl rfl rfl rfl (fun hg => Quiet.open 55 hg rfl (Quiet.open 56 hg rfl (Q.idx_sl sl32 (by decide) rfl rfl (by first | omega | (simp only [List.length_map]; omega)) (by first | exact map_at (by assumption) | exact map_at0 (by assumption) | assumption)))) ?_
              refine XOps.gs rfl rfl rfl rfl rfl rfl rfl (fun hg => Quiet.open 57 hg rfl (Q.ld_dp ag22 rfl rfl)) ?_
              refine XOps.gs rfl rfl rfl rfl rfl rfl rfl (fun hg => Quiet.open 58 hg rfl (Q.len_sl isl22 rfl)) ?_
              refine XOps.gs rfl rfl rfl rfl rfl rfl rfl (fun hg => Quiet.open 59 hg rfl (Q.neq rfl rfl)) ?_
              refine XOps.s rfl rfl rfl (Q.pick_or rfl rfl rfl (fun h => by first | (rw [h]; rfl) | (rw [hg, h]; rfl) | (simp [h, hg]; done))) ?_
              refine XOps.nil ?_
              refine W.cond rfl (fun hc61 => ?_) (fun hc61 => ?_)
              · try simp only [Bool.or_eq_true, Bool.or_eq_false_iff, Bool.and_eq_true, Bool.and_eq_false_iff, decide_eq_true_eq, decide_eq_false_iff_not, Bool.not_eq_true', Bool.not_eq_false', Int.not_lt, Int.not_le, List.length_map, slN] at hc61
                exact absurd hc61 (by simp [vl_len])
              · try simp only [Bool.or_eq_true, Bool.or_eq_false_iff, Bool.and_eq_true, Bool.and_eq_false_iff, decide_eq_true_eq, decide_eq_false_iff_not, Bool.not_eq_true', Bool.not_eq_false', Int.not_lt, Int.not_le, List.length_map, slN] at hc61
                refine W.skip ?_
                refine W.reg ?_
                refine XOps.s rfl rfl rfl (Q.move_d rfl) ?_
                refine XOps.s rfl rfl rfl (Q.move_d rfl) ?_
                refine XOps.s rfl rfl rfl (Q.neq rfl rfl) ?_
                refine XOps.s rfl rfl rfl (Q.assign_d rfl) ?_
                refine XOps.nil ?_
                refine W.seq ?_
                refine W.reg ?_
                refine XOps.s rfl rfl rfl (Q.move_d rfl) ?_
                refine XOps.nil ?_
                refine W.block ?_
                refine W.loop (ι := Nat) (fun s => [(0, .d (.sl 3 (c.map Ev.enc))), (3, .d (.sl 1 ((vecE c).map rowV))), (39, .d (.int .i64 c.length)), (40, .d (.int .i64 (i : Nat))), (5, .d (.int .i64 (i : Nat))), (44, .d (.int .i64 c.length)), (45, .d (.int .i64 (j : Nat))), (6, .d (.int .i64 (j : Nat))), (7, .d (.bool (!decide ((i : Int) = j) && allLe w u s))), (65, .d (.int .i64 (s : Nat)))]) (fun s => hs) (fun s => s ≤ 8) (fun s => 8 - s) 0 ?_ ?_ ?_ ?_
                · exact Nat.zero_le _
                · exact ⟨by first | rfl | exact int_eq (by omega) | exact len_eq (by simp) | exact int_eq (by simp; done), by first | rfl | exact int_eq (by omega) | exact len_eq (by simp) | exact int_eq (by simp; done), by first | rfl | exact int_eq (by omega) | exact len_eq (by simp) | exact int_eq (by simp; done), by first | rfl | exact int_eq (by omega) | exact len_eq (by simp) | exact int_eq (by simp; done), by first | rfl | exact int_eq (by omega) | exact len_eq (by simp) | exact int_eq (by simp; done), by first | rfl | exact int_eq (by omega) | exact len_eq (by simp) | exact int_eq (by simp; done), by first | rfl | exact int_eq (by omega) | exact len_eq (by simp) | exact int_eq (by simp; done), by first | rfl | exact int_eq (by omega) | exact len_eq (by simp) | exact int_eq (by simp; done), by (show AV.d (.bool (!decide ((i : Int) = j))) = .d (.bool (!decide ((i : Int) = j) && allLe w u 0)); simp [allLe]), by first | rfl | exact int_eq (by omega) | exact len_eq (by simp) | exact int_eq (by simp; done), trivial⟩
                · exact HLe.refl _
                · rintro s hs8
                  try dsimp only
                  refine W.reg ?_
                  refine XOps.s rfl rfl rfl (Q.lss rfl rfl) ?_
                  refine XOps.nil ?_
                  refine W.seq ?_
                  refine W.cond rfl (fun hc66 => ?_) (fun hc66 => ?_)
                  · try simp only [Bool.or_eq_true, Bool.or_eq_false_iff, Bool.and_eq_true, Bool.and_eq_false_iff, decide_eq_true_eq, decide_eq_false_iff_not, Bool.not_eq_true', Bool.not_eq_false', Int.not_lt, Int.not_le, List.length_map, slN] at hc66
                    have hws := vl_at w (j := s) (by omega)
                    have hus := vl_at u (j := s) (by omega)
                    refine W.skip ?_
                    refine W.seq ?_
                    refine W.block ?_
                    refine W.reg ?_
                    refine XOps.s rfl rfl rfl (Q.move_d rfl) ?_
                    refine XOps.s rfl rfl rfl (Q.assign_d rfl) ?_
                    refine XOps.nil ?_
                    refine W.draw 18 follows (by kernel_rfl) ?_
                    refine Chain.cons _ (GQ.q rfl (Q.move_d rfl)) rfl ?_
                    refine Chain.cons _ (GQ.q rfl (Q.move_d rfl)) rfl ?_
                    refine Chain.cons _ (GQ.g rfl rfl rfl rfl rfl (fun hg => Q.move_d rfl)) rfl ?_
                    refine Chain.cons _ (GQ.g rfl rfl rfl rfl rfl (fun hg => Q.move_d rfl)) rfl ?_
                    refine Chain.cons _ (GQ.g rfl rfl rfl rfl rfl (fun hg => Quiet.open 70 hg rfl (Quiet.open 71 hg rfl (Q.idx_sl sl32 (by decide) rfl rfl (by first | omega | (simp only [List.length_map]; omega)) (by first | exact map_at (by assumption) | exact map_at0 (by assumption) | assumption))))) rfl ?_
                    refine Chain.cons _ (GQ.g rfl rfl rfl rfl rfl (fun hg => Quiet.open 72 hg rfl (Q.ld_dp ag22 rfl rfl))) rfl ?_
                    refine Chain.cons _ (GQ.g rfl rfl rfl rfl rfl (fun hg => Q.move_d rfl)) rfl ?_
                    refine Chain.cons _ (GQ.g rfl rfl rfl rfl rfl (fun hg => Quiet.open 73 hg rfl (Quiet.open 74 hg rfl (Q.idx_sl sl22 (by decide) rfl rfl (by first | omega | (simp only [List.length_map]; omega)) (by first | exact map_at (by assumption) | exact map_at0 (by assumption) | assumption))))) rfl ?_
                    refine Chain.cons _ (GQ.g rfl rfl rfl rfl rfl (fun hg => Quiet.open 75 hg rfl (Q.ld_dp ag3 rfl rfl))) rfl ?_
                    refine Chain.cons _ (GQ.g rfl rfl rfl rfl rfl (fun hg => Q.move_d rfl)) rfl ?_
                    refine Chain.cons _ (GQ.g rfl rfl rfl rfl rfl (fun hg => Q.move_d rfl)) rfl ?_
                    refine Chain.cons _ (GQ.g rfl rfl rfl rfl rfl (fun hg => Quiet.open 77 hg rfl (Quiet.open 78 hg rfl (Q.idx_sl sl32 (by decide) rfl rfl (by first | omega | (simp only [List.length_map]; omega)) (by first | exact map_at (by assumption) | exact map_at0 (by assumption) | assumption))))) rfl ?_
                    refine Chain.cons _ (GQ.g rfl rfl rfl rfl rfl (fun hg => Quiet.open 79 hg rfl (Q.ld_dp ag22 rfl rfl))) rfl ?_
                    refine Chain.cons _ (GQ.g rfl rfl rfl rfl rfl (fun hg => Q.move_d rfl)) rfl ?_
                    refine Chain.cons _ (GQ.g rfl rfl rfl rfl rfl (fun hg => Quiet.open 80 hg rfl (Quiet.open 81 hg rfl (Q.idx_sl sl22 (by decide) rfl rfl (by first | omega | (simp only [List.length_map]; omega)) (by first | exact map_at (by assumption) | exact map_at0 (by assumption) | assumption))))) rfl ?_
                    refine Chain.cons _ (GQ.g rfl rfl rfl rfl rfl (fun hg => Quiet.open 82 hg rfl (Q.ld_dp ag3 rfl rfl))) rfl ?_
                    refine Chain.cons _ (GQ.g rfl rfl rfl rfl rfl (fun hg => Quiet.open 76 hg rfl (Quiet.open 83 hg rfl (Q.leq rfl rfl)))) rfl ?_
                    refine Chain.cons _ (GQ.q rfl (Q.pick_and rfl rfl rfl (fun h => by first | (rw [h]; rfl) | (rw [hg, h]; rfl) | (simp [h, hg]; done)))) rfl ?_
                    refine Chain.nil ?_
                    refine XOps.s rfl rfl rfl (Q.assign_d rfl) ?_
                    refine XOps.nil ?_
                    refine W.region ?_
                    refine XOps.s rfl rfl rfl (Q.add rfl rfl (wi64 (by first | omega | (dsimp only; omega) | (simp only [List.length_map]; omega)) (by first | omega | (dsimp only; omega) | (simp only [List.length_map]; omega)))) ?_
                    refine XOps.s rfl rfl rfl (Q.move_d rfl) ?_
                    refine XOps.nil ?_
                    refine ⟨s + 1, ?_, ?_, ?_, ?_⟩
                    · omega
                    · omega
                    · exact ⟨by first | rfl | exact int_eq (by omega) | exact len_eq (by simp) | exact int_eq (by simp; done), by first | rfl | exact int_eq (by omega) | exact len_eq (by simp) | exact int_eq (by simp; done), by first | rfl | exact int_eq (by omega) | exact len_eq (by simp) | exact int_eq (by simp; done), by first | rfl | exact int_eq (by omega) | exact len_eq (by simp) | exact int_eq (by simp; done), by first | rfl | exact int_eq (by omega) | exact len_eq (by simp) | exact int_eq (by simp; done), by first | rfl | exact int_eq (by omega) | exact len_eq (by simp) | exact int_eq (by simp; done), by first | rfl | exact int_eq (by omega) | exact len_eq (by simp) | exact int_eq (by simp; done), by first | rfl | exact int_eq (by omega) | exact len_eq (by simp) | exact int_eq (by simp; done), by (rw [allLe_succ, ← Bool.and_assoc]; rfl), by first | rfl | exact int_eq (by omega) | exact len_eq (by simp) | exact int_eq (by simp; done), trivial⟩
                    · exact HLe.refl _
                  · try simp only [Bool.or_eq_true, Bool.or_eq_false_iff, Bool.and_eq_true, Bool.and_eq_false_iff, decide_eq_true_eq, decide_eq_false_iff_not, Bool.not_eq_true', Bool.not_eq_false', Int.not_lt, Int.not_le, List.length_map, slN] at hc66
                    obtain rfl : s = 8 := by omega
                    refine W.exit ?_
                    refine W.reg ?_
                    refine XOps.s rfl rfl rfl (Q.move_d rfl) ?_
                    refine XOps.s rfl rfl rfl (Q.move_d rfl) ?_
                    refine XOps.s rfl rfl rfl (Q.move_d rfl) ?_
                    refine XOps.s rfl rfl rfl (Q.call rfl Try.func10 go10 rfl (before_c c i j _ hc0 (by omega) (by omega))) ?_
                    refine XOps.s rfl rfl rfl (Q.move_tup rfl) ?_
                    refine XOps.s rfl rfl rfl (Q.extract rfl rfl) ?_
                    refine XOps.s rfl rfl rfl (Q.extract rfl rfl) ?_
                    refine XOps.s rfl rfl rfl (Q.assign_d rfl) ?_
                    refine XOps.s rfl rfl rfl (Q.assign_d rfl) ?_
                    refine XOps.nil ?_
                    rw [hbv]
                    refine W.reg ?_
                    refine XOps.s rfl rfl rfl (Q.move_d rfl) ?_
                    refine XOps.s rfl rfl rfl (Q.neq rfl rfl) ?_
                    refine XOps.s rfl rfl rfl (Q.move_d rfl) ?_
                    refine XOps.gs rfl rfl rfl rfl rfl rfl rfl (fun hg => Q.move_d rfl) ?_
                    refine XOps.gs rfl rfl rfl rfl rfl rfl rfl (fun hg => Q.move_d rfl) ?_
                    refine XOps.gs rfl rfl rfl rfl rfl rfl rfl (fun hg => Quiet.open 97 hg rfl (Quiet.open 98 hg rfl (Q.neq_bool isb4 rfl rfl))) ?_
                    refine XOps.s rfl rfl rfl (Q.pick_or rfl rfl rfl (fun h => by first | (rw [h]; rfl) | (rw [hg, h]; rfl) | (simp [h, hg]; done))) ?_
                    refine XOps.nil ?_
                    refine W.cond rfl (fun hc100 => ?_) (fun hc100 => ?_)
                    · try simp only [Bool.or_eq_true, Bool.or_eq_false_iff, Bool.and_eq_true, Bool.and_eq_false_iff, decide_eq_true_eq, decide_eq_false_iff_not, Bool.not_eq_true', Bool.not_eq_false', Int.not_lt, Int.not_le, List.length_map, slN] at hc100
                      exact absurd hc100 (by simp)
                    · try simp only [Bool.or_eq_true, Bool.or_eq_false_iff, Bool.and_eq_true, Bool.and_eq_false_iff, decide_eq_true_eq, decide_eq_false_iff_not, Bool.not_eq_true', Bool.not_eq_false', Int.not_lt, Int.not_le, List.length_map, slN] at hc100
                      refine W.skip ?_
                      refine W.region ?_
                      refine XOps.s rfl rfl rfl (Q.add rfl rfl (wi64 (by first | omega | (dsimp only; omega) | (simp only [List.length_map]; omega)) (by first | omega | (dsimp only; omega) | (simp only [List.length_map]; omega)))) ?_
                      refine XOps.s rfl rfl rfl (Q.move_d rfl) ?_
                      refine XOps.nil ?_
                      refine ⟨j + 1, ?_, ?_, ?_, ?_⟩
                      · omega
                      · omega
                      · exact ⟨by first | rfl | exact int_eq (by omega) | exact len_eq (by simp) | exact int_eq (by simp; done), by first | rfl | exact int_eq (by omega) | exact len_eq (by simp) | exact int_eq (by simp; done), by first | rfl | exact int_eq (by omega) | exact len_eq (by simp) | exact int_eq (by simp; done), by first | rfl | exact int_eq (by omega) | exact len_eq (by simp) | exact int_eq (by simp; done), by first | rfl | exact int_eq (by omega) | exact len_eq (by simp) | exact int_eq (by simp; done), by first | rfl | exact int_eq (by omega) | exact len_eq (by simp) | exact int_eq (by simp; done), by first | rfl | exact int_eq (by omega) | exact len_eq (by simp) | exact int_eq (by simp; done), trivial⟩
                      · exact HLe.refl _
            · try simp only [Bool.or_eq_true, Bool.or_eq_false_iff, Bool.and_eq_true, Bool.and_eq_false_iff, decide_eq_true_eq, decide_eq_false_iff_not, Bool.not_eq_true', Bool.not_eq_false', Int.not_lt, Int.not_le, List.length_map, slN] at hc46
              refine W.exit ?_
              refine W.region ?_
              refine XOps.s rfl rfl rfl (Q.add rfl rfl (wi64 (by first | omega | (dsimp only; omega) | (simp only [List.length_map]; omega)) (by first | omega | (dsimp only; omega) | (simp only [List.length_map]; omega)))) ?_
              refine XOps.s rfl rfl rfl (Q.move_d rfl) ?_
              refine XOps.nil ?_
              refine ⟨i + 1, ?_, ?_, ?_, ?_⟩
              · omega
              · omega
              · exact ⟨by first | rfl | exact int_eq (by omega) | exact len_eq (by simp) | exact int_eq (by simp; done), by first | rfl | exact int_eq (by omega) | exact len_eq (by simp) | exact int_eq (by simp; done), by first | rfl | exact int_eq (by omega) | exact len_eq (by simp) | exact int_eq (by simp; done), by first | rfl | exact int_eq (by omega) | exact len_eq (by simp) | exact int_eq (by simp; done), trivial⟩
              · exact HLe.refl _
        · try simp only [Bool.or_eq_true, Bool.or_eq_false_iff, Bool.and_eq_true, Bool.and_eq_false_iff, decide_eq_true_eq, decide_eq_false_iff_not, Bool.not_eq_true', Bool.not_eq_false', Int.not_lt, Int.not_le, List.length_map, slN] at hc41
          refine W.exit ?_
          refine W.reg ?_
          refine XOps.s rfl rfl rfl (Q.assign_d rfl) ?_
          refine XOps.nil ?_
          refine W.ret ?_
          exact ⟨_, hs, rfl, HLe.refl _, rfl⟩

set_option maxHeartbeats 1000000 in
set_option maxRecDepth 100000 in
theorem front1_c (a b : List Int) (hs : Hp) (hl : a.length ≤ 4611686018427387904) : AC P 15 [.d (slN a), .d (slN b)] hs (fun r h => r = .d (.bool (decide (a = b))) ∧ h = hs) := by
  refine AC.of 8 Try.func15 rfl rfl rfl ?_
  refine W.reg ?_
  refine XOps.s rfl rfl rfl (Q.assign_d rfl) ?_
  refine XOps.nil ?_
  refine W.reg ?_
  refine XOps.s rfl rfl rfl (Q.move_d rfl) ?_
  refine XOps.s rfl rfl rfl (Q.move_d rfl) ?_
  refine XOps.s rfl rfl rfl (Q.call rfl Try.func13 go13 rfl (equalN_c a b _ hl)) ?_
  refine XOps.s rfl rfl rfl (Q.assign_d rfl) ?_
  refine XOps.nil ?_
  refine W.ret ?_
  refine ⟨_, hs, rfl, by repeat (first | exact HLe.refl _ | refine HLe.cons' (by first | rfl | (simp [Ev.enc, nE]; done)) ?_ | refine HLe.pick 1 rfl (by first | rfl | (simp [Ev.enc, nE]; done)) ?_ | refine HLe.pick 2 rfl (by first | rfl | (simp [Ev.enc, nE]; done)) ?_ | refine HLe.pick 3 rfl (by first | rfl | (simp [Ev.enc, nE]; done)) ?_ | refine HLe.pick 4 rfl (by first | rfl | (simp [Ev.enc, nE]; done)) ?_ | refine HLe.pick 5 rfl (by first | rfl | (simp [Ev.enc, nE]; done)) ?_ | refine HLe.skip _ ?_), ?_, rfl⟩
  rfl

set_option maxHeartbeats 1000000 in
set_option maxRecDepth 100000 in
theorem equalF_c (a b : List (Nat → Int)) (hs : Hp) (hl : a.length ≤ 4611686018427387904) : AC P 14 [.d (.sl 1 (a.map rowV)), .d (.sl 1 (b.map rowV)), .fn 15 []] hs (fun r h => r = .d (.bool (decide (a.map vl = b.map vl))) ∧ h = hs) := by
  refine AC.of 32 Try.func14 rfl rfl rfl ?_
  refine W.reg ?_
  refine XOps.s rfl rfl rfl (Q.assign_d rfl) ?_
  refine XOps.nil ?_
  refine W.seq ?_
  refine W.reg ?_
  refine XOps.s rfl rfl rfl (Q.move_d rfl) ?_
  refine XOps.s rfl rfl rfl (Q.len_sl isl32 rfl) ?_
  refine XOps.s rfl rfl rfl (Q.move_d rfl) ?_
  refine XOps.s rfl rfl rfl (Q.len_sl isl32 rfl) ?_
  refine XOps.s rfl rfl rfl (Q.neq rfl rfl) ?_
  refine XOps.nil ?_
  refine W.cond rfl (fun hc14 => ?_) (fun hc14 => ?_)
  · try simp only [Bool.or_eq_true, Bool.or_eq_false_iff, Bool.and_eq_true, Bool.and_eq_false_iff, decide_eq_true_eq, decide_eq_false_iff_not, Bool.not_eq_true', Bool.not_eq_false', Int.not_lt, Int.not_le, List.length_map, slN] at hc14
    have hr : decide (a.map vl = b.map vl) = false := decide_eq_false fun h => by have := congrArg List.length h; simp at this; omega
    refine W.reg ?_
    refine XOps.s rfl rfl rfl (Q.assign_d rfl) ?_
    refine XOps.nil ?_
    refine W.ret ?_
    refine ⟨_, hs, rfl, by repeat (first | exact HLe.refl _ | refine HLe.cons' (by first | rfl | (simp [Ev.enc, nE]; done)) ?_ | refine HLe.pick 1 rfl (by first | rfl | (simp [Ev.enc, nE]; done)) ?_ | refine HLe.pick 2 rfl (by first | rfl | (simp [Ev.enc, nE]; done)) ?_ | refine HLe.pick 3 rfl (by first | rfl | (simp [Ev.enc, nE]; done)) ?_ | refine HLe.pick 4 rfl (by first | rfl | (simp [Ev.enc, nE]; done)) ?_ | refine HLe.pick 5 rfl (by first | rfl | (simp [Ev.enc, nE]; done)) ?_ | refine HLe.skip _ ?_), ?_, rfl⟩
    rw [hr]; rfl
  · try simp only [Bool.or_eq_true, Bool.or_eq_false_iff, Bool.and_eq_true, Bool.and_eq_false_iff, decide_eq_true_eq, decide_eq_false_iff_not, Bool.not_eq_true', Bool.not_eq_false', Int.not_lt, Int.not_le, List.length_map, slN] at hc14
    have hlen : a.length = b.length := by omega
    refine W.skip ?_
    refine W.seq ?_
    refine W.reg ?_
    refine XOps.s rfl rfl rfl (Q.move_d rfl) ?_
    refine XOps.s rfl rfl rfl (Q.len_sl isl32 rfl) ?_
    refine XOps.s rfl rfl rfl (Q.move_d rfl) ?_
    refine XOps.nil ?_
    refine W.block ?_
    refine W.loop (ι := Nat) (fun k => [(0, .d (.sl 1 (a.map rowV))), (1, .d (.sl 1 (b.map rowV))), (2, .fn 15 []), (15, .d (.sl 1 (a.map rowV))), (16, .d (.int .i64 a.length)), (17, .d (.int .i64 k))]) (fun k => hs) (fun k => k ≤ a.length ∧ ∀ i, i < k → (a.map vl)[i]? = (b.map vl)[i]?) (fun k => a.length - k) 0 ?_ ?_ ?_ ?_
    · exact ⟨Nat.zero_le _, fun i hi => absurd hi (Nat.not_lt_zero _)⟩
    · exact ⟨by first | rfl | exact int_eq (by omega) | exact len_eq (by simp) | exact int_eq (by simp; done), by first | rfl | exact int_eq (by omega) | exact len_eq (by simp) | exact int_eq (by simp; done), by first | rfl | exact int_eq (by omega) | exact len_eq (by simp) | exact int_eq (by simp; done), by first | rfl | exact int_eq (by omega) | exact len_eq (by simp) | exact int_eq (by simp; done), by first | rfl | exact int_eq (by omega) | exact len_eq (by simp) | exact int_eq (by simp; done), by first | rfl | exact int_eq (by omega) | exact len_eq (by simp) | exact int_eq (by simp; done), trivial⟩
    · repeat (first | exact HLe.refl _ | refine HLe.cons' (by first | rfl | (simp [Ev.enc, nE]; done)) ?_ | refine HLe.pick 1 rfl (by first | rfl | (simp [Ev.enc, nE]; done)) ?_ | refine HLe.pick 2 rfl (by first | rfl | (simp [Ev.enc, nE]; done)) ?_ | refine HLe.pick 3 rfl (by first | rfl | (simp [Ev.enc, nE]; done)) ?_ | refine HLe.pick 4 rfl (by first | rfl | (simp [Ev.enc, nE]; done)) ?_ | refine HLe.pick 5 rfl (by first | rfl | (simp [Ev.enc, nE]; done)) ?_ | refine HLe.skip _ ?_)
    · rintro k ⟨hk, hI⟩
      try dsimp only
      refine W.reg ?_
      refine XOps.s rfl rfl rfl (Q.lss rfl rfl) ?_
      refine XOps.nil ?_
      refine W.seq ?_
      refine W.cond rfl (fun hc18 => ?_) (fun hc18 => ?_)
      · try simp only [Bool.or_eq_true, Bool.or_eq_false_iff, Bool.and_eq_true, Bool.and_eq_false_iff, decide_eq_true_eq, decide_eq_false_iff_not, Bool.not_eq_true', Bool.not_eq_false', Int.not_lt, Int.not_le, List.length_map, slN] at hc18
        obtain ⟨u, hu⟩ : ∃ u, a[k]? = some u := ⟨_, List.getElem?_eq_getElem (by omega)⟩
        obtain ⟨v, hv⟩ : ∃ v, b[k]? = some v := ⟨_, List.getElem?_eq_getElem (by omega)⟩
        refine W.skip ?_
        refine W.seq ?_
        refine W.block ?_
        refine W.reg ?_
        refine XOps.s rfl rfl rfl (Q.move_d rfl) ?_
        refine XOps.s rfl rfl rfl (Q.idx_sl sl32 (by decide) rfl rfl (by first | omega | (simp only [List.length_map]; omega)) (by first | exact map_at (by assumption) | exact map_at0 (by assumption) | assumption)) ?_
        refine XOps.s rfl rfl rfl (Q.ld_dp ag22 rfl rfl) ?_
        refine XOps.s rfl rfl rfl (Q.assign_d rfl) ?_
        refine XOps.s rfl rfl rfl (Q.assign_d rfl) ?_
        refine XOps.nil ?_
        refine W.reg ?_
        refine XOps.s rfl rfl rfl (Q.move_d rfl) ?_
        refine XOps.s rfl rfl rfl (Q.move_d rfl) ?_
        refine XOps.s rfl rfl rfl (Q.idx_sl sl32 (by decide) rfl rfl (by first | omega | (simp only [List.length_map]; omega)) (by first | exact map_at (by assumption) | exact map_at0 (by assumption) | assumption)) ?_
        refine XOps.s rfl rfl rfl (Q.ld_dp ag22 rfl rfl) ?_
        refine XOps.s rfl rfl rfl (Q.assign_d rfl) ?_
        refine XOps.nil ?_
        refine W.reg ?_
        refine XOps.s rfl rfl rfl (Q.move_fn rfl) ?_
        refine XOps.s rfl rfl rfl (Q.move_d rfl) ?_
        refine XOps.s rfl rfl rfl (Q.move_d rfl) ?_
        refine XOps.s rfl rfl rfl (Q.call rfl Try.func15 go15 rfl (front1_c (vl u) (vl v) _ (by rw [vl_len]; decide))) ?_
        refine XOps.s rfl rfl rfl (Q.not rfl) ?_
        refine XOps.nil ?_
        refine W.cond rfl (fun hc30 => ?_) (fun hc30 => ?_)
        · try simp only [Bool.or_eq_true, Bool.or_eq_false_iff, Bool.and_eq_true, Bool.and_eq_false_iff, decide_eq_true_eq, decide_eq_false_iff_not, Bool.not_eq_true', Bool.not_eq_false', Int.not_lt, Int.not_le, List.length_map, slN] at hc30
          have hr : decide (a.map vl = b.map vl) = false := decide_eq_false fun h => by
            have h2 := congrArg (fun l => l[k]?) h
            simp only [List.getElem?_map, hu, hv, Option.map_some, Option.some.injEq] at h2
            simp [h2] at hc30
          refine W.reg ?_
          refine XOps.s rfl rfl rfl (Q.assign_d rfl) ?_
          refine XOps.nil ?_
          refine W.ret ?_
          refine ⟨_, hs, rfl, by repeat (first | exact HLe.refl _ | refine HLe.cons' (by first | rfl | (simp [Ev.enc, nE]; done)) ?_ | refine HLe.pick 1 rfl (by first | rfl | (simp [Ev.enc, nE]; done)) ?_ | refine HLe.pick 2 rfl (by first | rfl | (simp [Ev.enc, nE]; done)) ?_ | refine HLe.pick 3 rfl (by first | rfl | (simp [Ev.enc, nE]; done)) ?_ | refine HLe.pick 4 rfl (by first | rfl | (simp [Ev.enc, nE]; done)) ?_ | refine HLe.pick 5 rfl (by first | rfl | (simp [Ev.enc, nE]; done)) ?_ | refine HLe.skip _ ?_), ?_, rfl⟩
          rw [hr]; rfl
        · try simp only [Bool.or_eq_true, Bool.or_eq_false_iff, Bool.and_eq_true, Bool.and_eq_false_iff, decide_eq_true_eq, decide_eq_false_iff_not, Bool.not_eq_true', Bool.not_eq_false', Int.not_lt, Int.not_le, List.length_map, slN] at hc30
          have huv : vl u = vl v := by simpa using hc30
          refine W.skip ?_
          refine W.region ?_
          refine XOps.s rfl rfl rfl (Q.add rfl rfl (wi64 (by first | omega | (dsimp only; omega) | (simp only [List.length_map]; omega)) (by first | omega | (dsimp only; omega) | (simp only [List.length_map]; omega)))) ?_
          refine XOps.s rfl rfl rfl (Q.move_d rfl) ?_
          refine XOps.nil ?_
          refine ⟨k + 1, ?_, ?_, ?_, ?_⟩
          · refine ⟨by omega, fun i hi => ?_⟩
            by_cases h : i = k
            · subst h; rw [List.getElem?_map, List.getElem?_map, hu, hv, Option.map_some, Option.map_some, huv]
            · exact hI i (by omega)
          · omega
          · exact ⟨by first | rfl | exact int_eq (by omega) | exact len_eq (by simp) | exact int_eq (by simp; done), by first | rfl | exact int_eq (by omega) | exact len_eq (by simp) | exact int_eq (by simp; done), by first | rfl | exact int_eq (by omega) | exact len_eq (by simp) | exact int_eq (by simp; done), by first | rfl | exact int_eq (by omega) | exact len_eq (by simp) | exact int_eq (by simp; done), by first | rfl | exact int_eq (by omega) | exact len_eq (by simp) | exact int_eq (by simp; done), by first | rfl | exact int_eq (by omega) | exact len_eq (by simp) | exact int_eq (by simp; done), trivial⟩
          · repeat (first | exact HLe.refl _ | refine HLe.cons' (by first | rfl | (simp [Ev.enc, nE]; done)) ?_ | refine HLe.pick 1 rfl (by first | rfl | (simp [Ev.enc, nE]; done)) ?_ | refine HLe.pick 2 rfl (by first | rfl | (simp [Ev.enc, nE]; done)) ?_ | refine HLe.pick 3 rfl (by first | rfl | (simp [Ev.enc, nE]; done)) ?_ | refine HLe.pick 4 rfl (by first | rfl | (simp [Ev.enc, nE]; done)) ?_ | refine HLe.pick 5 rfl (by first | rfl | (simp [Ev.enc, nE]; done)) ?_ | refine HLe.skip _ ?_)
      · try simp only [Bool.or_eq_true, Bool.or_eq_false_iff, Bool.and_eq_true, Bool.and_eq_false_iff, decide_eq_true_eq, decide_eq_false_iff_not, Bool.not_eq_true', Bool.not_eq_false', Int.not_lt, Int.not_le, List.length_map, slN] at hc18
        have hr : decide (a.map vl = b.map vl) = true := decide_eq_true (List.ext_getElem? fun i => by
          rcases Nat.lt_or_ge i k with h | h
          · exact hI i h
          · rw [List.getElem?_eq_none (by simp; omega), List.getElem?_eq_none (by simp; omega)])
        refine W.exit ?_
        refine W.reg ?_
        refine XOps.s rfl rfl rfl (Q.assign_d rfl) ?_
        refine XOps.nil ?_
        refine W.ret ?_
        refine ⟨_, hs, rfl, by repeat (first | exact HLe.refl _ | refine HLe.cons' (by first | rfl | (simp [Ev.enc, nE]; done)) ?_ | refine HLe.pick 1 rfl (by first | rfl | (simp [Ev.enc, nE]; done)) ?_ | refine HLe.pick 2 rfl (by first | rfl | (simp [Ev.enc, nE]; done)) ?_ | refine HLe.pick 3 rfl (by first | rfl | (simp [Ev.enc, nE]; done)) ?_ | refine HLe.pick 4 rfl (by first | rfl | (simp [Ev.enc, nE]; done)) ?_ | refine HLe.pick 5 rfl (by first | rfl | (simp [Ev.enc, nE]; done)) ?_ | refine HLe.skip _ ?_), ?_, rfl⟩
        rw [hr]; rfl

set_option maxHeartbeats 1000000 in
set_option maxRecDepth 100000 in
theorem front_c (l : List Ev) (n : Int) (hs : Hp) (hL : l.length ≤ 140737488351232) : AC P 5 [.d (.sl 3 (l.map Ev.enc)), .d (.int .i64 n)] hs (fun r _ => r = .d (.bool true)) := by
  refine AC.of 95 Try.func5 rfl rfl rfl ?_
  refine W.reg ?_
  refine XOps.s rfl rfl rfl (Q.assign_d rfl) ?_
  refine XOps.nil ?_
  refine W.reg ?_
  refine XOps.s rfl rfl rfl (Q.move_d rfl) ?_
  refine XOps.s rfl rfl rfl (Q.move_d rfl) ?_
  refine XOps.s rfl rfl rfl (Q.len_sl isl23 rfl) ?_
  refine XOps.s rfl rfl rfl (Q.mini rfl rfl) ?_
  refine XOps.s rfl rfl rfl (Q.cut_slm sl23 rfl rfl rfl (by omega) (by omega) (by simp; omega)) ?_
  refine XOps.s rfl rfl rfl (Q.assign_d rfl) ?_
  refine XOps.nil ?_
  have hcl : ((l.take (min (((l.map Ev.enc).length : Nat) : Int) 25).toNat).drop (0 : Int).toNat).length ≤ 25 := by simp; omega
  generalize ((l.take (min (((l.map Ev.enc).length : Nat) : Int) 25).toNat).drop (0 : Int).toNat) = c at hcl ⊢
  refine W.reg ?_
  refine XOps.s rfl rfl rfl (Q.move_d rfl) ?_
  refine XOps.s rfl rfl rfl (Q.call rfl Try.func12 go12 rfl (lamport_c c _ (by omega))) ?_
  refine XOps.s rfl rfl rfl (Q.move_tup rfl) ?_
  refine XOps.s rfl rfl rfl (Q.extract rfl rfl) ?_
  refine XOps.s rfl rfl rfl (Q.extract rfl rfl) ?_
  refine XOps.s rfl rfl rfl (Q.assign_d rfl) ?_
  refine XOps.s rfl rfl rfl (Q.assign_d rfl) ?_
  refine XOps.nil ?_
  refine W.seq ?_
  refine W.reg ?_
  refine XOps.s rfl rfl rfl (Q.move_d rfl) ?_
  refine XOps.s rfl rfl rfl (Q.neq rfl rfl) ?_
  refine XOps.nil ?_
  refine W.cond rfl (fun hc24 => ?_) (fun hc24 => ?_)
  · try simp only [Bool.or_eq_true, Bool.or_eq_false_iff, Bool.and_eq_true, Bool.and_eq_false_iff, decide_eq_true_eq, decide_eq_false_iff_not, Bool.not_eq_true', Bool.not_eq_false', Int.not_lt, Int.not_le, List.length_map, slN] at hc24
    have hE : lamE c = [] := by unfold lamE; rw [if_neg (by omega)]
    refine W.reg ?_
    refine XOps.s rfl rfl rfl (Q.call rfl Try.func9 go9 rfl (fact_c _)) ?_
    refine XOps.s rfl rfl rfl (Q.move_d rfl) ?_
    refine XOps.gs rfl rfl rfl rfl rfl rfl rfl (fun hg => Q.move_d rfl) ?_
    refine XOps.gs rfl rfl rfl rfl rfl rfl rfl (fun hg => Quiet.open 27 hg rfl (Q.len_sl isl22 rfl)) ?_
    refine XOps.gs rfl rfl rfl rfl rfl rfl rfl (fun hg => Quiet.open 28 hg rfl (Q.eql rfl rfl)) ?_
    refine XOps.s rfl rfl rfl (Q.pick_and rfl rfl rfl (fun h => by first | (rw [h]; rfl) | (rw [hg, h]; rfl) | (simp [h, hg]; done))) ?_
    refine XOps.s rfl rfl rfl (Q.assign_d rfl) ?_
    refine XOps.nil ?_
    refine W.ret ?_
    (refine ⟨_, hs, rfl, HLe.refl _, bt ?_⟩; simp [hE]; done)
  · try simp only [Bool.or_eq_true, Bool.or_eq_false_iff, Bool.and_eq_true, Bool.and_eq_false_iff, decide_eq_true_eq, decide_eq_false_iff_not, Bool.not_eq_true', Bool.not_eq_false', Int.not_lt, Int.not_le, List.length_map, slN] at hc24
    have hc0 : checkS c = 0 := by omega
    rw [hc0]
    refine W.skip ?_
    refine W.reg ?_
    refine XOps.s rfl rfl rfl (Q.move_d rfl) ?_
    refine XOps.s rfl rfl rfl (Q.move_d rfl) ?_
    refine XOps.s rfl rfl rfl (Q.len_sl isl23 rfl) ?_
    refine XOps.s rfl rfl rfl (Q.call rfl Try.func8 go8 rfl (cut_c n 0 _ _ (by decide) (by simp) (by simp; omega))) ?_
    refine XOps.s rfl rfl rfl (Q.assign_d rfl) ?_
    refine XOps.nil ?_
    obtain ⟨m, hm, hm2⟩ : ∃ a : Nat, cutI n 0 (((c.map Ev.enc).length : Nat) : Int) = a ∧ a ≤ c.length := by
      have := cutI_bounds n (show (0 : Int) ≤ (((c.map Ev.enc).length : Nat) : Int) by omega)
      exact ⟨(cutI n 0 (((c.map Ev.enc).length : Nat) : Int)).toNat, by omega, by simp at this ⊢; omega⟩
    rw [hm]
    have hc1 := checkS_take hc0 m hm2
    have hla : lamE (c.take m) = (lamE c).take m := by unfold lamE; rw [if_pos hc0, if_pos hc1, lamS_take c m hm2]
    have hve : vecE (c.take m) = (vecE c).take m := by unfold vecE; rw [if_pos hc0, if_pos hc1, vecS_take c m hm2]
    have hvl := vecE_len c hc0
    have hll := lamE_len c hc0
    refine W.reg ?_
    refine XOps.s rfl rfl rfl (Q.move_d rfl) ?_
    refine XOps.s rfl rfl rfl (Q.move_d rfl) ?_
    refine XOps.s rfl rfl rfl (Q.cut_slm sl23 rfl rfl rfl (by first | omega | (simp only [List.length_map]; omega)) (by first | omega | (simp only [List.length_map]; omega)) (by first | omega | (simp only [List.length_map]; omega))) ?_
    refine XOps.s rfl rfl rfl (Q.call rfl Try.func12 go12 rfl (lamport_c (c.take m) _ (by simp; omega))) ?_
    refine XOps.s rfl rfl rfl (Q.move_tup rfl) ?_
    refine XOps.s rfl rfl rfl (Q.extract rfl rfl) ?_
    refine XOps.s rfl rfl rfl (Q.extract rfl rfl) ?_
    refine XOps.s rfl rfl rfl (Q.assign_d rfl) ?_
    refine XOps.s rfl rfl rfl (Q.assign_d rfl) ?_
    refine XOps.nil ?_
    refine W.reg ?_
    refine XOps.s rfl rfl rfl (Q.move_d rfl) ?_
    refine XOps.s rfl rfl rfl (Q.call rfl Try.func11 go11 rfl (vecs_c c _ (by omega))) ?_
    refine XOps.s rfl rfl rfl (Q.move_tup rfl) ?_
    refine XOps.s rfl rfl rfl (Q.extract rfl rfl) ?_
    refine XOps.s rfl rfl rfl (Q.extract rfl rfl) ?_
    refine XOps.s rfl rfl rfl (Q.assign_d rfl) ?_
    refine XOps.s rfl rfl rfl (Q.assign_d rfl) ?_
    refine XOps.nil ?_
    refine W.reg ?_
    refine XOps.s rfl rfl rfl (Q.move_d rfl) ?_
    refine XOps.s rfl rfl rfl (Q.move_d rfl) ?_
    refine XOps.s rfl rfl rfl (Q.cut_slm sl23 rfl rfl rfl (by first | omega | (simp only [List.length_map]; omega)) (by first | omega | (simp only [List.length_map]; omega)) (by first | omega | (simp only [List.length_map]; omega))) ?_
    refine XOps.s rfl rfl rfl (Q.call rfl Try.func11 go11 rfl (vecs_c (c.take m) _ (by simp; omega))) ?_
    refine XOps.s rfl rfl rfl (Q.move_tup rfl) ?_
    refine XOps.s rfl rfl rfl (Q.extract rfl rfl) ?_
    refine XOps.s rfl rfl rfl (Q.extract rfl rfl) ?_
    refine XOps.s rfl rfl rfl (Q.assign_d rfl) ?_
    refine XOps.s rfl rfl rfl (Q.assign_d rfl) ?_
    refine XOps.nil ?_
    refine W.reg ?_
    refine XOps.s rfl rfl rfl (Q.call rfl Try.func9 go9 rfl (fact_c _)) ?_
    refine XOps.s rfl rfl rfl (Q.move_d rfl) ?_
    refine XOps.gs rfl rfl rfl rfl rfl rfl rfl (fun hg => Q.move_d rfl) ?_
    refine XOps.gs rfl rfl rfl rfl rfl rfl rfl (fun hg => Quiet.open 56 hg rfl (Q.eql rfl rfl)) ?_
    refine XOps.s rfl rfl rfl (Q.pick_and rfl rfl rfl (fun h => by first | (rw [h]; rfl) | (rw [hg, h]; rfl) | (simp [h, hg]; done))) ?_
    refine XOps.s rfl rfl rfl (Q.move_d rfl) ?_
    refine XOps.gs rfl rfl rfl rfl rfl rfl rfl (fun hg => Q.move_d rfl) ?_
    refine XOps.gs rfl rfl rfl rfl rfl rfl rfl (fun hg => Quiet.open 60 hg rfl (Q.eql rfl rfl)) ?_
    refine XOps.s rfl rfl rfl (Q.pick_and rfl rfl rfl (fun h => by first | (rw [h]; rfl) | (rw [hg, h]; rfl) | (simp [h, hg]; done))) ?_
    refine XOps.s rfl rfl rfl (Q.move_d rfl) ?_
    refine XOps.gs rfl rfl rfl rfl rfl rfl rfl (fun hg => Q.move_d rfl) ?_
    refine XOps.gs rfl rfl rfl rfl rfl rfl rfl (fun hg => Quiet.open 64 hg rfl (Q.eql rfl rfl)) ?_
    refine XOps.s rfl rfl rfl (Q.pick_and rfl rfl rfl (fun h => by first | (rw [h]; rfl) | (rw [hg, h]; rfl) | (simp [h, hg]; done))) ?_
    refine XOps.s rfl rfl rfl (Q.move_d rfl) ?_
    refine XOps.gs rfl rfl rfl rfl rfl rfl rfl (fun hg => Q.move_d rfl) ?_
    refine XOps.gs rfl rfl rfl rfl rfl rfl rfl (fun hg => Quiet.open 68 hg rfl (Q.len_sl isl22 rfl)) ?_
    refine XOps.gs rfl rfl rfl rfl rfl rfl rfl (fun hg => Q.move_d rfl) ?_
    refine XOps.gs rfl rfl rfl rfl rfl rfl rfl (fun hg => Quiet.open 70 hg rfl (Q.len_sl isl23 rfl)) ?_
    refine XOps.gs rfl rfl rfl rfl rfl rfl rfl (fun hg => Quiet.open 69 hg rfl (Quiet.open 71 hg rfl (Q.eql rfl rfl))) ?_
    refine XOps.s rfl rfl rfl (Q.pick_and rfl rfl rfl (fun h => by first | (rw [h]; rfl) | (rw [hg, h]; rfl) | (simp [h, hg]; done))) ?_
    refine XOps.s rfl rfl rfl (Q.move_d rfl) ?_
    refine XOps.gs rfl rfl rfl rfl rfl rfl rfl (fun hg => Q.move_d rfl) ?_
    refine XOps.gs rfl rfl rfl rfl rfl rfl rfl (fun hg => Q.move_d rfl) ?_
    refine XOps.gs rfl rfl rfl rfl rfl rfl rfl (fun hg => Quiet.open 75 hg rfl (Quiet.open 76 hg rfl (Q.cut_slm sl22 rfl rfl rfl (by first | omega | (simp only [List.length_map]; omega)) (by first | omega | (simp only [List.length_map]; omega)) (by first | omega | (simp only [List.length_map]; omega))))) ?_
    refine XOps.gs rfl rfl rfl rfl rfl rfl rfl (fun hg => Q.move_d rfl) ?_
    refine XOps.gs rfl rfl rfl rfl rfl rfl rfl (fun hg => Quiet.open 77 hg rfl (Quiet.open 78 hg rfl (Q.call rfl Try.func13 go13 rfl (equalN_c ((lamE c).take m) (lamE (c.take m)) _ (by simp; omega))))) ?_
    refine XOps.s rfl rfl rfl (Q.pick_and rfl rfl rfl (fun h => by first | (rw [h]; rfl) | (rw [hg, h]; rfl) | (simp [h, hg]; done))) ?_
    refine XOps.s rfl rfl rfl (Q.move_d rfl) ?_
    refine XOps.gs rfl rfl rfl rfl rfl rfl rfl (fun hg => Q.move_d rfl) ?_
    refine XOps.gs rfl rfl rfl rfl rfl rfl rfl (fun hg => Quiet.open 82 hg rfl (Q.len_sl isl32 rfl)) ?_
    refine XOps.gs rfl rfl rfl rfl rfl rfl rfl (fun hg => Q.move_d rfl) ?_
    refine XOps.gs rfl rfl rfl rfl rfl rfl rfl (fun hg => Quiet.open 84 hg rfl (Q.len_sl isl23 rfl)) ?_
    refine XOps.gs rfl rfl rfl rfl rfl rfl rfl (fun hg => Quiet.open 83 hg rfl (Quiet.open 85 hg rfl (Q.eql rfl rfl))) ?_
    refine XOps.s rfl rfl rfl (Q.pick_and rfl rfl rfl (fun h => by first | (rw [h]; rfl) | (rw [hg, h]; rfl) | (simp [h, hg]; done))) ?_
    refine XOps.s rfl rfl rfl (Q.move_d rfl) ?_
    refine XOps.gs rfl rfl rfl rfl rfl rfl rfl (fun hg => Q.move_d rfl) ?_
    refine XOps.gs rfl rfl rfl rfl rfl rfl rfl (fun hg => Q.move_d rfl) ?_
    refine XOps.gs rfl rfl rfl rfl rfl rfl rfl (fun hg => Quiet.open 89 hg rfl (Quiet.open 90 hg rfl (Q.cut_slm sl32 rfl rfl rfl (by first | omega | (simp only [List.length_map]; omega)) (by first | omega | (simp only [List.length_map]; omega)) (by first | omega | (simp only [List.length_map]; omega))))) ?_
    refine XOps.gs rfl rfl rfl rfl rfl rfl rfl (fun hg => Q.move_d rfl) ?_
    refine XOps.gs rfl rfl rfl rfl rfl rfl rfl (fun hg => Quiet.open 91 hg rfl (Quiet.open 92 hg rfl (Q.call rfl Try.func14 go14 rfl (equalF_c ((vecE c).take m) (vecE (c.take m)) _ (by simp; omega))))) ?_
    refine XOps.s rfl rfl rfl (Q.pick_and rfl rfl rfl (fun h => by first | (rw [h]; rfl) | (rw [hg, h]; rfl) | (simp [h, hg]; done))) ?_
    refine XOps.s rfl rfl rfl (Q.assign_d rfl) ?_
    refine XOps.nil ?_
    refine W.ret ?_
    (refine ⟨_, hs, rfl, HLe.refl _, bt ?_⟩; simp [hla, hve, hvl, hll, hc1, hc0]; done)

def mx2 (w u : Nat → Int) (j : Nat) : Nat → Int := fun s => if s < j ∨ 8 ≤ s then max (w s) (u s) else 0
theorem mx2_end (w u : Nat → Int) : mx2 w u 8 = fun s => max (w s) (u s) := by funext s; unfold mx2; rw [if_pos (by omega)]
theorem vl_set (f : Nat → Int) {i : Nat} (h : i < 8) (x : Int) : ((vl f).map nE).set i (nE x) = (vl (updF f i x)).map nE := by
  rw [← List.map_set]
  congr 1
  refine List.ext_getElem? fun q => ?_
  rw [List.getElem?_set]
  by_cases hq : q < 8
  · rw [vl_at (updF f i x) hq]
    by_cases he : i = q
    · subst he; rw [if_pos rfl, if_pos (by rw [vl_len]; exact h), updF_same]
    · rw [if_neg he, vl_at _ hq, updF_ne _ _ (Ne.symm he)]
  · rw [List.getElem?_eq_none (show (vl (updF f i x)).length ≤ q by rw [vl_len]; omega), if_neg (by omega), List.getElem?_eq_none (by rw [vl_len]; omega)]
theorem mx2_step (w u : Nat → Int) {j : Nat} (h : j < 8) : vl (updF (mx2 w u j) j (max (w j) (u j))) = vl (mx2 w u (j + 1)) := vl_ext fun s hs => by
  by_cases he : s = j
  · subst he; rw [updF_same]; unfold mx2; rw [if_pos (by omega)]
  · rw [updF_ne _ _ he]; unfold mx2
    by_cases h2 : s < j
    · rw [if_pos (by omega), if_pos (by omega)]
    · rw [if_neg (by omega), if_neg (by omega)]

set_option maxHeartbeats 1000000 in
set_option maxRecDepth 100000 in
theorem joins_c (l : List Ev) (i k : Int) (hs : Hp) (hL : l.length ≤ 140737488351232) : AC P 6 [.d (.sl 3 (l.map Ev.enc)), .d (.int .i64 i), .d (.int .i64 k)] hs (fun r _ => r = .d (.bool true)) := by
  refine AC.of 109 Try.func6 rfl rfl rfl ?_
  refine W.reg ?_
  refine XOps.s rfl rfl rfl (Q.assign_d rfl) ?_
  refine XOps.nil ?_
  refine W.reg ?_
  refine XOps.s rfl rfl rfl (Q.move_d rfl) ?_
  refine XOps.s rfl rfl rfl (Q.move_d rfl) ?_
  refine XOps.s rfl rfl rfl (Q.len_sl isl23 rfl) ?_
  refine XOps.s rfl rfl rfl (Q.mini rfl rfl) ?_
  refine XOps.s rfl rfl rfl (Q.cut_slm sl23 rfl rfl rfl (by omega) (by omega) (by simp; omega)) ?_
  refine XOps.s rfl rfl rfl (Q.assign_d rfl) ?_
  refine XOps.nil ?_
  have hcl : ((l.take (min (((l.map Ev.enc).length : Nat) : Int) 25).toNat).drop (0 : Int).toNat).length ≤ 25 := by simp; omega
  generalize ((l.take (min (((l.map Ev.enc).length : Nat) : Int) 25).toNat).drop (0 : Int).toNat) = c at hcl ⊢
  refine W.reg ?_
  refine XOps.s rfl rfl rfl (Q.move_d rfl) ?_
  refine XOps.s rfl rfl rfl (Q.call rfl Try.func11 go11 rfl (vecs_c c _ (by omega))) ?_
  refine XOps.s rfl rfl rfl (Q.move_tup rfl) ?_
  refine XOps.s rfl rfl rfl (Q.extract rfl rfl) ?_
  refine XOps.s rfl rfl rfl (Q.extract rfl rfl) ?_
  refine XOps.s rfl rfl rfl (Q.assign_d rfl) ?_
  refine XOps.s rfl rfl rfl (Q.assign_d rfl) ?_
  refine XOps.nil ?_
  refine W.seq ?_
  refine W.reg ?_
  refine XOps.s rfl rfl rfl (Q.move_d rfl) ?_
  refine XOps.s rfl rfl rfl (Q.neq rfl rfl) ?_
  refine XOps.s rfl rfl rfl (Q.move_d rfl) ?_
  refine XOps.gs rfl rfl rfl rfl rfl rfl rfl (fun hg => Q.move_d rfl) ?_
  refine XOps.gs rfl rfl rfl rfl rfl rfl rfl (fun hg => Quiet.open 30 hg rfl (Q.len_sl isl23 rfl)) ?_
  refine XOps.gs rfl rfl rfl rfl rfl rfl rfl (fun hg => Quiet.open 31 hg rfl (Q.eql rfl rfl)) ?_
  refine XOps.s rfl rfl rfl (Q.pick_or rfl rfl rfl (fun h => by first | (rw [h]; rfl) | (rw [hg, h]; rfl) | (simp [h, hg]; done))) ?_
  refine XOps.nil ?_
  refine W.cond rfl (fun hc33 => ?_) (fun hc33 => ?_)
  · try simp only [Bool.or_eq_true, Bool.or_eq_false_iff, Bool.and_eq_true, Bool.and_eq_false_iff, decide_eq_true_eq, decide_eq_false_iff_not, Bool.not_eq_true', Bool.not_eq_false', Int.not_lt, Int.not_le, List.length_map, slN] at hc33
    refine W.reg ?_
    refine XOps.s rfl rfl rfl (Q.call rfl Try.func9 go9 rfl (fact_c _)) ?_
    refine XOps.s rfl rfl rfl (Q.assign_d rfl) ?_
    refine XOps.nil ?_
    refine W.ret ?_
    exact ⟨_, hs, rfl, HLe.refl _, rfl⟩
  · try simp only [Bool.or_eq_true, Bool.or_eq_false_iff, Bool.and_eq_true, Bool.and_eq_false_iff, decide_eq_true_eq, decide_eq_false_iff_not, Bool.not_eq_true', Bool.not_eq_false', Int.not_lt, Int.not_le, List.length_map, slN] at hc33
    have hc0 : checkS c = 0 := by omega
    have hw := WF.of hc0
    have hvl := vecE_len c hc0
    have hvS : vecE c = vecS c := by unfold vecE; rw [if_pos hc0]
    have hcp : 0 < c.length := by omega
    refine W.skip ?_
    refine W.seq ?_
    refine W.reg ?_
    refine XOps.s rfl rfl rfl (Q.call rfl Try.func9 go9 rfl (fact_c _)) ?_
    refine XOps.s rfl rfl rfl (Q.not rfl) ?_
    refine XOps.s rfl rfl rfl (Q.move_d rfl) ?_
    refine XOps.gs rfl rfl rfl rfl rfl rfl rfl (fun hg => Q.move_d rfl) ?_
    refine XOps.gs rfl rfl rfl rfl rfl rfl rfl (fun hg => Quiet.open 38 hg rfl (Q.len_sl isl32 rfl)) ?_
    refine XOps.gs rfl rfl rfl rfl rfl rfl rfl (fun hg => Q.move_d rfl) ?_
    refine XOps.gs rfl rfl rfl rfl rfl rfl rfl (fun hg => Quiet.open 40 hg rfl (Q.len_sl isl23 rfl)) ?_
    refine XOps.gs rfl rfl rfl rfl rfl rfl rfl (fun hg => Quiet.open 39 hg rfl (Quiet.open 41 hg rfl (Q.neq rfl rfl))) ?_
    refine XOps.s rfl rfl rfl (Q.pick_or rfl rfl rfl (fun h => by first | (rw [h]; rfl) | (rw [hg, h]; rfl) | (simp [h, hg]; done))) ?_
    refine XOps.nil ?_
    refine W.cond rfl (fun hc43 => ?_) (fun hc43 => ?_)
    · try simp only [Bool.or_eq_true, Bool.or_eq_false_iff, Bool.and_eq_true, Bool.and_eq_false_iff, decide_eq_true_eq, decide_eq_false_iff_not, Bool.not_eq_true', Bool.not_eq_false', Int.not_lt, Int.not_le, List.length_map, slN] at hc43
      exact absurd hc43 (by simp [hvl])
    · try simp only [Bool.or_eq_true, Bool.or_eq_false_iff, Bool.and_eq_true, Bool.and_eq_false_iff, decide_eq_true_eq, decide_eq_false_iff_not, Bool.not_eq_true', Bool.not_eq_false', Int.not_lt, Int.not_le, List.length_map, slN] at hc43
      refine W.skip ?_
      have hbi := cutI_bounds i (show (0 : Int) ≤ (((c.map Ev.enc).length : Nat) : Int) - 1 by simp; omega)
      have hbk := cutI_bounds k (show (0 : Int) ≤ (((c.map Ev.enc).length : Nat) : Int) - 1 by simp; omega)
      obtain ⟨a, ha⟩ : ∃ a : Nat, (cutI i 0 ((((c.map Ev.enc).length : Nat) : Int) - 1)) = a := ⟨(cutI i 0 ((((c.map Ev.enc).length : Nat) : Int) - 1)).toNat, by omega⟩
      obtain ⟨b, hb⟩ : ∃ a : Nat, (cutI k 0 ((((c.map Ev.enc).length : Nat) : Int) - 1)) = a := ⟨(cutI k 0 ((((c.map Ev.enc).length : Nat) : Int) - 1)).toNat, by omega⟩
      rw [List.length_map] at hbi hbk
      obtain ⟨w, hwi⟩ : ∃ w, (vecS c)[a]? = some w := ⟨_, List.getElem?_eq_getElem (by rw [vecS_len]; rw [List.length_map] at ha; omega)⟩
      obtain ⟨u, huk⟩ : ∃ w, (vecS c)[b]? = some w := ⟨_, List.getElem?_eq_getElem (by rw [vecS_len]; rw [List.length_map] at hb; omega)⟩
      have hi0 : 0 ≤ (cutI i 0 ((((c.map Ev.enc).length : Nat) : Int) - 1)) := by omega
      have hk0 : 0 ≤ (cutI k 0 ((((c.map Ev.enc).length : Nat) : Int) - 1)) := by omega
      have hri : ((vecE c).map rowV)[(cutI i 0 ((((c.map Ev.enc).length : Nat) : Int) - 1)).toNat]? = some (rowV w) := by rw [ha, hvS]; exact map_at hwi
      have hrk : ((vecE c).map rowV)[(cutI k 0 ((((c.map Ev.enc).length : Nat) : Int) - 1)).toNat]? = some (rowV u) := by rw [hb, hvS]; exact map_at huk
      refine W.drawreg 17 follows (by kernel_rfl) ?_
      refine Chain.cons _ (GQ.q rfl (Q.move_d rfl)) rfl ?_
      refine Chain.cons _ (GQ.q rfl (Q.move_d rfl)) rfl ?_
      refine Chain.cons _ (GQ.q rfl (Q.move_d rfl)) rfl ?_
      refine Chain.cons _ (GQ.q rfl (Q.len_sl isl23 rfl)) rfl ?_
      refine Chain.cons _ (GQ.q rfl (Q.sub rfl rfl (wi64 (by first | omega | (dsimp only; omega) | (simp only [List.length_map]; omega)) (by first | omega | (dsimp only; omega) | (simp only [List.length_map]; omega))))) rfl ?_
      refine Chain.cons _ (GQ.q rfl (Q.call rfl Try.func8 go8 rfl (cut_c i 0 _ _ (by decide) (by simp; omega) (by simp; omega)))) rfl ?_
      refine Chain.cons _ (GQ.q rfl (Q.idx_sl sl32 (by decide) rfl rfl hi0 hri)) rfl ?_
      refine Chain.cons _ (GQ.q rfl (Q.ld_dp ag22 rfl rfl)) rfl ?_
      refine Chain.cons _ (GQ.q rfl (Q.move_d rfl)) rfl ?_
      refine Chain.cons _ (GQ.q rfl (Q.move_d rfl)) rfl ?_
      refine Chain.cons _ (GQ.q rfl (Q.move_d rfl)) rfl ?_
      refine Chain.cons _ (GQ.q rfl (Q.len_sl isl23 rfl)) rfl ?_
      refine Chain.cons _ (GQ.q rfl (Q.sub rfl rfl (wi64 (by first | omega | (dsimp only; omega) | (simp only [List.length_map]; omega)) (by first | omega | (dsimp only; omega) | (simp only [List.length_map]; omega))))) rfl ?_
      refine Chain.cons _ (GQ.q rfl (Q.call rfl Try.func8 go8 rfl (cut_c k 0 _ _ (by decide) (by simp; omega) (by simp; omega)))) rfl ?_
      refine Chain.cons _ (GQ.q rfl (Q.idx_sl sl32 (by decide) rfl rfl hk0 hrk)) rfl ?_
      refine Chain.cons _ (GQ.q rfl (Q.ld_dp ag22 rfl rfl)) rfl ?_
      refine Chain.cons _ (GQ.q rfl (Q.assign_d rfl)) rfl ?_
      refine Chain.nil ?_
      refine XOps.s rfl rfl rfl (Q.assign_d rfl) ?_
      refine XOps.nil ?_
      refine W.seq ?_
      refine W.reg ?_
      refine XOps.s rfl rfl rfl (Q.move_d rfl) ?_
      refine XOps.s rfl rfl rfl (Q.len_sl isl22 rfl) ?_
      refine XOps.s rfl rfl rfl (Q.neq rfl rfl) ?_
      refine XOps.s rfl rfl rfl (Q.move_d rfl) ?_
      refine XOps.gs rfl rfl rfl rfl rfl rfl rfl (fun hg => Q.move_d rfl) ?_
      refine XOps.gs rfl rfl rfl rfl rfl rfl rfl (fun hg => Quiet.open 64 hg rfl (Q.len_sl isl22 rfl)) ?_
      refine XOps.gs rfl rfl rfl rfl rfl rfl rfl (fun hg => Quiet.open 65 hg rfl (Q.neq rfl rfl)) ?_
      refine XOps.s rfl rfl rfl (Q.pick_or rfl rfl rfl (fun h => by first | (rw [h]; rfl) | (rw [hg, h]; rfl) | (simp [h, hg]; done))) ?_
      refine XOps.nil ?_
      refine W.cond rfl (fun hc67 => ?_) (fun hc67 => ?_)
      · try simp only [Bool.or_eq_true, Bool.or_eq_false_iff, Bool.and_eq_true, Bool.and_eq_false_iff, decide_eq_true_eq, decide_eq_false_iff_not, Bool.not_eq_true', Bool.not_eq_false', Int.not_lt, Int.not_le, List.length_map, slN] at hc67
        exact absurd hc67 (by simp [vl_len])
      · try simp only [Bool.or_eq_true, Bool.or_eq_false_iff, Bool.and_eq_true, Bool.and_eq_false_iff, decide_eq_true_eq, decide_eq_false_iff_not, Bool.not_eq_true', Bool.not_eq_false', Int.not_lt, Int.not_le, List.length_map, slN] at hc67
        refine W.skip ?_
        refine W.reg ?_
        (refine XOps.loud rfl (L.make (n := 8) ap22 zr22 zrd22 rfl rfl (by decide) rfl) ?_; rintro _ _ ⟨v68, rfl, rfl⟩)
        refine XOps.s rfl rfl rfl (Q.assign_vs rfl) ?_
        refine XOps.nil ?_
        refine W.seq ?_
        refine W.reg ?_
        refine XOps.s rfl rfl rfl (Q.move_d rfl) ?_
        refine XOps.nil ?_
        refine W.block ?_
        refine W.loop (ι := Nat) (fun s => [(0, .d (.sl 3 (c.map Ev.enc))), (9, .d (slN (vl w))), (10, .d (slN (vl u))), (11, .vs v68 0 8 1), (69, .d (.int .i64 (s : Nat)))]) (fun s => (v68, .lst 1 ((vl (mx2 w u s)).map nE)) :: hs) (fun s => s ≤ 8) (fun s => 8 - s) 0 ?_ ?_ ?_ ?_
        · exact Nat.zero_le _
        · exact ⟨by first | rfl | exact int_eq (by omega) | exact len_eq (by simp) | exact int_eq (by simp; done), by first | rfl | exact int_eq (by omega) | exact len_eq (by simp) | exact int_eq (by simp; done), by first | rfl | exact int_eq (by omega) | exact len_eq (by simp) | exact int_eq (by simp; done), by first | rfl | exact int_eq (by omega) | exact len_eq (by simp) | exact int_eq (by simp; done), by first | rfl | exact int_eq (by omega) | exact len_eq (by simp) | exact int_eq (by simp; done), trivial⟩
        · exact HLe.cons' (congrArg (HO.lst 1) (by rw [show vl (mx2 w u 0) = vl (fun _ => 0) from vl_ext fun s hs => by unfold mx2; rw [if_neg (by omega)]]; rfl)) (HLe.refl _)
        · rintro s hs8
          try dsimp only
          refine W.reg ?_
          refine XOps.s rfl rfl rfl (Q.lss rfl rfl) ?_
          refine XOps.nil ?_
          refine W.seq ?_
          refine W.cond rfl (fun hc70 => ?_) (fun hc70 => ?_)
          · try simp only [Bool.or_eq_true, Bool.or_eq_false_iff, Bool.and_eq_true, Bool.and_eq_false_iff, decide_eq_true_eq, decide_eq_false_iff_not, Bool.not_eq_true', Bool.not_eq_false', Int.not_lt, Int.not_le, List.length_map, slN] at hc70
            have hws := vl_at w (j := s) (by omega)
            have hus := vl_at u (j := s) (by omega)
            have hrow : ((vl (mx2 w u s)).map nE)[0 + ((s : Nat) : Int).toNat]? = some (nE (mx2 w u s s)) := map_at0 (vl_at _ (by omega))
            refine W.skip ?_
            refine W.seq ?_
            refine W.block ?_
            refine W.reg ?_
            refine XOps.s rfl rfl rfl (Q.move_d rfl) ?_
            refine XOps.s rfl rfl rfl (Q.assign_d rfl) ?_
            refine XOps.nil ?_
            refine W.draw 11 follows (by kernel_rfl) ?_
            refine Chain.cons _ (GQ.q rfl (Q.move_vs rfl)) rfl ?_
            refine Chain.cons _ (GQ.q rfl (Q.move_d rfl)) rfl ?_
            refine Chain.cons _ (GQ.q rfl (Q.move_d rfl)) rfl ?_
            refine Chain.cons _ (GQ.q rfl (Q.move_d rfl)) rfl ?_
            refine Chain.cons _ (GQ.q rfl (Q.idx_sl sl22 (by decide) rfl rfl (by first | omega | (simp only [List.length_map]; omega)) (by first | exact hrow | exact map_at (by assumption) | assumption))) rfl ?_
            refine Chain.cons _ (GQ.q rfl (Q.ld_dp ag3 rfl rfl)) rfl ?_
            refine Chain.cons _ (GQ.q rfl (Q.move_d rfl)) rfl ?_
            refine Chain.cons _ (GQ.q rfl (Q.move_d rfl)) rfl ?_
            refine Chain.cons _ (GQ.q rfl (Q.idx_sl sl22 (by decide) rfl rfl (by first | omega | (simp only [List.length_map]; omega)) (by first | exact hrow | exact map_at (by assumption) | assumption))) rfl ?_
            refine Chain.cons _ (GQ.q rfl (Q.ld_dp ag3 rfl rfl)) rfl ?_
            refine Chain.cons _ (GQ.q rfl (Q.maxi rfl rfl)) rfl ?_
            refine Chain.nil ?_
            refine XOps.s rfl rfl rfl (Q.idx_vs (kk := 0) sl22 rfl rfl rfl (by omega) (by first | omega | (dsimp only; omega))) ?_
            refine XOps.loud rfl (L.store_ep (k := 0) ag3 rfl rfl (by first | exact hrow | exact map_at (by assumption) | assumption) rfl rfl rfl) ?_
            rintro _ _ ⟨rfl, rfl⟩
            refine XOps.nil ?_
            refine W.region ?_
            refine XOps.s rfl rfl rfl (Q.add rfl rfl (wi64 (by first | omega | (dsimp only; omega) | (simp only [List.length_map]; omega)) (by first | omega | (dsimp only; omega) | (simp only [List.length_map]; omega)))) ?_
            refine XOps.s rfl rfl rfl (Q.move_d rfl) ?_
            refine XOps.nil ?_
            refine ⟨s + 1, ?_, ?_, ?_, ?_⟩
            · omega
            · omega
            · exact ⟨by first | rfl | exact int_eq (by omega) | exact len_eq (by simp) | exact int_eq (by simp; done), by first | rfl | exact int_eq (by omega) | exact len_eq (by simp) | exact int_eq (by simp; done), by first | rfl | exact int_eq (by omega) | exact len_eq (by simp) | exact int_eq (by simp; done), by first | rfl | exact int_eq (by omega) | exact len_eq (by simp) | exact int_eq (by simp; done), by first | rfl | exact int_eq (by omega) | exact len_eq (by simp) | exact int_eq (by simp; done), trivial⟩
            · exact HLe.cons' (congrArg (HO.lst 1) (by rw [← mx2_step w u (by omega), ← vl_set _ (by omega)]; simp [nE])) (HLe.refl _)
          · try simp only [Bool.or_eq_true, Bool.or_eq_false_iff, Bool.and_eq_true, Bool.and_eq_false_iff, decide_eq_true_eq, decide_eq_false_iff_not, Bool.not_eq_true', Bool.not_eq_false', Int.not_lt, Int.not_le, List.length_map, slN] at hc70
            obtain rfl : s = 8 := by omega
            refine W.exit ?_
            refine W.freeze 11 0 rfl rfl (by simp [vl_len]) ?_
            refine W.reg ?_
            refine XOps.s rfl rfl rfl (Q.move_d rfl) ?_
            refine XOps.s rfl rfl rfl (Q.move_d rfl) ?_
            refine XOps.s rfl rfl rfl (Q.call rfl Try.func16 go16 rfl (cons_c c w _ hc0)) ?_
            refine XOps.s rfl rfl rfl (Q.move_tup rfl) ?_
            refine XOps.s rfl rfl rfl (Q.extract rfl rfl) ?_
            refine XOps.s rfl rfl rfl (Q.extract rfl rfl) ?_
            refine XOps.s rfl rfl rfl (Q.assign_d rfl) ?_
            refine XOps.s rfl rfl rfl (Q.assign_d rfl) ?_
            refine XOps.nil ?_
            refine W.reg ?_
            refine XOps.s rfl rfl rfl (Q.move_d rfl) ?_
            refine XOps.s rfl rfl rfl (Q.move_d rfl) ?_
            refine XOps.s rfl rfl rfl (Q.call rfl Try.func16 go16 rfl (cons_c c (mx2 w u 8) _ hc0)) ?_
            refine XOps.s rfl rfl rfl (Q.move_tup rfl) ?_
            refine XOps.s rfl rfl rfl (Q.extract rfl rfl) ?_
            refine XOps.s rfl rfl rfl (Q.extract rfl rfl) ?_
            refine XOps.s rfl rfl rfl (Q.assign_d rfl) ?_
            refine XOps.s rfl rfl rfl (Q.assign_d rfl) ?_
            refine XOps.nil ?_
            rw [mx2_end, cons_vec hw hwi, cons_max hw hwi huk]
            refine W.reg ?_
            refine XOps.s rfl rfl rfl (Q.move_d rfl) ?_
            refine XOps.s rfl rfl rfl (Q.eql rfl rfl) ?_
            refine XOps.s rfl rfl rfl (Q.move_d rfl) ?_
            refine XOps.gs rfl rfl rfl rfl rfl rfl rfl (fun hg => Q.move_d rfl) ?_
            refine XOps.gs rfl rfl rfl rfl rfl rfl rfl (fun hg => Quiet.open 100 hg rfl (Q.eql rfl rfl)) ?_
            refine XOps.s rfl rfl rfl (Q.pick_and rfl rfl rfl (fun h => by first | (rw [h]; rfl) | (rw [hg, h]; rfl) | (simp [h, hg]; done))) ?_
            refine XOps.s rfl rfl rfl (Q.move_d rfl) ?_
            refine XOps.gs rfl rfl rfl rfl rfl rfl rfl (fun hg => Q.move_d rfl) ?_
            refine XOps.s rfl rfl rfl (Q.pick_and rfl rfl rfl (fun h => by first | (rw [h]; rfl) | (rw [hg, h]; rfl) | (simp [h, hg]; done))) ?_
            refine XOps.s rfl rfl rfl (Q.move_d rfl) ?_
            refine XOps.gs rfl rfl rfl rfl rfl rfl rfl (fun hg => Q.move_d rfl) ?_
            refine XOps.s rfl rfl rfl (Q.pick_and rfl rfl rfl (fun h => by first | (rw [h]; rfl) | (rw [hg, h]; rfl) | (simp [h, hg]; done))) ?_
            refine XOps.s rfl rfl rfl (Q.assign_d rfl) ?_
            refine XOps.nil ?_
            refine W.ret ?_
            exact ⟨_, hs, rfl, HLe.refl _, rfl⟩
end Go.Proofs.YtjmadiegikbjpaaA
