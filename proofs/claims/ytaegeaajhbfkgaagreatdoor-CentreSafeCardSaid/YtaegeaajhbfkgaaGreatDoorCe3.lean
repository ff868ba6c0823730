/- The law of separation. -/
import Derived.Test.YtaegeaajhbfkgaaGreatDoorFrB
import Derived.Test.YtaegeaajhbfkgaaGreatDoorCeX
import Derived.Test.YtaegeaajhbfkgaaGreatDoorCen11
set_option linter.unusedVariables false
set_option linter.unusedSimpArgs false
set_option linter.unnecessarySimpa false
namespace Go.Proofs.YtaegeaajhbfkgaaGreatDoorA.FCe3
open Go
theorem ag23 : tAgg P 23 = some ((true, 2)) := by kernel_rfl
theorem ag27 : tAgg P 27 = some ((true, 18)) := by kernel_rfl
theorem ag3 : tAgg P 3 = some ((false, 1)) := by kernel_rfl
theorem ag33 : tAgg P 33 = some ((false, 1)) := by kernel_rfl
theorem ag39 : tAgg P 39 = some ((false, 1)) := by kernel_rfl
theorem ag41 : tAgg P 41 = some ((true, 8)) := by kernel_rfl
theorem ag47 : tAgg P 47 = some ((true, 6)) := by kernel_rfl
theorem ap32 : tApp P 32 = some ((6, 48)) := by kernel_rfl
theorem fl27_0 : tFld P 27 0 = some (0) := by kernel_rfl
theorem fl41_4 : tFld P 41 4 = some (4) := by kernel_rfl
theorem fl41_5 : tFld P 41 5 = some (5) := by kernel_rfl
theorem fl45_0 : tFld P 45 0 = some (0) := by kernel_rfl
theorem fl47_0 : tFld P 47 0 = some (0) := by kernel_rfl
theorem go11 : callGo Go.Proofs.Tryz.f11 = true := by kernel_rfl
theorem go12 : callGo Go.Proofs.Tryz.f12 = true := by kernel_rfl
theorem go14 : callGo Go.Proofs.Tryz.f14 = true := by kernel_rfl
theorem go22 : callGo Go.Proofs.Tryz.f22 = true := by kernel_rfl
theorem go23 : callGo Go.Proofs.Tryz.f23 = true := by kernel_rfl
theorem go24 : callGo Go.Proofs.Tryz.f24 = true := by kernel_rfl
theorem go25 : callGo Go.Proofs.Tryz.f25 = true := by kernel_rfl
theorem go41 : callGo Go.Proofs.Tryz.f41 = true := by kernel_rfl
theorem go46 : callGo Go.Proofs.Tryz.f46 = true := by kernel_rfl
theorem isl32 : isSl P 32 = true := by kernel_rfl
theorem isl33 : isSl P 33 = true := by kernel_rfl
theorem isl37 : isSl P 37 = true := by kernel_rfl
theorem isl39 : isSl P 39 = true := by kernel_rfl
theorem sl32 : tSl P 32 = some (6) := by kernel_rfl
theorem sl33 : tSl P 33 = some (6) := by kernel_rfl
theorem sl37 : tSl P 37 = some (8) := by kernel_rfl
theorem sl39 : tSl P 39 = some (1) := by kernel_rfl
theorem tz41 : tZero P 41 = some ([.string ⟨#[]⟩, .int .i64 0, .int .i64 0, .bool false, .slice none 0 0, .slice none 0 0, .int .i64 0, .int .i64 0]) := by kernel_rfl
theorem tz47 : tZero P 47 = some ([.int .i64 0, .int .i64 0, .int .i64 0, .int .i64 0, .int .i64 0, .int .i64 0]) := by kernel_rfl
end Go.Proofs.YtaegeaajhbfkgaaGreatDoorA.FCe3
namespace Go.Proofs.YtaegeaajhbfkgaaGreatDoorA
open Go FCe3
attribute [local irreducible] XOps Quiet Loud W AC GQ DT
set_option maxHeartbeats 8000000 in
set_option maxRecDepth 100000 in
theorem places_c (f : Fl) (t : Int) (hs : Hp) (okf : FlOk f) (sts : ∀ k, k + 1 < f.legs.length → hdT (f.legs.getD k []) < hdT (f.legs.getD (k + 1) [])) : AC P 24 [.d (.agg (Fl.enc f)), .d (.int .i64 (t))] hs (fun r h => r = .tup [.d (.sl 6 ((nodesF f.legs f.next t).map Nd.enc)), .d (.int .i64 (0))] ∧ h = hs) := by
  have hlm : (f.legs.map tuR).length = f.legs.length := List.length_map _
  have hll : f.legs.length ≠ 0 := fun h => okf.ne (List.eq_nil_of_length_eq_zero h)
  have hlz := okf.len
  have hnl : f.next.length ≤ 64 := okf.next.elim (fun h => by rw [h]; exact Nat.zero_le _) (fun h => h.len)
  have hnm : (f.next.map Nd.enc).length = f.next.length := List.length_map _
  refine AC.of 67 Tryz.func24 rfl rfl rfl ?_
  refine W.reg ?_
  refine XOps.loud rfl (L.boxn rfl rfl) ?_
  rintro _ _ ⟨b2, rfl, rfl⟩
  refine XOps.s rfl rfl rfl (Q.assign_nilsl rfl) ?_
  refine XOps.s rfl rfl rfl (Q.assign_d rfl) ?_
  refine XOps.nil ?_
  refine W.seq ?_
  refine W.reg ?_
  refine XOps.s rfl rfl rfl (Q.fld_ptr fl41_4 rfl) ?_
  refine XOps.s rfl rfl rfl (Q.ld_ptr (k := 0) ag39 rfl rfl rfl) ?_
  refine XOps.s rfl rfl rfl (Q.len_sl isl39 rfl) ?_
  refine XOps.s rfl rfl rfl (Q.eql rfl rfl) ?_
  refine XOps.s rfl rfl rfl (Q.move_d rfl) ?_
  refine XOps.gs rfl rfl rfl rfl rfl rfl rfl (fun hg => Q.fld_ptr fl41_4 rfl) ?_
  refine XOps.gs rfl rfl rfl rfl rfl rfl rfl (fun hg => Quiet.open 15 hg rfl (Q.ld_ptr (k := 0) ag39 rfl rfl rfl)) ?_
  refine XOps.gs rfl rfl rfl rfl rfl rfl rfl (fun hg => Quiet.open 16 hg rfl (Q.len_sl isl39 rfl)) ?_
  refine XOps.gs rfl rfl rfl rfl rfl rfl rfl (fun hg => Quiet.open 17 hg rfl (Q.gtr rfl rfl)) ?_
  refine XOps.s rfl rfl rfl (Q.pick_or rfl rfl rfl (fun h => by first | (rw [h]; rfl) | (rw [hg, h]; rfl) | (simp [h, hg]; done))) ?_
  refine XOps.nil ?_
  refine W.cond rfl (fun hc19 => ?_) (fun hc19 => ?_)
  · try simp only [Bool.or_eq_true, Bool.or_eq_false_iff, Bool.and_eq_true, Bool.and_eq_false_iff, decide_eq_true_eq, decide_eq_false_iff_not, Bool.not_eq_true', Bool.not_eq_false', Int.not_lt, Int.not_le, List.length_map] at hc19
    exfalso
    omega --done
  · try simp only [Bool.or_eq_true, Bool.or_eq_false_iff, Bool.and_eq_true, Bool.and_eq_false_iff, decide_eq_true_eq, decide_eq_false_iff_not, Bool.not_eq_true', Bool.not_eq_false', Int.not_lt, Int.not_le, List.length_map] at hc19
    refine W.skip ?_
    refine W.seq ?_
    refine W.reg ?_
    refine XOps.s rfl rfl rfl (Q.fld_ptr fl41_4 rfl) ?_
    refine XOps.s rfl rfl rfl (Q.ld_ptr (k := 0) ag39 rfl rfl rfl) ?_
    refine XOps.s rfl rfl rfl (Q.len_sl isl39 rfl) ?_
    refine XOps.s rfl rfl rfl (Q.move_d rfl) ?_
    refine XOps.nil ?_
    refine W.block ?_
    refine W.loop (ι := Nat) (fun k => [(1, .d (.int .i64 (t))), (2, .ptr b2 0), (21, .d (lgD f.legs)), (22, .d (.int .i64 f.legs.length)), (23, .d (.int .i64 (k : Nat)))]) (fun k => (b2, .cells (f.enc.map .d)) :: hs) (fun k => k ≤ f.legs.length) (fun k => f.legs.length - k) 0 ?_ ?_ ?_ ?_
    · exact Nat.zero_le _
    · exact ⟨by first | rfl | exact int_eq (by omega) | exact len_eq (by simp) | exact int_eq (by simp; done), by first | rfl | exact int_eq (by omega) | exact len_eq (by simp) | exact int_eq (by simp; done), by first | rfl | exact int_eq (by omega) | exact len_eq (by simp) | exact int_eq (by simp; done), by exact int_eq (by simp [lgD]), by first | rfl | exact int_eq (by omega) | exact len_eq (by simp) | exact int_eq (by simp; done), trivial⟩
    · exact HLe.refl _
    · rintro k hk
      refine W.reg ?_
      refine XOps.s rfl rfl rfl (Q.lss rfl rfl) ?_
      refine XOps.nil ?_
      refine W.seq ?_
      refine W.cond rfl (fun hc24 => ?_) (fun hc24 => ?_)
      · try simp only [Bool.or_eq_true, Bool.or_eq_false_iff, Bool.and_eq_true, Bool.and_eq_false_iff, decide_eq_true_eq, decide_eq_false_iff_not, Bool.not_eq_true', Bool.not_eq_false', Int.not_lt, Int.not_le, List.length_map] at hc24
        have h24 : (k : Int) < ((f.legs.length : Nat) : Int) := by first | exact hc24 | omega
        have g1 := legs_getD (show k < f.legs.length by omega)
        have hk1 := okf.legs _ (List.mem_of_getElem? g1)
        have hr1 : (f.legs.map tuR)[((k : Nat) : Int).toNat]? = some (tuR (f.legs.getD k [])) := by rw [Int.toNat_natCast, List.getElem?_map, g1]; rfl
        have hr0 : 0 < k → (f.legs.map tuR)[(((k : Nat) : Int) - 1).toNat]? = some (tuR (f.legs.getD (k - 1) [])) := fun h => by rw [show (((k : Nat) : Int) - 1).toNat = k - 1 by omega, List.getElem?_map, legs_getD (show k - 1 < f.legs.length by omega)]; rfl
        have ph := hd_row hk1.ne
        have ph0 : 0 < k → ((f.legs.getD (k - 1) []).map Nd.enc)[(0 : Int).toNat]? = some ((f.legs.getD (k - 1) []).headD Nd.zero).enc := fun h => hd_row (okf.legs _ (List.mem_of_getElem? (legs_getD (show k - 1 < f.legs.length by omega)))).ne
        refine W.skip ?_
        refine W.seq ?_
        refine W.block ?_
        refine W.reg ?_
        refine XOps.s rfl rfl rfl (Q.move_d rfl) ?_
        refine XOps.s rfl rfl rfl (Q.idx_sl sl39 (by decide) rfl rfl (by first | omega | (simp only [List.length_map]; omega)) (by first | exact hr1 | exact ph)) ?_
        refine XOps.s rfl rfl rfl (Q.ld_dp ag33 rfl rfl) ?_
        refine XOps.s rfl rfl rfl (Q.assign_d rfl) ?_
        refine XOps.s rfl rfl rfl (Q.assign_d rfl) ?_
        refine XOps.nil ?_
        refine W.seq ?_
        refine W.reg ?_
        refine XOps.s rfl rfl rfl (Q.move_d rfl) ?_
        refine XOps.s rfl rfl rfl (Q.call rfl Tryz.func41 go41 rfl (tube_c (f.legs.getD k []) _ (by have := hk1.len; omega))) ?_
        refine XOps.s rfl rfl rfl (Q.assign_d rfl) ?_
        refine XOps.nil ?_
        refine W.reg ?_
        refine XOps.s rfl rfl rfl (Q.move_d rfl) ?_
        refine XOps.s rfl rfl rfl (Q.neq rfl rfl) ?_
        refine XOps.nil ?_
        refine W.cond rfl (fun hc31 => ?_) (fun hc31 => ?_)
        · try simp only [Bool.or_eq_true, Bool.or_eq_false_iff, Bool.and_eq_true, Bool.and_eq_false_iff, decide_eq_true_eq, decide_eq_false_iff_not, Bool.not_eq_true', Bool.not_eq_false', Int.not_lt, Int.not_le, List.length_map] at hc31
          exact absurd hc31 (by rw [tubeC_zero.2 hk1]; simp)
        · try simp only [Bool.or_eq_true, Bool.or_eq_false_iff, Bool.and_eq_true, Bool.and_eq_false_iff, decide_eq_true_eq, decide_eq_false_iff_not, Bool.not_eq_true', Bool.not_eq_false', Int.not_lt, Int.not_le, List.length_map] at hc31
          refine W.skip ?_
          refine W.drawreg 20 follows (by kernel_rfl) ?_
          refine Chain.cons _ (GQ.q rfl (Q.move_d rfl)) rfl ?_
          refine Chain.cons _ (GQ.q rfl (Q.gtr rfl rfl)) rfl ?_
          refine Chain.cons _ (GQ.q rfl (Q.move_d rfl)) rfl ?_
          refine Chain.cons _ (GQ.g rfl rfl rfl rfl rfl (fun hg => Q.move_d rfl)) rfl ?_
          refine Chain.cons _ (GQ.g rfl rfl rfl rfl rfl (fun hg => Quiet.open 36 hg rfl (Q.idx_sl sl33 (by decide) rfl rfl (by first | omega | (simp only [List.length_map]; omega)) (by first | exact hr1 | exact ph)))) rfl ?_
          refine Chain.cons _ (GQ.g rfl rfl rfl rfl rfl (fun hg => Quiet.open 37 hg rfl (Q.fld_dp fl47_0 rfl))) rfl ?_
          refine Chain.cons _ (GQ.g rfl rfl rfl rfl rfl (fun hg => Quiet.open 38 hg rfl (Q.fld_dp fl45_0 rfl))) rfl ?_
          refine Chain.cons _ (GQ.g rfl rfl rfl rfl rfl (fun hg => Quiet.open 39 hg rfl (Q.ld_dp ag3 rfl rfl))) rfl ?_
          refine Chain.cons _ (GQ.g rfl rfl rfl rfl rfl (fun hg => Q.fld_ptr fl41_4 rfl)) rfl ?_
          refine Chain.cons _ (GQ.g rfl rfl rfl rfl rfl (fun hg => Quiet.open 41 hg rfl (Q.ld_ptr (k := 0) ag39 rfl rfl rfl))) rfl ?_
          refine Chain.cons _ (GQ.g rfl rfl rfl rfl rfl (fun hg => Q.move_d rfl)) rfl ?_
          refine Chain.cons _ (GQ.g rfl rfl rfl rfl rfl (fun hg => Quiet.open 43 hg rfl (Q.sub rfl rfl (wi64 (by first | omega | (dsimp only; omega) | (simp only [List.length_map]; omega)) (by first | omega | (dsimp only; omega) | (simp only [List.length_map]; omega)))))) rfl ?_
          refine Chain.cons _ (GQ.g rfl rfl rfl rfl rfl (fun hg => Quiet.open 42 hg rfl (Quiet.open 44 hg rfl (Q.idx_sl sl39 (by decide) rfl rfl (by simp at hg; omega) (hr0 (by simp at hg; omega)))))) rfl ?_
          refine Chain.cons _ (GQ.g rfl rfl rfl rfl rfl (fun hg => Quiet.open 45 hg rfl (Q.ld_dp ag33 rfl rfl))) rfl ?_
          refine Chain.cons _ (GQ.g rfl rfl rfl rfl rfl (fun hg => Quiet.open 46 hg rfl (Q.idx_sl sl33 (by decide) rfl rfl (by omega) (ph0 (by simp at hg; omega))))) rfl ?_
          refine Chain.cons _ (GQ.g rfl rfl rfl rfl rfl (fun hg => Quiet.open 47 hg rfl (Q.fld_dp fl47_0 rfl))) rfl ?_
          refine Chain.cons _ (GQ.g rfl rfl rfl rfl rfl (fun hg => Quiet.open 48 hg rfl (Q.fld_dp fl45_0 rfl))) rfl ?_
          refine Chain.cons _ (GQ.g rfl rfl rfl rfl rfl (fun hg => Quiet.open 49 hg rfl (Q.ld_dp ag3 rfl rfl))) rfl ?_
          refine Chain.cons _ (GQ.g rfl rfl rfl rfl rfl (fun hg => Quiet.open 40 hg rfl (Quiet.open 50 hg rfl (Q.leq rfl rfl)))) rfl ?_
          refine Chain.cons _ (GQ.q rfl (Q.pick_and rfl rfl rfl (fun h => by first | (rw [h]; rfl) | (rw [hg, h]; rfl) | (simp [h, hg]; done)))) rfl ?_
          refine Chain.nil ?_
          refine XOps.nil ?_
          refine W.cond rfl (fun hc52 => ?_) (fun hc52 => ?_)
          · try simp only [Bool.or_eq_true, Bool.or_eq_false_iff, Bool.and_eq_true, Bool.and_eq_false_iff, decide_eq_true_eq, decide_eq_false_iff_not, Bool.not_eq_true', Bool.not_eq_false', Int.not_lt, Int.not_le, List.length_map] at hc52
            exfalso
            obtain ⟨q1, q2⟩ := hc52
            have q3 := sts (k - 1) (by omega)
            rw [show k - 1 + 1 = k by omega] at q3
            have q4 : hdT (f.legs.getD k []) ≤ hdT (f.legs.getD (k - 1) []) := q2
            omega --done
          · try simp only [Bool.or_eq_true, Bool.or_eq_false_iff, Bool.and_eq_true, Bool.and_eq_false_iff, decide_eq_true_eq, decide_eq_false_iff_not, Bool.not_eq_true', Bool.not_eq_false', Int.not_lt, Int.not_le, List.length_map] at hc52
            refine W.skip ?_
            refine W.region ?_
            refine XOps.s rfl rfl rfl (Q.add rfl rfl (wi64 (by first | omega | (dsimp only; omega) | (simp only [List.length_map]; omega)) (by first | omega | (dsimp only; omega) | (simp only [List.length_map]; omega)))) ?_
            refine XOps.s rfl rfl rfl (Q.move_d rfl) ?_
            refine XOps.nil ?_
            refine ⟨k + 1, ?_, ?_, ?_, ?_⟩
            · omega
            · omega
            · exact ⟨by first | rfl | exact int_eq (by omega) | exact len_eq (by simp) | exact int_eq (by simp; done), by first | rfl | exact int_eq (by omega) | exact len_eq (by simp) | exact int_eq (by simp; done), by first | rfl | exact int_eq (by omega) | exact len_eq (by simp) | exact int_eq (by simp; done), by first | rfl | exact int_eq (by omega) | exact len_eq (by simp) | exact int_eq (by simp; done), by first | rfl | exact int_eq (by omega) | exact len_eq (by simp) | exact int_eq (by simp; done), trivial⟩
            · exact HLe.refl _
      · try simp only [Bool.or_eq_true, Bool.or_eq_false_iff, Bool.and_eq_true, Bool.and_eq_false_iff, decide_eq_true_eq, decide_eq_false_iff_not, Bool.not_eq_true', Bool.not_eq_false', Int.not_lt, Int.not_le, List.length_map] at hc24
        refine W.exit ?_
        refine W.seq ?_
        refine W.reg ?_
        refine XOps.s rfl rfl rfl (Q.fld_ptr fl41_5 rfl) ?_
        refine XOps.s rfl rfl rfl (Q.ld_ptr (k := 0) ag33 rfl rfl rfl) ?_
        refine XOps.s rfl rfl rfl (Q.len_sl isl33 rfl) ?_
        refine XOps.s rfl rfl rfl (Q.gtr rfl rfl) ?_
        refine XOps.nil ?_
        refine W.cond rfl (fun hc57 => ?_) (fun hc57 => ?_)
        · try simp only [Bool.or_eq_true, Bool.or_eq_false_iff, Bool.and_eq_true, Bool.and_eq_false_iff, decide_eq_true_eq, decide_eq_false_iff_not, Bool.not_eq_true', Bool.not_eq_false', Int.not_lt, Int.not_le, List.length_map] at hc57
          have hnx : TuOk f.next := okf.next.resolve_left fun h => by rw [h] at hc57; simp at hc57
          refine W.reg ?_
          refine XOps.s rfl rfl rfl (Q.fld_ptr fl41_5 rfl) ?_
          refine XOps.s rfl rfl rfl (Q.ld_ptr (k := 0) ag33 rfl rfl rfl) ?_
          refine XOps.s rfl rfl rfl (Q.call rfl Tryz.func41 go41 rfl (tube_c f.next _ (by omega))) ?_
          refine XOps.s rfl rfl rfl (Q.assign_d rfl) ?_
          refine XOps.nil ?_
          refine W.reg ?_
          refine XOps.s rfl rfl rfl (Q.move_d rfl) ?_
          refine XOps.s rfl rfl rfl (Q.neq rfl rfl) ?_
          refine XOps.nil ?_
          refine W.cond rfl (fun hc62 => ?_) (fun hc62 => ?_)
          · try simp only [Bool.or_eq_true, Bool.or_eq_false_iff, Bool.and_eq_true, Bool.and_eq_false_iff, decide_eq_true_eq, decide_eq_false_iff_not, Bool.not_eq_true', Bool.not_eq_false', Int.not_lt, Int.not_le, List.length_map] at hc62
            exact absurd hc62 (by rw [tubeC_zero.2 hnx]; simp)
          · try simp only [Bool.or_eq_true, Bool.or_eq_false_iff, Bool.and_eq_true, Bool.and_eq_false_iff, decide_eq_true_eq, decide_eq_false_iff_not, Bool.not_eq_true', Bool.not_eq_false', Int.not_lt, Int.not_le, List.length_map] at hc62
            refine W.skip ?_
            refine W.reg ?_
            refine XOps.s rfl rfl rfl (Q.ld_ptrn (k := 0) ag41 rfl rfl rfl) ?_
            refine XOps.s rfl rfl rfl (Q.move_d rfl) ?_
            refine XOps.s rfl rfl rfl (Q.call rfl Tryz.func46 go46 rfl (nodes_c f t _ okf.legs (by omega) (by omega))) ?_
            refine XOps.s rfl rfl rfl (Q.assign_d rfl) ?_
            refine XOps.s rfl rfl rfl (Q.assign_d rfl) ?_
            refine XOps.nil ?_
            refine W.ret ?_
            exact ⟨_, hs, rfl, HLe.skip _ (HLe.refl _), rfl, rfl⟩
        · try simp only [Bool.or_eq_true, Bool.or_eq_false_iff, Bool.and_eq_true, Bool.and_eq_false_iff, decide_eq_true_eq, decide_eq_false_iff_not, Bool.not_eq_true', Bool.not_eq_false', Int.not_lt, Int.not_le, List.length_map] at hc57
          refine W.skip ?_
          refine W.reg ?_
          refine XOps.s rfl rfl rfl (Q.ld_ptrn (k := 0) ag41 rfl rfl rfl) ?_
          refine XOps.s rfl rfl rfl (Q.move_d rfl) ?_
          refine XOps.s rfl rfl rfl (Q.call rfl Tryz.func46 go46 rfl (nodes_c f t _ okf.legs (by omega) (by omega))) ?_
          refine XOps.s rfl rfl rfl (Q.assign_d rfl) ?_
          refine XOps.s rfl rfl rfl (Q.assign_d rfl) ?_
          refine XOps.nil ?_
          refine W.ret ?_
          exact ⟨_, hs, rfl, HLe.skip _ (HLe.refl _), rfl, rfl⟩
set_option maxHeartbeats 8000000 in
set_option maxRecDepth 100000 in
theorem safef_c (su : Su) (s : Stt) (x : CI) (e : Int) (b lb f gk gd i2 : Nat) (hs : Hp) (o : StOk su s) (sa : s.fl.Pairwise (saR su)) (hsc : sepC su.lat su.ver = 0) : AC P 22 ([.ptr b 0, .d (.agg x.enc), .d (.int .i64 e)] ++ [.ptr i2 0]) (ceH su s b lb f gk gd ((i2, .cells (su.enc.map .d)) :: hs)) (fun r h => r = .d (.bool (true)) ∧ h = ceH su s b lb f gk gd ((i2, .cells (su.enc.map .d)) :: hs)) := by
  have hfl := o.fw.len
  have hml : (s.fl.map Fl.enc).length = s.fl.length := List.length_map _
  have htm := o.tm
  refine AC.of 85 Tryz.func22 rfl rfl rfl ?_
  refine W.reg ?_
  refine XOps.loud rfl (L.boxn rfl rfl) ?_
  rintro _ _ ⟨b5, rfl, rfl⟩
  refine XOps.s rfl rfl rfl (Q.assign_d rfl) ?_
  refine XOps.nil ?_
  refine W.reg ?_
  refine XOps.s rfl rfl rfl (Q.move_ptr rfl) ?_
  refine XOps.s rfl rfl rfl (Q.call rfl Tryz.func14 go14 rfl (flights_c su s.tm s.fl s.ow lb b 1 _ rfl o.fw.all (by have := o.fw.len; omega))) ?_
  refine XOps.s rfl rfl rfl (Q.assign_d rfl) ?_
  refine XOps.nil ?_
  refine W.seq ?_
  refine W.reg ?_
  refine XOps.s rfl rfl rfl (Q.move_d rfl) ?_
  refine XOps.s rfl rfl rfl (Q.neq rfl rfl) ?_
  refine XOps.s rfl rfl rfl (Q.move_d rfl) ?_
  refine XOps.gs rfl rfl rfl rfl rfl rfl rfl (fun hg => Q.move_d rfl) ?_
  refine XOps.gs rfl rfl rfl rfl rfl rfl rfl (fun hg => Quiet.open 26 hg rfl (Q.len_sl isl37 rfl)) ?_
  refine XOps.gs rfl rfl rfl rfl rfl rfl rfl (fun hg => Quiet.open 27 hg rfl (Q.lss rfl rfl)) ?_
  refine XOps.s rfl rfl rfl (Q.pick_or rfl rfl rfl (fun h => by first | (rw [h]; rfl) | (rw [hg, h]; rfl) | (simp [h, hg]; done))) ?_
  refine XOps.nil ?_
  refine W.cond rfl (fun hc29 => ?_) (fun hc29 => ?_)
  · try simp only [Bool.or_eq_true, Bool.or_eq_false_iff, Bool.and_eq_true, Bool.and_eq_false_iff, decide_eq_true_eq, decide_eq_false_iff_not, Bool.not_eq_true', Bool.not_eq_false', Int.not_lt, Int.not_le, List.length_map] at hc29
    refine W.reg ?_
    refine XOps.s rfl rfl rfl (Q.assign_d rfl) ?_
    refine XOps.nil ?_
    refine W.ret ?_
    exact ⟨_, ceH su s b lb f gk gd ((i2, .cells (su.enc.map .d)) :: hs), rfl, HLe.skip _ (HLe.refl _), rfl, rfl⟩
  · try simp only [Bool.or_eq_true, Bool.or_eq_false_iff, Bool.and_eq_true, Bool.and_eq_false_iff, decide_eq_true_eq, decide_eq_false_iff_not, Bool.not_eq_true', Bool.not_eq_false', Int.not_lt, Int.not_le, List.length_map] at hc29
    refine W.skip ?_
    refine W.seq ?_
    refine W.reg ?_
    refine XOps.s rfl rfl rfl (Q.move_ptr rfl) ?_
    refine XOps.s rfl rfl rfl (Q.call rfl Tryz.func23 go23 rfl (time_c su s.tm s.fl s.ow lb b 1 _ rfl)) ?_
    refine XOps.s rfl rfl rfl (Q.assign_d rfl) ?_
    refine XOps.nil ?_
    refine W.block ?_
    refine W.loop (ι := Int) (fun t => [(0, .ptr b 0), (3, .ptr i2 0), (8, .d (.sl 8 (s.fl.map Fl.enc))), (9, .d (.int .i64 (t)))]) (fun t => ceH su s b lb f gk gd ((i2, .cells (su.enc.map .d)) :: hs)) (fun t => s.tm ≤ t ∧ t ≤ s.tm + 306) (fun t => (s.tm + 306 - t).toNat) s.tm ?_ ?_ ?_ ?_
    · exact ⟨Int.le_refl _, by omega⟩
    · exact ⟨by first | rfl | exact int_eq (by omega) | exact len_eq (by simp) | exact int_eq (by simp; done), by first | rfl | exact int_eq (by omega) | exact len_eq (by simp) | exact int_eq (by simp; done), by first | rfl | exact int_eq (by omega) | exact len_eq (by simp) | exact int_eq (by simp; done), by first | rfl | exact int_eq (by omega) | exact len_eq (by simp) | exact int_eq (by simp; done), trivial⟩
    · exact HLe.skip _ (HLe.refl _)
    · rintro t ⟨ht0, ht1⟩
      refine W.seq ?_
      refine W.reg ?_
      refine XOps.s rfl rfl rfl (Q.move_d rfl) ?_
      refine XOps.s rfl rfl rfl (Q.move_ptr rfl) ?_
      refine XOps.s rfl rfl rfl (Q.call rfl Tryz.func23 go23 rfl (time_c su s.tm s.fl s.ow lb b 0 _ rfl)) ?_
      refine XOps.s rfl rfl rfl (Q.add rfl rfl (wi64 (by first | omega | (dsimp only; omega) | (simp only [List.length_map]; omega)) (by first | omega | (dsimp only; omega) | (simp only [List.length_map]; omega)))) ?_
      refine XOps.s rfl rfl rfl (Q.lss rfl rfl) ?_
      refine XOps.nil ?_
      refine W.cond rfl (fun hc36 => ?_) (fun hc36 => ?_)
      · try simp only [Bool.or_eq_true, Bool.or_eq_false_iff, Bool.and_eq_true, Bool.and_eq_false_iff, decide_eq_true_eq, decide_eq_false_iff_not, Bool.not_eq_true', Bool.not_eq_false', Int.not_lt, Int.not_le, List.length_map] at hc36
        refine W.skip ?_
        refine W.seq ?_
        refine W.block ?_
        refine W.reg ?_
        refine XOps.s rfl rfl rfl (Q.assign_nilsl rfl) ?_
        refine XOps.nil ?_
        refine W.ghost 10 6 (by decide) rfl rfl (fun v10 => ?_)
        refine W.reg ?_
        refine XOps.s rfl rfl rfl (Q.move_d rfl) ?_
        refine XOps.s rfl rfl rfl (Q.len_sl isl37 rfl) ?_
        refine XOps.s rfl rfl rfl (Q.move_d rfl) ?_
        refine XOps.nil ?_
        refine W.block ?_
        refine W.loop (ι := Nat × Nat) (fun p => [(0, .ptr b 0), (3, .ptr i2 0), (8, .d (.sl 8 (s.fl.map Fl.enc))), (9, .d (.int .i64 (t))), (10, .vs p.2 0 (befN s.fl t p.1).length 6), (39, .d (.sl 8 (s.fl.map Fl.enc))), (40, .d (.int .i64 s.fl.length)), (41, .d (.int .i64 (p.1 : Nat)))]) (fun p => (p.2, .lst 6 ((befN s.fl t p.1).map Nd.enc)) :: ceH su s b lb f gk gd ((i2, .cells (su.enc.map .d)) :: hs)) (fun p => p.1 ≤ s.fl.length) (fun p => s.fl.length - p.1) (0, v10) ?_ ?_ ?_ ?_
        · exact Nat.zero_le _
        · exact ⟨by first | rfl | exact int_eq (by omega) | exact len_eq (by simp) | exact int_eq (by simp; done), by first | rfl | exact int_eq (by omega) | exact len_eq (by simp) | exact int_eq (by simp; done), by first | rfl | exact int_eq (by omega) | exact len_eq (by simp) | exact int_eq (by simp; done), by first | rfl | exact int_eq (by omega) | exact len_eq (by simp) | exact int_eq (by simp; done), by first | rfl | exact int_eq (by omega) | exact len_eq (by simp) | exact int_eq (by simp; done), by first | rfl | exact int_eq (by omega) | exact len_eq (by simp) | exact int_eq (by simp; done), by exact int_eq (by rw [List.length_map]), by first | rfl | exact int_eq (by omega) | exact len_eq (by simp) | exact int_eq (by simp; done), trivial⟩
        · exact HLe.refl _
        · rintro ⟨i, v⟩ hi
          dsimp only at hi ⊢
          refine W.reg ?_
          refine XOps.s rfl rfl rfl (Q.lss rfl rfl) ?_
          refine XOps.nil ?_
          refine W.seq ?_
          refine W.cond rfl (fun hc42 => ?_) (fun hc42 => ?_)
          · try simp only [Bool.or_eq_true, Bool.or_eq_false_iff, Bool.and_eq_true, Bool.and_eq_false_iff, decide_eq_true_eq, decide_eq_false_iff_not, Bool.not_eq_true', Bool.not_eq_false', Int.not_lt, Int.not_le, List.length_map] at hc42
            obtain ⟨x, hx⟩ : ∃ x, s.fl[i]? = some x := ⟨_, List.getElem?_eq_getElem (by omega)⟩
            have hxm := List.mem_of_getElem? hx
            have okf := o.fw.all x hxm
            have hnl := nodesF_len x.legs x.next t
            have hbl := befN_len s.fl t i
            refine W.skip ?_
            refine W.seq ?_
            refine W.block ?_
            refine W.reg ?_
            refine XOps.s rfl rfl rfl (Q.idx_sl sl37 (by decide) rfl rfl (by first | omega | (simp only [List.length_map]; omega)) (by first | exact map_at hx | exact map_at hu | exact map_at0 hm)) ?_
            refine XOps.s rfl rfl rfl (Q.ld_dpn ag41 rfl rfl) ?_
            (refine XOps.loud rfl (L.alloc tz41 rfl rfl) ?_; rintro _ _ ⟨b12, rfl, rfl⟩)
            refine XOps.loud rfl (L.storen (k := 0) ag41 rfl rfl rfl rfl rfl) ?_
            rintro _ _ ⟨rfl, rfl⟩
            refine XOps.nil ?_
            refine W.reg ?_
            refine XOps.s rfl rfl rfl (Q.ld_ptrn (k := 0) ag41 rfl rfl rfl) ?_
            refine XOps.s rfl rfl rfl (Q.move_d rfl) ?_
            refine XOps.s rfl rfl rfl (Q.call rfl Tryz.func24 go24 rfl (places_c x t _ okf (o.fw.sts x hxm))) ?_
            refine XOps.s rfl rfl rfl (Q.move_tup rfl) ?_
            refine XOps.s rfl rfl rfl (Q.extract rfl rfl) ?_
            refine XOps.s rfl rfl rfl (Q.extract rfl rfl) ?_
            refine XOps.s rfl rfl rfl (Q.assign_d rfl) ?_
            refine XOps.s rfl rfl rfl (Q.assign_d rfl) ?_
            refine XOps.nil ?_
            refine W.seq ?_
            refine W.reg ?_
            refine XOps.s rfl rfl rfl (Q.move_d rfl) ?_
            refine XOps.s rfl rfl rfl (Q.neq rfl rfl) ?_
            refine XOps.nil ?_
            refine W.cond rfl (fun hc52 => ?_) (fun hc52 => ?_)
            · try simp only [Bool.or_eq_true, Bool.or_eq_false_iff, Bool.and_eq_true, Bool.and_eq_false_iff, decide_eq_true_eq, decide_eq_false_iff_not, Bool.not_eq_true', Bool.not_eq_false', Int.not_lt, Int.not_le, List.length_map] at hc52
              exact absurd hc52 (by simp)
            · try simp only [Bool.or_eq_true, Bool.or_eq_false_iff, Bool.and_eq_true, Bool.and_eq_false_iff, decide_eq_true_eq, decide_eq_false_iff_not, Bool.not_eq_true', Bool.not_eq_false', Int.not_lt, Int.not_le, List.length_map] at hc52
              refine W.skip ?_
              refine W.seq ?_
              refine W.reg ?_
              refine XOps.s rfl rfl rfl (Q.move_d rfl) ?_
              refine XOps.s rfl rfl rfl (Q.len_sl isl32 rfl) ?_
              refine XOps.s rfl rfl rfl (Q.move_d rfl) ?_
              refine XOps.nil ?_
              refine W.block ?_
              refine W.loop (ι := Nat) (fun j => [(0, .ptr b 0), (3, .ptr i2 0), (8, .d (.sl 8 (s.fl.map Fl.enc))), (9, .d (.int .i64 (t))), (10, .vs v 0 (befN s.fl t i).length 6), (39, .d (.sl 8 (s.fl.map Fl.enc))), (40, .d (.int .i64 s.fl.length)), (41, .d (.int .i64 (i : Nat))), (13, .d (.sl 6 ((nodesF x.legs x.next t).map Nd.enc))), (53, .d (.sl 6 ((nodesF x.legs x.next t).map Nd.enc))), (54, .d (.int .i64 (nodesF x.legs x.next t).length)), (55, .d (.int .i64 (j : Nat)))]) (fun j => (v, .lst 6 ((befN s.fl t i).map Nd.enc)) :: ceH su s b lb f gk gd ((i2, .cells (su.enc.map .d)) :: hs)) (fun j => j ≤ (nodesF x.legs x.next t).length) (fun j => (nodesF x.legs x.next t).length - j) 0 ?_ ?_ ?_ ?_
              · exact Nat.zero_le _
              · exact ⟨by first | rfl | exact int_eq (by omega) | exact len_eq (by simp) | exact int_eq (by simp; done), by first | rfl | exact int_eq (by omega) | exact len_eq (by simp) | exact int_eq (by simp; done), by first | rfl | exact int_eq (by omega) | exact len_eq (by simp) | exact int_eq (by simp; done), by first | rfl | exact int_eq (by omega) | exact len_eq (by simp) | exact int_eq (by simp; done), by first | rfl | exact int_eq (by omega) | exact len_eq (by simp) | exact int_eq (by simp; done), by first | rfl | exact int_eq (by omega) | exact len_eq (by simp) | exact int_eq (by simp; done), by first | rfl | exact int_eq (by omega) | exact len_eq (by simp) | exact int_eq (by simp; done), by first | rfl | exact int_eq (by omega) | exact len_eq (by simp) | exact int_eq (by simp; done), by first | rfl | exact int_eq (by omega) | exact len_eq (by simp) | exact int_eq (by simp; done), by first | rfl | exact int_eq (by omega) | exact len_eq (by simp) | exact int_eq (by simp; done), by exact int_eq (by rw [List.length_map]), by first | rfl | exact int_eq (by omega) | exact len_eq (by simp) | exact int_eq (by simp; done), trivial⟩
              · exact HLe.skip _ (HLe.refl _)
              · rintro j hj
                refine W.reg ?_
                refine XOps.s rfl rfl rfl (Q.lss rfl rfl) ?_
                refine XOps.nil ?_
                refine W.seq ?_
                refine W.cond rfl (fun hc56 => ?_) (fun hc56 => ?_)
                · try simp only [Bool.or_eq_true, Bool.or_eq_false_iff, Bool.and_eq_true, Bool.and_eq_false_iff, decide_eq_true_eq, decide_eq_false_iff_not, Bool.not_eq_true', Bool.not_eq_false', Int.not_lt, Int.not_le, List.length_map] at hc56
                  obtain ⟨u, hu⟩ : ∃ u, (nodesF x.legs x.next t)[j]? = some u := ⟨_, List.getElem?_eq_getElem (by omega)⟩
                  refine W.skip ?_
                  refine W.seq ?_
                  refine W.block ?_
                  refine W.reg ?_
                  refine XOps.s rfl rfl rfl (Q.idx_sl sl32 (by decide) rfl rfl (by first | omega | (simp only [List.length_map]; omega)) (by first | exact map_at hx | exact map_at hu | exact map_at0 hm)) ?_
                  refine XOps.s rfl rfl rfl (Q.ld_dpn ag47 rfl rfl) ?_
                  (refine XOps.loud rfl (L.alloc tz47 rfl rfl) ?_; rintro _ _ ⟨b16, rfl, rfl⟩)
                  refine XOps.loud rfl (L.storen (k := 0) ag47 rfl rfl rfl rfl rfl) ?_
                  rintro _ _ ⟨rfl, rfl⟩
                  refine XOps.nil ?_
                  refine W.reg ?_
                  refine XOps.s rfl rfl rfl (Q.move_vs rfl) ?_
                  refine XOps.s rfl rfl rfl (Q.len_vs isl32 rfl) ?_
                  refine XOps.s rfl rfl rfl (Q.move_d rfl) ?_
                  refine XOps.nil ?_
                  refine W.block ?_
                  refine W.loop (ι := Nat) (fun q => [(0, .ptr b 0), (3, .ptr i2 0), (8, .d (.sl 8 (s.fl.map Fl.enc))), (9, .d (.int .i64 (t))), (10, .vs v 0 (befN s.fl t i).length 6), (39, .d (.sl 8 (s.fl.map Fl.enc))), (40, .d (.int .i64 s.fl.length)), (41, .d (.int .i64 (i : Nat))), (13, .d (.sl 6 ((nodesF x.legs x.next t).map Nd.enc))), (53, .d (.sl 6 ((nodesF x.legs x.next t).map Nd.enc))), (54, .d (.int .i64 (nodesF x.legs x.next t).length)), (55, .d (.int .i64 (j : Nat))), (16, .ptr b16 0), (59, .vs v 0 (befN s.fl t i).length 6), (60, .d (.int .i64 (befN s.fl t i).length)), (61, .d (.int .i64 (q : Nat)))]) (fun q => (b16, .cells (u.enc.map .d)) :: (v, .lst 6 ((befN s.fl t i).map Nd.enc)) :: ceH su s b lb f gk gd ((i2, .cells (su.enc.map .d)) :: hs)) (fun q => q ≤ (befN s.fl t i).length) (fun q => (befN s.fl t i).length - q) 0 ?_ ?_ ?_ ?_
                  · exact Nat.zero_le _
                  · exact ⟨by first | rfl | exact int_eq (by omega) | exact len_eq (by simp) | exact int_eq (by simp; done), by first | rfl | exact int_eq (by omega) | exact len_eq (by simp) | exact int_eq (by simp; done), by first | rfl | exact int_eq (by omega) | exact len_eq (by simp) | exact int_eq (by simp; done), by first | rfl | exact int_eq (by omega) | exact len_eq (by simp) | exact int_eq (by simp; done), by first | rfl | exact int_eq (by omega) | exact len_eq (by simp) | exact int_eq (by simp; done), by first | rfl | exact int_eq (by omega) | exact len_eq (by simp) | exact int_eq (by simp; done), by first | rfl | exact int_eq (by omega) | exact len_eq (by simp) | exact int_eq (by simp; done), by first | rfl | exact int_eq (by omega) | exact len_eq (by simp) | exact int_eq (by simp; done), by first | rfl | exact int_eq (by omega) | exact len_eq (by simp) | exact int_eq (by simp; done), by first | rfl | exact int_eq (by omega) | exact len_eq (by simp) | exact int_eq (by simp; done), by first | rfl | exact int_eq (by omega) | exact len_eq (by simp) | exact int_eq (by simp; done), by first | rfl | exact int_eq (by omega) | exact len_eq (by simp) | exact int_eq (by simp; done), by first | rfl | exact int_eq (by omega) | exact len_eq (by simp) | exact int_eq (by simp; done), by first | rfl | exact int_eq (by omega) | exact len_eq (by simp) | exact int_eq (by simp; done), by first | rfl | exact int_eq (by omega) | exact len_eq (by simp) | exact int_eq (by simp; done), by first | rfl | exact int_eq (by omega) | exact len_eq (by simp) | exact int_eq (by simp; done), trivial⟩
                  · exact HLe.refl _
                  · rintro q hq
                    refine W.reg ?_
                    refine XOps.s rfl rfl rfl (Q.lss rfl rfl) ?_
                    refine XOps.nil ?_
                    refine W.seq ?_
                    refine W.cond rfl (fun hc62 => ?_) (fun hc62 => ?_)
                    · try simp only [Bool.or_eq_true, Bool.or_eq_false_iff, Bool.and_eq_true, Bool.and_eq_false_iff, decide_eq_true_eq, decide_eq_false_iff_not, Bool.not_eq_true', Bool.not_eq_false', Int.not_lt, Int.not_le, List.length_map] at hc62
                      obtain ⟨m, hm⟩ : ∃ m, (befN s.fl t i)[q]? = some m := ⟨_, List.getElem?_eq_getElem (by omega)⟩
                      obtain ⟨e1, e2⟩ := sa_law hsc o sa hx (List.mem_of_getElem? hu) (List.mem_of_getElem? hm)
                      refine W.skip ?_
                      refine W.seq ?_
                      refine W.block ?_
                      refine W.reg ?_
                      refine XOps.s rfl rfl rfl (Q.idx_vs (kk := 1) sl32 rfl rfl rfl (by omega) (by omega)) ?_
                      refine XOps.s rfl rfl rfl (Q.ld_epn (k := 1) ag47 rfl rfl (map_at0 hm) rfl) ?_
                      (refine XOps.loud rfl (L.alloc tz47 rfl rfl) ?_; rintro _ _ ⟨b18, rfl, rfl⟩)
                      refine XOps.loud rfl (L.storen (k := 0) ag47 rfl rfl rfl rfl rfl) ?_
                      rintro _ _ ⟨rfl, rfl⟩
                      refine XOps.nil ?_
                      refine W.reg ?_
                      refine XOps.s rfl rfl rfl (Q.ld_ptrn (k := 1) ag47 rfl rfl rfl) ?_
                      refine XOps.s rfl rfl rfl (Q.ld_ptrn (k := 0) ag47 rfl rfl rfl) ?_
                      refine XOps.s rfl rfl rfl (Q.fld_ptr fl27_0 rfl) ?_
                      refine XOps.s rfl rfl rfl (Q.ld_ptrn (k := 8) ag23 rfl rfl rfl) ?_
                      refine XOps.s rfl rfl rfl (Q.call rfl Tryz.func25 go25 rfl (Sep_c u m su.lat su.ver _)) ?_
                      refine XOps.s rfl rfl rfl (Q.move_tup rfl) ?_
                      refine XOps.s rfl rfl rfl (Q.extract rfl rfl) ?_
                      refine XOps.s rfl rfl rfl (Q.extract rfl rfl) ?_
                      refine XOps.s rfl rfl rfl (Q.assign_d rfl) ?_
                      refine XOps.s rfl rfl rfl (Q.assign_d rfl) ?_
                      refine XOps.nil ?_
                      refine W.reg ?_
                      refine XOps.s rfl rfl rfl (Q.move_d rfl) ?_
                      refine XOps.s rfl rfl rfl (Q.neq rfl rfl) ?_
                      refine XOps.s rfl rfl rfl (Q.move_d rfl) ?_
                      refine XOps.gs rfl rfl rfl rfl rfl rfl rfl (fun hg => Q.move_d rfl) ?_
                      refine XOps.gs rfl rfl rfl rfl rfl rfl rfl (fun hg => Quiet.open 76 hg rfl (Q.not rfl)) ?_
                      refine XOps.s rfl rfl rfl (Q.pick_or rfl rfl rfl (fun h => by first | (rw [h]; rfl) | (rw [hg, h]; rfl) | (simp [h, hg]; done))) ?_
                      refine XOps.nil ?_
                      refine W.cond rfl (fun hc78 => ?_) (fun hc78 => ?_)
                      · try simp only [Bool.or_eq_true, Bool.or_eq_false_iff, Bool.and_eq_true, Bool.and_eq_false_iff, decide_eq_true_eq, decide_eq_false_iff_not, Bool.not_eq_true', Bool.not_eq_false', Int.not_lt, Int.not_le, List.length_map] at hc78
                        exfalso
                        rw [e1, e2] at hc78
                        simp at hc78
                        --done
                      · try simp only [Bool.or_eq_true, Bool.or_eq_false_iff, Bool.and_eq_true, Bool.and_eq_false_iff, decide_eq_true_eq, decide_eq_false_iff_not, Bool.not_eq_true', Bool.not_eq_false', Int.not_lt, Int.not_le, List.length_map] at hc78
                        refine W.skip ?_
                        refine W.region ?_
                        refine XOps.s rfl rfl rfl (Q.add rfl rfl (wi64 (by first | omega | (dsimp only; omega) | (simp only [List.length_map]; omega)) (by first | omega | (dsimp only; omega) | (simp only [List.length_map]; omega)))) ?_
                        refine XOps.s rfl rfl rfl (Q.move_d rfl) ?_
                        refine XOps.nil ?_
                        refine ⟨q + 1, ?_, ?_, ?_, ?_⟩
                        · omega
                        · omega
                        · exact ⟨by first | rfl | exact int_eq (by omega) | exact len_eq (by simp) | exact int_eq (by simp; done), by first | rfl | exact int_eq (by omega) | exact len_eq (by simp) | exact int_eq (by simp; done), by first | rfl | exact int_eq (by omega) | exact len_eq (by simp) | exact int_eq (by simp; done), by first | rfl | exact int_eq (by omega) | exact len_eq (by simp) | exact int_eq (by simp; done), by first | rfl | exact int_eq (by omega) | exact len_eq (by simp) | exact int_eq (by simp; done), by first | rfl | exact int_eq (by omega) | exact len_eq (by simp) | exact int_eq (by simp; done), by first | rfl | exact int_eq (by omega) | exact len_eq (by simp) | exact int_eq (by simp; done), by first | rfl | exact int_eq (by omega) | exact len_eq (by simp) | exact int_eq (by simp; done), by first | rfl | exact int_eq (by omega) | exact len_eq (by simp) | exact int_eq (by simp; done), by first | rfl | exact int_eq (by omega) | exact len_eq (by simp) | exact int_eq (by simp; done), by first | rfl | exact int_eq (by omega) | exact len_eq (by simp) | exact int_eq (by simp; done), by first | rfl | exact int_eq (by omega) | exact len_eq (by simp) | exact int_eq (by simp; done), by first | rfl | exact int_eq (by omega) | exact len_eq (by simp) | exact int_eq (by simp; done), by first | rfl | exact int_eq (by omega) | exact len_eq (by simp) | exact int_eq (by simp; done), by first | rfl | exact int_eq (by omega) | exact len_eq (by simp) | exact int_eq (by simp; done), by first | rfl | exact int_eq (by omega) | exact len_eq (by simp) | exact int_eq (by simp; done), trivial⟩
                        · exact HLe.skip _ (HLe.refl _)
                    · try simp only [Bool.or_eq_true, Bool.or_eq_false_iff, Bool.and_eq_true, Bool.and_eq_false_iff, decide_eq_true_eq, decide_eq_false_iff_not, Bool.not_eq_true', Bool.not_eq_false', Int.not_lt, Int.not_le, List.length_map] at hc62
                      refine W.exit ?_
                      refine W.region ?_
                      refine XOps.s rfl rfl rfl (Q.add rfl rfl (wi64 (by first | omega | (dsimp only; omega) | (simp only [List.length_map]; omega)) (by first | omega | (dsimp only; omega) | (simp only [List.length_map]; omega)))) ?_
                      refine XOps.s rfl rfl rfl (Q.move_d rfl) ?_
                      refine XOps.nil ?_
                      refine ⟨j + 1, ?_, ?_, ?_, ?_⟩
                      · omega
                      · omega
                      · exact ⟨by first | rfl | exact int_eq (by omega) | exact len_eq (by simp) | exact int_eq (by simp; done), by first | rfl | exact int_eq (by omega) | exact len_eq (by simp) | exact int_eq (by simp; done), by first | rfl | exact int_eq (by omega) | exact len_eq (by simp) | exact int_eq (by simp; done), by first | rfl | exact int_eq (by omega) | exact len_eq (by simp) | exact int_eq (by simp; done), by first | rfl | exact int_eq (by omega) | exact len_eq (by simp) | exact int_eq (by simp; done), by first | rfl | exact int_eq (by omega) | exact len_eq (by simp) | exact int_eq (by simp; done), by first | rfl | exact int_eq (by omega) | exact len_eq (by simp) | exact int_eq (by simp; done), by first | rfl | exact int_eq (by omega) | exact len_eq (by simp) | exact int_eq (by simp; done), by first | rfl | exact int_eq (by omega) | exact len_eq (by simp) | exact int_eq (by simp; done), by first | rfl | exact int_eq (by omega) | exact len_eq (by simp) | exact int_eq (by simp; done), by first | rfl | exact int_eq (by omega) | exact len_eq (by simp) | exact int_eq (by simp; done), by first | rfl | exact int_eq (by omega) | exact len_eq (by simp) | exact int_eq (by simp; done), trivial⟩
                      · exact HLe.skip _ (HLe.refl _)
                · try simp only [Bool.or_eq_true, Bool.or_eq_false_iff, Bool.and_eq_true, Bool.and_eq_false_iff, decide_eq_true_eq, decide_eq_false_iff_not, Bool.not_eq_true', Bool.not_eq_false', Int.not_lt, Int.not_le, List.length_map] at hc56
                  refine W.exit ?_
                  refine W.region ?_
                  refine XOps.s rfl rfl rfl (Q.move_vs rfl) ?_
                  refine XOps.s rfl rfl rfl (Q.move_d rfl) ?_
                  (refine XOps.loud rfl (L.app (k := 0) ap32 rfl rfl (by simp) rfl (by have := befN_len s.fl t i; have := nodesF_len x.legs x.next t; simp; omega) rfl) ?_; rintro _ _ ⟨v83, rfl, rfl⟩)
                  refine XOps.s rfl rfl rfl (Q.assign_vs rfl) ?_
                  refine XOps.nil ?_
                  refine W.heap ((v83, .lst 6 ((befN s.fl t (i + 1)).map Nd.enc)) :: ceH su s b lb f gk gd ((i2, .cells (su.enc.map .d)) :: hs)) (HLe.cons' (by rw [befN_succ hx, List.map_append]) (HLe.refl _)) ?_
                  refine W.region ?_
                  refine XOps.s rfl rfl rfl (Q.add rfl rfl (wi64 (by first | omega | (dsimp only; omega) | (simp only [List.length_map]; omega)) (by first | omega | (dsimp only; omega) | (simp only [List.length_map]; omega)))) ?_
                  refine XOps.s rfl rfl rfl (Q.move_d rfl) ?_
                  refine XOps.nil ?_
                  refine ⟨(i + 1, v83), ?_, ?_, ?_, ?_⟩
                  · exact (show i + 1 ≤ _ by omega)
                  · dsimp only; omega
                  · exact ⟨by first | rfl | exact int_eq (by omega) | exact len_eq (by simp) | exact int_eq (by simp; done), by first | rfl | exact int_eq (by omega) | exact len_eq (by simp) | exact int_eq (by simp; done), by first | rfl | exact int_eq (by omega) | exact len_eq (by simp) | exact int_eq (by simp; done), by first | rfl | exact int_eq (by omega) | exact len_eq (by simp) | exact int_eq (by simp; done), by (show AV.vs v83 0 _ 6 = .vs v83 0 _ 6; rw [befN_succ hx]; simp), by first | rfl | exact int_eq (by omega) | exact len_eq (by simp) | exact int_eq (by simp; done), by first | rfl | exact int_eq (by omega) | exact len_eq (by simp) | exact int_eq (by simp; done), by first | rfl | exact int_eq (by omega) | exact len_eq (by simp) | exact int_eq (by simp; done), trivial⟩
                  · exact HLe.refl _
          · try simp only [Bool.or_eq_true, Bool.or_eq_false_iff, Bool.and_eq_true, Bool.and_eq_false_iff, decide_eq_true_eq, decide_eq_false_iff_not, Bool.not_eq_true', Bool.not_eq_false', Int.not_lt, Int.not_le, List.length_map] at hc42
            refine W.exit ?_
            refine W.region ?_
            refine XOps.s rfl rfl rfl (Q.move_d rfl) ?_
            refine XOps.s rfl rfl rfl (Q.add rfl rfl (wi64 (by first | omega | (dsimp only; omega) | (simp only [List.length_map]; omega)) (by first | omega | (dsimp only; omega) | (simp only [List.length_map]; omega)))) ?_
            refine XOps.s rfl rfl rfl (Q.assign_d rfl) ?_
            refine XOps.nil ?_
            refine ⟨t + 7, ?_, ?_, ?_, ?_⟩
            · omega
            · omega
            · exact ⟨by first | rfl | exact int_eq (by omega) | exact len_eq (by simp) | exact int_eq (by simp; done), by first | rfl | exact int_eq (by omega) | exact len_eq (by simp) | exact int_eq (by simp; done), by first | rfl | exact int_eq (by omega) | exact len_eq (by simp) | exact int_eq (by simp; done), by first | rfl | exact int_eq (by omega) | exact len_eq (by simp) | exact int_eq (by simp; done), trivial⟩
            · exact HLe.skip _ (HLe.refl _)
      · try simp only [Bool.or_eq_true, Bool.or_eq_false_iff, Bool.and_eq_true, Bool.and_eq_false_iff, decide_eq_true_eq, decide_eq_false_iff_not, Bool.not_eq_true', Bool.not_eq_false', Int.not_lt, Int.not_le, List.length_map] at hc36
        refine W.exit ?_
        refine W.reg ?_
        refine XOps.s rfl rfl rfl (Q.assign_d rfl) ?_
        refine XOps.nil ?_
        refine W.ret ?_
        exact ⟨_, ceH su s b lb f gk gd ((i2, .cells (su.enc.map .d)) :: hs), rfl, HLe.refl _, rfl, rfl⟩
set_option maxHeartbeats 4000000 in
set_option maxRecDepth 100000 in
theorem safe1 (su : Su) (xs : List CI) (gk gd : Nat) (hs : Hp) (hx : ∀ x ∈ xs, CiS x) (hlen : xs.length ≤ 4611686018427387904) (h0 : suC su = 0) : AC P 6 [.d (.agg su.enc), .d (.sl 9 (xs.map CI.enc))] ((gk, kiG) :: (gd, p10G) :: hs) (fun r h => r = .d (.bool (true))) := by
  refine AC.of 12 Tryz.func6 rfl rfl rfl ?_
  refine W.reg ?_
  refine XOps.loud rfl (L.boxn rfl rfl) ?_
  rintro _ _ ⟨b2, rfl, rfl⟩
  refine XOps.s rfl rfl rfl (Q.assign_d rfl) ?_
  refine XOps.nil ?_
  refine W.reg ?_
  (refine XOps.loud rfl (L.call rfl Tryz.func11 go11 rfl (AC.le (fact_c gk gd ((b2, .cells (su.enc.map .d)) :: hs)) (HLe.pick 1 rfl rfl (HLe.pick 1 rfl rfl (HLe.refl _)))) rfl) ?_; rintro _ _ ⟨_, rfl, rfl, rfl⟩)
  refine XOps.s rfl rfl rfl (Q.move_d rfl) ?_
  refine XOps.gs rfl rfl rfl rfl rfl rfl rfl (fun hg => Q.ld_ptrn (k := 2) ag27 rfl rfl rfl) ?_
  refine XOps.gs rfl rfl rfl rfl rfl rfl rfl (fun hg => Q.move_d rfl) ?_
  refine XOps.gs rfl rfl rfl rfl rfl rfl rfl (fun hg => Q.mkfn rfl) ?_
  refine XOps.gl (.d (.bool false)) rfl rfl rfl rfl rfl rfl (fun hg => Loud.open 7 hg rfl (Loud.open 8 hg rfl (Loud.open 9 hg rfl (L.call rfl Tryz.func12 go12 rfl (run_c su xs 22 _ Tryz.func22 go22 [.ptr b2 0] (fun _ H => H = ((b2, .cells (su.enc.map .d)) :: hs)) gk gd ((b2, .cells (su.enc.map .d)) :: hs) h0 hx hlen rfl (fun k x b lb f H hk hxk hJ => by subst hJ; exact (safef_c su (atS su xs (k + 1)) x _ b lb f gk gd b2 hs (atS_ok h0 xs (k + 1)) (atS_sa h0 xs (k + 1)) (suC_zero h0).1).mono fun r h ⟨h1, h2⟩ => ⟨h1, _, rfl, h2⟩)) rfl)))) (fun hg => ?_) (fun hg => ?_)
  · rintro _ _ ⟨rfl, H2, hJ, rfl⟩
    have hgt : _ = true := hg
    refine XOps.s rfl rfl rfl (Q.pick_and rfl rfl rfl (fun h => by first | (rw [h]; rfl) | (rw [hg, h]; rfl) | (simp [h, hg]; done))) ?_
    refine XOps.s rfl rfl rfl (Q.assign_d rfl) ?_
    refine XOps.nil ?_
    refine W.ret ?_
    exact ⟨_, _, rfl, HLe.refl _, rfl⟩
  · have hgf : _ = false := hg
    exact absurd hgf (by decide) --done
set_option maxHeartbeats 4000000 in
set_option maxRecDepth 100000 in
theorem safe2 (su : Su) (xs : List CI) (gk gd : Nat) (hs : Hp) (hx : ∀ x ∈ xs, CiS x) (hlen : xs.length ≤ 4611686018427387904) (h0 : suC su ≠ 0) : AC P 6 [.d (.agg su.enc), .d (.sl 9 (xs.map CI.enc))] ((gk, kiG) :: (gd, p10G) :: hs) (fun r h => r = .d (.bool (true))) := by
  refine AC.of 12 Tryz.func6 rfl rfl rfl ?_
  refine W.reg ?_
  refine XOps.loud rfl (L.boxn rfl rfl) ?_
  rintro _ _ ⟨b2, rfl, rfl⟩
  refine XOps.s rfl rfl rfl (Q.assign_d rfl) ?_
  refine XOps.nil ?_
  refine W.reg ?_
  (refine XOps.loud rfl (L.call rfl Tryz.func11 go11 rfl (AC.le (fact_c gk gd ((b2, .cells (su.enc.map .d)) :: hs)) (HLe.pick 1 rfl rfl (HLe.pick 1 rfl rfl (HLe.refl _)))) rfl) ?_; rintro _ _ ⟨_, rfl, rfl, rfl⟩)
  refine XOps.s rfl rfl rfl (Q.move_d rfl) ?_
  refine XOps.gs rfl rfl rfl rfl rfl rfl rfl (fun hg => Q.ld_ptrn (k := 2) ag27 rfl rfl rfl) ?_
  refine XOps.gs rfl rfl rfl rfl rfl rfl rfl (fun hg => Q.move_d rfl) ?_
  refine XOps.gs rfl rfl rfl rfl rfl rfl rfl (fun hg => Q.mkfn rfl) ?_
  refine XOps.gl (.d (.bool false)) rfl rfl rfl rfl rfl rfl (fun hg => Loud.open 7 hg rfl (Loud.open 8 hg rfl (Loud.open 9 hg rfl (L.call rfl Tryz.func12 go12 rfl (runx_c su xs _ _ h0) rfl)))) (fun hg => ?_) (fun hg => ?_)
  · rintro _ _ ⟨rfl, rfl⟩
    have hgt : _ = true := hg
    refine XOps.s rfl rfl rfl (Q.pick_and rfl rfl rfl (fun h => by first | (rw [h]; rfl) | (rw [hg, h]; rfl) | (simp [h, hg]; done))) ?_
    refine XOps.s rfl rfl rfl (Q.assign_d rfl) ?_
    refine XOps.nil ?_
    refine W.ret ?_
    exact ⟨_, _, rfl, HLe.refl _, rfl⟩
  · have hgf : _ = false := hg
    exact absurd hgf (by decide) --done
theorem safe_c (su : Su) (xs : List CI) (gk gd : Nat) (hs : Hp) (hx : ∀ x ∈ xs, CiS x) (hlen : xs.length ≤ 4611686018427387904) : AC P 6 [.d (.agg su.enc), .d (.sl 9 (xs.map CI.enc))] ((gk, kiG) :: (gd, p10G) :: hs) (fun r h => r = .d (.bool (true))) := by
  by_cases h : suC su = 0
  · exact safe1 su xs gk gd hs hx hlen h
  · exact safe2 su xs gk gd hs hx hlen h
end Go.Proofs.YtaegeaajhbfkgaaGreatDoorA

