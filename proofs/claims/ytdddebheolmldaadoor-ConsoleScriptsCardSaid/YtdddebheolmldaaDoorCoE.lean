/- The law ConsoleScripts. -/
import Derived.Test.YtdddebheolmldaaDoorFrB
import Derived.Test.YtdddebheolmldaaDoorCoD
set_option linter.unusedVariables false
set_option linter.unusedSimpArgs false
set_option linter.unnecessarySimpa false
namespace Go.Proofs.YtdddebheolmldaaDoorA.FCoE
open Go
theorem ag23 : tAgg P 23 = some ((true, 4)) := by kernel_rfl
theorem ag9 : tAgg P 9 = some ((false, 1)) := by kernel_rfl
theorem eqt23 : tEq P 23 = some ([.str, .str, .int .i64, .str]) := by kernel_rfl
theorem go10 : callGo Go.Proofs.Tryd.f10 = true := by kernel_rfl
theorem go6 : callGo Go.Proofs.Tryd.f6 = true := by kernel_rfl
theorem go7 : callGo Go.Proofs.Tryd.f7 = true := by kernel_rfl
theorem go9 : callGo Go.Proofs.Tryd.f9 = true := by kernel_rfl
theorem isl32 : isSl P 32 = true := by kernel_rfl
theorem isl35 : isSl P 35 = true := by kernel_rfl
theorem ist9 : isStr P 9 = true := by kernel_rfl
theorem sl32 : tSl P 32 = some (4) := by kernel_rfl
theorem sl35 : tSl P 35 = some (1) := by kernel_rfl
theorem tz23 : tZero P 23 = some ([.string ⟨#[]⟩, .string ⟨#[]⟩, .int .i64 0, .string ⟨#[]⟩]) := by kernel_rfl
end Go.Proofs.YtdddebheolmldaaDoorA.FCoE
namespace Go.Proofs.YtdddebheolmldaaDoorA
open Go FCoE
attribute [local irreducible] XOps Quiet Loud W AC GQ DT
set_option maxHeartbeats 8000000 in
set_option maxRecDepth 100000 in
theorem scripts_c (t : ByteArray) (hs : Hp) : AC P 4 [.d (.str t)] hs (fun r h => r = .d (.bool true)) := by
  have hlA := lnA_ne t
  have hll := lnA_len t
  have hls := lnS_le t
  have hlast : ((lnA t).map sE)[((((lnA t).map sE).length : Int) - 1).toNat]? = some (sE ((lnA t).getD ((lnA t).length - 1) emB)) := by
    rw [List.length_map, show (((lnA t).length : Int) - 1).toNat = (lnA t).length - 1 by omega, List.getElem?_map, List.getD_eq_getElem?_getD, List.getElem?_eq_getElem (by omega)]; rfl
  have hml : ((lnA t).map sE).length = (lnA t).length := List.length_map _
  refine AC.of 100 Tryd.func4 rfl rfl rfl ?_
  refine W.reg ?_
  refine XOps.s rfl rfl rfl (Q.assign_d rfl) ?_
  refine XOps.nil ?_
  refine W.reg ?_
  refine XOps.s rfl rfl rfl (Q.move_d rfl) ?_
  refine XOps.s rfl rfl rfl (Q.call rfl Tryd.func9 go9 rfl (script_c t _)) ?_
  refine XOps.s rfl rfl rfl (Q.move_tup rfl) ?_
  refine XOps.s rfl rfl rfl (Q.extract rfl rfl) ?_
  refine XOps.s rfl rfl rfl (Q.extract rfl rfl) ?_
  refine XOps.s rfl rfl rfl (Q.extract rfl rfl) ?_
  refine XOps.s rfl rfl rfl (Q.assign_d rfl) ?_
  refine XOps.s rfl rfl rfl (Q.assign_d rfl) ?_
  refine XOps.s rfl rfl rfl (Q.assign_d rfl) ?_
  refine XOps.nil ?_
  refine W.seq ?_
  refine W.reg ?_
  refine XOps.s rfl rfl rfl (Q.call rfl Tryd.func7 go7 rfl (cfact_c _)) ?_
  refine XOps.s rfl rfl rfl (Q.not rfl) ?_
  refine XOps.s rfl rfl rfl (Q.move_d rfl) ?_
  refine XOps.gs rfl rfl rfl rfl rfl rfl rfl (fun hg => Q.move_d rfl) ?_
  refine XOps.gs rfl rfl rfl rfl rfl rfl rfl (fun hg => Quiet.open 20 hg rfl (Q.len_str ist9 rfl)) ?_
  refine XOps.gs rfl rfl rfl rfl rfl rfl rfl (fun hg => Quiet.open 21 hg rfl (Q.gtr rfl rfl)) ?_
  refine XOps.s rfl rfl rfl (Q.pick_or rfl rfl rfl (fun h => by first | (rw [h]; rfl) | (rw [hg, h]; rfl) | (simp [h, hg]; done))) ?_
  refine XOps.nil ?_
  refine W.cond rfl (fun hc23 => ?_) (fun hc23 => ?_)
  · try simp only [Bool.or_eq_true, Bool.or_eq_false_iff, Bool.and_eq_true, Bool.and_eq_false_iff, decide_eq_true_eq, decide_eq_false_iff_not, Bool.not_eq_true', Bool.not_eq_false', Int.not_lt, Int.not_le, List.length_map] at hc23
    have hbg : 8192 < t.size := by
      have h : (8192 : Int) < (t.size : Nat) := by simpa using hc23
      omega
    obtain ⟨hb1, hb2, hb3⟩ := scr_big hbg
    rw [hb1, hb2, hb3]
    refine W.reg ?_
    refine XOps.s rfl rfl rfl (Q.call rfl Tryd.func7 go7 rfl (cfact_c _)) ?_
    refine XOps.s rfl rfl rfl (Q.move_d rfl) ?_
    refine XOps.gs rfl rfl rfl rfl rfl rfl rfl (fun hg => Q.move_d rfl) ?_
    refine XOps.gs rfl rfl rfl rfl rfl rfl rfl (fun hg => Quiet.open 26 hg rfl (Q.eql rfl rfl)) ?_
    refine XOps.s rfl rfl rfl (Q.pick_and rfl rfl rfl (fun h => by first | (rw [h]; rfl) | (rw [hg, h]; rfl) | (simp [h, hg]; done))) ?_
    refine XOps.s rfl rfl rfl (Q.assign_d rfl) ?_
    refine XOps.nil ?_
    refine W.ret ?_
    refine ⟨_, _, rfl, HLe.refl _, ?_⟩
    show AV.d (.bool _) = _
    refine congrArg (fun b => AV.d (D.bool b)) ?_
    first | rfl | (simp; done) | (simp; omega)
  · try simp only [Bool.or_eq_true, Bool.or_eq_false_iff, Bool.and_eq_true, Bool.and_eq_false_iff, decide_eq_true_eq, decide_eq_false_iff_not, Bool.not_eq_true', Bool.not_eq_false', Int.not_lt, Int.not_le, List.length_map] at hc23
    have hsm0 : ¬ 8192 < t.size := by
      have h : (t.size : Int) ≤ 8192 := hc23.2
      omega
    have hsm := scr_small hsm0
    refine W.skip ?_
    refine W.reg ?_
    refine XOps.s rfl rfl rfl (Q.move_d rfl) ?_
    refine XOps.s rfl rfl rfl (Q.call rfl Tryd.func10 go10 rfl (split_c t 10 _ (by omega))) ?_
    refine XOps.s rfl rfl rfl (Q.assign_d rfl) ?_
    refine XOps.nil ?_
    refine W.as 6 (v' := .d (.sl 1 ((lnA t).map sE))) rfl rfl (fun κ w O u h => h) ?_
    refine W.seq ?_
    refine W.reg ?_
    refine XOps.s rfl rfl rfl (Q.move_d rfl) ?_
    refine XOps.s rfl rfl rfl (Q.move_d rfl) ?_
    refine XOps.s rfl rfl rfl (Q.len_sl isl35 rfl) ?_
    refine XOps.s rfl rfl rfl (Q.sub rfl rfl (wi64 (by first | omega | (dsimp only; omega) | (simp only [List.length_map]; omega)) (by first | omega | (dsimp only; omega) | (simp only [List.length_map]; omega)))) ?_
    refine XOps.s rfl rfl rfl (Q.idx_sl sl35 (by decide) rfl rfl (by first | omega | (simp only [List.length_map]; omega)) (by first | exact hlast | exact map_at hx | exact map_at (hy (by first | omega | (simp at hg; omega))))) ?_
    refine XOps.s rfl rfl rfl (Q.ld_dp ag9 rfl rfl) ?_
    refine XOps.s rfl rfl rfl (Q.eql_str rfl rfl) ?_
    refine XOps.nil ?_
    refine W.cond rfl (fun hc37 => ?_) (fun hc37 => ?_)
    · try simp only [Bool.or_eq_true, Bool.or_eq_false_iff, Bool.and_eq_true, Bool.and_eq_false_iff, decide_eq_true_eq, decide_eq_false_iff_not, Bool.not_eq_true', Bool.not_eq_false', Int.not_lt, Int.not_le, List.length_map] at hc37
      have hS : lnS t = (lnA t).take ((lnA t).length - 1) := if_pos (by first | exact hc37 | simpa [seq, emB] using hc37)
      refine W.region ?_
      refine XOps.s rfl rfl rfl (Q.move_d rfl) ?_
      refine XOps.s rfl rfl rfl (Q.move_d rfl) ?_
      refine XOps.s rfl rfl rfl (Q.len_sl isl35 rfl) ?_
      refine XOps.s rfl rfl rfl (Q.sub rfl rfl (wi64 (by first | omega | (dsimp only; omega) | (simp only [List.length_map]; omega)) (by first | omega | (dsimp only; omega) | (simp only [List.length_map]; omega)))) ?_
      refine XOps.s rfl rfl rfl (Quiet.to (v' := .d (.sl 1 ((lnS t).map sE))) (Q.cut_slm sl35 rfl rfl rfl (by omega) (by omega) (by simp; omega)) (fun _ _ _ _ h => by rw [show ((lnA t).take ((((lnA t).map sE).length : Int) - 1).toNat).drop (0 : Int).toNat = lnS t by rw [hS, List.length_map, show (((lnA t).length : Int) - 1).toNat = (lnA t).length - 1 by omega]; rfl] at h; exact h)) ?_
      refine XOps.s rfl rfl rfl (Q.assign_d rfl) ?_
      refine XOps.nil ?_
      refine W.seq ?_
      skip
      refine W.reg ?_
      refine XOps.s rfl rfl rfl (Q.move_d rfl) ?_
      refine XOps.s rfl rfl rfl (Q.len_sl isl35 rfl) ?_
      refine XOps.s rfl rfl rfl (Q.move_d rfl) ?_
      refine XOps.nil ?_
      refine W.block ?_
      refine W.loop (ι := Nat) (fun k => [(3, .d (.sl 4 ((scrL t).map CC.enc))), (4, .d (.int .i64 (scrN t))), (5, .d (.int .i64 (scrE t))), (6, .d (.sl 1 ((lnS t).map sE))), (43, .d (.sl 1 ((lnS t).map sE))), (44, .d (.int .i64 (lnS t).length)), (45, .d (.int .i64 (k : Nat)))]) (fun k => hs) (fun k => k ≤ (lnS t).length ∧ ∀ (i : Nat) y, i < k → (lnS t)[i]? = some y → paE y = 0) (fun k => (lnS t).length - k) 0 ?_ ?_ ?_ ?_
      · exact ⟨Nat.zero_le _, fun i y h => absurd h (Nat.not_lt_zero _)⟩
      · exact ⟨by first | rfl | exact int_eq (by omega) | exact len_eq (by simp) | exact int_eq (by simp; done), by first | rfl | exact int_eq (by omega) | exact len_eq (by simp) | exact int_eq (by simp; done), by first | rfl | exact int_eq (by omega) | exact len_eq (by simp) | exact int_eq (by simp; done), by first | rfl | exact int_eq (by omega) | exact len_eq (by simp) | exact int_eq (by simp; done), by first | rfl | exact int_eq (by omega) | exact len_eq (by simp) | exact int_eq (by simp; done), by exact int_eq (by rw [List.length_map]), by first | rfl | exact int_eq (by omega) | exact len_eq (by simp) | exact int_eq (by simp; done), trivial⟩
      · first | exact HLe.refl _ | exact HLe.skip _ (HLe.refl _)
      · rintro k ⟨hk, hI⟩
        refine W.reg ?_
        refine XOps.s rfl rfl rfl (Q.lss rfl rfl) ?_
        refine XOps.nil ?_
        refine W.seq ?_
        refine W.cond rfl (fun hc46 => ?_) (fun hc46 => ?_)
        · try simp only [Bool.or_eq_true, Bool.or_eq_false_iff, Bool.and_eq_true, Bool.and_eq_false_iff, decide_eq_true_eq, decide_eq_false_iff_not, Bool.not_eq_true', Bool.not_eq_false', Int.not_lt, Int.not_le, List.length_map] at hc46
          obtain ⟨x, hx⟩ : ∃ x, (lnS t)[k]? = some x := ⟨_, List.getElem?_eq_getElem (by omega)⟩
          refine W.skip ?_
          refine W.seq ?_
          refine W.block ?_
          refine W.reg ?_
          refine XOps.s rfl rfl rfl (Q.move_d rfl) ?_
          refine XOps.s rfl rfl rfl (Q.idx_sl sl35 (by decide) rfl rfl (by first | omega | (simp only [List.length_map]; omega)) (by first | exact hlast | exact map_at hx | exact map_at (hy (by first | omega | (simp at hg; omega))))) ?_
          refine XOps.s rfl rfl rfl (Q.ld_dp ag9 rfl rfl) ?_
          refine XOps.s rfl rfl rfl (Q.assign_d rfl) ?_
          refine XOps.s rfl rfl rfl (Q.assign_d rfl) ?_
          refine XOps.nil ?_
          refine W.reg ?_
          refine XOps.s rfl rfl rfl (Q.move_d rfl) ?_
          refine XOps.s rfl rfl rfl (Q.call rfl Tryd.func6 go6 rfl (parse_c x _ (by have := lnA_size (lnS_sub (List.mem_of_getElem? hx)); omega))) ?_
          refine XOps.s rfl rfl rfl (Q.move_tup rfl) ?_
          refine XOps.s rfl rfl rfl (Q.extract rfl rfl) ?_
          refine XOps.s rfl rfl rfl (Q.extract rfl rfl) ?_
          (refine XOps.loud rfl (L.alloc tz23 rfl rfl) ?_; rintro _ _ ⟨b9, rfl, rfl⟩)
          refine XOps.loud rfl (L.storen (k := 0) ag23 rfl rfl rfl rfl rfl) ?_
          rintro _ _ ⟨rfl, rfl⟩
          refine XOps.s rfl rfl rfl (Q.assign_d rfl) ?_
          refine XOps.nil ?_
          refine W.seq ?_
          refine W.reg ?_
          refine XOps.s rfl rfl rfl (Q.move_d rfl) ?_
          refine XOps.s rfl rfl rfl (Q.neq rfl rfl) ?_
          refine XOps.nil ?_
          refine W.cond rfl (fun hc56 => ?_) (fun hc56 => ?_)
          · try simp only [Bool.or_eq_true, Bool.or_eq_false_iff, Bool.and_eq_true, Bool.and_eq_false_iff, decide_eq_true_eq, decide_eq_false_iff_not, Bool.not_eq_true', Bool.not_eq_false', Int.not_lt, Int.not_le, List.length_map] at hc56
            have h56 : paE x ≠ 0 := by first | exact hc56 | (simpa using hc56)
            have hbd := sc_bad hx h56 (fun i y hi hy => hI i y hi hy)
            rw [hsm.1, hsm.2.1, hsm.2.2, hbd.1, hbd.2.1, hbd.2.2]
            refine W.reg ?_
            refine XOps.s rfl rfl rfl (Q.move_d rfl) ?_
            refine XOps.s rfl rfl rfl (Q.move_d rfl) ?_
            refine XOps.s rfl rfl rfl (Q.eql rfl rfl) ?_
            refine XOps.s rfl rfl rfl (Q.move_d rfl) ?_
            refine XOps.gs rfl rfl rfl rfl rfl rfl rfl (fun hg => Q.move_d rfl) ?_
            refine XOps.gs rfl rfl rfl rfl rfl rfl rfl (fun hg => Q.move_d rfl) ?_
            refine XOps.gs rfl rfl rfl rfl rfl rfl rfl (fun hg => Quiet.open 61 hg rfl (Quiet.open 62 hg rfl (Q.eql rfl rfl))) ?_
            refine XOps.s rfl rfl rfl (Q.pick_and rfl rfl rfl (fun h => by first | (rw [h]; rfl) | (rw [hg, h]; rfl) | (simp [h, hg]; done))) ?_
            refine XOps.s rfl rfl rfl (Q.move_d rfl) ?_
            refine XOps.gs rfl rfl rfl rfl rfl rfl rfl (fun hg => Q.move_d rfl) ?_
            refine XOps.gs rfl rfl rfl rfl rfl rfl rfl (fun hg => Quiet.open 66 hg rfl (Q.len_sl isl32 rfl)) ?_
            refine XOps.gs rfl rfl rfl rfl rfl rfl rfl (fun hg => Quiet.open 67 hg rfl (Q.eql rfl rfl)) ?_
            refine XOps.s rfl rfl rfl (Q.pick_and rfl rfl rfl (fun h => by first | (rw [h]; rfl) | (rw [hg, h]; rfl) | (simp [h, hg]; done))) ?_
            refine XOps.s rfl rfl rfl (Q.assign_d rfl) ?_
            refine XOps.nil ?_
            refine W.ret ?_
            refine ⟨_, _, rfl, HLe.refl _, ?_⟩
            show AV.d (.bool _) = _
            refine congrArg (fun b => AV.d (D.bool b)) ?_
            first | rfl | (simp; done) | (simp; omega)
          · try simp only [Bool.or_eq_true, Bool.or_eq_false_iff, Bool.and_eq_true, Bool.and_eq_false_iff, decide_eq_true_eq, decide_eq_false_iff_not, Bool.not_eq_true', Bool.not_eq_false', Int.not_lt, Int.not_le, List.length_map] at hc56
            have h56 : paE x = 0 := by first | exact hc56 | (simpa using hc56)
            obtain ⟨y, hy⟩ : ∃ y, k < (scrL t).length → (scrL t)[k]? = some y := by
              by_cases h : k < (scrL t).length
              · exact ⟨_, fun _ => List.getElem?_eq_getElem h⟩
              · exact ⟨CC.zero, fun h2 => absurd h2 h⟩
            refine W.skip ?_
            refine W.drawreg 16 follows (by kernel_rfl) ?_
            refine Chain.cons _ (GQ.q rfl (Q.move_d rfl)) rfl ?_
            refine Chain.cons _ (GQ.q rfl (Q.eql rfl rfl)) rfl ?_
            refine Chain.cons _ (GQ.q rfl (Q.move_d rfl)) rfl ?_
            refine Chain.cons _ (GQ.g rfl rfl rfl rfl rfl (fun hg => Q.move_d rfl)) rfl ?_
            refine Chain.cons _ (GQ.g rfl rfl rfl rfl rfl (fun hg => Q.move_d rfl)) rfl ?_
            refine Chain.cons _ (GQ.g rfl rfl rfl rfl rfl (fun hg => Quiet.open 74 hg rfl (Q.len_sl isl32 rfl))) rfl ?_
            refine Chain.cons _ (GQ.g rfl rfl rfl rfl rfl (fun hg => Quiet.open 73 hg rfl (Quiet.open 75 hg rfl (Q.geq rfl rfl)))) rfl ?_
            refine Chain.cons _ (GQ.g rfl rfl rfl rfl rfl (fun hg => Quiet.open 76 hg rfl (Q.move_d rfl))) rfl ?_
            refine Chain.cons _ (GQ.gw rfl rfl rfl rfl rfl (fun hg => Q.move_d rfl)) rfl ?_
            refine Chain.cons _ (GQ.gw rfl rfl rfl rfl rfl (fun hg => Q.move_d rfl)) rfl ?_
            refine Chain.cons _ (GQ.gw rfl rfl rfl rfl rfl (fun hg => Quiet.open 78 hg rfl (Quiet.open 79 hg rfl (Q.idx_sl sl32 (by decide) rfl rfl (by first | omega | (simp only [List.length_map]; omega)) (by first | exact hlast | exact map_at hx | exact map_at (hy (by first | omega | (simp at hg; omega)))))))) rfl ?_
            refine Chain.cons _ (GQ.gw rfl rfl rfl rfl rfl (fun hg => Quiet.open 80 hg rfl (Q.ld_dpn ag23 rfl rfl))) rfl ?_
            refine Chain.cons _ (GQ.gw rfl rfl rfl rfl rfl (fun hg => Q.ld_ptrn (k := 0) ag23 rfl rfl rfl)) rfl ?_
            refine Chain.cons _ (GQ.gw rfl rfl rfl rfl rfl (fun hg => Quiet.open 81 hg rfl (Quiet.open 82 hg rfl (Q.neq_agg eqt23 rfl rfl rfl rfl rfl)))) rfl ?_
            refine Chain.cons _ (GQ.g rfl rfl rfl rfl rfl (fun hg => Quiet.open 77 hg rfl (Q.pick_or rfl rfl rfl (fun h => by first | (rw [h]; rfl) | (rw [hg, h]; rfl) | (simp [h, hg]; done))))) rfl ?_
            refine Chain.cons _ (GQ.q rfl (Q.pick_and rfl rfl rfl (fun h => by first | (rw [h]; rfl) | (rw [hg, h]; rfl) | (simp [h, hg]; done)))) rfl ?_
            refine Chain.nil ?_
            refine XOps.nil ?_
            refine W.cond rfl (fun hc85 => ?_) (fun hc85 => ?_)
            · try simp only [Bool.or_eq_true, Bool.or_eq_false_iff, Bool.and_eq_true, Bool.and_eq_false_iff, decide_eq_true_eq, decide_eq_false_iff_not, Bool.not_eq_true', Bool.not_eq_false', Int.not_lt, Int.not_le, List.length_map] at hc85
              exfalso
              have hkl := (List.getElem?_eq_some_iff.1 hx).1
              have hz := sc_zero (ls := lnS t) (by rw [← hsm.1]; exact hc85.1)
              rw [← hsm.2.2] at hz
              have hzl : k < (scrL t).length := by rw [hz, List.length_map]; exact hkl
              have hy2 := hy hzl
              rw [hz, List.getElem?_map, hx] at hy2
              obtain rfl := Option.some.inj hy2
              rcases hc85.2 with h | h
              · omega
              · have hq := same_cc (paV x) (paV x)
                rw [decide_eq_true rfl] at hq
                exact absurd (show allD ((paV x).enc.take 4) ((paV x).enc.take 4) = false from h) (by rw [hq]; simp) --done
            · try simp only [Bool.or_eq_true, Bool.or_eq_false_iff, Bool.and_eq_true, Bool.and_eq_false_iff, decide_eq_true_eq, decide_eq_false_iff_not, Bool.not_eq_true', Bool.not_eq_false', Int.not_lt, Int.not_le, List.length_map] at hc85
              refine W.skip ?_
              refine W.region ?_
              refine XOps.s rfl rfl rfl (Q.add rfl rfl (wi64 (by first | omega | (dsimp only; omega) | (simp only [List.length_map]; omega)) (by first | omega | (dsimp only; omega) | (simp only [List.length_map]; omega)))) ?_
              refine XOps.s rfl rfl rfl (Q.move_d rfl) ?_
              refine XOps.nil ?_
              refine ⟨k + 1, ?_, ?_, ?_, ?_⟩
              · refine ⟨by have := (List.getElem?_eq_some_iff.1 hx).1; omega, fun i z hi hz => ?_⟩
                rcases Nat.lt_or_ge i k with h2 | h2
                · exact hI i z h2 hz
                · obtain rfl : i = k := by omega
                  rw [hx] at hz; obtain rfl := Option.some.inj hz; exact h56
              · omega
              · exact ⟨by first | rfl | exact int_eq (by omega) | exact len_eq (by simp) | exact int_eq (by simp; done), by first | rfl | exact int_eq (by omega) | exact len_eq (by simp) | exact int_eq (by simp; done), by first | rfl | exact int_eq (by omega) | exact len_eq (by simp) | exact int_eq (by simp; done), by first | rfl | exact int_eq (by omega) | exact len_eq (by simp) | exact int_eq (by simp; done), by first | rfl | exact int_eq (by omega) | exact len_eq (by simp) | exact int_eq (by simp; done), by first | rfl | exact int_eq (by omega) | exact len_eq (by simp) | exact int_eq (by simp; done), by first | rfl | exact int_eq (by omega) | exact len_eq (by simp) | exact int_eq (by simp; done), trivial⟩
              · first | exact HLe.skip _ (HLe.refl _) | exact HLe.refl _
        · try simp only [Bool.or_eq_true, Bool.or_eq_false_iff, Bool.and_eq_true, Bool.and_eq_false_iff, decide_eq_true_eq, decide_eq_false_iff_not, Bool.not_eq_true', Bool.not_eq_false', Int.not_lt, Int.not_le, List.length_map] at hc46
          have h46 : ¬ (k : Int) < (lnS t).length := by simpa using hc46
          have hgd := sc_good (ls := lnS t) (fun i y hy => hI i y (by have := (List.getElem?_eq_some_iff.1 hy).1; omega) hy)
          rw [hsm.1, hsm.2.1, hsm.2.2, hgd.1, hgd.2.1, hgd.2.2]
          refine W.exit ?_
          refine W.reg ?_
          refine XOps.s rfl rfl rfl (Q.move_d rfl) ?_
          refine XOps.s rfl rfl rfl (Q.eql rfl rfl) ?_
          refine XOps.s rfl rfl rfl (Q.move_d rfl) ?_
          refine XOps.gs rfl rfl rfl rfl rfl rfl rfl (fun hg => Q.move_d rfl) ?_
          refine XOps.gs rfl rfl rfl rfl rfl rfl rfl (fun hg => Quiet.open 90 hg rfl (Q.eql rfl rfl)) ?_
          refine XOps.s rfl rfl rfl (Q.pick_and rfl rfl rfl (fun h => by first | (rw [h]; rfl) | (rw [hg, h]; rfl) | (simp [h, hg]; done))) ?_
          refine XOps.s rfl rfl rfl (Q.move_d rfl) ?_
          refine XOps.gs rfl rfl rfl rfl rfl rfl rfl (fun hg => Q.move_d rfl) ?_
          refine XOps.gs rfl rfl rfl rfl rfl rfl rfl (fun hg => Quiet.open 94 hg rfl (Q.len_sl isl32 rfl)) ?_
          refine XOps.gs rfl rfl rfl rfl rfl rfl rfl (fun hg => Q.move_d rfl) ?_
          refine XOps.gs rfl rfl rfl rfl rfl rfl rfl (fun hg => Quiet.open 96 hg rfl (Q.len_sl isl35 rfl)) ?_
          refine XOps.gs rfl rfl rfl rfl rfl rfl rfl (fun hg => Quiet.open 95 hg rfl (Quiet.open 97 hg rfl (Q.eql rfl rfl))) ?_
          refine XOps.s rfl rfl rfl (Q.pick_and rfl rfl rfl (fun h => by first | (rw [h]; rfl) | (rw [hg, h]; rfl) | (simp [h, hg]; done))) ?_
          refine XOps.s rfl rfl rfl (Q.assign_d rfl) ?_
          refine XOps.nil ?_
          refine W.ret ?_
          refine ⟨_, _, rfl, HLe.refl _, ?_⟩
          show AV.d (.bool _) = _
          refine congrArg (fun b => AV.d (D.bool b)) ?_
          first | rfl | (simp; done) | (simp; omega)
    · try simp only [Bool.or_eq_true, Bool.or_eq_false_iff, Bool.and_eq_true, Bool.and_eq_false_iff, decide_eq_true_eq, decide_eq_false_iff_not, Bool.not_eq_true', Bool.not_eq_false', Int.not_lt, Int.not_le, List.length_map] at hc37
      have hS : lnS t = lnA t := if_neg (by have h2 : seq ((lnA t).getD ((lnA t).length - 1) emB) emB = false := hc37; rw [h2]; simp)
      refine W.skip ?_
      refine W.seq ?_
      refine W.as 6 (v' := .d (.sl 1 ((lnS t).map sE))) rfl rfl (fun κ w O u h => by rw [hS]; exact h) ?_
      refine W.reg ?_
      refine XOps.s rfl rfl rfl (Q.move_d rfl) ?_
      refine XOps.s rfl rfl rfl (Q.len_sl isl35 rfl) ?_
      refine XOps.s rfl rfl rfl (Q.move_d rfl) ?_
      refine XOps.nil ?_
      refine W.block ?_
      refine W.loop (ι := Nat) (fun k => [(3, .d (.sl 4 ((scrL t).map CC.enc))), (4, .d (.int .i64 (scrN t))), (5, .d (.int .i64 (scrE t))), (6, .d (.sl 1 ((lnS t).map sE))), (43, .d (.sl 1 ((lnS t).map sE))), (44, .d (.int .i64 (lnS t).length)), (45, .d (.int .i64 (k : Nat)))]) (fun k => hs) (fun k => k ≤ (lnS t).length ∧ ∀ (i : Nat) y, i < k → (lnS t)[i]? = some y → paE y = 0) (fun k => (lnS t).length - k) 0 ?_ ?_ ?_ ?_
      · exact ⟨Nat.zero_le _, fun i y h => absurd h (Nat.not_lt_zero _)⟩
      · exact ⟨by first | rfl | exact int_eq (by omega) | exact len_eq (by simp) | exact int_eq (by simp; done), by first | rfl | exact int_eq (by omega) | exact len_eq (by simp) | exact int_eq (by simp; done), by first | rfl | exact int_eq (by omega) | exact len_eq (by simp) | exact int_eq (by simp; done), by first | rfl | exact int_eq (by omega) | exact len_eq (by simp) | exact int_eq (by simp; done), by first | rfl | exact int_eq (by omega) | exact len_eq (by simp) | exact int_eq (by simp; done), by exact int_eq (by rw [List.length_map]), by first | rfl | exact int_eq (by omega) | exact len_eq (by simp) | exact int_eq (by simp; done), trivial⟩
      · first | exact HLe.refl _ | exact HLe.skip _ (HLe.refl _)
      · rintro k ⟨hk, hI⟩
        refine W.reg ?_
        refine XOps.s rfl rfl rfl (Q.lss rfl rfl) ?_
        refine XOps.nil ?_
        refine W.seq ?_
        refine W.cond rfl (fun hc46 => ?_) (fun hc46 => ?_)
        · try simp only [Bool.or_eq_true, Bool.or_eq_false_iff, Bool.and_eq_true, Bool.and_eq_false_iff, decide_eq_true_eq, decide_eq_false_iff_not, Bool.not_eq_true', Bool.not_eq_false', Int.not_lt, Int.not_le, List.length_map] at hc46
          obtain ⟨x, hx⟩ : ∃ x, (lnS t)[k]? = some x := ⟨_, List.getElem?_eq_getElem (by omega)⟩
          refine W.skip ?_
          refine W.seq ?_
          refine W.block ?_
          refine W.reg ?_
          refine XOps.s rfl rfl rfl (Q.move_d rfl) ?_
          refine XOps.s rfl rfl rfl (Q.idx_sl sl35 (by decide) rfl rfl (by first | omega | (simp only [List.length_map]; omega)) (by first | exact hlast | exact map_at hx | exact map_at (hy (by first | omega | (simp at hg; omega))))) ?_
          refine XOps.s rfl rfl rfl (Q.ld_dp ag9 rfl rfl) ?_
          refine XOps.s rfl rfl rfl (Q.assign_d rfl) ?_
          refine XOps.s rfl rfl rfl (Q.assign_d rfl) ?_
          refine XOps.nil ?_
          refine W.reg ?_
          refine XOps.s rfl rfl rfl (Q.move_d rfl) ?_
          refine XOps.s rfl rfl rfl (Q.call rfl Tryd.func6 go6 rfl (parse_c x _ (by have := lnA_size (lnS_sub (List.mem_of_getElem? hx)); omega))) ?_
          refine XOps.s rfl rfl rfl (Q.move_tup rfl) ?_
          refine XOps.s rfl rfl rfl (Q.extract rfl rfl) ?_
          refine XOps.s rfl rfl rfl (Q.extract rfl rfl) ?_
          (refine XOps.loud rfl (L.alloc tz23 rfl rfl) ?_; rintro _ _ ⟨b9, rfl, rfl⟩)
          refine XOps.loud rfl (L.storen (k := 0) ag23 rfl rfl rfl rfl rfl) ?_
          rintro _ _ ⟨rfl, rfl⟩
          refine XOps.s rfl rfl rfl (Q.assign_d rfl) ?_
          refine XOps.nil ?_
          refine W.seq ?_
          refine W.reg ?_
          refine XOps.s rfl rfl rfl (Q.move_d rfl) ?_
          refine XOps.s rfl rfl rfl (Q.neq rfl rfl) ?_
          refine XOps.nil ?_
          refine W.cond rfl (fun hc56 => ?_) (fun hc56 => ?_)
          · try simp only [Bool.or_eq_true, Bool.or_eq_false_iff, Bool.and_eq_true, Bool.and_eq_false_iff, decide_eq_true_eq, decide_eq_false_iff_not, Bool.not_eq_true', Bool.not_eq_false', Int.not_lt, Int.not_le, List.length_map] at hc56
            have h56 : paE x ≠ 0 := by first | exact hc56 | (simpa using hc56)
            have hbd := sc_bad hx h56 (fun i y hi hy => hI i y hi hy)
            rw [hsm.1, hsm.2.1, hsm.2.2, hbd.1, hbd.2.1, hbd.2.2]
            refine W.reg ?_
            refine XOps.s rfl rfl rfl (Q.move_d rfl) ?_
            refine XOps.s rfl rfl rfl (Q.move_d rfl) ?_
            refine XOps.s rfl rfl rfl (Q.eql rfl rfl) ?_
            refine XOps.s rfl rfl rfl (Q.move_d rfl) ?_
            refine XOps.gs rfl rfl rfl rfl rfl rfl rfl (fun hg => Q.move_d rfl) ?_
            refine XOps.gs rfl rfl rfl rfl rfl rfl rfl (fun hg => Q.move_d rfl) ?_
            refine XOps.gs rfl rfl rfl rfl rfl rfl rfl (fun hg => Quiet.open 61 hg rfl (Quiet.open 62 hg rfl (Q.eql rfl rfl))) ?_
            refine XOps.s rfl rfl rfl (Q.pick_and rfl rfl rfl (fun h => by first | (rw [h]; rfl) | (rw [hg, h]; rfl) | (simp [h, hg]; done))) ?_
            refine XOps.s rfl rfl rfl (Q.move_d rfl) ?_
            refine XOps.gs rfl rfl rfl rfl rfl rfl rfl (fun hg => Q.move_d rfl) ?_
            refine XOps.gs rfl rfl rfl rfl rfl rfl rfl (fun hg => Quiet.open 66 hg rfl (Q.len_sl isl32 rfl)) ?_
            refine XOps.gs rfl rfl rfl rfl rfl rfl rfl (fun hg => Quiet.open 67 hg rfl (Q.eql rfl rfl)) ?_
            refine XOps.s rfl rfl rfl (Q.pick_and rfl rfl rfl (fun h => by first | (rw [h]; rfl) | (rw [hg, h]; rfl) | (simp [h, hg]; done))) ?_
            refine XOps.s rfl rfl rfl (Q.assign_d rfl) ?_
            refine XOps.nil ?_
            refine W.ret ?_
            refine ⟨_, _, rfl, HLe.refl _, ?_⟩
            show AV.d (.bool _) = _
            refine congrArg (fun b => AV.d (D.bool b)) ?_
            first | rfl | (simp; done) | (simp; omega)
          · try simp only [Bool.or_eq_true, Bool.or_eq_false_iff, Bool.and_eq_true, Bool.and_eq_false_iff, decide_eq_true_eq, decide_eq_false_iff_not, Bool.not_eq_true', Bool.not_eq_false', Int.not_lt, Int.not_le, List.length_map] at hc56
            have h56 : paE x = 0 := by first | exact hc56 | (simpa using hc56)
            obtain ⟨y, hy⟩ : ∃ y, k < (scrL t).length → (scrL t)[k]? = some y := by
              by_cases h : k < (scrL t).length
              · exact ⟨_, fun _ => List.getElem?_eq_getElem h⟩
              · exact ⟨CC.zero, fun h2 => absurd h2 h⟩
            refine W.skip ?_
            refine W.drawreg 16 follows (by kernel_rfl) ?_
            refine Chain.cons _ (GQ.q rfl (Q.move_d rfl)) rfl ?_
            refine Chain.cons _ (GQ.q rfl (Q.eql rfl rfl)) rfl ?_
            refine Chain.cons _ (GQ.q rfl (Q.move_d rfl)) rfl ?_
            refine Chain.cons _ (GQ.g rfl rfl rfl rfl rfl (fun hg => Q.move_d rfl)) rfl ?_
            refine Chain.cons _ (GQ.g rfl rfl rfl rfl rfl (fun hg => Q.move_d rfl)) rfl ?_
            refine Chain.cons _ (GQ.g rfl rfl rfl rfl rfl (fun hg => Quiet.open 74 hg rfl (Q.len_sl isl32 rfl))) rfl ?_
            refine Chain.cons _ (GQ.g rfl rfl rfl rfl rfl (fun hg => Quiet.open 73 hg rfl (Quiet.open 75 hg rfl (Q.geq rfl rfl)))) rfl ?_
            refine Chain.cons _ (GQ.g rfl rfl rfl rfl rfl (fun hg => Quiet.open 76 hg rfl (Q.move_d rfl))) rfl ?_
            refine Chain.cons _ (GQ.gw rfl rfl rfl rfl rfl (fun hg => Q.move_d rfl)) rfl ?_
            refine Chain.cons _ (GQ.gw rfl rfl rfl rfl rfl (fun hg => Q.move_d rfl)) rfl ?_
            refine Chain.cons _ (GQ.gw rfl rfl rfl rfl rfl (fun hg => Quiet.open 78 hg rfl (Quiet.open 79 hg rfl (Q.idx_sl sl32 (by decide) rfl rfl (by first | omega | (simp only [List.length_map]; omega)) (by first | exact hlast | exact map_at hx | exact map_at (hy (by first | omega | (simp at hg; omega)))))))) rfl ?_
            refine Chain.cons _ (GQ.gw rfl rfl rfl rfl rfl (fun hg => Quiet.open 80 hg rfl (Q.ld_dpn ag23 rfl rfl))) rfl ?_
            refine Chain.cons _ (GQ.gw rfl rfl rfl rfl rfl (fun hg => Q.ld_ptrn (k := 0) ag23 rfl rfl rfl)) rfl ?_
            refine Chain.cons _ (GQ.gw rfl rfl rfl rfl rfl (fun hg => Quiet.open 81 hg rfl (Quiet.open 82 hg rfl (Q.neq_agg eqt23 rfl rfl rfl rfl rfl)))) rfl ?_
            refine Chain.cons _ (GQ.g rfl rfl rfl rfl rfl (fun hg => Quiet.open 77 hg rfl (Q.pick_or rfl rfl rfl (fun h => by first | (rw [h]; rfl) | (rw [hg, h]; rfl) | (simp [h, hg]; done))))) rfl ?_
            refine Chain.cons _ (GQ.q rfl (Q.pick_and rfl rfl rfl (fun h => by first | (rw [h]; rfl) | (rw [hg, h]; rfl) | (simp [h, hg]; done)))) rfl ?_
            refine Chain.nil ?_
            refine XOps.nil ?_
            refine W.cond rfl (fun hc85 => ?_) (fun hc85 => ?_)
            · try simp only [Bool.or_eq_true, Bool.or_eq_false_iff, Bool.and_eq_true, Bool.and_eq_false_iff, decide_eq_true_eq, decide_eq_false_iff_not, Bool.not_eq_true', Bool.not_eq_false', Int.not_lt, Int.not_le, List.length_map] at hc85
              exfalso
              have hkl := (List.getElem?_eq_some_iff.1 hx).1
              have hz := sc_zero (ls := lnS t) (by rw [← hsm.1]; exact hc85.1)
              rw [← hsm.2.2] at hz
              have hzl : k < (scrL t).length := by rw [hz, List.length_map]; exact hkl
              have hy2 := hy hzl
              rw [hz, List.getElem?_map, hx] at hy2
              obtain rfl := Option.some.inj hy2
              rcases hc85.2 with h | h
              · omega
              · have hq := same_cc (paV x) (paV x)
                rw [decide_eq_true rfl] at hq
                exact absurd (show allD ((paV x).enc.take 4) ((paV x).enc.take 4) = false from h) (by rw [hq]; simp) --done
            · try simp only [Bool.or_eq_true, Bool.or_eq_false_iff, Bool.and_eq_true, Bool.and_eq_false_iff, decide_eq_true_eq, decide_eq_false_iff_not, Bool.not_eq_true', Bool.not_eq_false', Int.not_lt, Int.not_le, List.length_map] at hc85
              refine W.skip ?_
              refine W.region ?_
              refine XOps.s rfl rfl rfl (Q.add rfl rfl (wi64 (by first | omega | (dsimp only; omega) | (simp only [List.length_map]; omega)) (by first | omega | (dsimp only; omega) | (simp only [List.length_map]; omega)))) ?_
              refine XOps.s rfl rfl rfl (Q.move_d rfl) ?_
              refine XOps.nil ?_
              refine ⟨k + 1, ?_, ?_, ?_, ?_⟩
              · refine ⟨by have := (List.getElem?_eq_some_iff.1 hx).1; omega, fun i z hi hz => ?_⟩
                rcases Nat.lt_or_ge i k with h2 | h2
                · exact hI i z h2 hz
                · obtain rfl : i = k := by omega
                  rw [hx] at hz; obtain rfl := Option.some.inj hz; exact h56
              · omega
              · exact ⟨by first | rfl | exact int_eq (by omega) | exact len_eq (by simp) | exact int_eq (by simp; done), by first | rfl | exact int_eq (by omega) | exact len_eq (by simp) | exact int_eq (by simp; done), by first | rfl | exact int_eq (by omega) | exact len_eq (by simp) | exact int_eq (by simp; done), by first | rfl | exact int_eq (by omega) | exact len_eq (by simp) | exact int_eq (by simp; done), by first | rfl | exact int_eq (by omega) | exact len_eq (by simp) | exact int_eq (by simp; done), by first | rfl | exact int_eq (by omega) | exact len_eq (by simp) | exact int_eq (by simp; done), by first | rfl | exact int_eq (by omega) | exact len_eq (by simp) | exact int_eq (by simp; done), trivial⟩
              · first | exact HLe.skip _ (HLe.refl _) | exact HLe.refl _
        · try simp only [Bool.or_eq_true, Bool.or_eq_false_iff, Bool.and_eq_true, Bool.and_eq_false_iff, decide_eq_true_eq, decide_eq_false_iff_not, Bool.not_eq_true', Bool.not_eq_false', Int.not_lt, Int.not_le, List.length_map] at hc46
          have h46 : ¬ (k : Int) < (lnS t).length := by simpa using hc46
          have hgd := sc_good (ls := lnS t) (fun i y hy => hI i y (by have := (List.getElem?_eq_some_iff.1 hy).1; omega) hy)
          rw [hsm.1, hsm.2.1, hsm.2.2, hgd.1, hgd.2.1, hgd.2.2]
          refine W.exit ?_
          refine W.reg ?_
          refine XOps.s rfl rfl rfl (Q.move_d rfl) ?_
          refine XOps.s rfl rfl rfl (Q.eql rfl rfl) ?_
          refine XOps.s rfl rfl rfl (Q.move_d rfl) ?_
          refine XOps.gs rfl rfl rfl rfl rfl rfl rfl (fun hg => Q.move_d rfl) ?_
          refine XOps.gs rfl rfl rfl rfl rfl rfl rfl (fun hg => Quiet.open 90 hg rfl (Q.eql rfl rfl)) ?_
          refine XOps.s rfl rfl rfl (Q.pick_and rfl rfl rfl (fun h => by first | (rw [h]; rfl) | (rw [hg, h]; rfl) | (simp [h, hg]; done))) ?_
          refine XOps.s rfl rfl rfl (Q.move_d rfl) ?_
          refine XOps.gs rfl rfl rfl rfl rfl rfl rfl (fun hg => Q.move_d rfl) ?_
          refine XOps.gs rfl rfl rfl rfl rfl rfl rfl (fun hg => Quiet.open 94 hg rfl (Q.len_sl isl32 rfl)) ?_
          refine XOps.gs rfl rfl rfl rfl rfl rfl rfl (fun hg => Q.move_d rfl) ?_
          refine XOps.gs rfl rfl rfl rfl rfl rfl rfl (fun hg => Quiet.open 96 hg rfl (Q.len_sl isl35 rfl)) ?_
          refine XOps.gs rfl rfl rfl rfl rfl rfl rfl (fun hg => Quiet.open 95 hg rfl (Quiet.open 97 hg rfl (Q.eql rfl rfl))) ?_
          refine XOps.s rfl rfl rfl (Q.pick_and rfl rfl rfl (fun h => by first | (rw [h]; rfl) | (rw [hg, h]; rfl) | (simp [h, hg]; done))) ?_
          refine XOps.s rfl rfl rfl (Q.assign_d rfl) ?_
          refine XOps.nil ?_
          refine W.ret ?_
          refine ⟨_, _, rfl, HLe.refl _, ?_⟩
          show AV.d (.bool _) = _
          refine congrArg (fun b => AV.d (D.bool b)) ?_
          first | rfl | (simp; done) | (simp; omega)
end Go.Proofs.YtdddebheolmldaaDoorA
