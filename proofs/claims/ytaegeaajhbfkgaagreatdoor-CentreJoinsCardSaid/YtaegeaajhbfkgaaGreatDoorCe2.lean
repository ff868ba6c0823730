/- The law of joins. -/
import Derived.Test.YtaegeaajhbfkgaaGreatDoorFrB
import Derived.Test.YtaegeaajhbfkgaaGreatDoorCeX
import Derived.Test.YtaegeaajhbfkgaaGreatDoorCen10
set_option linter.unusedVariables false
set_option linter.unusedSimpArgs false
set_option linter.unnecessarySimpa false
namespace Go.Proofs.YtaegeaajhbfkgaaGreatDoorA.FCe2
open Go
theorem ag27 : tAgg P 27 = some ((true, 18)) := by kernel_rfl
theorem ag3 : tAgg P 3 = some ((false, 1)) := by kernel_rfl
theorem ag33 : tAgg P 33 = some ((false, 1)) := by kernel_rfl
theorem ag39 : tAgg P 39 = some ((false, 1)) := by kernel_rfl
theorem ag41 : tAgg P 41 = some ((true, 8)) := by kernel_rfl
theorem fl41_4 : tFld P 41 4 = some (4) := by kernel_rfl
theorem fl45_0 : tFld P 45 0 = some (0) := by kernel_rfl
theorem fl47_0 : tFld P 47 0 = some (0) := by kernel_rfl
theorem go11 : callGo Go.Proofs.Tryz.f11 = true := by kernel_rfl
theorem go12 : callGo Go.Proofs.Tryz.f12 = true := by kernel_rfl
theorem go14 : callGo Go.Proofs.Tryz.f14 = true := by kernel_rfl
theorem go15 : callGo Go.Proofs.Tryz.f15 = true := by kernel_rfl
theorem go16 : callGo Go.Proofs.Tryz.f16 = true := by kernel_rfl
theorem go17 : callGo Go.Proofs.Tryz.f17 = true := by kernel_rfl
theorem isl33 : isSl P 33 = true := by kernel_rfl
theorem isl37 : isSl P 37 = true := by kernel_rfl
theorem isl39 : isSl P 39 = true := by kernel_rfl
theorem sl33 : tSl P 33 = some (6) := by kernel_rfl
theorem sl37 : tSl P 37 = some (8) := by kernel_rfl
theorem sl39 : tSl P 39 = some (1) := by kernel_rfl
theorem tz41 : tZero P 41 = some ([.string ⟨#[]⟩, .int .i64 0, .int .i64 0, .bool false, .slice none 0 0, .slice none 0 0, .int .i64 0, .int .i64 0]) := by kernel_rfl
end Go.Proofs.YtaegeaajhbfkgaaGreatDoorA.FCe2
namespace Go.Proofs.YtaegeaajhbfkgaaGreatDoorA
open Go FCe2
attribute [local irreducible] XOps Quiet Loud W AC GQ DT
set_option maxHeartbeats 8000000 in
set_option maxRecDepth 100000 in
theorem joinsf_c (su : Su) (s : Stt) (x : CI) (e : Int) (b lb f gk gd : Nat) (H : Hp) (o : StOk su s) (jo : ∀ f ∈ s.fl, JoF f) : AC P 15 [.ptr b 0, .d (.agg x.enc), .d (.int .i64 e)] (ceH su s b lb f gk gd H) (fun r h => r = .d (.bool (true)) ∧ h = ceH su s b lb f gk gd H) := by
  have hfl := o.fw.len
  have hml : (s.fl.map Fl.enc).length = s.fl.length := List.length_map _
  refine AC.of 78 Tryz.func15 rfl rfl rfl ?_
  refine W.reg ?_
  refine XOps.loud rfl (L.boxn rfl rfl) ?_
  rintro _ _ ⟨b4, rfl, rfl⟩
  refine XOps.s rfl rfl rfl (Q.assign_d rfl) ?_
  refine XOps.nil ?_
  refine W.seq ?_
  refine W.reg ?_
  refine XOps.s rfl rfl rfl (Q.move_ptr rfl) ?_
  refine XOps.s rfl rfl rfl (Q.call rfl Tryz.func14 go14 rfl (flights_c su s.tm s.fl s.ow lb b 1 _ rfl o.fw.all (by have := o.fw.len; omega))) ?_
  refine XOps.s rfl rfl rfl (Q.len_sl isl37 rfl) ?_
  refine XOps.s rfl rfl rfl (Q.move_d rfl) ?_
  refine XOps.nil ?_
  refine W.block ?_
  refine W.loop (ι := Nat) (fun i => [(16, .d (.sl 8 (s.fl.map Fl.enc))), (17, .d (.int .i64 s.fl.length)), (18, .d (.int .i64 (i : Nat)))]) (fun i => ceH su s b lb f gk gd H) (fun i => i ≤ s.fl.length) (fun i => s.fl.length - i) 0 ?_ ?_ ?_ ?_
  · exact Nat.zero_le _
  · exact ⟨by first | rfl | exact int_eq (by omega) | exact len_eq (by simp) | exact int_eq (by simp; done), by exact int_eq (by rw [List.length_map]), by first | rfl | exact int_eq (by omega) | exact len_eq (by simp) | exact int_eq (by simp; done), trivial⟩
  · exact HLe.skip _ (HLe.refl _)
  · rintro i hi
    refine W.reg ?_
    refine XOps.s rfl rfl rfl (Q.lss rfl rfl) ?_
    refine XOps.nil ?_
    refine W.seq ?_
    refine W.cond rfl (fun hc19 => ?_) (fun hc19 => ?_)
    · try simp only [Bool.or_eq_true, Bool.or_eq_false_iff, Bool.and_eq_true, Bool.and_eq_false_iff, decide_eq_true_eq, decide_eq_false_iff_not, Bool.not_eq_true', Bool.not_eq_false', Int.not_lt, Int.not_le, List.length_map] at hc19
      obtain ⟨x, hx⟩ : ∃ x, s.fl[i]? = some x := ⟨_, List.getElem?_eq_getElem (by omega)⟩
      have hxm := List.mem_of_getElem? hx
      have okf := o.fw.all x hxm
      have hjo := jo x hxm
      have hlm : (x.legs.map tuR).length = x.legs.length := List.length_map _
      have hlz := okf.len
      refine W.skip ?_
      refine W.seq ?_
      refine W.block ?_
      refine W.reg ?_
      refine XOps.s rfl rfl rfl (Q.idx_sl sl37 (by decide) rfl rfl (by first | omega | (simp only [List.length_map]; omega)) (by first | exact map_at hx | exact hr1 | exact hr0 | exact ph)) ?_
      refine XOps.s rfl rfl rfl (Q.ld_dpn ag41 rfl rfl) ?_
      (refine XOps.loud rfl (L.alloc tz41 rfl rfl) ?_; rintro _ _ ⟨b8, rfl, rfl⟩)
      refine XOps.loud rfl (L.storen (k := 0) ag41 rfl rfl rfl rfl rfl) ?_
      rintro _ _ ⟨rfl, rfl⟩
      refine XOps.nil ?_
      refine W.reg ?_
      refine XOps.s rfl rfl rfl (Q.assign_d rfl) ?_
      refine XOps.nil ?_
      refine W.block ?_
      refine W.loop (ι := Nat) (fun k => [(8, .ptr b8 0), (9, .d (.int .i64 (k : Nat))), (16, .d (.sl 8 (s.fl.map Fl.enc))), (17, .d (.int .i64 s.fl.length)), (18, .d (.int .i64 (i : Nat)))]) (fun k => (b8, .cells (x.enc.map .d)) :: ceH su s b lb f gk gd H) (fun k => 1 ≤ k ∧ k ≤ 10) (fun k => x.legs.length - k) 1 ?_ ?_ ?_ ?_
      · exact ⟨Nat.le_refl _, by decide⟩
      · exact ⟨by first | rfl | exact int_eq (by omega) | exact len_eq (by simp) | exact int_eq (by simp; done), by first | rfl | exact int_eq (by omega) | exact len_eq (by simp) | exact int_eq (by simp; done), by first | rfl | exact int_eq (by omega) | exact len_eq (by simp) | exact int_eq (by simp; done), by first | rfl | exact int_eq (by omega) | exact len_eq (by simp) | exact int_eq (by simp; done), by first | rfl | exact int_eq (by omega) | exact len_eq (by simp) | exact int_eq (by simp; done), trivial⟩
      · exact HLe.refl _
      · rintro k ⟨hk, hk2⟩
        refine W.seq ?_
        refine W.reg ?_
        refine XOps.s rfl rfl rfl (Q.move_d rfl) ?_
        refine XOps.s rfl rfl rfl (Q.fld_ptr fl41_4 rfl) ?_
        refine XOps.s rfl rfl rfl (Q.ld_ptr (k := 0) ag39 rfl rfl rfl) ?_
        refine XOps.s rfl rfl rfl (Q.len_sl isl39 rfl) ?_
        refine XOps.s rfl rfl rfl (Q.lss rfl rfl) ?_
        refine XOps.nil ?_
        refine W.cond rfl (fun hc26 => ?_) (fun hc26 => ?_)
        · try simp only [Bool.or_eq_true, Bool.or_eq_false_iff, Bool.and_eq_true, Bool.and_eq_false_iff, decide_eq_true_eq, decide_eq_false_iff_not, Bool.not_eq_true', Bool.not_eq_false', Int.not_lt, Int.not_le, List.length_map] at hc26
          have h26 : (k : Int) < ((x.legs.length : Nat) : Int) := by first | exact hc26 | omega
          have g1 := legs_getD (show k < x.legs.length by omega)
          have g0 := legs_getD (show k - 1 < x.legs.length by omega)
          have hk1 := okf.legs _ (List.mem_of_getElem? g1)
          have hk0 := okf.legs _ (List.mem_of_getElem? g0)
          have hr1 : (x.legs.map tuR)[((k : Nat) : Int).toNat]? = some (tuR (x.legs.getD k [])) := by rw [Int.toNat_natCast, List.getElem?_map, g1]; rfl
          have hr0 : (x.legs.map tuR)[(((k : Nat) : Int) - 1).toNat]? = some (tuR (x.legs.getD (k - 1) [])) := by rw [show (((k : Nat) : Int) - 1).toNat = k - 1 by omega, List.getElem?_map, g0]; rfl
          have ph := hd_row hk1.ne
          have hl1 : (x.legs.getD k []).length ≠ 0 := fun h => hk1.ne (List.eq_nil_of_length_eq_zero h)
          have hlm1 : ((x.legs.getD k []).map Nd.enc).length = (x.legs.getD k []).length := List.length_map _
          have hj := hjo.legs (k - 1) (by omega)
          rw [show k - 1 + 1 = k by omega] at hj
          obtain ⟨j1, j2, j3⟩ := hj
          refine W.skip ?_
          refine W.seq ?_
          refine W.block ?_
          refine W.seq ?_
          refine W.reg ?_
          refine XOps.s rfl rfl rfl (Q.fld_ptr fl41_4 rfl) ?_
          refine XOps.s rfl rfl rfl (Q.ld_ptr (k := 0) ag39 rfl rfl rfl) ?_
          refine XOps.s rfl rfl rfl (Q.move_d rfl) ?_
          refine XOps.s rfl rfl rfl (Q.idx_sl sl39 (by decide) rfl rfl (by first | omega | (simp only [List.length_map]; omega)) (by first | exact map_at hx | exact hr1 | exact hr0 | exact ph)) ?_
          refine XOps.s rfl rfl rfl (Q.ld_dp ag33 rfl rfl) ?_
          refine XOps.s rfl rfl rfl (Q.len_sl isl33 rfl) ?_
          refine XOps.s rfl rfl rfl (Q.eql rfl rfl) ?_
          refine XOps.nil ?_
          refine W.cond rfl (fun hc35 => ?_) (fun hc35 => ?_)
          · try simp only [Bool.or_eq_true, Bool.or_eq_false_iff, Bool.and_eq_true, Bool.and_eq_false_iff, decide_eq_true_eq, decide_eq_false_iff_not, Bool.not_eq_true', Bool.not_eq_false', Int.not_lt, Int.not_le, List.length_map] at hc35
            exact absurd hc35 (by omega)
          · try simp only [Bool.or_eq_true, Bool.or_eq_false_iff, Bool.and_eq_true, Bool.and_eq_false_iff, decide_eq_true_eq, decide_eq_false_iff_not, Bool.not_eq_true', Bool.not_eq_false', Int.not_lt, Int.not_le, List.length_map] at hc35
            refine W.skip ?_
            refine W.reg ?_
            refine XOps.s rfl rfl rfl (Q.fld_ptr fl41_4 rfl) ?_
            refine XOps.s rfl rfl rfl (Q.ld_ptr (k := 0) ag39 rfl rfl rfl) ?_
            refine XOps.s rfl rfl rfl (Q.move_d rfl) ?_
            refine XOps.s rfl rfl rfl (Q.idx_sl sl39 (by decide) rfl rfl (by first | omega | (simp only [List.length_map]; omega)) (by first | exact map_at hx | exact hr1 | exact hr0 | exact ph)) ?_
            refine XOps.s rfl rfl rfl (Q.ld_dp ag33 rfl rfl) ?_
            refine XOps.s rfl rfl rfl (Q.idx_sl sl33 (by decide) rfl rfl (by first | omega | (simp only [List.length_map]; omega)) (by first | exact map_at hx | exact hr1 | exact hr0 | exact ph)) ?_
            refine XOps.s rfl rfl rfl (Q.fld_dp fl47_0 rfl) ?_
            refine XOps.s rfl rfl rfl (Q.fld_dp fl45_0 rfl) ?_
            refine XOps.s rfl rfl rfl (Q.ld_dp ag3 rfl rfl) ?_
            refine XOps.s rfl rfl rfl (Q.assign_d rfl) ?_
            refine XOps.nil ?_
            refine W.reg ?_
            refine XOps.s rfl rfl rfl (Q.fld_ptr fl41_4 rfl) ?_
            refine XOps.s rfl rfl rfl (Q.ld_ptr (k := 0) ag39 rfl rfl rfl) ?_
            refine XOps.s rfl rfl rfl (Q.move_d rfl) ?_
            refine XOps.s rfl rfl rfl (Q.sub rfl rfl (wi64 (by first | omega | (dsimp only; omega) | (simp only [List.length_map]; omega)) (by first | omega | (dsimp only; omega) | (simp only [List.length_map]; omega)))) ?_
            refine XOps.s rfl rfl rfl (Q.idx_sl sl39 (by decide) rfl rfl (by first | omega | (simp only [List.length_map]; omega)) (by first | exact map_at hx | exact hr1 | exact hr0 | exact ph)) ?_
            refine XOps.s rfl rfl rfl (Q.ld_dp ag33 rfl rfl) ?_
            refine XOps.s rfl rfl rfl (Q.move_d rfl) ?_
            refine XOps.s rfl rfl rfl (Q.move_d rfl) ?_
            refine XOps.s rfl rfl rfl (Q.call rfl Tryz.func16 go16 rfl (cut_c (x.legs.getD (k - 1) []) (hdT (x.legs.getD k [])) (hdT (x.legs.getD k [])) _ (by have := hk0.len; omega))) ?_
            refine XOps.s rfl rfl rfl (Q.move_tup rfl) ?_
            refine XOps.s rfl rfl rfl (Q.extract rfl rfl) ?_
            refine XOps.s rfl rfl rfl (Q.extract rfl rfl) ?_
            refine XOps.s rfl rfl rfl (Q.assign_d rfl) ?_
            refine XOps.s rfl rfl rfl (Q.assign_d rfl) ?_
            refine XOps.nil ?_
            refine W.reg ?_
            refine XOps.s rfl rfl rfl (Q.move_d rfl) ?_
            refine XOps.s rfl rfl rfl (Q.fld_ptr fl41_4 rfl) ?_
            refine XOps.s rfl rfl rfl (Q.ld_ptr (k := 0) ag39 rfl rfl rfl) ?_
            refine XOps.s rfl rfl rfl (Q.move_d rfl) ?_
            refine XOps.s rfl rfl rfl (Q.idx_sl sl39 (by decide) rfl rfl (by first | omega | (simp only [List.length_map]; omega)) (by first | exact map_at hx | exact hr1 | exact hr0 | exact ph)) ?_
            refine XOps.s rfl rfl rfl (Q.ld_dp ag33 rfl rfl) ?_
            refine XOps.s rfl rfl rfl (Q.call rfl Tryz.func17 go17 rfl (inside_c (CutV (x.legs.getD (k - 1) []) (hdT (x.legs.getD k [])) (hdT (x.legs.getD k []))) (x.legs.getD k []) _ (by have := CutV_len (x.legs.getD (k - 1) []) (hdT (x.legs.getD k [])) (hdT (x.legs.getD k [])); have := hk0.len; omega) (by have := hk1.len; omega))) ?_
            refine XOps.s rfl rfl rfl (Q.move_tup rfl) ?_
            refine XOps.s rfl rfl rfl (Q.extract rfl rfl) ?_
            refine XOps.s rfl rfl rfl (Q.extract rfl rfl) ?_
            refine XOps.s rfl rfl rfl (Q.assign_d rfl) ?_
            refine XOps.s rfl rfl rfl (Q.assign_d rfl) ?_
            refine XOps.nil ?_
            refine W.reg ?_
            refine XOps.s rfl rfl rfl (Q.move_d rfl) ?_
            refine XOps.s rfl rfl rfl (Q.neq rfl rfl) ?_
            refine XOps.s rfl rfl rfl (Q.move_d rfl) ?_
            refine XOps.gs rfl rfl rfl rfl rfl rfl rfl (fun hg => Q.move_d rfl) ?_
            refine XOps.gs rfl rfl rfl rfl rfl rfl rfl (fun hg => Quiet.open 70 hg rfl (Q.neq rfl rfl)) ?_
            refine XOps.s rfl rfl rfl (Q.pick_or rfl rfl rfl (fun h => by first | (rw [h]; rfl) | (rw [hg, h]; rfl) | (simp [h, hg]; done))) ?_
            refine XOps.s rfl rfl rfl (Q.move_d rfl) ?_
            refine XOps.gs rfl rfl rfl rfl rfl rfl rfl (fun hg => Q.move_d rfl) ?_
            refine XOps.gs rfl rfl rfl rfl rfl rfl rfl (fun hg => Quiet.open 74 hg rfl (Q.not rfl)) ?_
            refine XOps.s rfl rfl rfl (Q.pick_or rfl rfl rfl (fun h => by first | (rw [h]; rfl) | (rw [hg, h]; rfl) | (simp [h, hg]; done))) ?_
            refine XOps.nil ?_
            refine W.cond rfl (fun hc76 => ?_) (fun hc76 => ?_)
            · try simp only [Bool.or_eq_true, Bool.or_eq_false_iff, Bool.and_eq_true, Bool.and_eq_false_iff, decide_eq_true_eq, decide_eq_false_iff_not, Bool.not_eq_true', Bool.not_eq_false', Int.not_lt, Int.not_le, List.length_map] at hc76
              exfalso
              rw [j1, j2, j3] at hc76
              simp at hc76
              --done
            · try simp only [Bool.or_eq_true, Bool.or_eq_false_iff, Bool.and_eq_true, Bool.and_eq_false_iff, decide_eq_true_eq, decide_eq_false_iff_not, Bool.not_eq_true', Bool.not_eq_false', Int.not_lt, Int.not_le, List.length_map] at hc76
              refine W.skip ?_
              refine W.region ?_
              refine XOps.s rfl rfl rfl (Q.move_d rfl) ?_
              refine XOps.s rfl rfl rfl (Q.add rfl rfl (wi64 (by first | omega | (dsimp only; omega) | (simp only [List.length_map]; omega)) (by first | omega | (dsimp only; omega) | (simp only [List.length_map]; omega)))) ?_
              refine XOps.s rfl rfl rfl (Q.assign_d rfl) ?_
              refine XOps.nil ?_
              refine ⟨k + 1, ?_, ?_, ?_, ?_⟩
              · omega
              · omega
              · exact ⟨by first | rfl | exact int_eq (by omega) | exact len_eq (by simp) | exact int_eq (by simp; done), by first | rfl | exact int_eq (by omega) | exact len_eq (by simp) | exact int_eq (by simp; done), by first | rfl | exact int_eq (by omega) | exact len_eq (by simp) | exact int_eq (by simp; done), by first | rfl | exact int_eq (by omega) | exact len_eq (by simp) | exact int_eq (by simp; done), by first | rfl | exact int_eq (by omega) | exact len_eq (by simp) | exact int_eq (by simp; done), trivial⟩
              · exact HLe.refl _
        · try simp only [Bool.or_eq_true, Bool.or_eq_false_iff, Bool.and_eq_true, Bool.and_eq_false_iff, decide_eq_true_eq, decide_eq_false_iff_not, Bool.not_eq_true', Bool.not_eq_false', Int.not_lt, Int.not_le, List.length_map] at hc26
          refine W.exit ?_
          refine W.region ?_
          refine XOps.s rfl rfl rfl (Q.add rfl rfl (wi64 (by first | omega | (dsimp only; omega) | (simp only [List.length_map]; omega)) (by first | omega | (dsimp only; omega) | (simp only [List.length_map]; omega)))) ?_
          refine XOps.s rfl rfl rfl (Q.move_d rfl) ?_
          refine XOps.nil ?_
          refine ⟨i + 1, ?_, ?_, ?_, ?_⟩
          · omega
          · omega
          · exact ⟨by first | rfl | exact int_eq (by omega) | exact len_eq (by simp) | exact int_eq (by simp; done), by first | rfl | exact int_eq (by omega) | exact len_eq (by simp) | exact int_eq (by simp; done), by first | rfl | exact int_eq (by omega) | exact len_eq (by simp) | exact int_eq (by simp; done), trivial⟩
          · exact HLe.skip _ (HLe.refl _)
    · try simp only [Bool.or_eq_true, Bool.or_eq_false_iff, Bool.and_eq_true, Bool.and_eq_false_iff, decide_eq_true_eq, decide_eq_false_iff_not, Bool.not_eq_true', Bool.not_eq_false', Int.not_lt, Int.not_le, List.length_map] at hc19
      refine W.exit ?_
      refine W.reg ?_
      refine XOps.s rfl rfl rfl (Q.assign_d rfl) ?_
      refine XOps.nil ?_
      refine W.ret ?_
      exact ⟨_, ceH su s b lb f gk gd H, rfl, HLe.refl _, rfl, rfl⟩
set_option maxHeartbeats 1000000 in
set_option maxRecDepth 100000 in
theorem joins1 (su : Su) (xs : List CI) (gk gd : Nat) (hs : Hp) (hx : ∀ x ∈ xs, CiS x) (hlen : xs.length ≤ 4611686018427387904) (h0 : suC su = 0) : AC P 4 [.d (.agg su.enc), .d (.sl 9 (xs.map CI.enc))] ((gk, kiG) :: (gd, p10G) :: hs) (fun r h => r = .d (.bool (true))) := by
  refine AC.of 11 Tryz.func4 rfl rfl rfl ?_
  refine W.reg ?_
  refine XOps.loud rfl (L.boxn rfl rfl) ?_
  rintro _ _ ⟨b2, rfl, rfl⟩
  refine XOps.s rfl rfl rfl (Q.assign_d rfl) ?_
  refine XOps.nil ?_
  refine W.reg ?_
  (refine XOps.loud rfl (L.call rfl Tryz.func11 go11 rfl (AC.le (fact_c gk gd ((b2, .cells (su.enc.map .d)) :: hs)) (HLe.pick 1 rfl rfl (HLe.pick 1 rfl rfl (HLe.refl _)))) rfl) ?_; rintro _ _ ⟨_, rfl, rfl, rfl⟩)
  refine XOps.s rfl rfl rfl (Q.move_d rfl) ?_
  refine XOps.gs rfl rfl rfl rfl rfl rfl rfl (fun hg => Q.ld_ptrn (k := 2) ag27 rfl rfl rfl) ?_
  refine XOps.gs rfl rfl rfl rfl rfl rfl rfl (fun hg => Q.move_d rfl) ?_
  refine XOps.gl (.d (.bool false)) rfl rfl rfl rfl rfl rfl (fun hg => Loud.open 7 hg rfl (Loud.open 8 hg rfl (L.call rfl Tryz.func12 go12 rfl (AC.le (run_c su xs 15 _ Tryz.func15 go15 [] (fun _ H => H = hs) gk gd hs h0 hx hlen rfl (fun k x b lb f H hk hxk hJ => (joinsf_c su (atS su xs (k + 1)) x _ b lb f gk gd H (atS_ok h0 xs (k + 1)) (atS_jo h0 xs (k + 1))).mono fun r h ⟨h1, h2⟩ => ⟨h1, H, hJ, h2⟩)) (HLe.cons _ (HLe.cons _ (HLe.skip _ (HLe.refl _))))) rfl))) (fun hg => ?_) (fun hg => ?_)
  · rintro _ _ ⟨rfl, H2, hJ, rfl⟩
    have hgt : _ = true := hg
    refine XOps.s rfl rfl rfl (Q.pick_and rfl rfl rfl (fun h => by first | (rw [h]; rfl) | (rw [hg, h]; rfl) | (simp [h, hg]; done))) ?_
    refine XOps.s rfl rfl rfl (Q.assign_d rfl) ?_
    refine XOps.nil ?_
    refine W.ret ?_
    exact ⟨_, _, rfl, HLe.refl _, rfl⟩
  · have hgf : _ = false := hg
    exact absurd hgf (by decide) --done
set_option maxHeartbeats 1000000 in
set_option maxRecDepth 100000 in
theorem joins2 (su : Su) (xs : List CI) (gk gd : Nat) (hs : Hp) (hx : ∀ x ∈ xs, CiS x) (hlen : xs.length ≤ 4611686018427387904) (h0 : suC su ≠ 0) : AC P 4 [.d (.agg su.enc), .d (.sl 9 (xs.map CI.enc))] ((gk, kiG) :: (gd, p10G) :: hs) (fun r h => r = .d (.bool (true))) := by
  refine AC.of 11 Tryz.func4 rfl rfl rfl ?_
  refine W.reg ?_
  refine XOps.loud rfl (L.boxn rfl rfl) ?_
  rintro _ _ ⟨b2, rfl, rfl⟩
  refine XOps.s rfl rfl rfl (Q.assign_d rfl) ?_
  refine XOps.nil ?_
  refine W.reg ?_
  (refine XOps.loud rfl (L.call rfl Tryz.func11 go11 rfl (AC.le (fact_c gk gd ((b2, .cells (su.enc.map .d)) :: hs)) (HLe.pick 1 rfl rfl (HLe.pick 1 rfl rfl (HLe.refl _)))) rfl) ?_; rintro _ _ ⟨_, rfl, rfl, rfl⟩)
  refine XOps.s rfl rfl rfl (Q.move_d rfl) ?_
  refine XOps.gs rfl rfl rfl rfl rfl rfl rfl (fun hg => Q.ld_ptrn (k := 2) ag27 rfl rfl rfl) ?_
  refine XOps.gs rfl rfl rfl rfl rfl rfl rfl (fun hg => Q.move_d rfl) ?_
  refine XOps.gl (.d (.bool false)) rfl rfl rfl rfl rfl rfl (fun hg => Loud.open 7 hg rfl (Loud.open 8 hg rfl (L.call rfl Tryz.func12 go12 rfl (runx_c su xs (.fn 15 []) _ h0) rfl))) (fun hg => ?_) (fun hg => ?_)
  · rintro _ _ ⟨rfl, rfl⟩
    have hgt : _ = true := hg
    refine XOps.s rfl rfl rfl (Q.pick_and rfl rfl rfl (fun h => by first | (rw [h]; rfl) | (rw [hg, h]; rfl) | (simp [h, hg]; done))) ?_
    refine XOps.s rfl rfl rfl (Q.assign_d rfl) ?_
    refine XOps.nil ?_
    refine W.ret ?_
    exact ⟨_, _, rfl, HLe.refl _, rfl⟩
  · have hgf : _ = false := hg
    exact absurd hgf (by decide) --done
theorem joins_c (su : Su) (xs : List CI) (gk gd : Nat) (hs : Hp) (hx : ∀ x ∈ xs, CiS x) (hlen : xs.length ≤ 4611686018427387904) : AC P 4 [.d (.agg su.enc), .d (.sl 9 (xs.map CI.enc))] ((gk, kiG) :: (gd, p10G) :: hs) (fun r h => r = .d (.bool (true))) := by
  by_cases h : suC su = 0
  · exact joins1 su xs gk gd hs hx hlen h
  · exact joins2 su xs gk gd hs hx hlen h
end Go.Proofs.YtaegeaajhbfkgaaGreatDoorA

