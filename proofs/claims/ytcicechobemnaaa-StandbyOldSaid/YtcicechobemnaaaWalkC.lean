/- standbyFact, play, the laws StandbyKeeps and StandbyFollows. -/
import Derived.Test.YtcicechobemnaaaBase
import Derived.Test.YtcicechobemnaaaWalkB
set_option linter.unusedVariables false
set_option linter.unusedSimpArgs false
set_option linter.unnecessarySimpa false
namespace Go.Proofs.YtcicechobemnaaaA.FWalkC
open Go
theorem ag3 : tAgg P 3 = some ((false, 1)) := by kernel_rfl
theorem go12 : callGo Go.Proofs.Try.f12 = true := by kernel_rfl
theorem go13 : callGo Go.Proofs.Try.f13 = true := by kernel_rfl
theorem go17 : callGo Go.Proofs.Try.f17 = true := by kernel_rfl
theorem go19 : callGo Go.Proofs.Try.f19 = true := by kernel_rfl
theorem go20 : callGo Go.Proofs.Try.f20 = true := by kernel_rfl
theorem go21 : callGo Go.Proofs.Try.f21 = true := by kernel_rfl
theorem go22 : callGo Go.Proofs.Try.f22 = true := by kernel_rfl
theorem go25 : callGo Go.Proofs.Try.f25 = true := by kernel_rfl
theorem go26 : callGo Go.Proofs.Try.f26 = true := by kernel_rfl
theorem go27 : callGo Go.Proofs.Try.f27 = true := by kernel_rfl
theorem go28 : callGo Go.Proofs.Try.f28 = true := by kernel_rfl
theorem go29 : callGo Go.Proofs.Try.f29 = true := by kernel_rfl
theorem go7 : callGo Go.Proofs.Try.f7 = true := by kernel_rfl
theorem ipt23 : isPtr P 23 = true := by kernel_rfl
theorem isl22 : isSl P 22 = true := by kernel_rfl
theorem isl33 : isSl P 33 = true := by kernel_rfl
theorem sl22 : tSl P 22 = some (1) := by kernel_rfl
theorem sl26 : tSl P 26 = some (1) := by kernel_rfl
theorem zr26 : tZrow P 26 = some ([.string ⟨#[]⟩]) := by kernel_rfl
theorem zrd26 : cellsD [.string ⟨#[]⟩] = some ([.str ⟨#[]⟩]) := rfl
end Go.Proofs.YtcicechobemnaaaA.FWalkC
namespace Go.Proofs.YtcicechobemnaaaA
open Go FWalkC
set_option maxHeartbeats 1000000 in
set_option maxRecDepth 100000 in
theorem fact_c (hs : Hp) : AC P 8 [] hs (fun r h => r = .d (.bool true) ∧ h = hs) := by
  refine AC.of 43 Try.func8 rfl rfl rfl ?_
  refine W.reg ?_
  refine XOps.s rfl rfl rfl (Q.assign_d rfl) ?_
  refine XOps.nil ?_
  refine W.reg ?_
  (refine XOps.loud rfl (L.call rfl Try.func7 go7 rfl (new_c hs) rfl) ?_; rintro _ _ ⟨_, rfl, b, f, s, w, rfl, rfl⟩)
  refine XOps.s rfl rfl rfl (Q.assign_ptr rfl) ?_
  refine XOps.nil ?_
  refine W.seq ?_
  refine W.reg ?_
  refine XOps.s rfl rfl rfl (Q.move_ptr rfl) ?_
  refine XOps.s rfl rfl rfl (Q.eql_ptr ipt23 rfl rfl) ?_
  refine XOps.nil ?_
  refine W.cond rfl (fun hc8 => ?_) (fun hc8 => ?_)
  · try simp only [Bool.or_eq_true, Bool.or_eq_false_iff, Bool.and_eq_true, Bool.and_eq_false_iff, decide_eq_true_eq, decide_eq_false_iff_not, Bool.not_eq_true', Bool.not_eq_false', Int.not_lt, Int.not_le, List.length_map] at hc8
    exact absurd hc8 (by simp)
  · try simp only [Bool.or_eq_true, Bool.or_eq_false_iff, Bool.and_eq_true, Bool.and_eq_false_iff, decide_eq_true_eq, decide_eq_false_iff_not, Bool.not_eq_true', Bool.not_eq_false', Int.not_lt, Int.not_le, List.length_map] at hc8
    refine W.skip ?_
    refine W.reg ?_
    refine XOps.s rfl rfl rfl (Q.move_ptr rfl) ?_
    (refine XOps.loud rfl (L.call rfl Try.func26 go26 rfl (submit_c b ps0 f s w nmX hs (ps0_ok.mono (by decide))) rfl) ?_; rintro _ _ ⟨_, rfl, f2, w2, rfl, rfl⟩)
    refine XOps.s rfl rfl rfl (Q.move_tup rfl) ?_
    refine XOps.s rfl rfl rfl (Q.extract rfl rfl) ?_
    refine XOps.s rfl rfl rfl (Q.extract rfl rfl) ?_
    refine XOps.s rfl rfl rfl (Q.assign_d rfl) ?_
    refine XOps.s rfl rfl rfl (Q.assign_d rfl) ?_
    refine XOps.nil ?_
    refine W.reg ?_
    refine XOps.s rfl rfl rfl (Q.move_ptr rfl) ?_
    refine XOps.loud rfl (L.call rfl Try.func22 go22 rfl (deliver_c b fx1 f2 s w2 0 hs fx1_ok) rfl) ?_
    rintro _ _ ⟨_, rfl, s3, w3, rfl, rfl⟩
    refine XOps.s rfl rfl rfl (Q.move_ptr rfl) ?_
    refine XOps.loud rfl (L.call rfl Try.func22 go22 rfl (deliver_c b fx2 f2 s3 w3 0 hs fx2_ok) rfl) ?_
    rintro _ _ ⟨_, rfl, s4, w4, rfl, rfl⟩
    refine XOps.s rfl rfl rfl (Q.assign_d rfl) ?_
    refine XOps.s rfl rfl rfl (Q.assign_d rfl) ?_
    refine XOps.nil ?_
    refine W.reg ?_
    refine XOps.s rfl rfl rfl (Q.move_d rfl) ?_
    refine XOps.s rfl rfl rfl (Q.eql rfl rfl) ?_
    refine XOps.s rfl rfl rfl (Q.move_d rfl) ?_
    refine XOps.gs rfl rfl rfl rfl rfl rfl rfl (fun hg => Q.move_d rfl) ?_
    refine XOps.gs rfl rfl rfl rfl rfl rfl rfl (fun hg => Quiet.open 21 hg rfl (Q.eql rfl rfl)) ?_
    refine XOps.s rfl rfl rfl (Q.pick_and rfl rfl rfl (fun h => by first | (rw [h]; rfl) | (rw [hg, h]; rfl) | (simp [h, hg]; done))) ?_
    refine XOps.s rfl rfl rfl (Q.move_d rfl) ?_
    refine XOps.gs rfl rfl rfl rfl rfl rfl rfl (fun hg => Q.move_d rfl) ?_
    refine XOps.gs rfl rfl rfl rfl rfl rfl rfl (fun hg => Quiet.open 25 hg rfl (Q.eql rfl rfl)) ?_
    refine XOps.s rfl rfl rfl (Q.pick_and rfl rfl rfl (fun h => by first | (rw [h]; rfl) | (rw [hg, h]; rfl) | (simp [h, hg]; done))) ?_
    refine XOps.s rfl rfl rfl (Q.move_d rfl) ?_
    refine XOps.gs rfl rfl rfl rfl rfl rfl rfl (fun hg => Q.move_d rfl) ?_
    refine XOps.gs rfl rfl rfl rfl rfl rfl rfl (fun hg => Quiet.open 29 hg rfl (Q.eql rfl rfl)) ?_
    refine XOps.s rfl rfl rfl (Q.pick_and rfl rfl rfl (fun h => by first | (rw [h]; rfl) | (rw [hg, h]; rfl) | (simp [h, hg]; done))) ?_
    refine XOps.s rfl rfl rfl (Q.move_d rfl) ?_
    refine XOps.gs rfl rfl rfl rfl rfl rfl rfl (fun hg => Q.move_ptr rfl) ?_
    refine XOps.gs rfl rfl rfl rfl rfl rfl rfl (fun hg => Quiet.open 33 hg rfl (Q.call rfl Try.func12 go12 rfl (ans_c b fx3 f2 s4 w4 hs))) ?_
    refine XOps.gs rfl rfl rfl rfl rfl rfl rfl (fun hg => Quiet.open 34 hg rfl (Q.eql rfl rfl)) ?_
    refine XOps.s rfl rfl rfl (Q.pick_and rfl rfl rfl (fun h => by first | (rw [h]; rfl) | (rw [hg, h]; rfl) | (simp [h, hg]; done))) ?_
    refine XOps.s rfl rfl rfl (Q.move_d rfl) ?_
    refine XOps.gs rfl rfl rfl rfl rfl rfl rfl (fun hg => Q.move_ptr rfl) ?_
    refine XOps.gs rfl rfl rfl rfl rfl rfl rfl (fun hg => Quiet.open 38 hg rfl (Q.call rfl Try.func17 go17 rfl (standby_c b fx3 f2 s4 w4 hs (by have := fx3_ok.le; have := fx3_ok.len; omega)))) ?_
    refine XOps.gs rfl rfl rfl rfl rfl rfl rfl (fun hg => Q.bsl1 sl26 zr26 rfl zrd26 rfl rfl) ?_
    refine XOps.gs rfl rfl rfl rfl rfl rfl rfl (fun hg => Quiet.open 39 hg rfl (Quiet.open 40 hg rfl (Q.call rfl Try.func13 go13 rfl (equalS_c fx3.second [nmX] _ (by have := fx3_ok.le; have := fx3_ok.len; omega))))) ?_
    refine XOps.s rfl rfl rfl (Q.pick_and rfl rfl rfl (fun h => by first | (rw [h]; rfl) | (rw [hg, h]; rfl) | (simp [h, hg]; done))) ?_
    refine XOps.s rfl rfl rfl (Q.assign_d rfl) ?_
    refine XOps.nil ?_
    refine W.ret ?_
    refine ⟨_, hs, rfl, HLe.skip _ (HLe.skip _ (HLe.skip _ (HLe.skip _ (HLe.refl _)))), ?_, rfl⟩
    obtain ⟨h1, h2, h3, h4, h5, h6⟩ := fact_v
    rw [h1, h2, h3, h4, h5, h6]
    rfl

theorem eN_size {n : Nat} (h : n < 80) : (eName n).size ≤ 9 := by have h2 := itoaS_small n h; unfold eName; rw [ByteArray.size_append]; have h1 : (⟨#[101]⟩ : ByteArray).size = 1 := rfl; omega

set_option maxHeartbeats 1000000 in
set_option maxRecDepth 100000 in
theorem play_c {G : Type} {fc : Func} (H : G → Hp) (J K : Nat → PS → G → Prop) (fi : Nat) (caps : List AV) (b f s w : Nat) (l : List Int) (g0 : G) (hL : l.length ≤ 140737488351232) (hf : P.funcs[fi]? = some fc) (hg : callGo fc = true)
    (hcb : ∀ n p f s w g, p.ok 100 → J n p g → AC P fi caps (prH b p f s w (H g)) (fun r h => r = .d (.bool true) ∧ ∃ g', K n p g' ∧ h = prH b p f s w (H g')))
    (hstep : ∀ n p c g, p.ok 100 → K n p g → J (n + 1) (plStep p c) g) (h0 : K 0 ps0 g0) :
    AC P 9 [.ptr b 0, .d (slN l), .fn fi caps] (prH b ps0 f s w (H g0)) (fun r h => r = .d (.bool true) ∧ ∃ f s w g, K (min l.length 40) (plN l (min l.length 40)) g ∧ h = prH b (plN l (min l.length 40)) f s w (H g)) := by
  refine AC.of 71 Try.func9 rfl rfl rfl ?_
  refine W.reg ?_
  refine XOps.s rfl rfl rfl (Q.assign_d rfl) ?_
  refine XOps.nil ?_
  refine W.seq ?_
  refine W.reg ?_
  refine XOps.s rfl rfl rfl (Q.move_d rfl) ?_
  refine XOps.s rfl rfl rfl (Q.move_d rfl) ?_
  refine XOps.s rfl rfl rfl (Q.len_sl isl22 rfl) ?_
  refine XOps.s rfl rfl rfl (Q.mini rfl rfl) ?_
  refine XOps.s rfl rfl rfl (Q.cut_slm sl22 rfl rfl rfl (by omega) (by omega) (by simp; omega)) ?_
  refine XOps.s rfl rfl rfl (Q.len_sl isl22 rfl) ?_
  refine XOps.s rfl rfl rfl (Q.move_d rfl) ?_
  refine XOps.nil ?_
  refine W.block ?_
  refine W.loop (ι := Nat × Nat × Nat × Nat × G) (fun p => [(0, .ptr b 0), (2, .fn fi caps), (15, .d (.sl 1 ((l.take (min l.length 40)).map nE))), (16, .d (.int .i64 (min l.length 40 : Nat))), (17, .d (.int .i64 (p.1 : Nat)))]) (fun p => prH b (plN l p.1) p.2.1 p.2.2.1 p.2.2.2.1 (H p.2.2.2.2)) (fun p => p.1 ≤ min l.length 40 ∧ K p.1 (plN l p.1) p.2.2.2.2) (fun p => min l.length 40 - p.1) (0, f, s, w, g0) ?_ ?_ ?_ ?_
  · exact ⟨Nat.zero_le _, h0⟩
  · exact ⟨by first | rfl | exact int_eq (by omega) | exact len_eq (by simp) | exact int_eq (by simp; done), by first | rfl | exact int_eq (by omega) | exact len_eq (by simp) | exact int_eq (by simp; done), by exact congrArg (fun z => AV.d (.sl 1 z)) (cutN (n := 40)), by exact len_eq (by simp; omega), by first | rfl | exact int_eq (by omega) | exact len_eq (by simp) | exact int_eq (by simp; done), trivial⟩
  · exact HLe.refl _
  · rintro ⟨k, f, s, w, g⟩ hI
    try dsimp only at hI ⊢
    refine W.reg ?_
    refine XOps.s rfl rfl rfl (Q.lss rfl rfl) ?_
    refine XOps.nil ?_
    refine W.seq ?_
    refine W.cond rfl (fun hc18 => ?_) (fun hc18 => ?_)
    · try simp only [Bool.or_eq_true, Bool.or_eq_false_iff, Bool.and_eq_true, Bool.and_eq_false_iff, decide_eq_true_eq, decide_eq_false_iff_not, Bool.not_eq_true', Bool.not_eq_false', Int.not_lt, Int.not_le, List.length_map] at hc18
      obtain ⟨x, hx⟩ : ∃ x, (l.take (min l.length 40))[k]? = some x := ⟨_, List.getElem?_eq_getElem (by simp; omega)⟩
      have hgd : l.getD k 0 = x := by rw [List.getElem?_take] at hx; split at hx <;> first | (cases hx; done) | simp [List.getD_eq_getElem?_getD, hx]
      have hok := (plN_ok l k).mono (show k ≤ 100 by omega)
      have hok1 := (plN_ok l (k + 1)).mono (show k + 1 ≤ 100 by omega)
      have hcb0 := cutI_bounds x (show (0 : Int) ≤ 79 by decide)
      have hst : plN l (k + 1) = plStep (plN l k) (cutI x 0 79) := by rw [plN, hgd]
      obtain ⟨cn, hcn⟩ : ∃ cn : Nat, cutI x 0 79 = cn := ⟨(cutI x 0 79).toNat, by omega⟩
      rw [hcn] at hst hcb0
      have hJ := hstep k _ cn g hok hI.2
      rw [← hst] at hJ
      unfold plStep at hst
      refine W.skip ?_
      refine W.seq ?_
      refine W.block ?_
      refine W.reg ?_
      refine XOps.s rfl rfl rfl (Q.idx_sl sl22 (by decide) rfl rfl (by omega) (by exact map_at hx)) ?_
      refine XOps.s rfl rfl rfl (Q.ld_dp ag3 rfl rfl) ?_
      refine XOps.s rfl rfl rfl (Q.assign_d rfl) ?_
      refine XOps.nil ?_
      refine W.reg ?_
      refine XOps.s rfl rfl rfl (Q.move_d rfl) ?_
      refine XOps.s rfl rfl rfl (Q.call rfl Try.func27 go27 rfl (cut_c x 0 79 _ (by decide) (by decide) (by decide))) ?_
      refine XOps.s rfl rfl rfl (Q.assign_d rfl) ?_
      refine XOps.nil ?_
      rw [hcn]
      refine W.reg ?_
      refine XOps.s rfl rfl rfl (Q.move_d rfl) ?_
      refine XOps.s rfl rfl rfl (Q.quo rfl rfl (by decide) (wquo (by omega) (by omega) (by omega))) ?_
      refine XOps.s rfl rfl rfl (Q.assign_d rfl) ?_
      refine XOps.nil ?_
      refine W.seq ?_
      refine W.reg ?_
      refine XOps.s rfl rfl rfl (Q.move_ptr rfl) ?_
      refine XOps.s rfl rfl rfl (Q.call rfl Try.func19 go19 rfl (wire_c b (plN l k) f s w _ (by have := hok.wl; omega))) ?_
      refine XOps.s rfl rfl rfl (Q.len_sl isl33 rfl) ?_
      refine XOps.s rfl rfl rfl (Q.assign_d rfl) ?_
      refine XOps.nil ?_
      refine W.reg ?_
      refine XOps.s rfl rfl rfl (Q.move_d rfl) ?_
      refine XOps.s rfl rfl rfl (Q.gtr rfl rfl) ?_
      refine XOps.nil ?_
      refine W.cond rfl (fun hc29 => ?_) (fun hc29 => ?_)
      · try simp only [Bool.or_eq_true, Bool.or_eq_false_iff, Bool.and_eq_true, Bool.and_eq_false_iff, decide_eq_true_eq, decide_eq_false_iff_not, Bool.not_eq_true', Bool.not_eq_false', Int.not_lt, Int.not_le, List.length_map] at hc29
        obtain ⟨kk, hkk⟩ : ∃ kk : Int, kk = (cn : Int) / 10 % ((plN l k).wire.length : Nat) := ⟨_, rfl⟩
        have hpk : plK (plN l k) cn = kk := by unfold plK; rw [if_pos (by omega), hkk]
        rw [hpk] at hst
        refine W.region ?_
        refine XOps.s rfl rfl rfl (Q.move_d rfl) ?_
        refine XOps.s rfl rfl rfl (Q.move_d rfl) ?_
        refine XOps.s rfl rfl rfl (Q.rem rfl rfl (by simp only [List.length_map]; omega) (wrem (by omega))) ?_
        refine XOps.s rfl rfl rfl (Q.assign_d rfl) ?_
        refine XOps.nil ?_
        try rw [List.length_map]
        rw [show (cn : Int) / 10 % ((plN l k).wire.length : Nat) = kk from hkk.symm]
        refine W.seq ?_
        try rw [show (cn : Int) / 10 = kk from hkk.symm]
        refine W.reg ?_
        refine XOps.s rfl rfl rfl (Q.move_d rfl) ?_
        refine XOps.s rfl rfl rfl (Q.rem rfl rfl (by decide) (wrem (by omega))) ?_
        refine XOps.nil ?_
        refine W.block ?_
        refine W.seq ?_
        refine W.reg ?_
        refine XOps.s rfl rfl rfl (Q.eql rfl rfl) ?_
        refine XOps.s rfl rfl rfl (Q.assign_d rfl) ?_
        refine XOps.nil ?_
        refine W.cond rfl (fun hc38 => ?_) (fun hc38 => ?_)
        · try simp only [Bool.or_eq_true, Bool.or_eq_false_iff, Bool.and_eq_true, Bool.and_eq_false_iff, decide_eq_true_eq, decide_eq_false_iff_not, Bool.not_eq_true', Bool.not_eq_false', Int.not_lt, Int.not_le, List.length_map] at hc38
          refine W.skip ?_
          refine W.cond rfl (fun hc38 => ?_) (fun hc38 => ?_)
          · try simp only [Bool.or_eq_true, Bool.or_eq_false_iff, Bool.and_eq_true, Bool.and_eq_false_iff, decide_eq_true_eq, decide_eq_false_iff_not, Bool.not_eq_true', Bool.not_eq_false', Int.not_lt, Int.not_le, List.length_map] at hc38
            rw [if_pos (by omega)] at hst
            refine W.region ?_
            refine XOps.s rfl rfl rfl (Q.move_ptr rfl) ?_
            refine XOps.s rfl rfl rfl (Q.move_d rfl) ?_
            refine XOps.s rfl rfl rfl (Q.call rfl Try.func28 go28 rfl (itoa_c cn _ (by omega) (by have := itoaS_small cn (by omega); omega))) ?_
            refine XOps.s rfl rfl rfl (Q.adds rfl rfl (by have := itoaS_small cn (by omega); have h1 : (⟨#[101]⟩ : ByteArray).size = 1 := rfl; omega)) ?_
            (refine XOps.loud rfl (L.call rfl Try.func26 go26 rfl (submit_c b (plN l k) f s w (eName cn) _ hok) rfl) ?_; rintro _ _ ⟨_, rfl, f2, w2, rfl, rfl⟩)
            refine XOps.nil ?_
            refine W.heap (prH b (plN l (k + 1)) f2 s w2 (H g)) (by rw [hst]; exact HLe.refl _) ?_
            refine W.reg ?_
            refine XOps.s rfl rfl rfl (Q.move_fn rfl) ?_
            (refine XOps.loud rfl (L.call rfl hf hg rfl (hcb (k + 1) (plN l (k + 1)) _ _ _ g hok1 hJ) rfl) ?_; rintro _ _ ⟨_, rfl, rfl, g2, hK2, rfl⟩)
            refine XOps.s rfl rfl rfl (Q.not rfl) ?_
            refine XOps.nil ?_
            refine W.cond rfl (fun hc69 => ?_) (fun hc69 => ?_)
            · try simp only [Bool.or_eq_true, Bool.or_eq_false_iff, Bool.and_eq_true, Bool.and_eq_false_iff, decide_eq_true_eq, decide_eq_false_iff_not, Bool.not_eq_true', Bool.not_eq_false', Int.not_lt, Int.not_le, List.length_map] at hc69
              exact absurd hc69 (by simp)
            · try simp only [Bool.or_eq_true, Bool.or_eq_false_iff, Bool.and_eq_true, Bool.and_eq_false_iff, decide_eq_true_eq, decide_eq_false_iff_not, Bool.not_eq_true', Bool.not_eq_false', Int.not_lt, Int.not_le, List.length_map] at hc69
              refine W.skip ?_
              refine W.region ?_
              refine XOps.s rfl rfl rfl (Q.add rfl rfl (wi64 (by first | omega | (dsimp only; omega) | (simp only [List.length_map]; omega)) (by first | omega | (dsimp only; omega) | (simp only [List.length_map]; omega)))) ?_
              refine XOps.s rfl rfl rfl (Q.move_d rfl) ?_
              refine XOps.nil ?_
              refine ⟨(k + 1, f2, s, w2, g2), ?_, ?_, ?_, ?_⟩
              · exact ⟨by dsimp only; omega, hK2⟩
              · dsimp only; omega
              · exact ⟨by first | rfl | exact int_eq (by omega) | exact len_eq (by simp) | exact int_eq (by simp; done), by first | rfl | exact int_eq (by omega) | exact len_eq (by simp) | exact int_eq (by simp; done), by first | rfl | exact int_eq (by omega) | exact len_eq (by simp) | exact int_eq (by simp; done), by first | rfl | exact int_eq (by omega) | exact len_eq (by simp) | exact int_eq (by simp; done), by first | rfl | exact int_eq (by omega) | exact len_eq (by simp) | exact int_eq (by simp; done), trivial⟩
              · exact HLe.refl _
          · try simp only [Bool.or_eq_true, Bool.or_eq_false_iff, Bool.and_eq_true, Bool.and_eq_false_iff, decide_eq_true_eq, decide_eq_false_iff_not, Bool.not_eq_true', Bool.not_eq_false', Int.not_lt, Int.not_le, List.length_map] at hc38
            refine W.reg ?_
            refine XOps.s rfl rfl rfl (Q.eql rfl rfl) ?_
            refine XOps.s rfl rfl rfl (Q.assign_d rfl) ?_
            refine XOps.nil ?_
            refine W.cond rfl (fun hc47 => ?_) (fun hc47 => ?_)
            · try simp only [Bool.or_eq_true, Bool.or_eq_false_iff, Bool.and_eq_true, Bool.and_eq_false_iff, decide_eq_true_eq, decide_eq_false_iff_not, Bool.not_eq_true', Bool.not_eq_false', Int.not_lt, Int.not_le, List.length_map] at hc47
              rw [if_neg (by omega), if_pos hc47] at hst
              refine W.region ?_
              refine XOps.s rfl rfl rfl (Q.move_ptr rfl) ?_
              refine XOps.s rfl rfl rfl (Q.move_d rfl) ?_
              (refine XOps.loud rfl (L.call rfl Try.func20 go20 rfl (drop_c b (plN l k) f s w kk _ hok) rfl) ?_; rintro _ _ ⟨_, rfl, rfl, rfl⟩)
              refine XOps.nil ?_
              refine W.heap (prH b (plN l (k + 1)) f s w (H g)) (by rw [hst]; exact HLe.refl _) ?_
              refine W.reg ?_
              refine XOps.s rfl rfl rfl (Q.move_fn rfl) ?_
              (refine XOps.loud rfl (L.call rfl hf hg rfl (hcb (k + 1) (plN l (k + 1)) _ _ _ g hok1 hJ) rfl) ?_; rintro _ _ ⟨_, rfl, rfl, g2, hK2, rfl⟩)
              refine XOps.s rfl rfl rfl (Q.not rfl) ?_
              refine XOps.nil ?_
              refine W.cond rfl (fun hc69 => ?_) (fun hc69 => ?_)
              · try simp only [Bool.or_eq_true, Bool.or_eq_false_iff, Bool.and_eq_true, Bool.and_eq_false_iff, decide_eq_true_eq, decide_eq_false_iff_not, Bool.not_eq_true', Bool.not_eq_false', Int.not_lt, Int.not_le, List.length_map] at hc69
                exact absurd hc69 (by simp)
              · try simp only [Bool.or_eq_true, Bool.or_eq_false_iff, Bool.and_eq_true, Bool.and_eq_false_iff, decide_eq_true_eq, decide_eq_false_iff_not, Bool.not_eq_true', Bool.not_eq_false', Int.not_lt, Int.not_le, List.length_map] at hc69
                refine W.skip ?_
                refine W.region ?_
                refine XOps.s rfl rfl rfl (Q.add rfl rfl (wi64 (by first | omega | (dsimp only; omega) | (simp only [List.length_map]; omega)) (by first | omega | (dsimp only; omega) | (simp only [List.length_map]; omega)))) ?_
                refine XOps.s rfl rfl rfl (Q.move_d rfl) ?_
                refine XOps.nil ?_
                refine ⟨(k + 1, f, s, w, g2), ?_, ?_, ?_, ?_⟩
                · exact ⟨by dsimp only; omega, hK2⟩
                · dsimp only; omega
                · exact ⟨by first | rfl | exact int_eq (by omega) | exact len_eq (by simp) | exact int_eq (by simp; done), by first | rfl | exact int_eq (by omega) | exact len_eq (by simp) | exact int_eq (by simp; done), by first | rfl | exact int_eq (by omega) | exact len_eq (by simp) | exact int_eq (by simp; done), by first | rfl | exact int_eq (by omega) | exact len_eq (by simp) | exact int_eq (by simp; done), by first | rfl | exact int_eq (by omega) | exact len_eq (by simp) | exact int_eq (by simp; done), trivial⟩
                · exact HLe.refl _
            · try simp only [Bool.or_eq_true, Bool.or_eq_false_iff, Bool.and_eq_true, Bool.and_eq_false_iff, decide_eq_true_eq, decide_eq_false_iff_not, Bool.not_eq_true', Bool.not_eq_false', Int.not_lt, Int.not_le, List.length_map] at hc47
              refine W.reg ?_
              refine XOps.s rfl rfl rfl (Q.eql rfl rfl) ?_
              refine XOps.s rfl rfl rfl (Q.assign_d rfl) ?_
              refine XOps.nil ?_
              refine W.cond rfl (fun hc52 => ?_) (fun hc52 => ?_)
              · try simp only [Bool.or_eq_true, Bool.or_eq_false_iff, Bool.and_eq_true, Bool.and_eq_false_iff, decide_eq_true_eq, decide_eq_false_iff_not, Bool.not_eq_true', Bool.not_eq_false', Int.not_lt, Int.not_le, List.length_map] at hc52
                rw [if_neg (by omega), if_neg (by omega), if_pos hc52] at hst
                refine W.region ?_
                refine XOps.s rfl rfl rfl (Q.move_ptr rfl) ?_
                refine XOps.s rfl rfl rfl (Q.move_d rfl) ?_
                (refine XOps.loud rfl (L.call rfl Try.func29 go29 rfl (repeat_c b (plN l k) f s w kk _ hok) rfl) ?_; rintro _ _ ⟨_, rfl, w2, rfl, rfl⟩)
                refine XOps.nil ?_
                refine W.heap (prH b (plN l (k + 1)) f s w2 (H g)) (by rw [hst]; exact HLe.refl _) ?_
                refine W.reg ?_
                refine XOps.s rfl rfl rfl (Q.move_fn rfl) ?_
                (refine XOps.loud rfl (L.call rfl hf hg rfl (hcb (k + 1) (plN l (k + 1)) _ _ _ g hok1 hJ) rfl) ?_; rintro _ _ ⟨_, rfl, rfl, g2, hK2, rfl⟩)
                refine XOps.s rfl rfl rfl (Q.not rfl) ?_
                refine XOps.nil ?_
                refine W.cond rfl (fun hc69 => ?_) (fun hc69 => ?_)
                · try simp only [Bool.or_eq_true, Bool.or_eq_false_iff, Bool.and_eq_true, Bool.and_eq_false_iff, decide_eq_true_eq, decide_eq_false_iff_not, Bool.not_eq_true', Bool.not_eq_false', Int.not_lt, Int.not_le, List.length_map] at hc69
                  exact absurd hc69 (by simp)
                · try simp only [Bool.or_eq_true, Bool.or_eq_false_iff, Bool.and_eq_true, Bool.and_eq_false_iff, decide_eq_true_eq, decide_eq_false_iff_not, Bool.not_eq_true', Bool.not_eq_false', Int.not_lt, Int.not_le, List.length_map] at hc69
                  refine W.skip ?_
                  refine W.region ?_
                  refine XOps.s rfl rfl rfl (Q.add rfl rfl (wi64 (by first | omega | (dsimp only; omega) | (simp only [List.length_map]; omega)) (by first | omega | (dsimp only; omega) | (simp only [List.length_map]; omega)))) ?_
                  refine XOps.s rfl rfl rfl (Q.move_d rfl) ?_
                  refine XOps.nil ?_
                  refine ⟨(k + 1, f, s, w2, g2), ?_, ?_, ?_, ?_⟩
                  · exact ⟨by dsimp only; omega, hK2⟩
                  · dsimp only; omega
                  · exact ⟨by first | rfl | exact int_eq (by omega) | exact len_eq (by simp) | exact int_eq (by simp; done), by first | rfl | exact int_eq (by omega) | exact len_eq (by simp) | exact int_eq (by simp; done), by first | rfl | exact int_eq (by omega) | exact len_eq (by simp) | exact int_eq (by simp; done), by first | rfl | exact int_eq (by omega) | exact len_eq (by simp) | exact int_eq (by simp; done), by first | rfl | exact int_eq (by omega) | exact len_eq (by simp) | exact int_eq (by simp; done), trivial⟩
                  · exact HLe.refl _
              · try simp only [Bool.or_eq_true, Bool.or_eq_false_iff, Bool.and_eq_true, Bool.and_eq_false_iff, decide_eq_true_eq, decide_eq_false_iff_not, Bool.not_eq_true', Bool.not_eq_false', Int.not_lt, Int.not_le, List.length_map] at hc52
                refine W.reg ?_
                refine XOps.s rfl rfl rfl (Q.eql rfl rfl) ?_
                refine XOps.s rfl rfl rfl (Q.assign_d rfl) ?_
                refine XOps.nil ?_
                refine W.cond rfl (fun hc57 => ?_) (fun hc57 => ?_)
                · try simp only [Bool.or_eq_true, Bool.or_eq_false_iff, Bool.and_eq_true, Bool.and_eq_false_iff, decide_eq_true_eq, decide_eq_false_iff_not, Bool.not_eq_true', Bool.not_eq_false', Int.not_lt, Int.not_le, List.length_map] at hc57
                  rw [if_neg (by omega), if_neg (by omega), if_neg (by omega), if_pos hc57] at hst
                  refine W.region ?_
                  refine XOps.s rfl rfl rfl (Q.move_ptr rfl) ?_
                  (refine XOps.loud rfl (L.call rfl Try.func21 go21 rfl (resend_c b (plN l k) f s w _ hok) rfl) ?_; rintro _ _ ⟨_, rfl, w2, rfl, rfl⟩)
                  refine XOps.nil ?_
                  refine W.heap (prH b (plN l (k + 1)) f s w2 (H g)) (by rw [hst]; exact HLe.refl _) ?_
                  refine W.reg ?_
                  refine XOps.s rfl rfl rfl (Q.move_fn rfl) ?_
                  (refine XOps.loud rfl (L.call rfl hf hg rfl (hcb (k + 1) (plN l (k + 1)) _ _ _ g hok1 hJ) rfl) ?_; rintro _ _ ⟨_, rfl, rfl, g2, hK2, rfl⟩)
                  refine XOps.s rfl rfl rfl (Q.not rfl) ?_
                  refine XOps.nil ?_
                  refine W.cond rfl (fun hc69 => ?_) (fun hc69 => ?_)
                  · try simp only [Bool.or_eq_true, Bool.or_eq_false_iff, Bool.and_eq_true, Bool.and_eq_false_iff, decide_eq_true_eq, decide_eq_false_iff_not, Bool.not_eq_true', Bool.not_eq_false', Int.not_lt, Int.not_le, List.length_map] at hc69
                    exact absurd hc69 (by simp)
                  · try simp only [Bool.or_eq_true, Bool.or_eq_false_iff, Bool.and_eq_true, Bool.and_eq_false_iff, decide_eq_true_eq, decide_eq_false_iff_not, Bool.not_eq_true', Bool.not_eq_false', Int.not_lt, Int.not_le, List.length_map] at hc69
                    refine W.skip ?_
                    refine W.region ?_
                    refine XOps.s rfl rfl rfl (Q.add rfl rfl (wi64 (by first | omega | (dsimp only; omega) | (simp only [List.length_map]; omega)) (by first | omega | (dsimp only; omega) | (simp only [List.length_map]; omega)))) ?_
                    refine XOps.s rfl rfl rfl (Q.move_d rfl) ?_
                    refine XOps.nil ?_
                    refine ⟨(k + 1, f, s, w2, g2), ?_, ?_, ?_, ?_⟩
                    · exact ⟨by dsimp only; omega, hK2⟩
                    · dsimp only; omega
                    · exact ⟨by first | rfl | exact int_eq (by omega) | exact len_eq (by simp) | exact int_eq (by simp; done), by first | rfl | exact int_eq (by omega) | exact len_eq (by simp) | exact int_eq (by simp; done), by first | rfl | exact int_eq (by omega) | exact len_eq (by simp) | exact int_eq (by simp; done), by first | rfl | exact int_eq (by omega) | exact len_eq (by simp) | exact int_eq (by simp; done), by first | rfl | exact int_eq (by omega) | exact len_eq (by simp) | exact int_eq (by simp; done), trivial⟩
                    · exact HLe.refl _
                · try simp only [Bool.or_eq_true, Bool.or_eq_false_iff, Bool.and_eq_true, Bool.and_eq_false_iff, decide_eq_true_eq, decide_eq_false_iff_not, Bool.not_eq_true', Bool.not_eq_false', Int.not_lt, Int.not_le, List.length_map] at hc57
                  refine W.reg ?_
                  refine XOps.s rfl rfl rfl (Q.eql rfl rfl) ?_
                  refine XOps.s rfl rfl rfl (Q.assign_d rfl) ?_
                  refine XOps.nil ?_
                  refine W.cond rfl (fun hc61 => ?_) (fun hc61 => ?_)
                  · try simp only [Bool.or_eq_true, Bool.or_eq_false_iff, Bool.and_eq_true, Bool.and_eq_false_iff, decide_eq_true_eq, decide_eq_false_iff_not, Bool.not_eq_true', Bool.not_eq_false', Int.not_lt, Int.not_le, List.length_map] at hc61
                    rw [if_neg (by omega), if_neg (by omega), if_neg (by omega), if_neg (by omega), if_pos hc61] at hst
                    refine W.reg ?_
                    refine XOps.s rfl rfl rfl (Q.move_d rfl) ?_
                    refine XOps.s rfl rfl rfl (Q.lss rfl rfl) ?_
                    refine XOps.nil ?_
                    refine W.cond rfl (fun hc64 => ?_) (fun hc64 => ?_)
                    · try simp only [Bool.or_eq_true, Bool.or_eq_false_iff, Bool.and_eq_true, Bool.and_eq_false_iff, decide_eq_true_eq, decide_eq_false_iff_not, Bool.not_eq_true', Bool.not_eq_false', Int.not_lt, Int.not_le, List.length_map] at hc64
                      rw [if_pos hc64] at hst
                      refine W.region ?_
                      refine XOps.s rfl rfl rfl (Q.move_ptr rfl) ?_
                      (refine XOps.loud rfl (L.call rfl Try.func25 go25 rfl (take_c b (plN l k) f s w _ hok) rfl) ?_; rintro _ _ ⟨_, rfl, f2, s2, rfl, rfl⟩)
                      refine XOps.nil ?_
                      refine W.heap (prH b (plN l (k + 1)) f2 s2 w (H g)) (by rw [hst]; exact HLe.refl _) ?_
                      refine W.reg ?_
                      refine XOps.s rfl rfl rfl (Q.move_fn rfl) ?_
                      (refine XOps.loud rfl (L.call rfl hf hg rfl (hcb (k + 1) (plN l (k + 1)) _ _ _ g hok1 hJ) rfl) ?_; rintro _ _ ⟨_, rfl, rfl, g2, hK2, rfl⟩)
                      refine XOps.s rfl rfl rfl (Q.not rfl) ?_
                      refine XOps.nil ?_
                      refine W.cond rfl (fun hc69 => ?_) (fun hc69 => ?_)
                      · try simp only [Bool.or_eq_true, Bool.or_eq_false_iff, Bool.and_eq_true, Bool.and_eq_false_iff, decide_eq_true_eq, decide_eq_false_iff_not, Bool.not_eq_true', Bool.not_eq_false', Int.not_lt, Int.not_le, List.length_map] at hc69
                        exact absurd hc69 (by simp)
                      · try simp only [Bool.or_eq_true, Bool.or_eq_false_iff, Bool.and_eq_true, Bool.and_eq_false_iff, decide_eq_true_eq, decide_eq_false_iff_not, Bool.not_eq_true', Bool.not_eq_false', Int.not_lt, Int.not_le, List.length_map] at hc69
                        refine W.skip ?_
                        refine W.region ?_
                        refine XOps.s rfl rfl rfl (Q.add rfl rfl (wi64 (by first | omega | (dsimp only; omega) | (simp only [List.length_map]; omega)) (by first | omega | (dsimp only; omega) | (simp only [List.length_map]; omega)))) ?_
                        refine XOps.s rfl rfl rfl (Q.move_d rfl) ?_
                        refine XOps.nil ?_
                        refine ⟨(k + 1, f2, s2, w, g2), ?_, ?_, ?_, ?_⟩
                        · exact ⟨by dsimp only; omega, hK2⟩
                        · dsimp only; omega
                        · exact ⟨by first | rfl | exact int_eq (by omega) | exact len_eq (by simp) | exact int_eq (by simp; done), by first | rfl | exact int_eq (by omega) | exact len_eq (by simp) | exact int_eq (by simp; done), by first | rfl | exact int_eq (by omega) | exact len_eq (by simp) | exact int_eq (by simp; done), by first | rfl | exact int_eq (by omega) | exact len_eq (by simp) | exact int_eq (by simp; done), by first | rfl | exact int_eq (by omega) | exact len_eq (by simp) | exact int_eq (by simp; done), trivial⟩
                        · exact HLe.refl _
                    · try simp only [Bool.or_eq_true, Bool.or_eq_false_iff, Bool.and_eq_true, Bool.and_eq_false_iff, decide_eq_true_eq, decide_eq_false_iff_not, Bool.not_eq_true', Bool.not_eq_false', Int.not_lt, Int.not_le, List.length_map] at hc64
                      rw [if_neg (by omega)] at hst
                      refine W.skip ?_
                      refine W.heap (prH b (plN l (k + 1)) f s w (H g)) (by rw [hst]; exact HLe.refl _) ?_
                      refine W.reg ?_
                      refine XOps.s rfl rfl rfl (Q.move_fn rfl) ?_
                      (refine XOps.loud rfl (L.call rfl hf hg rfl (hcb (k + 1) (plN l (k + 1)) _ _ _ g hok1 hJ) rfl) ?_; rintro _ _ ⟨_, rfl, rfl, g2, hK2, rfl⟩)
                      refine XOps.s rfl rfl rfl (Q.not rfl) ?_
                      refine XOps.nil ?_
                      refine W.cond rfl (fun hc69 => ?_) (fun hc69 => ?_)
                      · try simp only [Bool.or_eq_true, Bool.or_eq_false_iff, Bool.and_eq_true, Bool.and_eq_false_iff, decide_eq_true_eq, decide_eq_false_iff_not, Bool.not_eq_true', Bool.not_eq_false', Int.not_lt, Int.not_le, List.length_map] at hc69
                        exact absurd hc69 (by simp)
                      · try simp only [Bool.or_eq_true, Bool.or_eq_false_iff, Bool.and_eq_true, Bool.and_eq_false_iff, decide_eq_true_eq, decide_eq_false_iff_not, Bool.not_eq_true', Bool.not_eq_false', Int.not_lt, Int.not_le, List.length_map] at hc69
                        refine W.skip ?_
                        refine W.region ?_
                        refine XOps.s rfl rfl rfl (Q.add rfl rfl (wi64 (by first | omega | (dsimp only; omega) | (simp only [List.length_map]; omega)) (by first | omega | (dsimp only; omega) | (simp only [List.length_map]; omega)))) ?_
                        refine XOps.s rfl rfl rfl (Q.move_d rfl) ?_
                        refine XOps.nil ?_
                        refine ⟨(k + 1, f, s, w, g2), ?_, ?_, ?_, ?_⟩
                        · exact ⟨by dsimp only; omega, hK2⟩
                        · dsimp only; omega
                        · exact ⟨by first | rfl | exact int_eq (by omega) | exact len_eq (by simp) | exact int_eq (by simp; done), by first | rfl | exact int_eq (by omega) | exact len_eq (by simp) | exact int_eq (by simp; done), by first | rfl | exact int_eq (by omega) | exact len_eq (by simp) | exact int_eq (by simp; done), by first | rfl | exact int_eq (by omega) | exact len_eq (by simp) | exact int_eq (by simp; done), by first | rfl | exact int_eq (by omega) | exact len_eq (by simp) | exact int_eq (by simp; done), trivial⟩
                        · exact HLe.refl _
                  · try simp only [Bool.or_eq_true, Bool.or_eq_false_iff, Bool.and_eq_true, Bool.and_eq_false_iff, decide_eq_true_eq, decide_eq_false_iff_not, Bool.not_eq_true', Bool.not_eq_false', Int.not_lt, Int.not_le, List.length_map] at hc61
                    rw [if_neg (by omega), if_neg (by omega), if_neg (by omega), if_neg (by omega), if_neg (by omega)] at hst
                    refine W.region ?_
                    refine XOps.s rfl rfl rfl (Q.move_ptr rfl) ?_
                    refine XOps.s rfl rfl rfl (Q.move_d rfl) ?_
                    (refine XOps.loud rfl (L.call rfl Try.func22 go22 rfl (deliver_c b (plN l k) f s w kk _ hok) rfl) ?_; rintro _ _ ⟨_, rfl, s2, w2, rfl, rfl⟩)
                    refine XOps.nil ?_
                    refine W.heap (prH b (plN l (k + 1)) f s2 w2 (H g)) (by rw [hst]; exact HLe.refl _) ?_
                    refine W.reg ?_
                    refine XOps.s rfl rfl rfl (Q.move_fn rfl) ?_
                    (refine XOps.loud rfl (L.call rfl hf hg rfl (hcb (k + 1) (plN l (k + 1)) _ _ _ g hok1 hJ) rfl) ?_; rintro _ _ ⟨_, rfl, rfl, g2, hK2, rfl⟩)
                    refine XOps.s rfl rfl rfl (Q.not rfl) ?_
                    refine XOps.nil ?_
                    refine W.cond rfl (fun hc69 => ?_) (fun hc69 => ?_)
                    · try simp only [Bool.or_eq_true, Bool.or_eq_false_iff, Bool.and_eq_true, Bool.and_eq_false_iff, decide_eq_true_eq, decide_eq_false_iff_not, Bool.not_eq_true', Bool.not_eq_false', Int.not_lt, Int.not_le, List.length_map] at hc69
                      exact absurd hc69 (by simp)
                    · try simp only [Bool.or_eq_true, Bool.or_eq_false_iff, Bool.and_eq_true, Bool.and_eq_false_iff, decide_eq_true_eq, decide_eq_false_iff_not, Bool.not_eq_true', Bool.not_eq_false', Int.not_lt, Int.not_le, List.length_map] at hc69
                      refine W.skip ?_
                      refine W.region ?_
                      refine XOps.s rfl rfl rfl (Q.add rfl rfl (wi64 (by first | omega | (dsimp only; omega) | (simp only [List.length_map]; omega)) (by first | omega | (dsimp only; omega) | (simp only [List.length_map]; omega)))) ?_
                      refine XOps.s rfl rfl rfl (Q.move_d rfl) ?_
                      refine XOps.nil ?_
                      refine ⟨(k + 1, f, s2, w2, g2), ?_, ?_, ?_, ?_⟩
                      · exact ⟨by dsimp only; omega, hK2⟩
                      · dsimp only; omega
                      · exact ⟨by first | rfl | exact int_eq (by omega) | exact len_eq (by simp) | exact int_eq (by simp; done), by first | rfl | exact int_eq (by omega) | exact len_eq (by simp) | exact int_eq (by simp; done), by first | rfl | exact int_eq (by omega) | exact len_eq (by simp) | exact int_eq (by simp; done), by first | rfl | exact int_eq (by omega) | exact len_eq (by simp) | exact int_eq (by simp; done), by first | rfl | exact int_eq (by omega) | exact len_eq (by simp) | exact int_eq (by simp; done), trivial⟩
                      · exact HLe.refl _
        · try simp only [Bool.or_eq_true, Bool.or_eq_false_iff, Bool.and_eq_true, Bool.and_eq_false_iff, decide_eq_true_eq, decide_eq_false_iff_not, Bool.not_eq_true', Bool.not_eq_false', Int.not_lt, Int.not_le, List.length_map] at hc38
          refine W.reg ?_
          refine XOps.s rfl rfl rfl (Q.eql rfl rfl) ?_
          refine XOps.s rfl rfl rfl (Q.assign_d rfl) ?_
          refine XOps.nil ?_
          refine W.cond rfl (fun hc38 => ?_) (fun hc38 => ?_)
          · try simp only [Bool.or_eq_true, Bool.or_eq_false_iff, Bool.and_eq_true, Bool.and_eq_false_iff, decide_eq_true_eq, decide_eq_false_iff_not, Bool.not_eq_true', Bool.not_eq_false', Int.not_lt, Int.not_le, List.length_map] at hc38
            refine W.skip ?_
            refine W.cond rfl (fun hc38 => ?_) (fun hc38 => ?_)
            · try simp only [Bool.or_eq_true, Bool.or_eq_false_iff, Bool.and_eq_true, Bool.and_eq_false_iff, decide_eq_true_eq, decide_eq_false_iff_not, Bool.not_eq_true', Bool.not_eq_false', Int.not_lt, Int.not_le, List.length_map] at hc38
              rw [if_pos (by omega)] at hst
              refine W.region ?_
              refine XOps.s rfl rfl rfl (Q.move_ptr rfl) ?_
              refine XOps.s rfl rfl rfl (Q.move_d rfl) ?_
              refine XOps.s rfl rfl rfl (Q.call rfl Try.func28 go28 rfl (itoa_c cn _ (by omega) (by have := itoaS_small cn (by omega); omega))) ?_
              refine XOps.s rfl rfl rfl (Q.adds rfl rfl (by have := itoaS_small cn (by omega); have h1 : (⟨#[101]⟩ : ByteArray).size = 1 := rfl; omega)) ?_
              (refine XOps.loud rfl (L.call rfl Try.func26 go26 rfl (submit_c b (plN l k) f s w (eName cn) _ hok) rfl) ?_; rintro _ _ ⟨_, rfl, f2, w2, rfl, rfl⟩)
              refine XOps.nil ?_
              refine W.heap (prH b (plN l (k + 1)) f2 s w2 (H g)) (by rw [hst]; exact HLe.refl _) ?_
              refine W.reg ?_
              refine XOps.s rfl rfl rfl (Q.move_fn rfl) ?_
              (refine XOps.loud rfl (L.call rfl hf hg rfl (hcb (k + 1) (plN l (k + 1)) _ _ _ g hok1 hJ) rfl) ?_; rintro _ _ ⟨_, rfl, rfl, g2, hK2, rfl⟩)
              refine XOps.s rfl rfl rfl (Q.not rfl) ?_
              refine XOps.nil ?_
              refine W.cond rfl (fun hc69 => ?_) (fun hc69 => ?_)
              · try simp only [Bool.or_eq_true, Bool.or_eq_false_iff, Bool.and_eq_true, Bool.and_eq_false_iff, decide_eq_true_eq, decide_eq_false_iff_not, Bool.not_eq_true', Bool.not_eq_false', Int.not_lt, Int.not_le, List.length_map] at hc69
                exact absurd hc69 (by simp)
              · try simp only [Bool.or_eq_true, Bool.or_eq_false_iff, Bool.and_eq_true, Bool.and_eq_false_iff, decide_eq_true_eq, decide_eq_false_iff_not, Bool.not_eq_true', Bool.not_eq_false', Int.not_lt, Int.not_le, List.length_map] at hc69
                refine W.skip ?_
                refine W.region ?_
                refine XOps.s rfl rfl rfl (Q.add rfl rfl (wi64 (by first | omega | (dsimp only; omega) | (simp only [List.length_map]; omega)) (by first | omega | (dsimp only; omega) | (simp only [List.length_map]; omega)))) ?_
                refine XOps.s rfl rfl rfl (Q.move_d rfl) ?_
                refine XOps.nil ?_
                refine ⟨(k + 1, f2, s, w2, g2), ?_, ?_, ?_, ?_⟩
                · exact ⟨by dsimp only; omega, hK2⟩
                · dsimp only; omega
                · exact ⟨by first | rfl | exact int_eq (by omega) | exact len_eq (by simp) | exact int_eq (by simp; done), by first | rfl | exact int_eq (by omega) | exact len_eq (by simp) | exact int_eq (by simp; done), by first | rfl | exact int_eq (by omega) | exact len_eq (by simp) | exact int_eq (by simp; done), by first | rfl | exact int_eq (by omega) | exact len_eq (by simp) | exact int_eq (by simp; done), by first | rfl | exact int_eq (by omega) | exact len_eq (by simp) | exact int_eq (by simp; done), trivial⟩
                · exact HLe.refl _
            · try simp only [Bool.or_eq_true, Bool.or_eq_false_iff, Bool.and_eq_true, Bool.and_eq_false_iff, decide_eq_true_eq, decide_eq_false_iff_not, Bool.not_eq_true', Bool.not_eq_false', Int.not_lt, Int.not_le, List.length_map] at hc38
              refine W.reg ?_
              refine XOps.s rfl rfl rfl (Q.eql rfl rfl) ?_
              refine XOps.s rfl rfl rfl (Q.assign_d rfl) ?_
              refine XOps.nil ?_
              refine W.cond rfl (fun hc47 => ?_) (fun hc47 => ?_)
              · try simp only [Bool.or_eq_true, Bool.or_eq_false_iff, Bool.and_eq_true, Bool.and_eq_false_iff, decide_eq_true_eq, decide_eq_false_iff_not, Bool.not_eq_true', Bool.not_eq_false', Int.not_lt, Int.not_le, List.length_map] at hc47
                rw [if_neg (by omega), if_pos hc47] at hst
                refine W.region ?_
                refine XOps.s rfl rfl rfl (Q.move_ptr rfl) ?_
                refine XOps.s rfl rfl rfl (Q.move_d rfl) ?_
                (refine XOps.loud rfl (L.call rfl Try.func20 go20 rfl (drop_c b (plN l k) f s w kk _ hok) rfl) ?_; rintro _ _ ⟨_, rfl, rfl, rfl⟩)
                refine XOps.nil ?_
                refine W.heap (prH b (plN l (k + 1)) f s w (H g)) (by rw [hst]; exact HLe.refl _) ?_
                refine W.reg ?_
                refine XOps.s rfl rfl rfl (Q.move_fn rfl) ?_
                (refine XOps.loud rfl (L.call rfl hf hg rfl (hcb (k + 1) (plN l (k + 1)) _ _ _ g hok1 hJ) rfl) ?_; rintro _ _ ⟨_, rfl, rfl, g2, hK2, rfl⟩)
                refine XOps.s rfl rfl rfl (Q.not rfl) ?_
                refine XOps.nil ?_
                refine W.cond rfl (fun hc69 => ?_) (fun hc69 => ?_)
                · try simp only [Bool.or_eq_true, Bool.or_eq_false_iff, Bool.and_eq_true, Bool.and_eq_false_iff, decide_eq_true_eq, decide_eq_false_iff_not, Bool.not_eq_true', Bool.not_eq_false', Int.not_lt, Int.not_le, List.length_map] at hc69
                  exact absurd hc69 (by simp)
                · try simp only [Bool.or_eq_true, Bool.or_eq_false_iff, Bool.and_eq_true, Bool.and_eq_false_iff, decide_eq_true_eq, decide_eq_false_iff_not, Bool.not_eq_true', Bool.not_eq_false', Int.not_lt, Int.not_le, List.length_map] at hc69
                  refine W.skip ?_
                  refine W.region ?_
                  refine XOps.s rfl rfl rfl (Q.add rfl rfl (wi64 (by first | omega | (dsimp only; omega) | (simp only [List.length_map]; omega)) (by first | omega | (dsimp only; omega) | (simp only [List.length_map]; omega)))) ?_
                  refine XOps.s rfl rfl rfl (Q.move_d rfl) ?_
                  refine XOps.nil ?_
                  refine ⟨(k + 1, f, s, w, g2), ?_, ?_, ?_, ?_⟩
                  · exact ⟨by dsimp only; omega, hK2⟩
                  · dsimp only; omega
                  · exact ⟨by first | rfl | exact int_eq (by omega) | exact len_eq (by simp) | exact int_eq (by simp; done), by first | rfl | exact int_eq (by omega) | exact len_eq (by simp) | exact int_eq (by simp; done), by first | rfl | exact int_eq (by omega) | exact len_eq (by simp) | exact int_eq (by simp; done), by first | rfl | exact int_eq (by omega) | exact len_eq (by simp) | exact int_eq (by simp; done), by first | rfl | exact int_eq (by omega) | exact len_eq (by simp) | exact int_eq (by simp; done), trivial⟩
                  · exact HLe.refl _
              · try simp only [Bool.or_eq_true, Bool.or_eq_false_iff, Bool.and_eq_true, Bool.and_eq_false_iff, decide_eq_true_eq, decide_eq_false_iff_not, Bool.not_eq_true', Bool.not_eq_false', Int.not_lt, Int.not_le, List.length_map] at hc47
                refine W.reg ?_
                refine XOps.s rfl rfl rfl (Q.eql rfl rfl) ?_
                refine XOps.s rfl rfl rfl (Q.assign_d rfl) ?_
                refine XOps.nil ?_
                refine W.cond rfl (fun hc52 => ?_) (fun hc52 => ?_)
                · try simp only [Bool.or_eq_true, Bool.or_eq_false_iff, Bool.and_eq_true, Bool.and_eq_false_iff, decide_eq_true_eq, decide_eq_false_iff_not, Bool.not_eq_true', Bool.not_eq_false', Int.not_lt, Int.not_le, List.length_map] at hc52
                  rw [if_neg (by omega), if_neg (by omega), if_pos hc52] at hst
                  refine W.region ?_
                  refine XOps.s rfl rfl rfl (Q.move_ptr rfl) ?_
                  refine XOps.s rfl rfl rfl (Q.move_d rfl) ?_
                  (refine XOps.loud rfl (L.call rfl Try.func29 go29 rfl (repeat_c b (plN l k) f s w kk _ hok) rfl) ?_; rintro _ _ ⟨_, rfl, w2, rfl, rfl⟩)
                  refine XOps.nil ?_
                  refine W.heap (prH b (plN l (k + 1)) f s w2 (H g)) (by rw [hst]; exact HLe.refl _) ?_
                  refine W.reg ?_
                  refine XOps.s rfl rfl rfl (Q.move_fn rfl) ?_
                  (refine XOps.loud rfl (L.call rfl hf hg rfl (hcb (k + 1) (plN l (k + 1)) _ _ _ g hok1 hJ) rfl) ?_; rintro _ _ ⟨_, rfl, rfl, g2, hK2, rfl⟩)
                  refine XOps.s rfl rfl rfl (Q.not rfl) ?_
                  refine XOps.nil ?_
                  refine W.cond rfl (fun hc69 => ?_) (fun hc69 => ?_)
                  · try simp only [Bool.or_eq_true, Bool.or_eq_false_iff, Bool.and_eq_true, Bool.and_eq_false_iff, decide_eq_true_eq, decide_eq_false_iff_not, Bool.not_eq_true', Bool.not_eq_false', Int.not_lt, Int.not_le, List.length_map] at hc69
                    exact absurd hc69 (by simp)
                  · try simp only [Bool.or_eq_true, Bool.or_eq_false_iff, Bool.and_eq_true, Bool.and_eq_false_iff, decide_eq_true_eq, decide_eq_false_iff_not, Bool.not_eq_true', Bool.not_eq_false', Int.not_lt, Int.not_le, List.length_map] at hc69
                    refine W.skip ?_
                    refine W.region ?_
                    refine XOps.s rfl rfl rfl (Q.add rfl rfl (wi64 (by first | omega | (dsimp only; omega) | (simp only [List.length_map]; omega)) (by first | omega | (dsimp only; omega) | (simp only [List.length_map]; omega)))) ?_
                    refine XOps.s rfl rfl rfl (Q.move_d rfl) ?_
                    refine XOps.nil ?_
                    refine ⟨(k + 1, f, s, w2, g2), ?_, ?_, ?_, ?_⟩
                    · exact ⟨by dsimp only; omega, hK2⟩
                    · dsimp only; omega
                    · exact ⟨by first | rfl | exact int_eq (by omega) | exact len_eq (by simp) | exact int_eq (by simp; done), by first | rfl | exact int_eq (by omega) | exact len_eq (by simp) | exact int_eq (by simp; done), by first | rfl | exact int_eq (by omega) | exact len_eq (by simp) | exact int_eq (by simp; done), by first | rfl | exact int_eq (by omega) | exact len_eq (by simp) | exact int_eq (by simp; done), by first | rfl | exact int_eq (by omega) | exact len_eq (by simp) | exact int_eq (by simp; done), trivial⟩
                    · exact HLe.refl _
                · try simp only [Bool.or_eq_true, Bool.or_eq_false_iff, Bool.and_eq_true, Bool.and_eq_false_iff, decide_eq_true_eq, decide_eq_false_iff_not, Bool.not_eq_true', Bool.not_eq_false', Int.not_lt, Int.not_le, List.length_map] at hc52
                  refine W.reg ?_
                  refine XOps.s rfl rfl rfl (Q.eql rfl rfl) ?_
                  refine XOps.s rfl rfl rfl (Q.assign_d rfl) ?_
                  refine XOps.nil ?_
                  refine W.cond rfl (fun hc57 => ?_) (fun hc57 => ?_)
                  · try simp only [Bool.or_eq_true, Bool.or_eq_false_iff, Bool.and_eq_true, Bool.and_eq_false_iff, decide_eq_true_eq, decide_eq_false_iff_not, Bool.not_eq_true', Bool.not_eq_false', Int.not_lt, Int.not_le, List.length_map] at hc57
                    rw [if_neg (by omega), if_neg (by omega), if_neg (by omega), if_pos hc57] at hst
                    refine W.region ?_
                    refine XOps.s rfl rfl rfl (Q.move_ptr rfl) ?_
                    (refine XOps.loud rfl (L.call rfl Try.func21 go21 rfl (resend_c b (plN l k) f s w _ hok) rfl) ?_; rintro _ _ ⟨_, rfl, w2, rfl, rfl⟩)
                    refine XOps.nil ?_
                    refine W.heap (prH b (plN l (k + 1)) f s w2 (H g)) (by rw [hst]; exact HLe.refl _) ?_
                    refine W.reg ?_
                    refine XOps.s rfl rfl rfl (Q.move_fn rfl) ?_
                    (refine XOps.loud rfl (L.call rfl hf hg rfl (hcb (k + 1) (plN l (k + 1)) _ _ _ g hok1 hJ) rfl) ?_; rintro _ _ ⟨_, rfl, rfl, g2, hK2, rfl⟩)
                    refine XOps.s rfl rfl rfl (Q.not rfl) ?_
                    refine XOps.nil ?_
                    refine W.cond rfl (fun hc69 => ?_) (fun hc69 => ?_)
                    · try simp only [Bool.or_eq_true, Bool.or_eq_false_iff, Bool.and_eq_true, Bool.and_eq_false_iff, decide_eq_true_eq, decide_eq_false_iff_not, Bool.not_eq_true', Bool.not_eq_false', Int.not_lt, Int.not_le, List.length_map] at hc69
                      exact absurd hc69 (by simp)
                    · try simp only [Bool.or_eq_true, Bool.or_eq_false_iff, Bool.and_eq_true, Bool.and_eq_false_iff, decide_eq_true_eq, decide_eq_false_iff_not, Bool.not_eq_true', Bool.not_eq_false', Int.not_lt, Int.not_le, List.length_map] at hc69
                      refine W.skip ?_
                      refine W.region ?_
                      refine XOps.s rfl rfl rfl (Q.add rfl rfl (wi64 (by first | omega | (dsimp only; omega) | (simp only [List.length_map]; omega)) (by first | omega | (dsimp only; omega) | (simp only [List.length_map]; omega)))) ?_
                      refine XOps.s rfl rfl rfl (Q.move_d rfl) ?_
                      refine XOps.nil ?_
                      refine ⟨(k + 1, f, s, w2, g2), ?_, ?_, ?_, ?_⟩
                      · exact ⟨by dsimp only; omega, hK2⟩
                      · dsimp only; omega
                      · exact ⟨by first | rfl | exact int_eq (by omega) | exact len_eq (by simp) | exact int_eq (by simp; done), by first | rfl | exact int_eq (by omega) | exact len_eq (by simp) | exact int_eq (by simp; done), by first | rfl | exact int_eq (by omega) | exact len_eq (by simp) | exact int_eq (by simp; done), by first | rfl | exact int_eq (by omega) | exact len_eq (by simp) | exact int_eq (by simp; done), by first | rfl | exact int_eq (by omega) | exact len_eq (by simp) | exact int_eq (by simp; done), trivial⟩
                      · exact HLe.refl _
                  · try simp only [Bool.or_eq_true, Bool.or_eq_false_iff, Bool.and_eq_true, Bool.and_eq_false_iff, decide_eq_true_eq, decide_eq_false_iff_not, Bool.not_eq_true', Bool.not_eq_false', Int.not_lt, Int.not_le, List.length_map] at hc57
                    refine W.reg ?_
                    refine XOps.s rfl rfl rfl (Q.eql rfl rfl) ?_
                    refine XOps.s rfl rfl rfl (Q.assign_d rfl) ?_
                    refine XOps.nil ?_
                    refine W.cond rfl (fun hc61 => ?_) (fun hc61 => ?_)
                    · try simp only [Bool.or_eq_true, Bool.or_eq_false_iff, Bool.and_eq_true, Bool.and_eq_false_iff, decide_eq_true_eq, decide_eq_false_iff_not, Bool.not_eq_true', Bool.not_eq_false', Int.not_lt, Int.not_le, List.length_map] at hc61
                      rw [if_neg (by omega), if_neg (by omega), if_neg (by omega), if_neg (by omega), if_pos hc61] at hst
                      refine W.reg ?_
                      refine XOps.s rfl rfl rfl (Q.move_d rfl) ?_
                      refine XOps.s rfl rfl rfl (Q.lss rfl rfl) ?_
                      refine XOps.nil ?_
                      refine W.cond rfl (fun hc64 => ?_) (fun hc64 => ?_)
                      · try simp only [Bool.or_eq_true, Bool.or_eq_false_iff, Bool.and_eq_true, Bool.and_eq_false_iff, decide_eq_true_eq, decide_eq_false_iff_not, Bool.not_eq_true', Bool.not_eq_false', Int.not_lt, Int.not_le, List.length_map] at hc64
                        rw [if_pos hc64] at hst
                        refine W.region ?_
                        refine XOps.s rfl rfl rfl (Q.move_ptr rfl) ?_
                        (refine XOps.loud rfl (L.call rfl Try.func25 go25 rfl (take_c b (plN l k) f s w _ hok) rfl) ?_; rintro _ _ ⟨_, rfl, f2, s2, rfl, rfl⟩)
                        refine XOps.nil ?_
                        refine W.heap (prH b (plN l (k + 1)) f2 s2 w (H g)) (by rw [hst]; exact HLe.refl _) ?_
                        refine W.reg ?_
                        refine XOps.s rfl rfl rfl (Q.move_fn rfl) ?_
                        (refine XOps.loud rfl (L.call rfl hf hg rfl (hcb (k + 1) (plN l (k + 1)) _ _ _ g hok1 hJ) rfl) ?_; rintro _ _ ⟨_, rfl, rfl, g2, hK2, rfl⟩)
                        refine XOps.s rfl rfl rfl (Q.not rfl) ?_
                        refine XOps.nil ?_
                        refine W.cond rfl (fun hc69 => ?_) (fun hc69 => ?_)
                        · try simp only [Bool.or_eq_true, Bool.or_eq_false_iff, Bool.and_eq_true, Bool.and_eq_false_iff, decide_eq_true_eq, decide_eq_false_iff_not, Bool.not_eq_true', Bool.not_eq_false', Int.not_lt, Int.not_le, List.length_map] at hc69
                          exact absurd hc69 (by simp)
                        · try simp only [Bool.or_eq_true, Bool.or_eq_false_iff, Bool.and_eq_true, Bool.and_eq_false_iff, decide_eq_true_eq, decide_eq_false_iff_not, Bool.not_eq_true', Bool.not_eq_false', Int.not_lt, Int.not_le, List.length_map] at hc69
                          refine W.skip ?_
                          refine W.region ?_
                          refine XOps.s rfl rfl rfl (Q.add rfl rfl (wi64 (by first | omega | (dsimp only; omega) | (simp only [List.length_map]; omega)) (by first | omega | (dsimp only; omega) | (simp only [List.length_map]; omega)))) ?_
                          refine XOps.s rfl rfl rfl (Q.move_d rfl) ?_
                          refine XOps.nil ?_
                          refine ⟨(k + 1, f2, s2, w, g2), ?_, ?_, ?_, ?_⟩
                          · exact ⟨by dsimp only; omega, hK2⟩
                          · dsimp only; omega
                          · exact ⟨by first | rfl | exact int_eq (by omega) | exact len_eq (by simp) | exact int_eq (by simp; done), by first | rfl | exact int_eq (by omega) | exact len_eq (by simp) | exact int_eq (by simp; done), by first | rfl | exact int_eq (by omega) | exact len_eq (by simp) | exact int_eq (by simp; done), by first | rfl | exact int_eq (by omega) | exact len_eq (by simp) | exact int_eq (by simp; done), by first | rfl | exact int_eq (by omega) | exact len_eq (by simp) | exact int_eq (by simp; done), trivial⟩
                          · exact HLe.refl _
                      · try simp only [Bool.or_eq_true, Bool.or_eq_false_iff, Bool.and_eq_true, Bool.and_eq_false_iff, decide_eq_true_eq, decide_eq_false_iff_not, Bool.not_eq_true', Bool.not_eq_false', Int.not_lt, Int.not_le, List.length_map] at hc64
                        rw [if_neg (by omega)] at hst
                        refine W.skip ?_
                        refine W.heap (prH b (plN l (k + 1)) f s w (H g)) (by rw [hst]; exact HLe.refl _) ?_
                        refine W.reg ?_
                        refine XOps.s rfl rfl rfl (Q.move_fn rfl) ?_
                        (refine XOps.loud rfl (L.call rfl hf hg rfl (hcb (k + 1) (plN l (k + 1)) _ _ _ g hok1 hJ) rfl) ?_; rintro _ _ ⟨_, rfl, rfl, g2, hK2, rfl⟩)
                        refine XOps.s rfl rfl rfl (Q.not rfl) ?_
                        refine XOps.nil ?_
                        refine W.cond rfl (fun hc69 => ?_) (fun hc69 => ?_)
                        · try simp only [Bool.or_eq_true, Bool.or_eq_false_iff, Bool.and_eq_true, Bool.and_eq_false_iff, decide_eq_true_eq, decide_eq_false_iff_not, Bool.not_eq_true', Bool.not_eq_false', Int.not_lt, Int.not_le, List.length_map] at hc69
                          exact absurd hc69 (by simp)
                        · try simp only [Bool.or_eq_true, Bool.or_eq_false_iff, Bool.and_eq_true, Bool.and_eq_false_iff, decide_eq_true_eq, decide_eq_false_iff_not, Bool.not_eq_true', Bool.not_eq_false', Int.not_lt, Int.not_le, List.length_map] at hc69
                          refine W.skip ?_
                          refine W.region ?_
                          refine XOps.s rfl rfl rfl (Q.add rfl rfl (wi64 (by first | omega | (dsimp only; omega) | (simp only [List.length_map]; omega)) (by first | omega | (dsimp only; omega) | (simp only [List.length_map]; omega)))) ?_
                          refine XOps.s rfl rfl rfl (Q.move_d rfl) ?_
                          refine XOps.nil ?_
                          refine ⟨(k + 1, f, s, w, g2), ?_, ?_, ?_, ?_⟩
                          · exact ⟨by dsimp only; omega, hK2⟩
                          · dsimp only; omega
                          · exact ⟨by first | rfl | exact int_eq (by omega) | exact len_eq (by simp) | exact int_eq (by simp; done), by first | rfl | exact int_eq (by omega) | exact len_eq (by simp) | exact int_eq (by simp; done), by first | rfl | exact int_eq (by omega) | exact len_eq (by simp) | exact int_eq (by simp; done), by first | rfl | exact int_eq (by omega) | exact len_eq (by simp) | exact int_eq (by simp; done), by first | rfl | exact int_eq (by omega) | exact len_eq (by simp) | exact int_eq (by simp; done), trivial⟩
                          · exact HLe.refl _
                    · try simp only [Bool.or_eq_true, Bool.or_eq_false_iff, Bool.and_eq_true, Bool.and_eq_false_iff, decide_eq_true_eq, decide_eq_false_iff_not, Bool.not_eq_true', Bool.not_eq_false', Int.not_lt, Int.not_le, List.length_map] at hc61
                      rw [if_neg (by omega), if_neg (by omega), if_neg (by omega), if_neg (by omega), if_neg (by omega)] at hst
                      refine W.region ?_
                      refine XOps.s rfl rfl rfl (Q.move_ptr rfl) ?_
                      refine XOps.s rfl rfl rfl (Q.move_d rfl) ?_
                      (refine XOps.loud rfl (L.call rfl Try.func22 go22 rfl (deliver_c b (plN l k) f s w kk _ hok) rfl) ?_; rintro _ _ ⟨_, rfl, s2, w2, rfl, rfl⟩)
                      refine XOps.nil ?_
                      refine W.heap (prH b (plN l (k + 1)) f s2 w2 (H g)) (by rw [hst]; exact HLe.refl _) ?_
                      refine W.reg ?_
                      refine XOps.s rfl rfl rfl (Q.move_fn rfl) ?_
                      (refine XOps.loud rfl (L.call rfl hf hg rfl (hcb (k + 1) (plN l (k + 1)) _ _ _ g hok1 hJ) rfl) ?_; rintro _ _ ⟨_, rfl, rfl, g2, hK2, rfl⟩)
                      refine XOps.s rfl rfl rfl (Q.not rfl) ?_
                      refine XOps.nil ?_
                      refine W.cond rfl (fun hc69 => ?_) (fun hc69 => ?_)
                      · try simp only [Bool.or_eq_true, Bool.or_eq_false_iff, Bool.and_eq_true, Bool.and_eq_false_iff, decide_eq_true_eq, decide_eq_false_iff_not, Bool.not_eq_true', Bool.not_eq_false', Int.not_lt, Int.not_le, List.length_map] at hc69
                        exact absurd hc69 (by simp)
                      · try simp only [Bool.or_eq_true, Bool.or_eq_false_iff, Bool.and_eq_true, Bool.and_eq_false_iff, decide_eq_true_eq, decide_eq_false_iff_not, Bool.not_eq_true', Bool.not_eq_false', Int.not_lt, Int.not_le, List.length_map] at hc69
                        refine W.skip ?_
                        refine W.region ?_
                        refine XOps.s rfl rfl rfl (Q.add rfl rfl (wi64 (by first | omega | (dsimp only; omega) | (simp only [List.length_map]; omega)) (by first | omega | (dsimp only; omega) | (simp only [List.length_map]; omega)))) ?_
                        refine XOps.s rfl rfl rfl (Q.move_d rfl) ?_
                        refine XOps.nil ?_
                        refine ⟨(k + 1, f, s2, w2, g2), ?_, ?_, ?_, ?_⟩
                        · exact ⟨by dsimp only; omega, hK2⟩
                        · dsimp only; omega
                        · exact ⟨by first | rfl | exact int_eq (by omega) | exact len_eq (by simp) | exact int_eq (by simp; done), by first | rfl | exact int_eq (by omega) | exact len_eq (by simp) | exact int_eq (by simp; done), by first | rfl | exact int_eq (by omega) | exact len_eq (by simp) | exact int_eq (by simp; done), by first | rfl | exact int_eq (by omega) | exact len_eq (by simp) | exact int_eq (by simp; done), by first | rfl | exact int_eq (by omega) | exact len_eq (by simp) | exact int_eq (by simp; done), trivial⟩
                        · exact HLe.refl _
          · try simp only [Bool.or_eq_true, Bool.or_eq_false_iff, Bool.and_eq_true, Bool.and_eq_false_iff, decide_eq_true_eq, decide_eq_false_iff_not, Bool.not_eq_true', Bool.not_eq_false', Int.not_lt, Int.not_le, List.length_map] at hc38
            refine W.region ?_
            refine XOps.s rfl rfl rfl (Q.eql rfl rfl) ?_
            refine XOps.s rfl rfl rfl (Q.assign_d rfl) ?_
            refine XOps.nil ?_
            refine W.cond rfl (fun hc38 => ?_) (fun hc38 => ?_)
            · try simp only [Bool.or_eq_true, Bool.or_eq_false_iff, Bool.and_eq_true, Bool.and_eq_false_iff, decide_eq_true_eq, decide_eq_false_iff_not, Bool.not_eq_true', Bool.not_eq_false', Int.not_lt, Int.not_le, List.length_map] at hc38
              rw [if_pos (by omega)] at hst
              refine W.region ?_
              refine XOps.s rfl rfl rfl (Q.move_ptr rfl) ?_
              refine XOps.s rfl rfl rfl (Q.move_d rfl) ?_
              refine XOps.s rfl rfl rfl (Q.call rfl Try.func28 go28 rfl (itoa_c cn _ (by omega) (by have := itoaS_small cn (by omega); omega))) ?_
              refine XOps.s rfl rfl rfl (Q.adds rfl rfl (by have := itoaS_small cn (by omega); have h1 : (⟨#[101]⟩ : ByteArray).size = 1 := rfl; omega)) ?_
              (refine XOps.loud rfl (L.call rfl Try.func26 go26 rfl (submit_c b (plN l k) f s w (eName cn) _ hok) rfl) ?_; rintro _ _ ⟨_, rfl, f2, w2, rfl, rfl⟩)
              refine XOps.nil ?_
              refine W.heap (prH b (plN l (k + 1)) f2 s w2 (H g)) (by rw [hst]; exact HLe.refl _) ?_
              refine W.reg ?_
              refine XOps.s rfl rfl rfl (Q.move_fn rfl) ?_
              (refine XOps.loud rfl (L.call rfl hf hg rfl (hcb (k + 1) (plN l (k + 1)) _ _ _ g hok1 hJ) rfl) ?_; rintro _ _ ⟨_, rfl, rfl, g2, hK2, rfl⟩)
              refine XOps.s rfl rfl rfl (Q.not rfl) ?_
              refine XOps.nil ?_
              refine W.cond rfl (fun hc69 => ?_) (fun hc69 => ?_)
              · try simp only [Bool.or_eq_true, Bool.or_eq_false_iff, Bool.and_eq_true, Bool.and_eq_false_iff, decide_eq_true_eq, decide_eq_false_iff_not, Bool.not_eq_true', Bool.not_eq_false', Int.not_lt, Int.not_le, List.length_map] at hc69
                exact absurd hc69 (by simp)
              · try simp only [Bool.or_eq_true, Bool.or_eq_false_iff, Bool.and_eq_true, Bool.and_eq_false_iff, decide_eq_true_eq, decide_eq_false_iff_not, Bool.not_eq_true', Bool.not_eq_false', Int.not_lt, Int.not_le, List.length_map] at hc69
                refine W.skip ?_
                refine W.region ?_
                refine XOps.s rfl rfl rfl (Q.add rfl rfl (wi64 (by first | omega | (dsimp only; omega) | (simp only [List.length_map]; omega)) (by first | omega | (dsimp only; omega) | (simp only [List.length_map]; omega)))) ?_
                refine XOps.s rfl rfl rfl (Q.move_d rfl) ?_
                refine XOps.nil ?_
                refine ⟨(k + 1, f2, s, w2, g2), ?_, ?_, ?_, ?_⟩
                · exact ⟨by dsimp only; omega, hK2⟩
                · dsimp only; omega
                · exact ⟨by first | rfl | exact int_eq (by omega) | exact len_eq (by simp) | exact int_eq (by simp; done), by first | rfl | exact int_eq (by omega) | exact len_eq (by simp) | exact int_eq (by simp; done), by first | rfl | exact int_eq (by omega) | exact len_eq (by simp) | exact int_eq (by simp; done), by first | rfl | exact int_eq (by omega) | exact len_eq (by simp) | exact int_eq (by simp; done), by first | rfl | exact int_eq (by omega) | exact len_eq (by simp) | exact int_eq (by simp; done), trivial⟩
                · exact HLe.refl _
            · try simp only [Bool.or_eq_true, Bool.or_eq_false_iff, Bool.and_eq_true, Bool.and_eq_false_iff, decide_eq_true_eq, decide_eq_false_iff_not, Bool.not_eq_true', Bool.not_eq_false', Int.not_lt, Int.not_le, List.length_map] at hc38
              refine W.reg ?_
              refine XOps.s rfl rfl rfl (Q.eql rfl rfl) ?_
              refine XOps.s rfl rfl rfl (Q.assign_d rfl) ?_
              refine XOps.nil ?_
              refine W.cond rfl (fun hc47 => ?_) (fun hc47 => ?_)
              · try simp only [Bool.or_eq_true, Bool.or_eq_false_iff, Bool.and_eq_true, Bool.and_eq_false_iff, decide_eq_true_eq, decide_eq_false_iff_not, Bool.not_eq_true', Bool.not_eq_false', Int.not_lt, Int.not_le, List.length_map] at hc47
                rw [if_neg (by omega), if_pos hc47] at hst
                refine W.region ?_
                refine XOps.s rfl rfl rfl (Q.move_ptr rfl) ?_
                refine XOps.s rfl rfl rfl (Q.move_d rfl) ?_
                (refine XOps.loud rfl (L.call rfl Try.func20 go20 rfl (drop_c b (plN l k) f s w kk _ hok) rfl) ?_; rintro _ _ ⟨_, rfl, rfl, rfl⟩)
                refine XOps.nil ?_
                refine W.heap (prH b (plN l (k + 1)) f s w (H g)) (by rw [hst]; exact HLe.refl _) ?_
                refine W.reg ?_
                refine XOps.s rfl rfl rfl (Q.move_fn rfl) ?_
                (refine XOps.loud rfl (L.call rfl hf hg rfl (hcb (k + 1) (plN l (k + 1)) _ _ _ g hok1 hJ) rfl) ?_; rintro _ _ ⟨_, rfl, rfl, g2, hK2, rfl⟩)
                refine XOps.s rfl rfl rfl (Q.not rfl) ?_
                refine XOps.nil ?_
                refine W.cond rfl (fun hc69 => ?_) (fun hc69 => ?_)
                · try simp only [Bool.or_eq_true, Bool.or_eq_false_iff, Bool.and_eq_true, Bool.and_eq_false_iff, decide_eq_true_eq, decide_eq_false_iff_not, Bool.not_eq_true', Bool.not_eq_false', Int.not_lt, Int.not_le, List.length_map] at hc69
                  exact absurd hc69 (by simp)
                · try simp only [Bool.or_eq_true, Bool.or_eq_false_iff, Bool.and_eq_true, Bool.and_eq_false_iff, decide_eq_true_eq, decide_eq_false_iff_not, Bool.not_eq_true', Bool.not_eq_false', Int.not_lt, Int.not_le, List.length_map] at hc69
                  refine W.skip ?_
                  refine W.region ?_
                  refine XOps.s rfl rfl rfl (Q.add rfl rfl (wi64 (by first | omega | (dsimp only; omega) | (simp only [List.length_map]; omega)) (by first | omega | (dsimp only; omega) | (simp only [List.length_map]; omega)))) ?_
                  refine XOps.s rfl rfl rfl (Q.move_d rfl) ?_
                  refine XOps.nil ?_
                  refine ⟨(k + 1, f, s, w, g2), ?_, ?_, ?_, ?_⟩
                  · exact ⟨by dsimp only; omega, hK2⟩
                  · dsimp only; omega
                  · exact ⟨by first | rfl | exact int_eq (by omega) | exact len_eq (by simp) | exact int_eq (by simp; done), by first | rfl | exact int_eq (by omega) | exact len_eq (by simp) | exact int_eq (by simp; done), by first | rfl | exact int_eq (by omega) | exact len_eq (by simp) | exact int_eq (by simp; done), by first | rfl | exact int_eq (by omega) | exact len_eq (by simp) | exact int_eq (by simp; done), by first | rfl | exact int_eq (by omega) | exact len_eq (by simp) | exact int_eq (by simp; done), trivial⟩
                  · exact HLe.refl _
              · try simp only [Bool.or_eq_true, Bool.or_eq_false_iff, Bool.and_eq_true, Bool.and_eq_false_iff, decide_eq_true_eq, decide_eq_false_iff_not, Bool.not_eq_true', Bool.not_eq_false', Int.not_lt, Int.not_le, List.length_map] at hc47
                refine W.reg ?_
                refine XOps.s rfl rfl rfl (Q.eql rfl rfl) ?_
                refine XOps.s rfl rfl rfl (Q.assign_d rfl) ?_
                refine XOps.nil ?_
                refine W.cond rfl (fun hc52 => ?_) (fun hc52 => ?_)
                · try simp only [Bool.or_eq_true, Bool.or_eq_false_iff, Bool.and_eq_true, Bool.and_eq_false_iff, decide_eq_true_eq, decide_eq_false_iff_not, Bool.not_eq_true', Bool.not_eq_false', Int.not_lt, Int.not_le, List.length_map] at hc52
                  rw [if_neg (by omega), if_neg (by omega), if_pos hc52] at hst
                  refine W.region ?_
                  refine XOps.s rfl rfl rfl (Q.move_ptr rfl) ?_
                  refine XOps.s rfl rfl rfl (Q.move_d rfl) ?_
                  (refine XOps.loud rfl (L.call rfl Try.func29 go29 rfl (repeat_c b (plN l k) f s w kk _ hok) rfl) ?_; rintro _ _ ⟨_, rfl, w2, rfl, rfl⟩)
                  refine XOps.nil ?_
                  refine W.heap (prH b (plN l (k + 1)) f s w2 (H g)) (by rw [hst]; exact HLe.refl _) ?_
                  refine W.reg ?_
                  refine XOps.s rfl rfl rfl (Q.move_fn rfl) ?_
                  (refine XOps.loud rfl (L.call rfl hf hg rfl (hcb (k + 1) (plN l (k + 1)) _ _ _ g hok1 hJ) rfl) ?_; rintro _ _ ⟨_, rfl, rfl, g2, hK2, rfl⟩)
                  refine XOps.s rfl rfl rfl (Q.not rfl) ?_
                  refine XOps.nil ?_
                  refine W.cond rfl (fun hc69 => ?_) (fun hc69 => ?_)
                  · try simp only [Bool.or_eq_true, Bool.or_eq_false_iff, Bool.and_eq_true, Bool.and_eq_false_iff, decide_eq_true_eq, decide_eq_false_iff_not, Bool.not_eq_true', Bool.not_eq_false', Int.not_lt, Int.not_le, List.length_map] at hc69
                    exact absurd hc69 (by simp)
                  · try simp only [Bool.or_eq_true, Bool.or_eq_false_iff, Bool.and_eq_true, Bool.and_eq_false_iff, decide_eq_true_eq, decide_eq_false_iff_not, Bool.not_eq_true', Bool.not_eq_false', Int.not_lt, Int.not_le, List.length_map] at hc69
                    refine W.skip ?_
                    refine W.region ?_
                    refine XOps.s rfl rfl rfl (Q.add rfl rfl (wi64 (by first | omega | (dsimp only; omega) | (simp only [List.length_map]; omega)) (by first | omega | (dsimp only; omega) | (simp only [List.length_map]; omega)))) ?_
                    refine XOps.s rfl rfl rfl (Q.move_d rfl) ?_
                    refine XOps.nil ?_
                    refine ⟨(k + 1, f, s, w2, g2), ?_, ?_, ?_, ?_⟩
                    · exact ⟨by dsimp only; omega, hK2⟩
                    · dsimp only; omega
                    · exact ⟨by first | rfl | exact int_eq (by omega) | exact len_eq (by simp) | exact int_eq (by simp; done), by first | rfl | exact int_eq (by omega) | exact len_eq (by simp) | exact int_eq (by simp; done), by first | rfl | exact int_eq (by omega) | exact len_eq (by simp) | exact int_eq (by simp; done), by first | rfl | exact int_eq (by omega) | exact len_eq (by simp) | exact int_eq (by simp; done), by first | rfl | exact int_eq (by omega) | exact len_eq (by simp) | exact int_eq (by simp; done), trivial⟩
                    · exact HLe.refl _
                · try simp only [Bool.or_eq_true, Bool.or_eq_false_iff, Bool.and_eq_true, Bool.and_eq_false_iff, decide_eq_true_eq, decide_eq_false_iff_not, Bool.not_eq_true', Bool.not_eq_false', Int.not_lt, Int.not_le, List.length_map] at hc52
                  refine W.reg ?_
                  refine XOps.s rfl rfl rfl (Q.eql rfl rfl) ?_
                  refine XOps.s rfl rfl rfl (Q.assign_d rfl) ?_
                  refine XOps.nil ?_
                  refine W.cond rfl (fun hc57 => ?_) (fun hc57 => ?_)
                  · try simp only [Bool.or_eq_true, Bool.or_eq_false_iff, Bool.and_eq_true, Bool.and_eq_false_iff, decide_eq_true_eq, decide_eq_false_iff_not, Bool.not_eq_true', Bool.not_eq_false', Int.not_lt, Int.not_le, List.length_map] at hc57
                    rw [if_neg (by omega), if_neg (by omega), if_neg (by omega), if_pos hc57] at hst
                    refine W.region ?_
                    refine XOps.s rfl rfl rfl (Q.move_ptr rfl) ?_
                    (refine XOps.loud rfl (L.call rfl Try.func21 go21 rfl (resend_c b (plN l k) f s w _ hok) rfl) ?_; rintro _ _ ⟨_, rfl, w2, rfl, rfl⟩)
                    refine XOps.nil ?_
                    refine W.heap (prH b (plN l (k + 1)) f s w2 (H g)) (by rw [hst]; exact HLe.refl _) ?_
                    refine W.reg ?_
                    refine XOps.s rfl rfl rfl (Q.move_fn rfl) ?_
                    (refine XOps.loud rfl (L.call rfl hf hg rfl (hcb (k + 1) (plN l (k + 1)) _ _ _ g hok1 hJ) rfl) ?_; rintro _ _ ⟨_, rfl, rfl, g2, hK2, rfl⟩)
                    refine XOps.s rfl rfl rfl (Q.not rfl) ?_
                    refine XOps.nil ?_
                    refine W.cond rfl (fun hc69 => ?_) (fun hc69 => ?_)
                    · try simp only [Bool.or_eq_true, Bool.or_eq_false_iff, Bool.and_eq_true, Bool.and_eq_false_iff, decide_eq_true_eq, decide_eq_false_iff_not, Bool.not_eq_true', Bool.not_eq_false', Int.not_lt, Int.not_le, List.length_map] at hc69
                      exact absurd hc69 (by simp)
                    · try simp only [Bool.or_eq_true, Bool.or_eq_false_iff, Bool.and_eq_true, Bool.and_eq_false_iff, decide_eq_true_eq, decide_eq_false_iff_not, Bool.not_eq_true', Bool.not_eq_false', Int.not_lt, Int.not_le, List.length_map] at hc69
                      refine W.skip ?_
                      refine W.region ?_
                      refine XOps.s rfl rfl rfl (Q.add rfl rfl (wi64 (by first | omega | (dsimp only; omega) | (simp only [List.length_map]; omega)) (by first | omega | (dsimp only; omega) | (simp only [List.length_map]; omega)))) ?_
                      refine XOps.s rfl rfl rfl (Q.move_d rfl) ?_
                      refine XOps.nil ?_
                      refine ⟨(k + 1, f, s, w2, g2), ?_, ?_, ?_, ?_⟩
                      · exact ⟨by dsimp only; omega, hK2⟩
                      · dsimp only; omega
                      · exact ⟨by first | rfl | exact int_eq (by omega) | exact len_eq (by simp) | exact int_eq (by simp; done), by first | rfl | exact int_eq (by omega) | exact len_eq (by simp) | exact int_eq (by simp; done), by first | rfl | exact int_eq (by omega) | exact len_eq (by simp) | exact int_eq (by simp; done), by first | rfl | exact int_eq (by omega) | exact len_eq (by simp) | exact int_eq (by simp; done), by first | rfl | exact int_eq (by omega) | exact len_eq (by simp) | exact int_eq (by simp; done), trivial⟩
                      · exact HLe.refl _
                  · try simp only [Bool.or_eq_true, Bool.or_eq_false_iff, Bool.and_eq_true, Bool.and_eq_false_iff, decide_eq_true_eq, decide_eq_false_iff_not, Bool.not_eq_true', Bool.not_eq_false', Int.not_lt, Int.not_le, List.length_map] at hc57
                    refine W.reg ?_
                    refine XOps.s rfl rfl rfl (Q.eql rfl rfl) ?_
                    refine XOps.s rfl rfl rfl (Q.assign_d rfl) ?_
                    refine XOps.nil ?_
                    refine W.cond rfl (fun hc61 => ?_) (fun hc61 => ?_)
                    · try simp only [Bool.or_eq_true, Bool.or_eq_false_iff, Bool.and_eq_true, Bool.and_eq_false_iff, decide_eq_true_eq, decide_eq_false_iff_not, Bool.not_eq_true', Bool.not_eq_false', Int.not_lt, Int.not_le, List.length_map] at hc61
                      rw [if_neg (by omega), if_neg (by omega), if_neg (by omega), if_neg (by omega), if_pos hc61] at hst
                      refine W.reg ?_
                      refine XOps.s rfl rfl rfl (Q.move_d rfl) ?_
                      refine XOps.s rfl rfl rfl (Q.lss rfl rfl) ?_
                      refine XOps.nil ?_
                      refine W.cond rfl (fun hc64 => ?_) (fun hc64 => ?_)
                      · try simp only [Bool.or_eq_true, Bool.or_eq_false_iff, Bool.and_eq_true, Bool.and_eq_false_iff, decide_eq_true_eq, decide_eq_false_iff_not, Bool.not_eq_true', Bool.not_eq_false', Int.not_lt, Int.not_le, List.length_map] at hc64
                        rw [if_pos hc64] at hst
                        refine W.region ?_
                        refine XOps.s rfl rfl rfl (Q.move_ptr rfl) ?_
                        (refine XOps.loud rfl (L.call rfl Try.func25 go25 rfl (take_c b (plN l k) f s w _ hok) rfl) ?_; rintro _ _ ⟨_, rfl, f2, s2, rfl, rfl⟩)
                        refine XOps.nil ?_
                        refine W.heap (prH b (plN l (k + 1)) f2 s2 w (H g)) (by rw [hst]; exact HLe.refl _) ?_
                        refine W.reg ?_
                        refine XOps.s rfl rfl rfl (Q.move_fn rfl) ?_
                        (refine XOps.loud rfl (L.call rfl hf hg rfl (hcb (k + 1) (plN l (k + 1)) _ _ _ g hok1 hJ) rfl) ?_; rintro _ _ ⟨_, rfl, rfl, g2, hK2, rfl⟩)
                        refine XOps.s rfl rfl rfl (Q.not rfl) ?_
                        refine XOps.nil ?_
                        refine W.cond rfl (fun hc69 => ?_) (fun hc69 => ?_)
                        · try simp only [Bool.or_eq_true, Bool.or_eq_false_iff, Bool.and_eq_true, Bool.and_eq_false_iff, decide_eq_true_eq, decide_eq_false_iff_not, Bool.not_eq_true', Bool.not_eq_false', Int.not_lt, Int.not_le, List.length_map] at hc69
                          exact absurd hc69 (by simp)
                        · try simp only [Bool.or_eq_true, Bool.or_eq_false_iff, Bool.and_eq_true, Bool.and_eq_false_iff, decide_eq_true_eq, decide_eq_false_iff_not, Bool.not_eq_true', Bool.not_eq_false', Int.not_lt, Int.not_le, List.length_map] at hc69
                          refine W.skip ?_
                          refine W.region ?_
                          refine XOps.s rfl rfl rfl (Q.add rfl rfl (wi64 (by first | omega | (dsimp only; omega) | (simp only [List.length_map]; omega)) (by first | omega | (dsimp only; omega) | (simp only [List.length_map]; omega)))) ?_
                          refine XOps.s rfl rfl rfl (Q.move_d rfl) ?_
                          refine XOps.nil ?_
                          refine ⟨(k + 1, f2, s2, w, g2), ?_, ?_, ?_, ?_⟩
                          · exact ⟨by dsimp only; omega, hK2⟩
                          · dsimp only; omega
                          · exact ⟨by first | rfl | exact int_eq (by omega) | exact len_eq (by simp) | exact int_eq (by simp; done), by first | rfl | exact int_eq (by omega) | exact len_eq (by simp) | exact int_eq (by simp; done), by first | rfl | exact int_eq (by omega) | exact len_eq (by simp) | exact int_eq (by simp; done), by first | rfl | exact int_eq (by omega) | exact len_eq (by simp) | exact int_eq (by simp; done), by first | rfl | exact int_eq (by omega) | exact len_eq (by simp) | exact int_eq (by simp; done), trivial⟩
                          · exact HLe.refl _
                      · try simp only [Bool.or_eq_true, Bool.or_eq_false_iff, Bool.and_eq_true, Bool.and_eq_false_iff, decide_eq_true_eq, decide_eq_false_iff_not, Bool.not_eq_true', Bool.not_eq_false', Int.not_lt, Int.not_le, List.length_map] at hc64
                        rw [if_neg (by omega)] at hst
                        refine W.skip ?_
                        refine W.heap (prH b (plN l (k + 1)) f s w (H g)) (by rw [hst]; exact HLe.refl _) ?_
                        refine W.reg ?_
                        refine XOps.s rfl rfl rfl (Q.move_fn rfl) ?_
                        (refine XOps.loud rfl (L.call rfl hf hg rfl (hcb (k + 1) (plN l (k + 1)) _ _ _ g hok1 hJ) rfl) ?_; rintro _ _ ⟨_, rfl, rfl, g2, hK2, rfl⟩)
                        refine XOps.s rfl rfl rfl (Q.not rfl) ?_
                        refine XOps.nil ?_
                        refine W.cond rfl (fun hc69 => ?_) (fun hc69 => ?_)
                        · try simp only [Bool.or_eq_true, Bool.or_eq_false_iff, Bool.and_eq_true, Bool.and_eq_false_iff, decide_eq_true_eq, decide_eq_false_iff_not, Bool.not_eq_true', Bool.not_eq_false', Int.not_lt, Int.not_le, List.length_map] at hc69
                          exact absurd hc69 (by simp)
                        · try simp only [Bool.or_eq_true, Bool.or_eq_false_iff, Bool.and_eq_true, Bool.and_eq_false_iff, decide_eq_true_eq, decide_eq_false_iff_not, Bool.not_eq_true', Bool.not_eq_false', Int.not_lt, Int.not_le, List.length_map] at hc69
                          refine W.skip ?_
                          refine W.region ?_
                          refine XOps.s rfl rfl rfl (Q.add rfl rfl (wi64 (by first | omega | (dsimp only; omega) | (simp only [List.length_map]; omega)) (by first | omega | (dsimp only; omega) | (simp only [List.length_map]; omega)))) ?_
                          refine XOps.s rfl rfl rfl (Q.move_d rfl) ?_
                          refine XOps.nil ?_
                          refine ⟨(k + 1, f, s, w, g2), ?_, ?_, ?_, ?_⟩
                          · exact ⟨by dsimp only; omega, hK2⟩
                          · dsimp only; omega
                          · exact ⟨by first | rfl | exact int_eq (by omega) | exact len_eq (by simp) | exact int_eq (by simp; done), by first | rfl | exact int_eq (by omega) | exact len_eq (by simp) | exact int_eq (by simp; done), by first | rfl | exact int_eq (by omega) | exact len_eq (by simp) | exact int_eq (by simp; done), by first | rfl | exact int_eq (by omega) | exact len_eq (by simp) | exact int_eq (by simp; done), by first | rfl | exact int_eq (by omega) | exact len_eq (by simp) | exact int_eq (by simp; done), trivial⟩
                          · exact HLe.refl _
                    · try simp only [Bool.or_eq_true, Bool.or_eq_false_iff, Bool.and_eq_true, Bool.and_eq_false_iff, decide_eq_true_eq, decide_eq_false_iff_not, Bool.not_eq_true', Bool.not_eq_false', Int.not_lt, Int.not_le, List.length_map] at hc61
                      rw [if_neg (by omega), if_neg (by omega), if_neg (by omega), if_neg (by omega), if_neg (by omega)] at hst
                      refine W.region ?_
                      refine XOps.s rfl rfl rfl (Q.move_ptr rfl) ?_
                      refine XOps.s rfl rfl rfl (Q.move_d rfl) ?_
                      (refine XOps.loud rfl (L.call rfl Try.func22 go22 rfl (deliver_c b (plN l k) f s w kk _ hok) rfl) ?_; rintro _ _ ⟨_, rfl, s2, w2, rfl, rfl⟩)
                      refine XOps.nil ?_
                      refine W.heap (prH b (plN l (k + 1)) f s2 w2 (H g)) (by rw [hst]; exact HLe.refl _) ?_
                      refine W.reg ?_
                      refine XOps.s rfl rfl rfl (Q.move_fn rfl) ?_
                      (refine XOps.loud rfl (L.call rfl hf hg rfl (hcb (k + 1) (plN l (k + 1)) _ _ _ g hok1 hJ) rfl) ?_; rintro _ _ ⟨_, rfl, rfl, g2, hK2, rfl⟩)
                      refine XOps.s rfl rfl rfl (Q.not rfl) ?_
                      refine XOps.nil ?_
                      refine W.cond rfl (fun hc69 => ?_) (fun hc69 => ?_)
                      · try simp only [Bool.or_eq_true, Bool.or_eq_false_iff, Bool.and_eq_true, Bool.and_eq_false_iff, decide_eq_true_eq, decide_eq_false_iff_not, Bool.not_eq_true', Bool.not_eq_false', Int.not_lt, Int.not_le, List.length_map] at hc69
                        exact absurd hc69 (by simp)
                      · try simp only [Bool.or_eq_true, Bool.or_eq_false_iff, Bool.and_eq_true, Bool.and_eq_false_iff, decide_eq_true_eq, decide_eq_false_iff_not, Bool.not_eq_true', Bool.not_eq_false', Int.not_lt, Int.not_le, List.length_map] at hc69
                        refine W.skip ?_
                        refine W.region ?_
                        refine XOps.s rfl rfl rfl (Q.add rfl rfl (wi64 (by first | omega | (dsimp only; omega) | (simp only [List.length_map]; omega)) (by first | omega | (dsimp only; omega) | (simp only [List.length_map]; omega)))) ?_
                        refine XOps.s rfl rfl rfl (Q.move_d rfl) ?_
                        refine XOps.nil ?_
                        refine ⟨(k + 1, f, s2, w2, g2), ?_, ?_, ?_, ?_⟩
                        · exact ⟨by dsimp only; omega, hK2⟩
                        · dsimp only; omega
                        · exact ⟨by first | rfl | exact int_eq (by omega) | exact len_eq (by simp) | exact int_eq (by simp; done), by first | rfl | exact int_eq (by omega) | exact len_eq (by simp) | exact int_eq (by simp; done), by first | rfl | exact int_eq (by omega) | exact len_eq (by simp) | exact int_eq (by simp; done), by first | rfl | exact int_eq (by omega) | exact len_eq (by simp) | exact int_eq (by simp; done), by first | rfl | exact int_eq (by omega) | exact len_eq (by simp) | exact int_eq (by simp; done), trivial⟩
                        · exact HLe.refl _
      · try simp only [Bool.or_eq_true, Bool.or_eq_false_iff, Bool.and_eq_true, Bool.and_eq_false_iff, decide_eq_true_eq, decide_eq_false_iff_not, Bool.not_eq_true', Bool.not_eq_false', Int.not_lt, Int.not_le, List.length_map] at hc29
        obtain ⟨kk, hkk⟩ : ∃ kk : Int, kk = (cn : Int) / 10 := ⟨_, rfl⟩
        have hpk : plK (plN l k) cn = kk := by unfold plK; rw [if_neg (by omega), hkk]
        rw [hpk] at hst
        refine W.skip ?_
        refine W.seq ?_
        try rw [show (cn : Int) / 10 = kk from hkk.symm]
        refine W.reg ?_
        refine XOps.s rfl rfl rfl (Q.move_d rfl) ?_
        refine XOps.s rfl rfl rfl (Q.rem rfl rfl (by decide) (wrem (by omega))) ?_
        refine XOps.nil ?_
        refine W.block ?_
        refine W.seq ?_
        refine W.reg ?_
        refine XOps.s rfl rfl rfl (Q.eql rfl rfl) ?_
        refine XOps.s rfl rfl rfl (Q.assign_d rfl) ?_
        refine XOps.nil ?_
        refine W.cond rfl (fun hc38 => ?_) (fun hc38 => ?_)
        · try simp only [Bool.or_eq_true, Bool.or_eq_false_iff, Bool.and_eq_true, Bool.and_eq_false_iff, decide_eq_true_eq, decide_eq_false_iff_not, Bool.not_eq_true', Bool.not_eq_false', Int.not_lt, Int.not_le, List.length_map] at hc38
          refine W.skip ?_
          refine W.cond rfl (fun hc38 => ?_) (fun hc38 => ?_)
          · try simp only [Bool.or_eq_true, Bool.or_eq_false_iff, Bool.and_eq_true, Bool.and_eq_false_iff, decide_eq_true_eq, decide_eq_false_iff_not, Bool.not_eq_true', Bool.not_eq_false', Int.not_lt, Int.not_le, List.length_map] at hc38
            rw [if_pos (by omega)] at hst
            refine W.region ?_
            refine XOps.s rfl rfl rfl (Q.move_ptr rfl) ?_
            refine XOps.s rfl rfl rfl (Q.move_d rfl) ?_
            refine XOps.s rfl rfl rfl (Q.call rfl Try.func28 go28 rfl (itoa_c cn _ (by omega) (by have := itoaS_small cn (by omega); omega))) ?_
            refine XOps.s rfl rfl rfl (Q.adds rfl rfl (by have := itoaS_small cn (by omega); have h1 : (⟨#[101]⟩ : ByteArray).size = 1 := rfl; omega)) ?_
            (refine XOps.loud rfl (L.call rfl Try.func26 go26 rfl (submit_c b (plN l k) f s w (eName cn) _ hok) rfl) ?_; rintro _ _ ⟨_, rfl, f2, w2, rfl, rfl⟩)
            refine XOps.nil ?_
            refine W.heap (prH b (plN l (k + 1)) f2 s w2 (H g)) (by rw [hst]; exact HLe.refl _) ?_
            refine W.reg ?_
            refine XOps.s rfl rfl rfl (Q.move_fn rfl) ?_
            (refine XOps.loud rfl (L.call rfl hf hg rfl (hcb (k + 1) (plN l (k + 1)) _ _ _ g hok1 hJ) rfl) ?_; rintro _ _ ⟨_, rfl, rfl, g2, hK2, rfl⟩)
            refine XOps.s rfl rfl rfl (Q.not rfl) ?_
            refine XOps.nil ?_
            refine W.cond rfl (fun hc69 => ?_) (fun hc69 => ?_)
            · try simp only [Bool.or_eq_true, Bool.or_eq_false_iff, Bool.and_eq_true, Bool.and_eq_false_iff, decide_eq_true_eq, decide_eq_false_iff_not, Bool.not_eq_true', Bool.not_eq_false', Int.not_lt, Int.not_le, List.length_map] at hc69
              exact absurd hc69 (by simp)
            · try simp only [Bool.or_eq_true, Bool.or_eq_false_iff, Bool.and_eq_true, Bool.and_eq_false_iff, decide_eq_true_eq, decide_eq_false_iff_not, Bool.not_eq_true', Bool.not_eq_false', Int.not_lt, Int.not_le, List.length_map] at hc69
              refine W.skip ?_
              refine W.region ?_
              refine XOps.s rfl rfl rfl (Q.add rfl rfl (wi64 (by first | omega | (dsimp only; omega) | (simp only [List.length_map]; omega)) (by first | omega | (dsimp only; omega) | (simp only [List.length_map]; omega)))) ?_
              refine XOps.s rfl rfl rfl (Q.move_d rfl) ?_
              refine XOps.nil ?_
              refine ⟨(k + 1, f2, s, w2, g2), ?_, ?_, ?_, ?_⟩
              · exact ⟨by dsimp only; omega, hK2⟩
              · dsimp only; omega
              · exact ⟨by first | rfl | exact int_eq (by omega) | exact len_eq (by simp) | exact int_eq (by simp; done), by first | rfl | exact int_eq (by omega) | exact len_eq (by simp) | exact int_eq (by simp; done), by first | rfl | exact int_eq (by omega) | exact len_eq (by simp) | exact int_eq (by simp; done), by first | rfl | exact int_eq (by omega) | exact len_eq (by simp) | exact int_eq (by simp; done), by first | rfl | exact int_eq (by omega) | exact len_eq (by simp) | exact int_eq (by simp; done), trivial⟩
              · exact HLe.refl _
          · try simp only [Bool.or_eq_true, Bool.or_eq_false_iff, Bool.and_eq_true, Bool.and_eq_false_iff, decide_eq_true_eq, decide_eq_false_iff_not, Bool.not_eq_true', Bool.not_eq_false', Int.not_lt, Int.not_le, List.length_map] at hc38
            refine W.reg ?_
            refine XOps.s rfl rfl rfl (Q.eql rfl rfl) ?_
            refine XOps.s rfl rfl rfl (Q.assign_d rfl) ?_
            refine XOps.nil ?_
            refine W.cond rfl (fun hc47 => ?_) (fun hc47 => ?_)
            · try simp only [Bool.or_eq_true, Bool.or_eq_false_iff, Bool.and_eq_true, Bool.and_eq_false_iff, decide_eq_true_eq, decide_eq_false_iff_not, Bool.not_eq_true', Bool.not_eq_false', Int.not_lt, Int.not_le, List.length_map] at hc47
              rw [if_neg (by omega), if_pos hc47] at hst
              refine W.region ?_
              refine XOps.s rfl rfl rfl (Q.move_ptr rfl) ?_
              refine XOps.s rfl rfl rfl (Q.move_d rfl) ?_
              (refine XOps.loud rfl (L.call rfl Try.func20 go20 rfl (drop_c b (plN l k) f s w kk _ hok) rfl) ?_; rintro _ _ ⟨_, rfl, rfl, rfl⟩)
              refine XOps.nil ?_
              refine W.heap (prH b (plN l (k + 1)) f s w (H g)) (by rw [hst]; exact HLe.refl _) ?_
              refine W.reg ?_
              refine XOps.s rfl rfl rfl (Q.move_fn rfl) ?_
              (refine XOps.loud rfl (L.call rfl hf hg rfl (hcb (k + 1) (plN l (k + 1)) _ _ _ g hok1 hJ) rfl) ?_; rintro _ _ ⟨_, rfl, rfl, g2, hK2, rfl⟩)
              refine XOps.s rfl rfl rfl (Q.not rfl) ?_
              refine XOps.nil ?_
              refine W.cond rfl (fun hc69 => ?_) (fun hc69 => ?_)
              · try simp only [Bool.or_eq_true, Bool.or_eq_false_iff, Bool.and_eq_true, Bool.and_eq_false_iff, decide_eq_true_eq, decide_eq_false_iff_not, Bool.not_eq_true', Bool.not_eq_false', Int.not_lt, Int.not_le, List.length_map] at hc69
                exact absurd hc69 (by simp)
              · try simp only [Bool.or_eq_true, Bool.or_eq_false_iff, Bool.and_eq_true, Bool.and_eq_false_iff, decide_eq_true_eq, decide_eq_false_iff_not, Bool.not_eq_true', Bool.not_eq_false', Int.not_lt, Int.not_le, List.length_map] at hc69
                refine W.skip ?_
                refine W.region ?_
                refine XOps.s rfl rfl rfl (Q.add rfl rfl (wi64 (by first | omega | (dsimp only; omega) | (simp only [List.length_map]; omega)) (by first | omega | (dsimp only; omega) | (simp only [List.length_map]; omega)))) ?_
                refine XOps.s rfl rfl rfl (Q.move_d rfl) ?_
                refine XOps.nil ?_
                refine ⟨(k + 1, f, s, w, g2), ?_, ?_, ?_, ?_⟩
                · exact ⟨by dsimp only; omega, hK2⟩
                · dsimp only; omega
                · exact ⟨by first | rfl | exact int_eq (by omega) | exact len_eq (by simp) | exact int_eq (by simp; done), by first | rfl | exact int_eq (by omega) | exact len_eq (by simp) | exact int_eq (by simp; done), by first | rfl | exact int_eq (by omega) | exact len_eq (by simp) | exact int_eq (by simp; done), by first | rfl | exact int_eq (by omega) | exact len_eq (by simp) | exact int_eq (by simp; done), by first | rfl | exact int_eq (by omega) | exact len_eq (by simp) | exact int_eq (by simp; done), trivial⟩
                · exact HLe.refl _
            · try simp only [Bool.or_eq_true, Bool.or_eq_false_iff, Bool.and_eq_true, Bool.and_eq_false_iff, decide_eq_true_eq, decide_eq_false_iff_not, Bool.not_eq_true', Bool.not_eq_false', Int.not_lt, Int.not_le, List.length_map] at hc47
              refine W.reg ?_
              refine XOps.s rfl rfl rfl (Q.eql rfl rfl) ?_
              refine XOps.s rfl rfl rfl (Q.assign_d rfl) ?_
              refine XOps.nil ?_
              refine W.cond rfl (fun hc52 => ?_) (fun hc52 => ?_)
              · try simp only [Bool.or_eq_true, Bool.or_eq_false_iff, Bool.and_eq_true, Bool.and_eq_false_iff, decide_eq_true_eq, decide_eq_false_iff_not, Bool.not_eq_true', Bool.not_eq_false', Int.not_lt, Int.not_le, List.length_map] at hc52
                rw [if_neg (by omega), if_neg (by omega), if_pos hc52] at hst
                refine W.region ?_
                refine XOps.s rfl rfl rfl (Q.move_ptr rfl) ?_
                refine XOps.s rfl rfl rfl (Q.move_d rfl) ?_
                (refine XOps.loud rfl (L.call rfl Try.func29 go29 rfl (repeat_c b (plN l k) f s w kk _ hok) rfl) ?_; rintro _ _ ⟨_, rfl, w2, rfl, rfl⟩)
                refine XOps.nil ?_
                refine W.heap (prH b (plN l (k + 1)) f s w2 (H g)) (by rw [hst]; exact HLe.refl _) ?_
                refine W.reg ?_
                refine XOps.s rfl rfl rfl (Q.move_fn rfl) ?_
                (refine XOps.loud rfl (L.call rfl hf hg rfl (hcb (k + 1) (plN l (k + 1)) _ _ _ g hok1 hJ) rfl) ?_; rintro _ _ ⟨_, rfl, rfl, g2, hK2, rfl⟩)
                refine XOps.s rfl rfl rfl (Q.not rfl) ?_
                refine XOps.nil ?_
                refine W.cond rfl (fun hc69 => ?_) (fun hc69 => ?_)
                · try simp only [Bool.or_eq_true, Bool.or_eq_false_iff, Bool.and_eq_true, Bool.and_eq_false_iff, decide_eq_true_eq, decide_eq_false_iff_not, Bool.not_eq_true', Bool.not_eq_false', Int.not_lt, Int.not_le, List.length_map] at hc69
                  exact absurd hc69 (by simp)
                · try simp only [Bool.or_eq_true, Bool.or_eq_false_iff, Bool.and_eq_true, Bool.and_eq_false_iff, decide_eq_true_eq, decide_eq_false_iff_not, Bool.not_eq_true', Bool.not_eq_false', Int.not_lt, Int.not_le, List.length_map] at hc69
                  refine W.skip ?_
                  refine W.region ?_
                  refine XOps.s rfl rfl rfl (Q.add rfl rfl (wi64 (by first | omega | (dsimp only; omega) | (simp only [List.length_map]; omega)) (by first | omega | (dsimp only; omega) | (simp only [List.length_map]; omega)))) ?_
                  refine XOps.s rfl rfl rfl (Q.move_d rfl) ?_
                  refine XOps.nil ?_
                  refine ⟨(k + 1, f, s, w2, g2), ?_, ?_, ?_, ?_⟩
                  · exact ⟨by dsimp only; omega, hK2⟩
                  · dsimp only; omega
                  · exact ⟨by first | rfl | exact int_eq (by omega) | exact len_eq (by simp) | exact int_eq (by simp; done), by first | rfl | exact int_eq (by omega) | exact len_eq (by simp) | exact int_eq (by simp; done), by first | rfl | exact int_eq (by omega) | exact len_eq (by simp) | exact int_eq (by simp; done), by first | rfl | exact int_eq (by omega) | exact len_eq (by simp) | exact int_eq (by simp; done), by first | rfl | exact int_eq (by omega) | exact len_eq (by simp) | exact int_eq (by simp; done), trivial⟩
                  · exact HLe.refl _
              · try simp only [Bool.or_eq_true, Bool.or_eq_false_iff, Bool.and_eq_true, Bool.and_eq_false_iff, decide_eq_true_eq, decide_eq_false_iff_not, Bool.not_eq_true', Bool.not_eq_false', Int.not_lt, Int.not_le, List.length_map] at hc52
                refine W.reg ?_
                refine XOps.s rfl rfl rfl (Q.eql rfl rfl) ?_
                refine XOps.s rfl rfl rfl (Q.assign_d rfl) ?_
                refine XOps.nil ?_
                refine W.cond rfl (fun hc57 => ?_) (fun hc57 => ?_)
                · try simp only [Bool.or_eq_true, Bool.or_eq_false_iff, Bool.and_eq_true, Bool.and_eq_false_iff, decide_eq_true_eq, decide_eq_false_iff_not, Bool.not_eq_true', Bool.not_eq_false', Int.not_lt, Int.not_le, List.length_map] at hc57
                  rw [if_neg (by omega), if_neg (by omega), if_neg (by omega), if_pos hc57] at hst
                  refine W.region ?_
                  refine XOps.s rfl rfl rfl (Q.move_ptr rfl) ?_
                  (refine XOps.loud rfl (L.call rfl Try.func21 go21 rfl (resend_c b (plN l k) f s w _ hok) rfl) ?_; rintro _ _ ⟨_, rfl, w2, rfl, rfl⟩)
                  refine XOps.nil ?_
                  refine W.heap (prH b (plN l (k + 1)) f s w2 (H g)) (by rw [hst]; exact HLe.refl _) ?_
                  refine W.reg ?_
                  refine XOps.s rfl rfl rfl (Q.move_fn rfl) ?_
                  (refine XOps.loud rfl (L.call rfl hf hg rfl (hcb (k + 1) (plN l (k + 1)) _ _ _ g hok1 hJ) rfl) ?_; rintro _ _ ⟨_, rfl, rfl, g2, hK2, rfl⟩)
                  refine XOps.s rfl rfl rfl (Q.not rfl) ?_
                  refine XOps.nil ?_
                  refine W.cond rfl (fun hc69 => ?_) (fun hc69 => ?_)
                  · try simp only [Bool.or_eq_true, Bool.or_eq_false_iff, Bool.and_eq_true, Bool.and_eq_false_iff, decide_eq_true_eq, decide_eq_false_iff_not, Bool.not_eq_true', Bool.not_eq_false', Int.not_lt, Int.not_le, List.length_map] at hc69
                    exact absurd hc69 (by simp)
                  · try simp only [Bool.or_eq_true, Bool.or_eq_false_iff, Bool.and_eq_true, Bool.and_eq_false_iff, decide_eq_true_eq, decide_eq_false_iff_not, Bool.not_eq_true', Bool.not_eq_false', Int.not_lt, Int.not_le, List.length_map] at hc69
                    refine W.skip ?_
                    refine W.region ?_
                    refine XOps.s rfl rfl rfl (Q.add rfl rfl (wi64 (by first | omega | (dsimp only; omega) | (simp only [List.length_map]; omega)) (by first | omega | (dsimp only; omega) | (simp only [List.length_map]; omega)))) ?_
                    refine XOps.s rfl rfl rfl (Q.move_d rfl) ?_
                    refine XOps.nil ?_
                    refine ⟨(k + 1, f, s, w2, g2), ?_, ?_, ?_, ?_⟩
                    · exact ⟨by dsimp only; omega, hK2⟩
                    · dsimp only; omega
                    · exact ⟨by first | rfl | exact int_eq (by omega) | exact len_eq (by simp) | exact int_eq (by simp; done), by first | rfl | exact int_eq (by omega) | exact len_eq (by simp) | exact int_eq (by simp; done), by first | rfl | exact int_eq (by omega) | exact len_eq (by simp) | exact int_eq (by simp; done), by first | rfl | exact int_eq (by omega) | exact len_eq (by simp) | exact int_eq (by simp; done), by first | rfl | exact int_eq (by omega) | exact len_eq (by simp) | exact int_eq (by simp; done), trivial⟩
                    · exact HLe.refl _
                · try simp only [Bool.or_eq_true, Bool.or_eq_false_iff, Bool.and_eq_true, Bool.and_eq_false_iff, decide_eq_true_eq, decide_eq_false_iff_not, Bool.not_eq_true', Bool.not_eq_false', Int.not_lt, Int.not_le, List.length_map] at hc57
                  refine W.reg ?_
                  refine XOps.s rfl rfl rfl (Q.eql rfl rfl) ?_
                  refine XOps.s rfl rfl rfl (Q.assign_d rfl) ?_
                  refine XOps.nil ?_
                  refine W.cond rfl (fun hc61 => ?_) (fun hc61 => ?_)
                  · try simp only [Bool.or_eq_true, Bool.or_eq_false_iff, Bool.and_eq_true, Bool.and_eq_false_iff, decide_eq_true_eq, decide_eq_false_iff_not, Bool.not_eq_true', Bool.not_eq_false', Int.not_lt, Int.not_le, List.length_map] at hc61
                    rw [if_neg (by omega), if_neg (by omega), if_neg (by omega), if_neg (by omega), if_pos hc61] at hst
                    refine W.reg ?_
                    refine XOps.s rfl rfl rfl (Q.move_d rfl) ?_
                    refine XOps.s rfl rfl rfl (Q.lss rfl rfl) ?_
                    refine XOps.nil ?_
                    refine W.cond rfl (fun hc64 => ?_) (fun hc64 => ?_)
                    · try simp only [Bool.or_eq_true, Bool.or_eq_false_iff, Bool.and_eq_true, Bool.and_eq_false_iff, decide_eq_true_eq, decide_eq_false_iff_not, Bool.not_eq_true', Bool.not_eq_false', Int.not_lt, Int.not_le, List.length_map] at hc64
                      rw [if_pos hc64] at hst
                      refine W.region ?_
                      refine XOps.s rfl rfl rfl (Q.move_ptr rfl) ?_
                      (refine XOps.loud rfl (L.call rfl Try.func25 go25 rfl (take_c b (plN l k) f s w _ hok) rfl) ?_; rintro _ _ ⟨_, rfl, f2, s2, rfl, rfl⟩)
                      refine XOps.nil ?_
                      refine W.heap (prH b (plN l (k + 1)) f2 s2 w (H g)) (by rw [hst]; exact HLe.refl _) ?_
                      refine W.reg ?_
                      refine XOps.s rfl rfl rfl (Q.move_fn rfl) ?_
                      (refine XOps.loud rfl (L.call rfl hf hg rfl (hcb (k + 1) (plN l (k + 1)) _ _ _ g hok1 hJ) rfl) ?_; rintro _ _ ⟨_, rfl, rfl, g2, hK2, rfl⟩)
                      refine XOps.s rfl rfl rfl (Q.not rfl) ?_
                      refine XOps.nil ?_
                      refine W.cond rfl (fun hc69 => ?_) (fun hc69 => ?_)
                      · try simp only [Bool.or_eq_true, Bool.or_eq_false_iff, Bool.and_eq_true, Bool.and_eq_false_iff, decide_eq_true_eq, decide_eq_false_iff_not, Bool.not_eq_true', Bool.not_eq_false', Int.not_lt, Int.not_le, List.length_map] at hc69
                        exact absurd hc69 (by simp)
                      · try simp only [Bool.or_eq_true, Bool.or_eq_false_iff, Bool.and_eq_true, Bool.and_eq_false_iff, decide_eq_true_eq, decide_eq_false_iff_not, Bool.not_eq_true', Bool.not_eq_false', Int.not_lt, Int.not_le, List.length_map] at hc69
                        refine W.skip ?_
                        refine W.region ?_
                        refine XOps.s rfl rfl rfl (Q.add rfl rfl (wi64 (by first | omega | (dsimp only; omega) | (simp only [List.length_map]; omega)) (by first | omega | (dsimp only; omega) | (simp only [List.length_map]; omega)))) ?_
                        refine XOps.s rfl rfl rfl (Q.move_d rfl) ?_
                        refine XOps.nil ?_
                        refine ⟨(k + 1, f2, s2, w, g2), ?_, ?_, ?_, ?_⟩
                        · exact ⟨by dsimp only; omega, hK2⟩
                        · dsimp only; omega
                        · exact ⟨by first | rfl | exact int_eq (by omega) | exact len_eq (by simp) | exact int_eq (by simp; done), by first | rfl | exact int_eq (by omega) | exact len_eq (by simp) | exact int_eq (by simp; done), by first | rfl | exact int_eq (by omega) | exact len_eq (by simp) | exact int_eq (by simp; done), by first | rfl | exact int_eq (by omega) | exact len_eq (by simp) | exact int_eq (by simp; done), by first | rfl | exact int_eq (by omega) | exact len_eq (by simp) | exact int_eq (by simp; done), trivial⟩
                        · exact HLe.refl _
                    · try simp only [Bool.or_eq_true, Bool.or_eq_false_iff, Bool.and_eq_true, Bool.and_eq_false_iff, decide_eq_true_eq, decide_eq_false_iff_not, Bool.not_eq_true', Bool.not_eq_false', Int.not_lt, Int.not_le, List.length_map] at hc64
                      rw [if_neg (by omega)] at hst
                      refine W.skip ?_
                      refine W.heap (prH b (plN l (k + 1)) f s w (H g)) (by rw [hst]; exact HLe.refl _) ?_
                      refine W.reg ?_
                      refine XOps.s rfl rfl rfl (Q.move_fn rfl) ?_
                      (refine XOps.loud rfl (L.call rfl hf hg rfl (hcb (k + 1) (plN l (k + 1)) _ _ _ g hok1 hJ) rfl) ?_; rintro _ _ ⟨_, rfl, rfl, g2, hK2, rfl⟩)
                      refine XOps.s rfl rfl rfl (Q.not rfl) ?_
                      refine XOps.nil ?_
                      refine W.cond rfl (fun hc69 => ?_) (fun hc69 => ?_)
                      · try simp only [Bool.or_eq_true, Bool.or_eq_false_iff, Bool.and_eq_true, Bool.and_eq_false_iff, decide_eq_true_eq, decide_eq_false_iff_not, Bool.not_eq_true', Bool.not_eq_false', Int.not_lt, Int.not_le, List.length_map] at hc69
                        exact absurd hc69 (by simp)
                      · try simp only [Bool.or_eq_true, Bool.or_eq_false_iff, Bool.and_eq_true, Bool.and_eq_false_iff, decide_eq_true_eq, decide_eq_false_iff_not, Bool.not_eq_true', Bool.not_eq_false', Int.not_lt, Int.not_le, List.length_map] at hc69
                        refine W.skip ?_
                        refine W.region ?_
                        refine XOps.s rfl rfl rfl (Q.add rfl rfl (wi64 (by first | omega | (dsimp only; omega) | (simp only [List.length_map]; omega)) (by first | omega | (dsimp only; omega) | (simp only [List.length_map]; omega)))) ?_
                        refine XOps.s rfl rfl rfl (Q.move_d rfl) ?_
                        refine XOps.nil ?_
                        refine ⟨(k + 1, f, s, w, g2), ?_, ?_, ?_, ?_⟩
                        · exact ⟨by dsimp only; omega, hK2⟩
                        · dsimp only; omega
                        · exact ⟨by first | rfl | exact int_eq (by omega) | exact len_eq (by simp) | exact int_eq (by simp; done), by first | rfl | exact int_eq (by omega) | exact len_eq (by simp) | exact int_eq (by simp; done), by first | rfl | exact int_eq (by omega) | exact len_eq (by simp) | exact int_eq (by simp; done), by first | rfl | exact int_eq (by omega) | exact len_eq (by simp) | exact int_eq (by simp; done), by first | rfl | exact int_eq (by omega) | exact len_eq (by simp) | exact int_eq (by simp; done), trivial⟩
                        · exact HLe.refl _
                  · try simp only [Bool.or_eq_true, Bool.or_eq_false_iff, Bool.and_eq_true, Bool.and_eq_false_iff, decide_eq_true_eq, decide_eq_false_iff_not, Bool.not_eq_true', Bool.not_eq_false', Int.not_lt, Int.not_le, List.length_map] at hc61
                    rw [if_neg (by omega), if_neg (by omega), if_neg (by omega), if_neg (by omega), if_neg (by omega)] at hst
                    refine W.region ?_
                    refine XOps.s rfl rfl rfl (Q.move_ptr rfl) ?_
                    refine XOps.s rfl rfl rfl (Q.move_d rfl) ?_
                    (refine XOps.loud rfl (L.call rfl Try.func22 go22 rfl (deliver_c b (plN l k) f s w kk _ hok) rfl) ?_; rintro _ _ ⟨_, rfl, s2, w2, rfl, rfl⟩)
                    refine XOps.nil ?_
                    refine W.heap (prH b (plN l (k + 1)) f s2 w2 (H g)) (by rw [hst]; exact HLe.refl _) ?_
                    refine W.reg ?_
                    refine XOps.s rfl rfl rfl (Q.move_fn rfl) ?_
                    (refine XOps.loud rfl (L.call rfl hf hg rfl (hcb (k + 1) (plN l (k + 1)) _ _ _ g hok1 hJ) rfl) ?_; rintro _ _ ⟨_, rfl, rfl, g2, hK2, rfl⟩)
                    refine XOps.s rfl rfl rfl (Q.not rfl) ?_
                    refine XOps.nil ?_
                    refine W.cond rfl (fun hc69 => ?_) (fun hc69 => ?_)
                    · try simp only [Bool.or_eq_true, Bool.or_eq_false_iff, Bool.and_eq_true, Bool.and_eq_false_iff, decide_eq_true_eq, decide_eq_false_iff_not, Bool.not_eq_true', Bool.not_eq_false', Int.not_lt, Int.not_le, List.length_map] at hc69
                      exact absurd hc69 (by simp)
                    · try simp only [Bool.or_eq_true, Bool.or_eq_false_iff, Bool.and_eq_true, Bool.and_eq_false_iff, decide_eq_true_eq, decide_eq_false_iff_not, Bool.not_eq_true', Bool.not_eq_false', Int.not_lt, Int.not_le, List.length_map] at hc69
                      refine W.skip ?_
                      refine W.region ?_
                      refine XOps.s rfl rfl rfl (Q.add rfl rfl (wi64 (by first | omega | (dsimp only; omega) | (simp only [List.length_map]; omega)) (by first | omega | (dsimp only; omega) | (simp only [List.length_map]; omega)))) ?_
                      refine XOps.s rfl rfl rfl (Q.move_d rfl) ?_
                      refine XOps.nil ?_
                      refine ⟨(k + 1, f, s2, w2, g2), ?_, ?_, ?_, ?_⟩
                      · exact ⟨by dsimp only; omega, hK2⟩
                      · dsimp only; omega
                      · exact ⟨by first | rfl | exact int_eq (by omega) | exact len_eq (by simp) | exact int_eq (by simp; done), by first | rfl | exact int_eq (by omega) | exact len_eq (by simp) | exact int_eq (by simp; done), by first | rfl | exact int_eq (by omega) | exact len_eq (by simp) | exact int_eq (by simp; done), by first | rfl | exact int_eq (by omega) | exact len_eq (by simp) | exact int_eq (by simp; done), by first | rfl | exact int_eq (by omega) | exact len_eq (by simp) | exact int_eq (by simp; done), trivial⟩
                      · exact HLe.refl _
        · try simp only [Bool.or_eq_true, Bool.or_eq_false_iff, Bool.and_eq_true, Bool.and_eq_false_iff, decide_eq_true_eq, decide_eq_false_iff_not, Bool.not_eq_true', Bool.not_eq_false', Int.not_lt, Int.not_le, List.length_map] at hc38
          refine W.reg ?_
          refine XOps.s rfl rfl rfl (Q.eql rfl rfl) ?_
          refine XOps.s rfl rfl rfl (Q.assign_d rfl) ?_
          refine XOps.nil ?_
          refine W.cond rfl (fun hc38 => ?_) (fun hc38 => ?_)
          · try simp only [Bool.or_eq_true, Bool.or_eq_false_iff, Bool.and_eq_true, Bool.and_eq_false_iff, decide_eq_true_eq, decide_eq_false_iff_not, Bool.not_eq_true', Bool.not_eq_false', Int.not_lt, Int.not_le, List.length_map] at hc38
            refine W.skip ?_
            refine W.cond rfl (fun hc38 => ?_) (fun hc38 => ?_)
            · try simp only [Bool.or_eq_true, Bool.or_eq_false_iff, Bool.and_eq_true, Bool.and_eq_false_iff, decide_eq_true_eq, decide_eq_false_iff_not, Bool.not_eq_true', Bool.not_eq_false', Int.not_lt, Int.not_le, List.length_map] at hc38
              rw [if_pos (by omega)] at hst
              refine W.region ?_
              refine XOps.s rfl rfl rfl (Q.move_ptr rfl) ?_
              refine XOps.s rfl rfl rfl (Q.move_d rfl) ?_
              refine XOps.s rfl rfl rfl (Q.call rfl Try.func28 go28 rfl (itoa_c cn _ (by omega) (by have := itoaS_small cn (by omega); omega))) ?_
              refine XOps.s rfl rfl rfl (Q.adds rfl rfl (by have := itoaS_small cn (by omega); have h1 : (⟨#[101]⟩ : ByteArray).size = 1 := rfl; omega)) ?_
              (refine XOps.loud rfl (L.call rfl Try.func26 go26 rfl (submit_c b (plN l k) f s w (eName cn) _ hok) rfl) ?_; rintro _ _ ⟨_, rfl, f2, w2, rfl, rfl⟩)
              refine XOps.nil ?_
              refine W.heap (prH b (plN l (k + 1)) f2 s w2 (H g)) (by rw [hst]; exact HLe.refl _) ?_
              refine W.reg ?_
              refine XOps.s rfl rfl rfl (Q.move_fn rfl) ?_
              (refine XOps.loud rfl (L.call rfl hf hg rfl (hcb (k + 1) (plN l (k + 1)) _ _ _ g hok1 hJ) rfl) ?_; rintro _ _ ⟨_, rfl, rfl, g2, hK2, rfl⟩)
              refine XOps.s rfl rfl rfl (Q.not rfl) ?_
              refine XOps.nil ?_
              refine W.cond rfl (fun hc69 => ?_) (fun hc69 => ?_)
              · try simp only [Bool.or_eq_true, Bool.or_eq_false_iff, Bool.and_eq_true, Bool.and_eq_false_iff, decide_eq_true_eq, decide_eq_false_iff_not, Bool.not_eq_true', Bool.not_eq_false', Int.not_lt, Int.not_le, List.length_map] at hc69
                exact absurd hc69 (by simp)
              · try simp only [Bool.or_eq_true, Bool.or_eq_false_iff, Bool.and_eq_true, Bool.and_eq_false_iff, decide_eq_true_eq, decide_eq_false_iff_not, Bool.not_eq_true', Bool.not_eq_false', Int.not_lt, Int.not_le, List.length_map] at hc69
                refine W.skip ?_
                refine W.region ?_
                refine XOps.s rfl rfl rfl (Q.add rfl rfl (wi64 (by first | omega | (dsimp only; omega) | (simp only [List.length_map]; omega)) (by first | omega | (dsimp only; omega) | (simp only [List.length_map]; omega)))) ?_
                refine XOps.s rfl rfl rfl (Q.move_d rfl) ?_
                refine XOps.nil ?_
                refine ⟨(k + 1, f2, s, w2, g2), ?_, ?_, ?_, ?_⟩
                · exact ⟨by dsimp only; omega, hK2⟩
                · dsimp only; omega
                · exact ⟨by first | rfl | exact int_eq (by omega) | exact len_eq (by simp) | exact int_eq (by simp; done), by first | rfl | exact int_eq (by omega) | exact len_eq (by simp) | exact int_eq (by simp; done), by first | rfl | exact int_eq (by omega) | exact len_eq (by simp) | exact int_eq (by simp; done), by first | rfl | exact int_eq (by omega) | exact len_eq (by simp) | exact int_eq (by simp; done), by first | rfl | exact int_eq (by omega) | exact len_eq (by simp) | exact int_eq (by simp; done), trivial⟩
                · exact HLe.refl _
            · try simp only [Bool.or_eq_true, Bool.or_eq_false_iff, Bool.and_eq_true, Bool.and_eq_false_iff, decide_eq_true_eq, decide_eq_false_iff_not, Bool.not_eq_true', Bool.not_eq_false', Int.not_lt, Int.not_le, List.length_map] at hc38
              refine W.reg ?_
              refine XOps.s rfl rfl rfl (Q.eql rfl rfl) ?_
              refine XOps.s rfl rfl rfl (Q.assign_d rfl) ?_
              refine XOps.nil ?_
              refine W.cond rfl (fun hc47 => ?_) (fun hc47 => ?_)
              · try simp only [Bool.or_eq_true, Bool.or_eq_false_iff, Bool.and_eq_true, Bool.and_eq_false_iff, decide_eq_true_eq, decide_eq_false_iff_not, Bool.not_eq_true', Bool.not_eq_false', Int.not_lt, Int.not_le, List.length_map] at hc47
                rw [if_neg (by omega), if_pos hc47] at hst
                refine W.region ?_
                refine XOps.s rfl rfl rfl (Q.move_ptr rfl) ?_
                refine XOps.s rfl rfl rfl (Q.move_d rfl) ?_
                (refine XOps.loud rfl (L.call rfl Try.func20 go20 rfl (drop_c b (plN l k) f s w kk _ hok) rfl) ?_; rintro _ _ ⟨_, rfl, rfl, rfl⟩)
                refine XOps.nil ?_
                refine W.heap (prH b (plN l (k + 1)) f s w (H g)) (by rw [hst]; exact HLe.refl _) ?_
                refine W.reg ?_
                refine XOps.s rfl rfl rfl (Q.move_fn rfl) ?_
                (refine XOps.loud rfl (L.call rfl hf hg rfl (hcb (k + 1) (plN l (k + 1)) _ _ _ g hok1 hJ) rfl) ?_; rintro _ _ ⟨_, rfl, rfl, g2, hK2, rfl⟩)
                refine XOps.s rfl rfl rfl (Q.not rfl) ?_
                refine XOps.nil ?_
                refine W.cond rfl (fun hc69 => ?_) (fun hc69 => ?_)
                · try simp only [Bool.or_eq_true, Bool.or_eq_false_iff, Bool.and_eq_true, Bool.and_eq_false_iff, decide_eq_true_eq, decide_eq_false_iff_not, Bool.not_eq_true', Bool.not_eq_false', Int.not_lt, Int.not_le, List.length_map] at hc69
                  exact absurd hc69 (by simp)
                · try simp only [Bool.or_eq_true, Bool.or_eq_false_iff, Bool.and_eq_true, Bool.and_eq_false_iff, decide_eq_true_eq, decide_eq_false_iff_not, Bool.not_eq_true', Bool.not_eq_false', Int.not_lt, Int.not_le, List.length_map] at hc69
                  refine W.skip ?_
                  refine W.region ?_
                  refine XOps.s rfl rfl rfl (Q.add rfl rfl (wi64 (by first | omega | (dsimp only; omega) | (simp only [List.length_map]; omega)) (by first | omega | (dsimp only; omega) | (simp only [List.length_map]; omega)))) ?_
                  refine XOps.s rfl rfl rfl (Q.move_d rfl) ?_
                  refine XOps.nil ?_
                  refine ⟨(k + 1, f, s, w, g2), ?_, ?_, ?_, ?_⟩
                  · exact ⟨by dsimp only; omega, hK2⟩
                  · dsimp only; omega
                  · exact ⟨by first | rfl | exact int_eq (by omega) | exact len_eq (by simp) | exact int_eq (by simp; done), by first | rfl | exact int_eq (by omega) | exact len_eq (by simp) | exact int_eq (by simp; done), by first | rfl | exact int_eq (by omega) | exact len_eq (by simp) | exact int_eq (by simp; done), by first | rfl | exact int_eq (by omega) | exact len_eq (by simp) | exact int_eq (by simp; done), by first | rfl | exact int_eq (by omega) | exact len_eq (by simp) | exact int_eq (by simp; done), trivial⟩
                  · exact HLe.refl _
              · try simp only [Bool.or_eq_true, Bool.or_eq_false_iff, Bool.and_eq_true, Bool.and_eq_false_iff, decide_eq_true_eq, decide_eq_false_iff_not, Bool.not_eq_true', Bool.not_eq_false', Int.not_lt, Int.not_le, List.length_map] at hc47
                refine W.reg ?_
                refine XOps.s rfl rfl rfl (Q.eql rfl rfl) ?_
                refine XOps.s rfl rfl rfl (Q.assign_d rfl) ?_
                refine XOps.nil ?_
                refine W.cond rfl (fun hc52 => ?_) (fun hc52 => ?_)
                · try simp only [Bool.or_eq_true, Bool.or_eq_false_iff, Bool.and_eq_true, Bool.and_eq_false_iff, decide_eq_true_eq, decide_eq_false_iff_not, Bool.not_eq_true', Bool.not_eq_false', Int.not_lt, Int.not_le, List.length_map] at hc52
                  rw [if_neg (by omega), if_neg (by omega), if_pos hc52] at hst
                  refine W.region ?_
                  refine XOps.s rfl rfl rfl (Q.move_ptr rfl) ?_
                  refine XOps.s rfl rfl rfl (Q.move_d rfl) ?_
                  (refine XOps.loud rfl (L.call rfl Try.func29 go29 rfl (repeat_c b (plN l k) f s w kk _ hok) rfl) ?_; rintro _ _ ⟨_, rfl, w2, rfl, rfl⟩)
                  refine XOps.nil ?_
                  refine W.heap (prH b (plN l (k + 1)) f s w2 (H g)) (by rw [hst]; exact HLe.refl _) ?_
                  refine W.reg ?_
                  refine XOps.s rfl rfl rfl (Q.move_fn rfl) ?_
                  (refine XOps.loud rfl (L.call rfl hf hg rfl (hcb (k + 1) (plN l (k + 1)) _ _ _ g hok1 hJ) rfl) ?_; rintro _ _ ⟨_, rfl, rfl, g2, hK2, rfl⟩)
                  refine XOps.s rfl rfl rfl (Q.not rfl) ?_
                  refine XOps.nil ?_
                  refine W.cond rfl (fun hc69 => ?_) (fun hc69 => ?_)
                  · try simp only [Bool.or_eq_true, Bool.or_eq_false_iff, Bool.and_eq_true, Bool.and_eq_false_iff, decide_eq_true_eq, decide_eq_false_iff_not, Bool.not_eq_true', Bool.not_eq_false', Int.not_lt, Int.not_le, List.length_map] at hc69
                    exact absurd hc69 (by simp)
                  · try simp only [Bool.or_eq_true, Bool.or_eq_false_iff, Bool.and_eq_true, Bool.and_eq_false_iff, decide_eq_true_eq, decide_eq_false_iff_not, Bool.not_eq_true', Bool.not_eq_false', Int.not_lt, Int.not_le, List.length_map] at hc69
                    refine W.skip ?_
                    refine W.region ?_
                    refine XOps.s rfl rfl rfl (Q.add rfl rfl (wi64 (by first | omega | (dsimp only; omega) | (simp only [List.length_map]; omega)) (by first | omega | (dsimp only; omega) | (simp only [List.length_map]; omega)))) ?_
                    refine XOps.s rfl rfl rfl (Q.move_d rfl) ?_
                    refine XOps.nil ?_
                    refine ⟨(k + 1, f, s, w2, g2), ?_, ?_, ?_, ?_⟩
                    · exact ⟨by dsimp only; omega, hK2⟩
                    · dsimp only; omega
                    · exact ⟨by first | rfl | exact int_eq (by omega) | exact len_eq (by simp) | exact int_eq (by simp; done), by first | rfl | exact int_eq (by omega) | exact len_eq (by simp) | exact int_eq (by simp; done), by first | rfl | exact int_eq (by omega) | exact len_eq (by simp) | exact int_eq (by simp; done), by first | rfl | exact int_eq (by omega) | exact len_eq (by simp) | exact int_eq (by simp; done), by first | rfl | exact int_eq (by omega) | exact len_eq (by simp) | exact int_eq (by simp; done), trivial⟩
                    · exact HLe.refl _
                · try simp only [Bool.or_eq_true, Bool.or_eq_false_iff, Bool.and_eq_true, Bool.and_eq_false_iff, decide_eq_true_eq, decide_eq_false_iff_not, Bool.not_eq_true', Bool.not_eq_false', Int.not_lt, Int.not_le, List.length_map] at hc52
                  refine W.reg ?_
                  refine XOps.s rfl rfl rfl (Q.eql rfl rfl) ?_
                  refine XOps.s rfl rfl rfl (Q.assign_d rfl) ?_
                  refine XOps.nil ?_
                  refine W.cond rfl (fun hc57 => ?_) (fun hc57 => ?_)
                  · try simp only [Bool.or_eq_true, Bool.or_eq_false_iff, Bool.and_eq_true, Bool.and_eq_false_iff, decide_eq_true_eq, decide_eq_false_iff_not, Bool.not_eq_true', Bool.not_eq_false', Int.not_lt, Int.not_le, List.length_map] at hc57
                    rw [if_neg (by omega), if_neg (by omega), if_neg (by omega), if_pos hc57] at hst
                    refine W.region ?_
                    refine XOps.s rfl rfl rfl (Q.move_ptr rfl) ?_
                    (refine XOps.loud rfl (L.call rfl Try.func21 go21 rfl (resend_c b (plN l k) f s w _ hok) rfl) ?_; rintro _ _ ⟨_, rfl, w2, rfl, rfl⟩)
                    refine XOps.nil ?_
                    refine W.heap (prH b (plN l (k + 1)) f s w2 (H g)) (by rw [hst]; exact HLe.refl _) ?_
                    refine W.reg ?_
                    refine XOps.s rfl rfl rfl (Q.move_fn rfl) ?_
                    (refine XOps.loud rfl (L.call rfl hf hg rfl (hcb (k + 1) (plN l (k + 1)) _ _ _ g hok1 hJ) rfl) ?_; rintro _ _ ⟨_, rfl, rfl, g2, hK2, rfl⟩)
                    refine XOps.s rfl rfl rfl (Q.not rfl) ?_
                    refine XOps.nil ?_
                    refine W.cond rfl (fun hc69 => ?_) (fun hc69 => ?_)
                    · try simp only [Bool.or_eq_true, Bool.or_eq_false_iff, Bool.and_eq_true, Bool.and_eq_false_iff, decide_eq_true_eq, decide_eq_false_iff_not, Bool.not_eq_true', Bool.not_eq_false', Int.not_lt, Int.not_le, List.length_map] at hc69
                      exact absurd hc69 (by simp)
                    · try simp only [Bool.or_eq_true, Bool.or_eq_false_iff, Bool.and_eq_true, Bool.and_eq_false_iff, decide_eq_true_eq, decide_eq_false_iff_not, Bool.not_eq_true', Bool.not_eq_false', Int.not_lt, Int.not_le, List.length_map] at hc69
                      refine W.skip ?_
                      refine W.region ?_
                      refine XOps.s rfl rfl rfl (Q.add rfl rfl (wi64 (by first | omega | (dsimp only; omega) | (simp only [List.length_map]; omega)) (by first | omega | (dsimp only; omega) | (simp only [List.length_map]; omega)))) ?_
                      refine XOps.s rfl rfl rfl (Q.move_d rfl) ?_
                      refine XOps.nil ?_
                      refine ⟨(k + 1, f, s, w2, g2), ?_, ?_, ?_, ?_⟩
                      · exact ⟨by dsimp only; omega, hK2⟩
                      · dsimp only; omega
                      · exact ⟨by first | rfl | exact int_eq (by omega) | exact len_eq (by simp) | exact int_eq (by simp; done), by first | rfl | exact int_eq (by omega) | exact len_eq (by simp) | exact int_eq (by simp; done), by first | rfl | exact int_eq (by omega) | exact len_eq (by simp) | exact int_eq (by simp; done), by first | rfl | exact int_eq (by omega) | exact len_eq (by simp) | exact int_eq (by simp; done), by first | rfl | exact int_eq (by omega) | exact len_eq (by simp) | exact int_eq (by simp; done), trivial⟩
                      · exact HLe.refl _
                  · try simp only [Bool.or_eq_true, Bool.or_eq_false_iff, Bool.and_eq_true, Bool.and_eq_false_iff, decide_eq_true_eq, decide_eq_false_iff_not, Bool.not_eq_true', Bool.not_eq_false', Int.not_lt, Int.not_le, List.length_map] at hc57
                    refine W.reg ?_
                    refine XOps.s rfl rfl rfl (Q.eql rfl rfl) ?_
                    refine XOps.s rfl rfl rfl (Q.assign_d rfl) ?_
                    refine XOps.nil ?_
                    refine W.cond rfl (fun hc61 => ?_) (fun hc61 => ?_)
                    · try simp only [Bool.or_eq_true, Bool.or_eq_false_iff, Bool.and_eq_true, Bool.and_eq_false_iff, decide_eq_true_eq, decide_eq_false_iff_not, Bool.not_eq_true', Bool.not_eq_false', Int.not_lt, Int.not_le, List.length_map] at hc61
                      rw [if_neg (by omega), if_neg (by omega), if_neg (by omega), if_neg (by omega), if_pos hc61] at hst
                      refine W.reg ?_
                      refine XOps.s rfl rfl rfl (Q.move_d rfl) ?_
                      refine XOps.s rfl rfl rfl (Q.lss rfl rfl) ?_
                      refine XOps.nil ?_
                      refine W.cond rfl (fun hc64 => ?_) (fun hc64 => ?_)
                      · try simp only [Bool.or_eq_true, Bool.or_eq_false_iff, Bool.and_eq_true, Bool.and_eq_false_iff, decide_eq_true_eq, decide_eq_false_iff_not, Bool.not_eq_true', Bool.not_eq_false', Int.not_lt, Int.not_le, List.length_map] at hc64
                        rw [if_pos hc64] at hst
                        refine W.region ?_
                        refine XOps.s rfl rfl rfl (Q.move_ptr rfl) ?_
                        (refine XOps.loud rfl (L.call rfl Try.func25 go25 rfl (take_c b (plN l k) f s w _ hok) rfl) ?_; rintro _ _ ⟨_, rfl, f2, s2, rfl, rfl⟩)
                        refine XOps.nil ?_
                        refine W.heap (prH b (plN l (k + 1)) f2 s2 w (H g)) (by rw [hst]; exact HLe.refl _) ?_
                        refine W.reg ?_
                        refine XOps.s rfl rfl rfl (Q.move_fn rfl) ?_
                        (refine XOps.loud rfl (L.call rfl hf hg rfl (hcb (k + 1) (plN l (k + 1)) _ _ _ g hok1 hJ) rfl) ?_; rintro _ _ ⟨_, rfl, rfl, g2, hK2, rfl⟩)
                        refine XOps.s rfl rfl rfl (Q.not rfl) ?_
                        refine XOps.nil ?_
                        refine W.cond rfl (fun hc69 => ?_) (fun hc69 => ?_)
                        · try simp only [Bool.or_eq_true, Bool.or_eq_false_iff, Bool.and_eq_true, Bool.and_eq_false_iff, decide_eq_true_eq, decide_eq_false_iff_not, Bool.not_eq_true', Bool.not_eq_false', Int.not_lt, Int.not_le, List.length_map] at hc69
                          exact absurd hc69 (by simp)
                        · try simp only [Bool.or_eq_true, Bool.or_eq_false_iff, Bool.and_eq_true, Bool.and_eq_false_iff, decide_eq_true_eq, decide_eq_false_iff_not, Bool.not_eq_true', Bool.not_eq_false', Int.not_lt, Int.not_le, List.length_map] at hc69
                          refine W.skip ?_
                          refine W.region ?_
                          refine XOps.s rfl rfl rfl (Q.add rfl rfl (wi64 (by first | omega | (dsimp only; omega) | (simp only [List.length_map]; omega)) (by first | omega | (dsimp only; omega) | (simp only [List.length_map]; omega)))) ?_
                          refine XOps.s rfl rfl rfl (Q.move_d rfl) ?_
                          refine XOps.nil ?_
                          refine ⟨(k + 1, f2, s2, w, g2), ?_, ?_, ?_, ?_⟩
                          · exact ⟨by dsimp only; omega, hK2⟩
                          · dsimp only; omega
                          · exact ⟨by first | rfl | exact int_eq (by omega) | exact len_eq (by simp) | exact int_eq (by simp; done), by first | rfl | exact int_eq (by omega) | exact len_eq (by simp) | exact int_eq (by simp; done), by first | rfl | exact int_eq (by omega) | exact len_eq (by simp) | exact int_eq (by simp; done), by first | rfl | exact int_eq (by omega) | exact len_eq (by simp) | exact int_eq (by simp; done), by first | rfl | exact int_eq (by omega) | exact len_eq (by simp) | exact int_eq (by simp; done), trivial⟩
                          · exact HLe.refl _
                      · try simp only [Bool.or_eq_true, Bool.or_eq_false_iff, Bool.and_eq_true, Bool.and_eq_false_iff, decide_eq_true_eq, decide_eq_false_iff_not, Bool.not_eq_true', Bool.not_eq_false', Int.not_lt, Int.not_le, List.length_map] at hc64
                        rw [if_neg (by omega)] at hst
                        refine W.skip ?_
                        refine W.heap (prH b (plN l (k + 1)) f s w (H g)) (by rw [hst]; exact HLe.refl _) ?_
                        refine W.reg ?_
                        refine XOps.s rfl rfl rfl (Q.move_fn rfl) ?_
                        (refine XOps.loud rfl (L.call rfl hf hg rfl (hcb (k + 1) (plN l (k + 1)) _ _ _ g hok1 hJ) rfl) ?_; rintro _ _ ⟨_, rfl, rfl, g2, hK2, rfl⟩)
                        refine XOps.s rfl rfl rfl (Q.not rfl) ?_
                        refine XOps.nil ?_
                        refine W.cond rfl (fun hc69 => ?_) (fun hc69 => ?_)
                        · try simp only [Bool.or_eq_true, Bool.or_eq_false_iff, Bool.and_eq_true, Bool.and_eq_false_iff, decide_eq_true_eq, decide_eq_false_iff_not, Bool.not_eq_true', Bool.not_eq_false', Int.not_lt, Int.not_le, List.length_map] at hc69
                          exact absurd hc69 (by simp)
                        · try simp only [Bool.or_eq_true, Bool.or_eq_false_iff, Bool.and_eq_true, Bool.and_eq_false_iff, decide_eq_true_eq, decide_eq_false_iff_not, Bool.not_eq_true', Bool.not_eq_false', Int.not_lt, Int.not_le, List.length_map] at hc69
                          refine W.skip ?_
                          refine W.region ?_
                          refine XOps.s rfl rfl rfl (Q.add rfl rfl (wi64 (by first | omega | (dsimp only; omega) | (simp only [List.length_map]; omega)) (by first | omega | (dsimp only; omega) | (simp only [List.length_map]; omega)))) ?_
                          refine XOps.s rfl rfl rfl (Q.move_d rfl) ?_
                          refine XOps.nil ?_
                          refine ⟨(k + 1, f, s, w, g2), ?_, ?_, ?_, ?_⟩
                          · exact ⟨by dsimp only; omega, hK2⟩
                          · dsimp only; omega
                          · exact ⟨by first | rfl | exact int_eq (by omega) | exact len_eq (by simp) | exact int_eq (by simp; done), by first | rfl | exact int_eq (by omega) | exact len_eq (by simp) | exact int_eq (by simp; done), by first | rfl | exact int_eq (by omega) | exact len_eq (by simp) | exact int_eq (by simp; done), by first | rfl | exact int_eq (by omega) | exact len_eq (by simp) | exact int_eq (by simp; done), by first | rfl | exact int_eq (by omega) | exact len_eq (by simp) | exact int_eq (by simp; done), trivial⟩
                          · exact HLe.refl _
                    · try simp only [Bool.or_eq_true, Bool.or_eq_false_iff, Bool.and_eq_true, Bool.and_eq_false_iff, decide_eq_true_eq, decide_eq_false_iff_not, Bool.not_eq_true', Bool.not_eq_false', Int.not_lt, Int.not_le, List.length_map] at hc61
                      rw [if_neg (by omega), if_neg (by omega), if_neg (by omega), if_neg (by omega), if_neg (by omega)] at hst
                      refine W.region ?_
                      refine XOps.s rfl rfl rfl (Q.move_ptr rfl) ?_
                      refine XOps.s rfl rfl rfl (Q.move_d rfl) ?_
                      (refine XOps.loud rfl (L.call rfl Try.func22 go22 rfl (deliver_c b (plN l k) f s w kk _ hok) rfl) ?_; rintro _ _ ⟨_, rfl, s2, w2, rfl, rfl⟩)
                      refine XOps.nil ?_
                      refine W.heap (prH b (plN l (k + 1)) f s2 w2 (H g)) (by rw [hst]; exact HLe.refl _) ?_
                      refine W.reg ?_
                      refine XOps.s rfl rfl rfl (Q.move_fn rfl) ?_
                      (refine XOps.loud rfl (L.call rfl hf hg rfl (hcb (k + 1) (plN l (k + 1)) _ _ _ g hok1 hJ) rfl) ?_; rintro _ _ ⟨_, rfl, rfl, g2, hK2, rfl⟩)
                      refine XOps.s rfl rfl rfl (Q.not rfl) ?_
                      refine XOps.nil ?_
                      refine W.cond rfl (fun hc69 => ?_) (fun hc69 => ?_)
                      · try simp only [Bool.or_eq_true, Bool.or_eq_false_iff, Bool.and_eq_true, Bool.and_eq_false_iff, decide_eq_true_eq, decide_eq_false_iff_not, Bool.not_eq_true', Bool.not_eq_false', Int.not_lt, Int.not_le, List.length_map] at hc69
                        exact absurd hc69 (by simp)
                      · try simp only [Bool.or_eq_true, Bool.or_eq_false_iff, Bool.and_eq_true, Bool.and_eq_false_iff, decide_eq_true_eq, decide_eq_false_iff_not, Bool.not_eq_true', Bool.not_eq_false', Int.not_lt, Int.not_le, List.length_map] at hc69
                        refine W.skip ?_
                        refine W.region ?_
                        refine XOps.s rfl rfl rfl (Q.add rfl rfl (wi64 (by first | omega | (dsimp only; omega) | (simp only [List.length_map]; omega)) (by first | omega | (dsimp only; omega) | (simp only [List.length_map]; omega)))) ?_
                        refine XOps.s rfl rfl rfl (Q.move_d rfl) ?_
                        refine XOps.nil ?_
                        refine ⟨(k + 1, f, s2, w2, g2), ?_, ?_, ?_, ?_⟩
                        · exact ⟨by dsimp only; omega, hK2⟩
                        · dsimp only; omega
                        · exact ⟨by first | rfl | exact int_eq (by omega) | exact len_eq (by simp) | exact int_eq (by simp; done), by first | rfl | exact int_eq (by omega) | exact len_eq (by simp) | exact int_eq (by simp; done), by first | rfl | exact int_eq (by omega) | exact len_eq (by simp) | exact int_eq (by simp; done), by first | rfl | exact int_eq (by omega) | exact len_eq (by simp) | exact int_eq (by simp; done), by first | rfl | exact int_eq (by omega) | exact len_eq (by simp) | exact int_eq (by simp; done), trivial⟩
                        · exact HLe.refl _
          · try simp only [Bool.or_eq_true, Bool.or_eq_false_iff, Bool.and_eq_true, Bool.and_eq_false_iff, decide_eq_true_eq, decide_eq_false_iff_not, Bool.not_eq_true', Bool.not_eq_false', Int.not_lt, Int.not_le, List.length_map] at hc38
            refine W.region ?_
            refine XOps.s rfl rfl rfl (Q.eql rfl rfl) ?_
            refine XOps.s rfl rfl rfl (Q.assign_d rfl) ?_
            refine XOps.nil ?_
            refine W.cond rfl (fun hc38 => ?_) (fun hc38 => ?_)
            · try simp only [Bool.or_eq_true, Bool.or_eq_false_iff, Bool.and_eq_true, Bool.and_eq_false_iff, decide_eq_true_eq, decide_eq_false_iff_not, Bool.not_eq_true', Bool.not_eq_false', Int.not_lt, Int.not_le, List.length_map] at hc38
              rw [if_pos (by omega)] at hst
              refine W.region ?_
              refine XOps.s rfl rfl rfl (Q.move_ptr rfl) ?_
              refine XOps.s rfl rfl rfl (Q.move_d rfl) ?_
              refine XOps.s rfl rfl rfl (Q.call rfl Try.func28 go28 rfl (itoa_c cn _ (by omega) (by have := itoaS_small cn (by omega); omega))) ?_
              refine XOps.s rfl rfl rfl (Q.adds rfl rfl (by have := itoaS_small cn (by omega); have h1 : (⟨#[101]⟩ : ByteArray).size = 1 := rfl; omega)) ?_
              (refine XOps.loud rfl (L.call rfl Try.func26 go26 rfl (submit_c b (plN l k) f s w (eName cn) _ hok) rfl) ?_; rintro _ _ ⟨_, rfl, f2, w2, rfl, rfl⟩)
              refine XOps.nil ?_
              refine W.heap (prH b (plN l (k + 1)) f2 s w2 (H g)) (by rw [hst]; exact HLe.refl _) ?_
              refine W.reg ?_
              refine XOps.s rfl rfl rfl (Q.move_fn rfl) ?_
              (refine XOps.loud rfl (L.call rfl hf hg rfl (hcb (k + 1) (plN l (k + 1)) _ _ _ g hok1 hJ) rfl) ?_; rintro _ _ ⟨_, rfl, rfl, g2, hK2, rfl⟩)
              refine XOps.s rfl rfl rfl (Q.not rfl) ?_
              refine XOps.nil ?_
              refine W.cond rfl (fun hc69 => ?_) (fun hc69 => ?_)
              · try simp only [Bool.or_eq_true, Bool.or_eq_false_iff, Bool.and_eq_true, Bool.and_eq_false_iff, decide_eq_true_eq, decide_eq_false_iff_not, Bool.not_eq_true', Bool.not_eq_false', Int.not_lt, Int.not_le, List.length_map] at hc69
                exact absurd hc69 (by simp)
              · try simp only [Bool.or_eq_true, Bool.or_eq_false_iff, Bool.and_eq_true, Bool.and_eq_false_iff, decide_eq_true_eq, decide_eq_false_iff_not, Bool.not_eq_true', Bool.not_eq_false', Int.not_lt, Int.not_le, List.length_map] at hc69
                refine W.skip ?_
                refine W.region ?_
                refine XOps.s rfl rfl rfl (Q.add rfl rfl (wi64 (by first | omega | (dsimp only; omega) | (simp only [List.length_map]; omega)) (by first | omega | (dsimp only; omega) | (simp only [List.length_map]; omega)))) ?_
                refine XOps.s rfl rfl rfl (Q.move_d rfl) ?_
                refine XOps.nil ?_
                refine ⟨(k + 1, f2, s, w2, g2), ?_, ?_, ?_, ?_⟩
                · exact ⟨by dsimp only; omega, hK2⟩
                · dsimp only; omega
                · exact ⟨by first | rfl | exact int_eq (by omega) | exact len_eq (by simp) | exact int_eq (by simp; done), by first | rfl | exact int_eq (by omega) | exact len_eq (by simp) | exact int_eq (by simp; done), by first | rfl | exact int_eq (by omega) | exact len_eq (by simp) | exact int_eq (by simp; done), by first | rfl | exact int_eq (by omega) | exact len_eq (by simp) | exact int_eq (by simp; done), by first | rfl | exact int_eq (by omega) | exact len_eq (by simp) | exact int_eq (by simp; done), trivial⟩
                · exact HLe.refl _
            · try simp only [Bool.or_eq_true, Bool.or_eq_false_iff, Bool.and_eq_true, Bool.and_eq_false_iff, decide_eq_true_eq, decide_eq_false_iff_not, Bool.not_eq_true', Bool.not_eq_false', Int.not_lt, Int.not_le, List.length_map] at hc38
              refine W.reg ?_
              refine XOps.s rfl rfl rfl (Q.eql rfl rfl) ?_
              refine XOps.s rfl rfl rfl (Q.assign_d rfl) ?_
              refine XOps.nil ?_
              refine W.cond rfl (fun hc47 => ?_) (fun hc47 => ?_)
              · try simp only [Bool.or_eq_true, Bool.or_eq_false_iff, Bool.and_eq_true, Bool.and_eq_false_iff, decide_eq_true_eq, decide_eq_false_iff_not, Bool.not_eq_true', Bool.not_eq_false', Int.not_lt, Int.not_le, List.length_map] at hc47
                rw [if_neg (by omega), if_pos hc47] at hst
                refine W.region ?_
                refine XOps.s rfl rfl rfl (Q.move_ptr rfl) ?_
                refine XOps.s rfl rfl rfl (Q.move_d rfl) ?_
                (refine XOps.loud rfl (L.call rfl Try.func20 go20 rfl (drop_c b (plN l k) f s w kk _ hok) rfl) ?_; rintro _ _ ⟨_, rfl, rfl, rfl⟩)
                refine XOps.nil ?_
                refine W.heap (prH b (plN l (k + 1)) f s w (H g)) (by rw [hst]; exact HLe.refl _) ?_
                refine W.reg ?_
                refine XOps.s rfl rfl rfl (Q.move_fn rfl) ?_
                (refine XOps.loud rfl (L.call rfl hf hg rfl (hcb (k + 1) (plN l (k + 1)) _ _ _ g hok1 hJ) rfl) ?_; rintro _ _ ⟨_, rfl, rfl, g2, hK2, rfl⟩)
                refine XOps.s rfl rfl rfl (Q.not rfl) ?_
                refine XOps.nil ?_
                refine W.cond rfl (fun hc69 => ?_) (fun hc69 => ?_)
                · try simp only [Bool.or_eq_true, Bool.or_eq_false_iff, Bool.and_eq_true, Bool.and_eq_false_iff, decide_eq_true_eq, decide_eq_false_iff_not, Bool.not_eq_true', Bool.not_eq_false', Int.not_lt, Int.not_le, List.length_map] at hc69
                  exact absurd hc69 (by simp)
                · try simp only [Bool.or_eq_true, Bool.or_eq_false_iff, Bool.and_eq_true, Bool.and_eq_false_iff, decide_eq_true_eq, decide_eq_false_iff_not, Bool.not_eq_true', Bool.not_eq_false', Int.not_lt, Int.not_le, List.length_map] at hc69
                  refine W.skip ?_
                  refine W.region ?_
                  refine XOps.s rfl rfl rfl (Q.add rfl rfl (wi64 (by first | omega | (dsimp only; omega) | (simp only [List.length_map]; omega)) (by first | omega | (dsimp only; omega) | (simp only [List.length_map]; omega)))) ?_
                  refine XOps.s rfl rfl rfl (Q.move_d rfl) ?_
                  refine XOps.nil ?_
                  refine ⟨(k + 1, f, s, w, g2), ?_, ?_, ?_, ?_⟩
                  · exact ⟨by dsimp only; omega, hK2⟩
                  · dsimp only; omega
                  · exact ⟨by first | rfl | exact int_eq (by omega) | exact len_eq (by simp) | exact int_eq (by simp; done), by first | rfl | exact int_eq (by omega) | exact len_eq (by simp) | exact int_eq (by simp; done), by first | rfl | exact int_eq (by omega) | exact len_eq (by simp) | exact int_eq (by simp; done), by first | rfl | exact int_eq (by omega) | exact len_eq (by simp) | exact int_eq (by simp; done), by first | rfl | exact int_eq (by omega) | exact len_eq (by simp) | exact int_eq (by simp; done), trivial⟩
                  · exact HLe.refl _
              · try simp only [Bool.or_eq_true, Bool.or_eq_false_iff, Bool.and_eq_true, Bool.and_eq_false_iff, decide_eq_true_eq, decide_eq_false_iff_not, Bool.not_eq_true', Bool.not_eq_false', Int.not_lt, Int.not_le, List.length_map] at hc47
                refine W.reg ?_
                refine XOps.s rfl rfl rfl (Q.eql rfl rfl) ?_
                refine XOps.s rfl rfl rfl (Q.assign_d rfl) ?_
                refine XOps.nil ?_
                refine W.cond rfl (fun hc52 => ?_) (fun hc52 => ?_)
                · try simp only [Bool.or_eq_true, Bool.or_eq_false_iff, Bool.and_eq_true, Bool.and_eq_false_iff, decide_eq_true_eq, decide_eq_false_iff_not, Bool.not_eq_true', Bool.not_eq_false', Int.not_lt, Int.not_le, List.length_map] at hc52
                  rw [if_neg (by omega), if_neg (by omega), if_pos hc52] at hst
                  refine W.region ?_
                  refine XOps.s rfl rfl rfl (Q.move_ptr rfl) ?_
                  refine XOps.s rfl rfl rfl (Q.move_d rfl) ?_
                  (refine XOps.loud rfl (L.call rfl Try.func29 go29 rfl (repeat_c b (plN l k) f s w kk _ hok) rfl) ?_; rintro _ _ ⟨_, rfl, w2, rfl, rfl⟩)
                  refine XOps.nil ?_
                  refine W.heap (prH b (plN l (k + 1)) f s w2 (H g)) (by rw [hst]; exact HLe.refl _) ?_
                  refine W.reg ?_
                  refine XOps.s rfl rfl rfl (Q.move_fn rfl) ?_
                  (refine XOps.loud rfl (L.call rfl hf hg rfl (hcb (k + 1) (plN l (k + 1)) _ _ _ g hok1 hJ) rfl) ?_; rintro _ _ ⟨_, rfl, rfl, g2, hK2, rfl⟩)
                  refine XOps.s rfl rfl rfl (Q.not rfl) ?_
                  refine XOps.nil ?_
                  refine W.cond rfl (fun hc69 => ?_) (fun hc69 => ?_)
                  · try simp only [Bool.or_eq_true, Bool.or_eq_false_iff, Bool.and_eq_true, Bool.and_eq_false_iff, decide_eq_true_eq, decide_eq_false_iff_not, Bool.not_eq_true', Bool.not_eq_false', Int.not_lt, Int.not_le, List.length_map] at hc69
                    exact absurd hc69 (by simp)
                  · try simp only [Bool.or_eq_true, Bool.or_eq_false_iff, Bool.and_eq_true, Bool.and_eq_false_iff, decide_eq_true_eq, decide_eq_false_iff_not, Bool.not_eq_true', Bool.not_eq_false', Int.not_lt, Int.not_le, List.length_map] at hc69
                    refine W.skip ?_
                    refine W.region ?_
                    refine XOps.s rfl rfl rfl (Q.add rfl rfl (wi64 (by first | omega | (dsimp only; omega) | (simp only [List.length_map]; omega)) (by first | omega | (dsimp only; omega) | (simp only [List.length_map]; omega)))) ?_
                    refine XOps.s rfl rfl rfl (Q.move_d rfl) ?_
                    refine XOps.nil ?_
                    refine ⟨(k + 1, f, s, w2, g2), ?_, ?_, ?_, ?_⟩
                    · exact ⟨by dsimp only; omega, hK2⟩
                    · dsimp only; omega
                    · exact ⟨by first | rfl | exact int_eq (by omega) | exact len_eq (by simp) | exact int_eq (by simp; done), by first | rfl | exact int_eq (by omega) | exact len_eq (by simp) | exact int_eq (by simp; done), by first | rfl | exact int_eq (by omega) | exact len_eq (by simp) | exact int_eq (by simp; done), by first | rfl | exact int_eq (by omega) | exact len_eq (by simp) | exact int_eq (by simp; done), by first | rfl | exact int_eq (by omega) | exact len_eq (by simp) | exact int_eq (by simp; done), trivial⟩
                    · exact HLe.refl _
                · try simp only [Bool.or_eq_true, Bool.or_eq_false_iff, Bool.and_eq_true, Bool.and_eq_false_iff, decide_eq_true_eq, decide_eq_false_iff_not, Bool.not_eq_true', Bool.not_eq_false', Int.not_lt, Int.not_le, List.length_map] at hc52
                  refine W.reg ?_
                  refine XOps.s rfl rfl rfl (Q.eql rfl rfl) ?_
                  refine XOps.s rfl rfl rfl (Q.assign_d rfl) ?_
                  refine XOps.nil ?_
                  refine W.cond rfl (fun hc57 => ?_) (fun hc57 => ?_)
                  · try simp only [Bool.or_eq_true, Bool.or_eq_false_iff, Bool.and_eq_true, Bool.and_eq_false_iff, decide_eq_true_eq, decide_eq_false_iff_not, Bool.not_eq_true', Bool.not_eq_false', Int.not_lt, Int.not_le, List.length_map] at hc57
                    rw [if_neg (by omega), if_neg (by omega), if_neg (by omega), if_pos hc57] at hst
                    refine W.region ?_
                    refine XOps.s rfl rfl rfl (Q.move_ptr rfl) ?_
                    (refine XOps.loud rfl (L.call rfl Try.func21 go21 rfl (resend_c b (plN l k) f s w _ hok) rfl) ?_; rintro _ _ ⟨_, rfl, w2, rfl, rfl⟩)
                    refine XOps.nil ?_
                    refine W.heap (prH b (plN l (k + 1)) f s w2 (H g)) (by rw [hst]; exact HLe.refl _) ?_
                    refine W.reg ?_
                    refine XOps.s rfl rfl rfl (Q.move_fn rfl) ?_
                    (refine XOps.loud rfl (L.call rfl hf hg rfl (hcb (k + 1) (plN l (k + 1)) _ _ _ g hok1 hJ) rfl) ?_; rintro _ _ ⟨_, rfl, rfl, g2, hK2, rfl⟩)
                    refine XOps.s rfl rfl rfl (Q.not rfl) ?_
                    refine XOps.nil ?_
                    refine W.cond rfl (fun hc69 => ?_) (fun hc69 => ?_)
                    · try simp only [Bool.or_eq_true, Bool.or_eq_false_iff, Bool.and_eq_true, Bool.and_eq_false_iff, decide_eq_true_eq, decide_eq_false_iff_not, Bool.not_eq_true', Bool.not_eq_false', Int.not_lt, Int.not_le, List.length_map] at hc69
                      exact absurd hc69 (by simp)
                    · try simp only [Bool.or_eq_true, Bool.or_eq_false_iff, Bool.and_eq_true, Bool.and_eq_false_iff, decide_eq_true_eq, decide_eq_false_iff_not, Bool.not_eq_true', Bool.not_eq_false', Int.not_lt, Int.not_le, List.length_map] at hc69
                      refine W.skip ?_
                      refine W.region ?_
                      refine XOps.s rfl rfl rfl (Q.add rfl rfl (wi64 (by first | omega | (dsimp only; omega) | (simp only [List.length_map]; omega)) (by first | omega | (dsimp only; omega) | (simp only [List.length_map]; omega)))) ?_
                      refine XOps.s rfl rfl rfl (Q.move_d rfl) ?_
                      refine XOps.nil ?_
                      refine ⟨(k + 1, f, s, w2, g2), ?_, ?_, ?_, ?_⟩
                      · exact ⟨by dsimp only; omega, hK2⟩
                      · dsimp only; omega
                      · exact ⟨by first | rfl | exact int_eq (by omega) | exact len_eq (by simp) | exact int_eq (by simp; done), by first | rfl | exact int_eq (by omega) | exact len_eq (by simp) | exact int_eq (by simp; done), by first | rfl | exact int_eq (by omega) | exact len_eq (by simp) | exact int_eq (by simp; done), by first | rfl | exact int_eq (by omega) | exact len_eq (by simp) | exact int_eq (by simp; done), by first | rfl | exact int_eq (by omega) | exact len_eq (by simp) | exact int_eq (by simp; done), trivial⟩
                      · exact HLe.refl _
                  · try simp only [Bool.or_eq_true, Bool.or_eq_false_iff, Bool.and_eq_true, Bool.and_eq_false_iff, decide_eq_true_eq, decide_eq_false_iff_not, Bool.not_eq_true', Bool.not_eq_false', Int.not_lt, Int.not_le, List.length_map] at hc57
                    refine W.reg ?_
                    refine XOps.s rfl rfl rfl (Q.eql rfl rfl) ?_
                    refine XOps.s rfl rfl rfl (Q.assign_d rfl) ?_
                    refine XOps.nil ?_
                    refine W.cond rfl (fun hc61 => ?_) (fun hc61 => ?_)
                    · try simp only [Bool.or_eq_true, Bool.or_eq_false_iff, Bool.and_eq_true, Bool.and_eq_false_iff, decide_eq_true_eq, decide_eq_false_iff_not, Bool.not_eq_true', Bool.not_eq_false', Int.not_lt, Int.not_le, List.length_map] at hc61
                      rw [if_neg (by omega), if_neg (by omega), if_neg (by omega), if_neg (by omega), if_pos hc61] at hst
                      refine W.reg ?_
                      refine XOps.s rfl rfl rfl (Q.move_d rfl) ?_
                      refine XOps.s rfl rfl rfl (Q.lss rfl rfl) ?_
                      refine XOps.nil ?_
                      refine W.cond rfl (fun hc64 => ?_) (fun hc64 => ?_)
                      · try simp only [Bool.or_eq_true, Bool.or_eq_false_iff, Bool.and_eq_true, Bool.and_eq_false_iff, decide_eq_true_eq, decide_eq_false_iff_not, Bool.not_eq_true', Bool.not_eq_false', Int.not_lt, Int.not_le, List.length_map] at hc64
                        rw [if_pos hc64] at hst
                        refine W.region ?_
                        refine XOps.s rfl rfl rfl (Q.move_ptr rfl) ?_
                        (refine XOps.loud rfl (L.call rfl Try.func25 go25 rfl (take_c b (plN l k) f s w _ hok) rfl) ?_; rintro _ _ ⟨_, rfl, f2, s2, rfl, rfl⟩)
                        refine XOps.nil ?_
                        refine W.heap (prH b (plN l (k + 1)) f2 s2 w (H g)) (by rw [hst]; exact HLe.refl _) ?_
                        refine W.reg ?_
                        refine XOps.s rfl rfl rfl (Q.move_fn rfl) ?_
                        (refine XOps.loud rfl (L.call rfl hf hg rfl (hcb (k + 1) (plN l (k + 1)) _ _ _ g hok1 hJ) rfl) ?_; rintro _ _ ⟨_, rfl, rfl, g2, hK2, rfl⟩)
                        refine XOps.s rfl rfl rfl (Q.not rfl) ?_
                        refine XOps.nil ?_
                        refine W.cond rfl (fun hc69 => ?_) (fun hc69 => ?_)
                        · try simp only [Bool.or_eq_true, Bool.or_eq_false_iff, Bool.and_eq_true, Bool.and_eq_false_iff, decide_eq_true_eq, decide_eq_false_iff_not, Bool.not_eq_true', Bool.not_eq_false', Int.not_lt, Int.not_le, List.length_map] at hc69
                          exact absurd hc69 (by simp)
                        · try simp only [Bool.or_eq_true, Bool.or_eq_false_iff, Bool.and_eq_true, Bool.and_eq_false_iff, decide_eq_true_eq, decide_eq_false_iff_not, Bool.not_eq_true', Bool.not_eq_false', Int.not_lt, Int.not_le, List.length_map] at hc69
                          refine W.skip ?_
                          refine W.region ?_
                          refine XOps.s rfl rfl rfl (Q.add rfl rfl (wi64 (by first | omega | (dsimp only; omega) | (simp only [List.length_map]; omega)) (by first | omega | (dsimp only; omega) | (simp only [List.length_map]; omega)))) ?_
                          refine XOps.s rfl rfl rfl (Q.move_d rfl) ?_
                          refine XOps.nil ?_
                          refine ⟨(k + 1, f2, s2, w, g2), ?_, ?_, ?_, ?_⟩
                          · exact ⟨by dsimp only; omega, hK2⟩
                          · dsimp only; omega
                          · exact ⟨by first | rfl | exact int_eq (by omega) | exact len_eq (by simp) | exact int_eq (by simp; done), by first | rfl | exact int_eq (by omega) | exact len_eq (by simp) | exact int_eq (by simp; done), by first | rfl | exact int_eq (by omega) | exact len_eq (by simp) | exact int_eq (by simp; done), by first | rfl | exact int_eq (by omega) | exact len_eq (by simp) | exact int_eq (by simp; done), by first | rfl | exact int_eq (by omega) | exact len_eq (by simp) | exact int_eq (by simp; done), trivial⟩
                          · exact HLe.refl _
                      · try simp only [Bool.or_eq_true, Bool.or_eq_false_iff, Bool.and_eq_true, Bool.and_eq_false_iff, decide_eq_true_eq, decide_eq_false_iff_not, Bool.not_eq_true', Bool.not_eq_false', Int.not_lt, Int.not_le, List.length_map] at hc64
                        rw [if_neg (by omega)] at hst
                        refine W.skip ?_
                        refine W.heap (prH b (plN l (k + 1)) f s w (H g)) (by rw [hst]; exact HLe.refl _) ?_
                        refine W.reg ?_
                        refine XOps.s rfl rfl rfl (Q.move_fn rfl) ?_
                        (refine XOps.loud rfl (L.call rfl hf hg rfl (hcb (k + 1) (plN l (k + 1)) _ _ _ g hok1 hJ) rfl) ?_; rintro _ _ ⟨_, rfl, rfl, g2, hK2, rfl⟩)
                        refine XOps.s rfl rfl rfl (Q.not rfl) ?_
                        refine XOps.nil ?_
                        refine W.cond rfl (fun hc69 => ?_) (fun hc69 => ?_)
                        · try simp only [Bool.or_eq_true, Bool.or_eq_false_iff, Bool.and_eq_true, Bool.and_eq_false_iff, decide_eq_true_eq, decide_eq_false_iff_not, Bool.not_eq_true', Bool.not_eq_false', Int.not_lt, Int.not_le, List.length_map] at hc69
                          exact absurd hc69 (by simp)
                        · try simp only [Bool.or_eq_true, Bool.or_eq_false_iff, Bool.and_eq_true, Bool.and_eq_false_iff, decide_eq_true_eq, decide_eq_false_iff_not, Bool.not_eq_true', Bool.not_eq_false', Int.not_lt, Int.not_le, List.length_map] at hc69
                          refine W.skip ?_
                          refine W.region ?_
                          refine XOps.s rfl rfl rfl (Q.add rfl rfl (wi64 (by first | omega | (dsimp only; omega) | (simp only [List.length_map]; omega)) (by first | omega | (dsimp only; omega) | (simp only [List.length_map]; omega)))) ?_
                          refine XOps.s rfl rfl rfl (Q.move_d rfl) ?_
                          refine XOps.nil ?_
                          refine ⟨(k + 1, f, s, w, g2), ?_, ?_, ?_, ?_⟩
                          · exact ⟨by dsimp only; omega, hK2⟩
                          · dsimp only; omega
                          · exact ⟨by first | rfl | exact int_eq (by omega) | exact len_eq (by simp) | exact int_eq (by simp; done), by first | rfl | exact int_eq (by omega) | exact len_eq (by simp) | exact int_eq (by simp; done), by first | rfl | exact int_eq (by omega) | exact len_eq (by simp) | exact int_eq (by simp; done), by first | rfl | exact int_eq (by omega) | exact len_eq (by simp) | exact int_eq (by simp; done), by first | rfl | exact int_eq (by omega) | exact len_eq (by simp) | exact int_eq (by simp; done), trivial⟩
                          · exact HLe.refl _
                    · try simp only [Bool.or_eq_true, Bool.or_eq_false_iff, Bool.and_eq_true, Bool.and_eq_false_iff, decide_eq_true_eq, decide_eq_false_iff_not, Bool.not_eq_true', Bool.not_eq_false', Int.not_lt, Int.not_le, List.length_map] at hc61
                      rw [if_neg (by omega), if_neg (by omega), if_neg (by omega), if_neg (by omega), if_neg (by omega)] at hst
                      refine W.region ?_
                      refine XOps.s rfl rfl rfl (Q.move_ptr rfl) ?_
                      refine XOps.s rfl rfl rfl (Q.move_d rfl) ?_
                      (refine XOps.loud rfl (L.call rfl Try.func22 go22 rfl (deliver_c b (plN l k) f s w kk _ hok) rfl) ?_; rintro _ _ ⟨_, rfl, s2, w2, rfl, rfl⟩)
                      refine XOps.nil ?_
                      refine W.heap (prH b (plN l (k + 1)) f s2 w2 (H g)) (by rw [hst]; exact HLe.refl _) ?_
                      refine W.reg ?_
                      refine XOps.s rfl rfl rfl (Q.move_fn rfl) ?_
                      (refine XOps.loud rfl (L.call rfl hf hg rfl (hcb (k + 1) (plN l (k + 1)) _ _ _ g hok1 hJ) rfl) ?_; rintro _ _ ⟨_, rfl, rfl, g2, hK2, rfl⟩)
                      refine XOps.s rfl rfl rfl (Q.not rfl) ?_
                      refine XOps.nil ?_
                      refine W.cond rfl (fun hc69 => ?_) (fun hc69 => ?_)
                      · try simp only [Bool.or_eq_true, Bool.or_eq_false_iff, Bool.and_eq_true, Bool.and_eq_false_iff, decide_eq_true_eq, decide_eq_false_iff_not, Bool.not_eq_true', Bool.not_eq_false', Int.not_lt, Int.not_le, List.length_map] at hc69
                        exact absurd hc69 (by simp)
                      · try simp only [Bool.or_eq_true, Bool.or_eq_false_iff, Bool.and_eq_true, Bool.and_eq_false_iff, decide_eq_true_eq, decide_eq_false_iff_not, Bool.not_eq_true', Bool.not_eq_false', Int.not_lt, Int.not_le, List.length_map] at hc69
                        refine W.skip ?_
                        refine W.region ?_
                        refine XOps.s rfl rfl rfl (Q.add rfl rfl (wi64 (by first | omega | (dsimp only; omega) | (simp only [List.length_map]; omega)) (by first | omega | (dsimp only; omega) | (simp only [List.length_map]; omega)))) ?_
                        refine XOps.s rfl rfl rfl (Q.move_d rfl) ?_
                        refine XOps.nil ?_
                        refine ⟨(k + 1, f, s2, w2, g2), ?_, ?_, ?_, ?_⟩
                        · exact ⟨by dsimp only; omega, hK2⟩
                        · dsimp only; omega
                        · exact ⟨by first | rfl | exact int_eq (by omega) | exact len_eq (by simp) | exact int_eq (by simp; done), by first | rfl | exact int_eq (by omega) | exact len_eq (by simp) | exact int_eq (by simp; done), by first | rfl | exact int_eq (by omega) | exact len_eq (by simp) | exact int_eq (by simp; done), by first | rfl | exact int_eq (by omega) | exact len_eq (by simp) | exact int_eq (by simp; done), by first | rfl | exact int_eq (by omega) | exact len_eq (by simp) | exact int_eq (by simp; done), trivial⟩
                        · exact HLe.refl _
    · try simp only [Bool.or_eq_true, Bool.or_eq_false_iff, Bool.and_eq_true, Bool.and_eq_false_iff, decide_eq_true_eq, decide_eq_false_iff_not, Bool.not_eq_true', Bool.not_eq_false', Int.not_lt, Int.not_le, List.length_map] at hc18
      refine W.exit ?_
      refine W.reg ?_
      refine XOps.s rfl rfl rfl (Q.assign_d rfl) ?_
      refine XOps.nil ?_
      refine W.ret ?_
      obtain rfl : k = min l.length 40 := by omega
      exact ⟨_, _, rfl, HLe.refl _, rfl, f, s, w, g, hI.2, rfl⟩
end Go.Proofs.YtcicechobemnaaaA
