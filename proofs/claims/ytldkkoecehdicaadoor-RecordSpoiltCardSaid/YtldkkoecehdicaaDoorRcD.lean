/- The fact of package record; the law RecordCut. -/
import Derived.Test.YtldkkoecehdicaaDoorBase
import Derived.Test.YtldkkoecehdicaaDoorRcC
import Derived.Test.YtldkkoecehdicaaDoorAbs17
import Derived.Test.YtldkkoecehdicaaDoorAbs29
set_option linter.unusedVariables false
set_option linter.unusedSimpArgs false
set_option linter.unnecessarySimpa false
namespace Go.Proofs.YtldkkoecehdicaaDoorA.FRcD
open Go
theorem ag23 : tAgg P 23 = some ((true, 4)) := by kernel_rfl
theorem ag9 : tAgg P 9 = some ((false, 1)) := by kernel_rfl
theorem fl23_2 : tFld P 23 2 = some (2) := by kernel_rfl
theorem fl23_3 : tFld P 23 3 = some (3) := by kernel_rfl
theorem go10 : callGo Go.Proofs.Tryd.f10 = true := by kernel_rfl
theorem go11 : callGo Go.Proofs.Tryd.f11 = true := by kernel_rfl
theorem go12 : callGo Go.Proofs.Tryd.f12 = true := by kernel_rfl
theorem go9 : callGo Go.Proofs.Tryd.f9 = true := by kernel_rfl
theorem ist9 : isStr P 9 = true := by kernel_rfl
theorem pl23 : tPl P 23 = some ([(0, 1), (1, 1), (2, 1), (3, 1)]) := by kernel_rfl
theorem tz23 : tZero P 23 = some ([.int .i64 0, .int .i64 0, .string ⟨#[]⟩, .string ⟨#[]⟩]) := by kernel_rfl
theorem tzd23 : cellsD [.int .i64 0, .int .i64 0, .string ⟨#[]⟩, .string ⟨#[]⟩] = some ([.int .i64 0, .int .i64 0, .str ⟨#[]⟩, .str ⟨#[]⟩]) := rfl
end Go.Proofs.YtldkkoecehdicaaDoorA.FRcD
namespace Go.Proofs.YtldkkoecehdicaaDoorA
open Go FRcD
attribute [local irreducible] XOps Quiet Loud W AC GQ DT
theorem e0_ok : checkN (⟨1, 5, ⟨#[115, 101, 116]⟩, ⟨#[97, 32, 98]⟩⟩ : EN) = 0 := by decide +kernel
theorem e0_dec : decE (encV (⟨1, 5, ⟨#[115, 101, 116]⟩, ⟨#[97, 32, 98]⟩⟩ : EN)) = 0 ∧ decX (encV (⟨1, 5, ⟨#[115, 101, 116]⟩, ⟨#[97, 32, 98]⟩⟩ : EN)) = (⟨1, 5, ⟨#[115, 101, 116]⟩, ⟨#[97, 32, 98]⟩⟩ : EN) ∧ decN (encV (⟨1, 5, ⟨#[115, 101, 116]⟩, ⟨#[97, 32, 98]⟩⟩ : EN)) = (encV (⟨1, 5, ⟨#[115, 101, 116]⟩, ⟨#[97, 32, 98]⟩⟩ : EN)).size ∧ 0 < (encV (⟨1, 5, ⟨#[115, 101, 116]⟩, ⟨#[97, 32, 98]⟩⟩ : EN)).size := by
  have ok := checkN_zero.1 e0_ok
  have hv : encV (⟨1, 5, ⟨#[115, 101, 116]⟩, ⟨#[97, 32, 98]⟩⟩ : EN) = bs (encB (⟨1, 5, ⟨#[115, 101, 116]⟩, ⟨#[97, 32, 98]⟩⟩ : EN)) := if_neg (by rw [e0_ok]; simp)
  obtain ⟨h1, h2, h3⟩ := dec_enc (s := encV (⟨1, 5, ⟨#[115, 101, 116]⟩, ⟨#[97, 32, 98]⟩⟩ : EN)) (t := ⟨#[]⟩) ok (by rw [hv, bl_bs]; exact (List.append_nil _).symm)
  have h4 := (enc_len ok).2
  exact ⟨h1, h2, by rw [h3, hv, bs_size], by rw [hv, bs_size]; exact h4⟩

set_option maxHeartbeats 1000000 in
set_option maxRecDepth 100000 in
theorem rfact_c (gd : Nat) (hs : Hp) : AC P 9 [] ((gd, p10G) :: hs) (fun r h => r = .d (.bool true) ∧ h = (gd, p10G) :: hs) := by
  obtain ⟨q1, q2, q3, q4⟩ := e0_dec
  refine AC.of 43 Tryd.func9 rfl rfl rfl ?_
  refine W.reg ?_
  refine XOps.s rfl rfl rfl (Q.assign_d rfl) ?_
  refine XOps.nil ?_
  refine W.reg ?_
  refine XOps.s rfl rfl rfl (Q.build pl23 tz23 tzd23 rfl) ?_
  refine XOps.s rfl rfl rfl (Q.call rfl Tryd.func10 go10 rfl (enc_c (⟨1, 5, ⟨#[115, 101, 116]⟩, ⟨#[97, 32, 98]⟩⟩ : EN) gd hs (by decide) (by decide))) ?_
  refine XOps.s rfl rfl rfl (Q.move_tup rfl) ?_
  refine XOps.s rfl rfl rfl (Q.extract rfl rfl) ?_
  refine XOps.s rfl rfl rfl (Q.extract rfl rfl) ?_
  refine XOps.s rfl rfl rfl (Q.assign_d rfl) ?_
  refine XOps.s rfl rfl rfl (Q.assign_d rfl) ?_
  refine XOps.nil ?_
  refine W.reg ?_
  refine XOps.s rfl rfl rfl (Q.move_d rfl) ?_
  refine XOps.s rfl rfl rfl (Q.call rfl Tryd.func11 go11 rfl (decode_c (encV (⟨1, 5, ⟨#[115, 101, 116]⟩, ⟨#[97, 32, 98]⟩⟩ : EN)) _ (by have : (encV (⟨1, 5, ⟨#[115, 101, 116]⟩, ⟨#[97, 32, 98]⟩⟩ : EN)).size ≤ 153 := (by rw [show encV (⟨1, 5, ⟨#[115, 101, 116]⟩, ⟨#[97, 32, 98]⟩⟩ : EN) = bs (encB (⟨1, 5, ⟨#[115, 101, 116]⟩, ⟨#[97, 32, 98]⟩⟩ : EN)) from if_neg (by rw [e0_ok]; simp), bs_size]; exact (enc_len (checkN_zero.1 e0_ok)).1); omega))) ?_
  refine XOps.s rfl rfl rfl (Q.move_tup rfl) ?_
  refine XOps.s rfl rfl rfl (Q.extract rfl rfl) ?_
  refine XOps.s rfl rfl rfl (Q.extract rfl rfl) ?_
  refine XOps.s rfl rfl rfl (Q.extract rfl rfl) ?_
  (refine XOps.loud rfl (L.alloc tz23 rfl rfl) ?_; rintro _ _ ⟨b3, rfl, rfl⟩)
  refine XOps.loud rfl (L.storen (k := 0) ag23 rfl rfl rfl rfl rfl) ?_
  rintro _ _ ⟨rfl, rfl⟩
  refine XOps.s rfl rfl rfl (Q.assign_d rfl) ?_
  refine XOps.s rfl rfl rfl (Q.assign_d rfl) ?_
  refine XOps.nil ?_
  rw [q1, q2, q3, e0_ok]
  refine W.reg ?_
  refine XOps.s rfl rfl rfl (Q.move_d rfl) ?_
  refine XOps.s rfl rfl rfl (Q.eql rfl rfl) ?_
  refine XOps.s rfl rfl rfl (Q.move_d rfl) ?_
  refine XOps.gs rfl rfl rfl rfl rfl rfl rfl (fun hg => Q.move_d rfl) ?_
  refine XOps.gs rfl rfl rfl rfl rfl rfl rfl (fun hg => Quiet.open 20 hg rfl (Q.eql rfl rfl)) ?_
  refine XOps.s rfl rfl rfl (Q.pick_and rfl rfl rfl (fun h => by first | (rw [h]; rfl) | (rw [hg, h]; rfl) | (simp [h, hg]; done))) ?_
  refine XOps.s rfl rfl rfl (Q.move_d rfl) ?_
  refine XOps.gs rfl rfl rfl rfl rfl rfl rfl (fun hg => Q.move_d rfl) ?_
  refine XOps.gs rfl rfl rfl rfl rfl rfl rfl (fun hg => Q.move_d rfl) ?_
  refine XOps.gs rfl rfl rfl rfl rfl rfl rfl (fun hg => Quiet.open 25 hg rfl (Q.len_str ist9 rfl)) ?_
  refine XOps.gs rfl rfl rfl rfl rfl rfl rfl (fun hg => Quiet.open 24 hg rfl (Quiet.open 26 hg rfl (Q.eql rfl rfl))) ?_
  refine XOps.s rfl rfl rfl (Q.pick_and rfl rfl rfl (fun h => by first | (rw [h]; rfl) | (rw [hg, h]; rfl) | (simp [h, hg]; done))) ?_
  refine XOps.s rfl rfl rfl (Q.move_d rfl) ?_
  refine XOps.gs rfl rfl rfl rfl rfl rfl rfl (fun hg => Q.move_d rfl) ?_
  refine XOps.gs rfl rfl rfl rfl rfl rfl rfl (fun hg => Quiet.open 30 hg rfl (Q.gtr rfl rfl)) ?_
  refine XOps.s rfl rfl rfl (Q.pick_and rfl rfl rfl (fun h => by first | (rw [h]; rfl) | (rw [hg, h]; rfl) | (simp [h, hg]; done))) ?_
  refine XOps.s rfl rfl rfl (Q.move_d rfl) ?_
  refine XOps.gs rfl rfl rfl rfl rfl rfl rfl (fun hg => Q.fld_ptr fl23_3 rfl) ?_
  refine XOps.gs rfl rfl rfl rfl rfl rfl rfl (fun hg => Quiet.open 34 hg rfl (Q.ld_ptr (k := 0) ag9 rfl rfl rfl)) ?_
  refine XOps.gs rfl rfl rfl rfl rfl rfl rfl (fun hg => Quiet.open 35 hg rfl (Q.eql_str rfl rfl)) ?_
  refine XOps.s rfl rfl rfl (Q.pick_and rfl rfl rfl (fun h => by first | (rw [h]; rfl) | (rw [hg, h]; rfl) | (simp [h, hg]; done))) ?_
  refine XOps.s rfl rfl rfl (Q.move_d rfl) ?_
  refine XOps.gs rfl rfl rfl rfl rfl rfl rfl (fun hg => Q.fld_ptr fl23_2 rfl) ?_
  refine XOps.gs rfl rfl rfl rfl rfl rfl rfl (fun hg => Quiet.open 39 hg rfl (Q.ld_ptr (k := 0) ag9 rfl rfl rfl)) ?_
  refine XOps.gs rfl rfl rfl rfl rfl rfl rfl (fun hg => Quiet.open 40 hg rfl (Q.eql_str rfl rfl)) ?_
  refine XOps.s rfl rfl rfl (Q.pick_and rfl rfl rfl (fun h => by first | (rw [h]; rfl) | (rw [hg, h]; rfl) | (simp [h, hg]; done))) ?_
  refine XOps.s rfl rfl rfl (Q.assign_d rfl) ?_
  refine XOps.nil ?_
  refine W.ret ?_
  refine ⟨_, (gd, p10G) :: hs, rfl, HLe.skip _ (HLe.refl _), ?_, rfl⟩
  show AV.d (.bool _) = _
  refine congrArg (fun b => AV.d (D.bool b)) ?_
  rw [decide_eq_true (show (((encV (⟨1, 5, ⟨#[115, 101, 116]⟩, ⟨#[97, 32, 98]⟩⟩ : EN)).size : Nat) : Int) = ((encV (⟨1, 5, ⟨#[115, 101, 116]⟩, ⟨#[97, 32, 98]⟩⟩ : EN)).size : Nat) from rfl), decide_eq_true (show (0 : Int) < ((encV (⟨1, 5, ⟨#[115, 101, 116]⟩, ⟨#[97, 32, 98]⟩⟩ : EN)).size : Nat) by omega)]
  decide +kernel

set_option maxHeartbeats 1000000 in
set_option maxRecDepth 100000 in
theorem rcut_c (n lo hi : Int) (hs : Hp) (h0 : -1000000000000 ≤ lo) (h1 : lo ≤ hi) (h2 : hi ≤ 1000000000000) : AC P 12 [.d (.int .i64 n), .d (.int .i64 lo), .d (.int .i64 hi)] hs (fun r h => r = .d (.int .i64 (cutI n lo hi)) ∧ h = hs) := by
  refine AC.of 23 Tryd.func12 rfl rfl rfl ?_
  refine W.reg ?_
  refine XOps.s rfl rfl rfl (Q.assign_d rfl) ?_
  refine XOps.nil ?_
  refine W.reg ?_
  refine XOps.s rfl rfl rfl (Q.move_d rfl) ?_
  refine XOps.s rfl rfl rfl (Q.move_d rfl) ?_
  refine XOps.s rfl rfl rfl (Q.sub rfl rfl (wi64 (by first | omega | (dsimp only; omega) | (simp only [List.length_map]; omega)) (by first | omega | (dsimp only; omega) | (simp only [List.length_map]; omega)))) ?_
  refine XOps.s rfl rfl rfl (Q.add rfl rfl (wi64 (by first | omega | (dsimp only; omega) | (simp only [List.length_map]; omega)) (by first | omega | (dsimp only; omega) | (simp only [List.length_map]; omega)))) ?_
  refine XOps.s rfl rfl rfl (Q.assign_d rfl) ?_
  refine XOps.nil ?_
  refine W.reg ?_
  refine XOps.s rfl rfl rfl (Q.move_d rfl) ?_
  refine XOps.s rfl rfl rfl (Q.move_d rfl) ?_
  refine XOps.s rfl rfl rfl (Q.rem rfl rfl (by omega) rfl) ?_
  refine XOps.s rfl rfl rfl (Q.assign_d rfl) ?_
  refine XOps.nil ?_
  refine W.seq ?_
  have hm := cut_mod (n := n) (m := hi - lo + 1) (by omega) rfl
  have hm0 := Int.emod_nonneg n (by omega : hi - lo + 1 ≠ 0)
  have hm1 := Int.emod_lt_of_pos n (by omega : 0 < hi - lo + 1)
  generalize hT : n.tmod (hi - lo + 1) = t at hm ⊢
  refine W.reg ?_
  refine XOps.s rfl rfl rfl (Q.move_d rfl) ?_
  refine XOps.s rfl rfl rfl (Q.lss rfl rfl) ?_
  refine XOps.nil ?_
  refine W.cond rfl (fun hc16 => ?_) (fun hc16 => ?_)
  · try simp only [Bool.or_eq_true, Bool.or_eq_false_iff, Bool.and_eq_true, Bool.and_eq_false_iff, decide_eq_true_eq, decide_eq_false_iff_not, Bool.not_eq_true', Bool.not_eq_false', Int.not_lt, Int.not_le, List.length_map] at hc16
    rw [if_pos hc16] at hm
    refine W.region ?_
    refine XOps.s rfl rfl rfl (Q.move_d rfl) ?_
    refine XOps.s rfl rfl rfl (Q.move_d rfl) ?_
    refine XOps.s rfl rfl rfl (Q.add rfl rfl (wi64 (by first | omega | (dsimp only; omega) | (simp only [List.length_map]; omega)) (by first | omega | (dsimp only; omega) | (simp only [List.length_map]; omega)))) ?_
    refine XOps.s rfl rfl rfl (Q.assign_d rfl) ?_
    refine XOps.nil ?_
    refine W.reg ?_
    refine XOps.s rfl rfl rfl (Q.move_d rfl) ?_
    refine XOps.s rfl rfl rfl (Q.move_d rfl) ?_
    refine XOps.s rfl rfl rfl (Q.add rfl rfl (wi64 (by first | omega | (dsimp only; omega) | (simp only [List.length_map]; omega)) (by first | omega | (dsimp only; omega) | (simp only [List.length_map]; omega)))) ?_
    refine XOps.s rfl rfl rfl (Q.assign_d rfl) ?_
    refine XOps.nil ?_
    refine W.ret ?_
    refine ⟨_, hs, rfl, by repeat (first | exact HLe.refl _ | refine HLe.cons' (by first | rfl | (simp; done)) ?_ | refine HLe.pick 1 rfl (by first | rfl | (simp; done)) ?_ | refine HLe.pick 2 rfl (by first | rfl | (simp; done)) ?_ | refine HLe.pick 3 rfl (by first | rfl | (simp; done)) ?_ | refine HLe.pick 4 rfl (by first | rfl | (simp; done)) ?_ | refine HLe.pick 5 rfl (by first | rfl | (simp; done)) ?_ | refine HLe.skip _ ?_), ?_, rfl⟩
    exact int_eq (by unfold cutI; omega)
  · try simp only [Bool.or_eq_true, Bool.or_eq_false_iff, Bool.and_eq_true, Bool.and_eq_false_iff, decide_eq_true_eq, decide_eq_false_iff_not, Bool.not_eq_true', Bool.not_eq_false', Int.not_lt, Int.not_le, List.length_map] at hc16
    rw [if_neg (by omega)] at hm
    refine W.skip ?_
    refine W.reg ?_
    refine XOps.s rfl rfl rfl (Q.move_d rfl) ?_
    refine XOps.s rfl rfl rfl (Q.move_d rfl) ?_
    refine XOps.s rfl rfl rfl (Q.add rfl rfl (wi64 (by first | omega | (dsimp only; omega) | (simp only [List.length_map]; omega)) (by first | omega | (dsimp only; omega) | (simp only [List.length_map]; omega)))) ?_
    refine XOps.s rfl rfl rfl (Q.assign_d rfl) ?_
    refine XOps.nil ?_
    refine W.ret ?_
    refine ⟨_, hs, rfl, by repeat (first | exact HLe.refl _ | refine HLe.cons' (by first | rfl | (simp; done)) ?_ | refine HLe.pick 1 rfl (by first | rfl | (simp; done)) ?_ | refine HLe.pick 2 rfl (by first | rfl | (simp; done)) ?_ | refine HLe.pick 3 rfl (by first | rfl | (simp; done)) ?_ | refine HLe.pick 4 rfl (by first | rfl | (simp; done)) ?_ | refine HLe.pick 5 rfl (by first | rfl | (simp; done)) ?_ | refine HLe.skip _ ?_), ?_, rfl⟩
    exact int_eq (by unfold cutI; omega)

set_option maxHeartbeats 4000000 in
set_option maxRecDepth 100000 in
theorem cutl_c (x : EN) (m : Int) (gd : Nat) (hs : Hp) (h1 : x.kind.size ≤ 140737488351232) (h2 : x.text.size ≤ 140737488351232) : AC P 3 [.d (.agg x.enc), .d (.int .i64 m)] ((gd, p10G) :: hs) (fun r h => r = .d (.bool true)) := by
  refine AC.of 33 Tryd.func3 rfl rfl rfl ?_
  refine W.reg ?_
  refine XOps.loud rfl (L.boxn rfl rfl) ?_
  rintro _ _ ⟨b2, rfl, rfl⟩
  refine XOps.s rfl rfl rfl (Q.assign_d rfl) ?_
  refine XOps.nil ?_
  refine W.seq ?_
  refine W.reg ?_
  (refine XOps.loud rfl (L.call rfl Tryd.func9 go9 rfl (AC.le (rfact_c gd ((b2, .cells (x.enc.map .d)) :: hs)) (HLe.pick 1 rfl rfl (HLe.refl _))) rfl) ?_; rintro _ _ ⟨_, rfl, rfl, rfl⟩)
  refine XOps.s rfl rfl rfl (Q.not rfl) ?_
  refine XOps.nil ?_
  refine W.cond rfl (fun hc11 => ?_) (fun hc11 => ?_)
  · try simp only [Bool.or_eq_true, Bool.or_eq_false_iff, Bool.and_eq_true, Bool.and_eq_false_iff, decide_eq_true_eq, decide_eq_false_iff_not, Bool.not_eq_true', Bool.not_eq_false', Int.not_lt, Int.not_le, List.length_map] at hc11
    exact absurd hc11 (by decide)
  · try simp only [Bool.or_eq_true, Bool.or_eq_false_iff, Bool.and_eq_true, Bool.and_eq_false_iff, decide_eq_true_eq, decide_eq_false_iff_not, Bool.not_eq_true', Bool.not_eq_false', Int.not_lt, Int.not_le, List.length_map] at hc11
    refine W.skip ?_
    refine W.reg ?_
    refine XOps.s rfl rfl rfl (Q.ld_ptrn (k := 1) ag23 rfl rfl rfl) ?_
    (refine XOps.loud rfl (L.call rfl Tryd.func10 go10 rfl (enc_c x gd ((b2, .cells (x.enc.map .d)) :: hs) (by omega) (by omega)) rfl) ?_; rintro _ _ ⟨_, rfl, rfl, rfl⟩)
    refine XOps.s rfl rfl rfl (Q.move_tup rfl) ?_
    refine XOps.s rfl rfl rfl (Q.extract rfl rfl) ?_
    refine XOps.s rfl rfl rfl (Q.extract rfl rfl) ?_
    refine XOps.s rfl rfl rfl (Q.assign_d rfl) ?_
    refine XOps.s rfl rfl rfl (Q.assign_d rfl) ?_
    refine XOps.nil ?_
    refine W.seq ?_
    refine W.reg ?_
    refine XOps.s rfl rfl rfl (Q.move_d rfl) ?_
    refine XOps.s rfl rfl rfl (Q.neq rfl rfl) ?_
    refine XOps.nil ?_
    refine W.cond rfl (fun hc18 => ?_) (fun hc18 => ?_)
    · try simp only [Bool.or_eq_true, Bool.or_eq_false_iff, Bool.and_eq_true, Bool.and_eq_false_iff, decide_eq_true_eq, decide_eq_false_iff_not, Bool.not_eq_true', Bool.not_eq_false', Int.not_lt, Int.not_le, List.length_map] at hc18
      refine W.reg ?_
      refine XOps.s rfl rfl rfl (Q.assign_d rfl) ?_
      refine XOps.nil ?_
      refine W.ret ?_
      exact ⟨_, _, rfl, HLe.refl _, rfl⟩
    · try simp only [Bool.or_eq_true, Bool.or_eq_false_iff, Bool.and_eq_true, Bool.and_eq_false_iff, decide_eq_true_eq, decide_eq_false_iff_not, Bool.not_eq_true', Bool.not_eq_false', Int.not_lt, Int.not_le, List.length_map] at hc18
      have h18 : checkN x = 0 := by first | exact hc18 | (simpa using hc18)
      have ok := checkN_zero.1 h18
      have hv : encV x = bs (encB x) := if_neg (by omega)
      have hl := enc_len ok
      have hsz : (encV x).size = (encB x).length := by rw [hv, bs_size]
      obtain ⟨j, hj, hjl⟩ : ∃ j : Nat, cutI m 0 (((encV x).size : Int) - 1) = j ∧ j < (encV x).size := by
        have := cutI_bounds m (lo := 0) (hi := ((encV x).size : Int) - 1) (by omega)
        exact ⟨(cutI m 0 (((encV x).size : Int) - 1)).toNat, by omega, by omega⟩
      have hxs : ((encV x).extract 0 j).size = j := (ext_split (encV x) (by omega)).2.1
      have hcut := dec_cut (s := (encV x).extract 0 j) (m := j) ok (by omega) (by rw [bl_extract, List.drop_zero, hv, bl_bs])
      refine W.skip ?_
      refine W.reg ?_
      refine XOps.s rfl rfl rfl (Q.move_d rfl) ?_
      refine XOps.s rfl rfl rfl (Q.move_d rfl) ?_
      refine XOps.s rfl rfl rfl (Q.move_d rfl) ?_
      refine XOps.s rfl rfl rfl (Q.len_str ist9 rfl) ?_
      refine XOps.s rfl rfl rfl (Q.sub rfl rfl (wi64 (by first | omega | (dsimp only; omega) | (simp only [List.length_map]; omega)) (by first | omega | (dsimp only; omega) | (simp only [List.length_map]; omega)))) ?_
      refine XOps.s rfl rfl rfl (Q.call rfl Tryd.func12 go12 rfl (rcut_c m 0 (((encV x).size : Int) - 1) _ (by omega) (by omega) (by omega))) ?_
      refine XOps.s rfl rfl rfl (Q.cut_strN (i := 0) (j := j) ist9 rfl rfl (by show _ = AV.d (.int _ _); exact congrArg (fun z => AV.d (.int .i64 z)) hj) (by omega) (by omega)) ?_
      refine XOps.s rfl rfl rfl (Q.call rfl Tryd.func11 go11 rfl (decode_c ((encV x).extract 0 j) _ (by omega))) ?_
      refine XOps.s rfl rfl rfl (Q.move_tup rfl) ?_
      refine XOps.s rfl rfl rfl (Q.extract rfl rfl) ?_
      refine XOps.s rfl rfl rfl (Q.extract rfl rfl) ?_
      refine XOps.s rfl rfl rfl (Q.extract rfl rfl) ?_
      (refine XOps.loud rfl (L.alloc tz23 rfl rfl) ?_; rintro _ _ ⟨b7, rfl, rfl⟩)
      refine XOps.loud rfl (L.storen (k := 0) ag23 rfl rfl rfl rfl rfl) ?_
      rintro _ _ ⟨rfl, rfl⟩
      refine XOps.s rfl rfl rfl (Q.assign_d rfl) ?_
      refine XOps.s rfl rfl rfl (Q.assign_d rfl) ?_
      refine XOps.nil ?_
      refine W.reg ?_
      refine XOps.s rfl rfl rfl (Q.move_d rfl) ?_
      refine XOps.s rfl rfl rfl (Q.eql rfl rfl) ?_
      refine XOps.s rfl rfl rfl (Q.assign_d rfl) ?_
      refine XOps.nil ?_
      refine W.ret ?_
      (refine ⟨_, _, rfl, HLe.refl _, ?_⟩; rw [hcut]; rfl)
end Go.Proofs.YtldkkoecehdicaaDoorA
