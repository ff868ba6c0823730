/- The law RecordContinues. -/
import Derived.Test.YtldkkoecehdicaaDoorBase
import Derived.Test.YtldkkoecehdicaaDoorRcH
set_option linter.unusedVariables false
set_option linter.unusedSimpArgs false
set_option linter.unnecessarySimpa false
namespace Go.Proofs.YtldkkoecehdicaaDoorA.FRcI
open Go
theorem ag3 : tAgg P 3 = some ((false, 1)) := by kernel_rfl
theorem ag9 : tAgg P 9 = some ((false, 1)) := by kernel_rfl
theorem fl23_1 : tFld P 23 1 = some (1) := by kernel_rfl
theorem fl23_2 : tFld P 23 2 = some (2) := by kernel_rfl
theorem fl23_3 : tFld P 23 3 = some (3) := by kernel_rfl
theorem go14 : callGo Go.Proofs.Tryd.f14 = true := by kernel_rfl
theorem go15 : callGo Go.Proofs.Tryd.f15 = true := by kernel_rfl
theorem go16 : callGo Go.Proofs.Tryd.f16 = true := by kernel_rfl
theorem go17 : callGo Go.Proofs.Tryd.f17 = true := by kernel_rfl
theorem go9 : callGo Go.Proofs.Tryd.f9 = true := by kernel_rfl
theorem ipt35 : isPtr P 35 = true := by kernel_rfl
end Go.Proofs.YtldkkoecehdicaaDoorA.FRcI
namespace Go.Proofs.YtldkkoecehdicaaDoorA
open Go FRcI
attribute [local irreducible] XOps Quiet Loud W AC GQ DT
theorem rec_all {l : List EN} (h : Okl l) : recL (bs (bytesL l)) = l := by
  unfold recL
  have h1 := (rec_front l [] (bs (bytesL l)) ⟨#[]⟩ ((bs (bytesL l)).size + 1) (by simpa using h) (by omega) (by rw [bl_bs]; exact (List.append_nil _).symm)).1
  rw [h1, List.nil_append, rec_stop]
  unfold stopR
  have h2 : decE ⟨#[]⟩ = 5 := by decide +kernel
  rw [h2]; rfl

set_option maxHeartbeats 8000000 in
set_option maxRecDepth 100000 in
theorem cont_c (xs : List EN) (x : EN) (gd : Nat) (hs : Hp) (hx : ∀ x ∈ xs, x.kind.size ≤ 140737488351232 ∧ x.text.size ≤ 140737488351232) (h1 : x.kind.size ≤ 140737488351232) (h2 : x.text.size ≤ 140737488351232) : AC P 5 [.d (.sl 4 (xs.map EN.enc)), .d (.agg x.enc)] ((gd, p10G) :: hs) (fun r h => r = .d (.bool true)) := by
  obtain ⟨ok, hln⟩ := logV_ok xs
  have hra := rec_all ok
  have hbz := bytesL_size ok
  refine AC.of 71 Tryd.func5 rfl rfl rfl ?_
  refine W.reg ?_
  refine XOps.loud rfl (L.boxn rfl rfl) ?_
  rintro _ _ ⟨b3, rfl, rfl⟩
  refine XOps.s rfl rfl rfl (Q.assign_d rfl) ?_
  refine XOps.nil ?_
  refine W.reg ?_
  refine XOps.s rfl rfl rfl (Q.move_d rfl) ?_
  (refine XOps.loud rfl (L.call rfl Tryd.func14 go14 rfl (AC.le (logof_c xs gd ((b3, .cells (x.enc.map .d)) :: hs) hx) (HLe.pick 1 rfl rfl (HLe.refl _))) rfl) ?_; rintro _ _ ⟨_, rfl, b, f, rfl, rfl⟩)
  refine XOps.s rfl rfl rfl (Q.assign_ptr rfl) ?_
  refine XOps.nil ?_
  refine W.seq ?_
  refine W.reg ?_
  refine XOps.s rfl rfl rfl (Q.call rfl Tryd.func9 go9 rfl (rfact_c gd (reH b (logV xs) f ((b3, .cells (x.enc.map .d)) :: hs)))) ?_
  refine XOps.s rfl rfl rfl (Q.not rfl) ?_
  refine XOps.s rfl rfl rfl (Q.move_d rfl) ?_
  refine XOps.gs rfl rfl rfl rfl rfl rfl rfl (fun hg => Q.move_ptr rfl) ?_
  refine XOps.gs rfl rfl rfl rfl rfl rfl rfl (fun hg => Quiet.open 18 hg rfl (Q.eql_ptr ipt35 rfl rfl)) ?_
  refine XOps.s rfl rfl rfl (Q.pick_or rfl rfl rfl (fun h => by first | (rw [h]; rfl) | (rw [hg, h]; rfl) | (simp [h, hg]; done))) ?_
  refine XOps.nil ?_
  refine W.cond rfl (fun hc20 => ?_) (fun hc20 => ?_)
  · try simp only [Bool.or_eq_true, Bool.or_eq_false_iff, Bool.and_eq_true, Bool.and_eq_false_iff, decide_eq_true_eq, decide_eq_false_iff_not, Bool.not_eq_true', Bool.not_eq_false', Int.not_lt, Int.not_le, List.length_map] at hc20
    exact absurd hc20 (by decide)
  · try simp only [Bool.or_eq_true, Bool.or_eq_false_iff, Bool.and_eq_true, Bool.and_eq_false_iff, decide_eq_true_eq, decide_eq_false_iff_not, Bool.not_eq_true', Bool.not_eq_false', Int.not_lt, Int.not_le, List.length_map] at hc20
    refine W.skip ?_
    refine W.reg ?_
    refine XOps.s rfl rfl rfl (Q.move_ptr rfl) ?_
    refine XOps.s rfl rfl rfl (Q.call rfl Tryd.func16 go16 rfl (bytes_c 1 2 rfl rfl)) ?_
    (refine XOps.loud rfl (L.call rfl Tryd.func15 go15 rfl (recover_c (bs (bytesL (logV xs))) gd (reH b (logV xs) f ((b3, .cells (x.enc.map .d)) :: hs)) (by omega)) rfl) ?_; rintro _ _ ⟨_, rfl, b2, f2, rfl, rfl⟩)
    refine XOps.s rfl rfl rfl (Q.move_tup rfl) ?_
    refine XOps.s rfl rfl rfl (Q.extract rfl rfl) ?_
    refine XOps.s rfl rfl rfl (Q.extract rfl rfl) ?_
    refine XOps.s rfl rfl rfl (Q.extract rfl rfl) ?_
    refine XOps.s rfl rfl rfl (Q.assign_ptr rfl) ?_
    refine XOps.s rfl rfl rfl (Q.assign_d rfl) ?_
    refine XOps.s rfl rfl rfl (Q.assign_d rfl) ?_
    refine XOps.nil ?_
    rw [hra]
    refine W.seq ?_
    refine W.reg ?_
    refine XOps.s rfl rfl rfl (Q.move_d rfl) ?_
    refine XOps.s rfl rfl rfl (Q.neq rfl rfl) ?_
    refine XOps.s rfl rfl rfl (Q.move_d rfl) ?_
    refine XOps.gs rfl rfl rfl rfl rfl rfl rfl (fun hg => Q.move_ptr rfl) ?_
    refine XOps.gs rfl rfl rfl rfl rfl rfl rfl (fun hg => Quiet.open 31 hg rfl (Q.eql_ptr ipt35 rfl rfl)) ?_
    refine XOps.s rfl rfl rfl (Q.pick_or rfl rfl rfl (fun h => by first | (rw [h]; rfl) | (rw [hg, h]; rfl) | (simp [h, hg]; done))) ?_
    refine XOps.nil ?_
    refine W.cond rfl (fun hc33 => ?_) (fun hc33 => ?_)
    · try simp only [Bool.or_eq_true, Bool.or_eq_false_iff, Bool.and_eq_true, Bool.and_eq_false_iff, decide_eq_true_eq, decide_eq_false_iff_not, Bool.not_eq_true', Bool.not_eq_false', Int.not_lt, Int.not_le, List.length_map] at hc33
      exact absurd hc33 (by decide)
    · try simp only [Bool.or_eq_true, Bool.or_eq_false_iff, Bool.and_eq_true, Bool.and_eq_false_iff, decide_eq_true_eq, decide_eq_false_iff_not, Bool.not_eq_true', Bool.not_eq_false', Int.not_lt, Int.not_le, List.length_map] at hc33
      refine W.skip ?_
      refine W.reg ?_
      refine XOps.s rfl rfl rfl (Q.move_ptr rfl) ?_
      refine XOps.s rfl rfl rfl (Q.fld_ptr fl23_1 rfl) ?_
      refine XOps.s rfl rfl rfl (Q.ld_ptr (k := 5) ag3 rfl rfl rfl) ?_
      refine XOps.s rfl rfl rfl (Q.fld_ptr fl23_2 rfl) ?_
      refine XOps.s rfl rfl rfl (Q.ld_ptr (k := 5) ag9 rfl rfl rfl) ?_
      refine XOps.s rfl rfl rfl (Q.fld_ptr fl23_3 rfl) ?_
      refine XOps.s rfl rfl rfl (Q.ld_ptr (k := 5) ag9 rfl rfl rfl) ?_
      (refine XOps.loud rfl (L.call rfl Tryd.func17 go17 rfl (AC.le (add_c b (logV xs) f x.tm x.kind x.text gd (reH b2 (logV xs) f2 ((b3, .cells (x.enc.map .d)) :: hs)) ok (by omega) (by omega)) (HLe.pick 0 rfl rfl (HLe.pick 2 rfl rfl (HLe.pick 2 rfl rfl (HLe.refl _))))) rfl) ?_; rintro _ _ ⟨_, rfl, f3, rfl, rfl⟩)
      refine XOps.s rfl rfl rfl (Q.move_tup rfl) ?_
      refine XOps.s rfl rfl rfl (Q.extract rfl rfl) ?_
      refine XOps.s rfl rfl rfl (Q.extract rfl rfl) ?_
      refine XOps.s rfl rfl rfl (Q.assign_d rfl) ?_
      refine XOps.s rfl rfl rfl (Q.assign_d rfl) ?_
      refine XOps.nil ?_
      refine W.reg ?_
      refine XOps.s rfl rfl rfl (Q.move_ptr rfl) ?_
      refine XOps.s rfl rfl rfl (Q.fld_ptr fl23_1 rfl) ?_
      refine XOps.s rfl rfl rfl (Q.ld_ptr (k := 5) ag3 rfl rfl rfl) ?_
      refine XOps.s rfl rfl rfl (Q.fld_ptr fl23_2 rfl) ?_
      refine XOps.s rfl rfl rfl (Q.ld_ptr (k := 5) ag9 rfl rfl rfl) ?_
      refine XOps.s rfl rfl rfl (Q.fld_ptr fl23_3 rfl) ?_
      refine XOps.s rfl rfl rfl (Q.ld_ptr (k := 5) ag9 rfl rfl rfl) ?_
      (refine XOps.loud rfl (L.call rfl Tryd.func17 go17 rfl (AC.le (add_c b2 (logV xs) f2 x.tm x.kind x.text gd (reH b (addL (logV xs) x.tm x.kind x.text) f3 ((b3, .cells (x.enc.map .d)) :: hs)) ok (by omega) (by omega)) (HLe.pick 0 rfl rfl (HLe.pick 2 rfl rfl (HLe.pick 2 rfl rfl (HLe.refl _))))) rfl) ?_; rintro _ _ ⟨_, rfl, f4, rfl, rfl⟩)
      refine XOps.s rfl rfl rfl (Q.move_tup rfl) ?_
      refine XOps.s rfl rfl rfl (Q.extract rfl rfl) ?_
      refine XOps.s rfl rfl rfl (Q.extract rfl rfl) ?_
      refine XOps.s rfl rfl rfl (Q.assign_d rfl) ?_
      refine XOps.s rfl rfl rfl (Q.assign_d rfl) ?_
      refine XOps.nil ?_
      refine W.reg ?_
      refine XOps.s rfl rfl rfl (Q.move_d rfl) ?_
      refine XOps.s rfl rfl rfl (Q.move_d rfl) ?_
      refine XOps.s rfl rfl rfl (Q.eql rfl rfl) ?_
      refine XOps.s rfl rfl rfl (Q.move_d rfl) ?_
      refine XOps.gs rfl rfl rfl rfl rfl rfl rfl (fun hg => Q.move_d rfl) ?_
      refine XOps.gs rfl rfl rfl rfl rfl rfl rfl (fun hg => Q.move_d rfl) ?_
      refine XOps.gs rfl rfl rfl rfl rfl rfl rfl (fun hg => Quiet.open 60 hg rfl (Quiet.open 61 hg rfl (Q.eql rfl rfl))) ?_
      refine XOps.s rfl rfl rfl (Q.pick_and rfl rfl rfl (fun h => by first | (rw [h]; rfl) | (rw [hg, h]; rfl) | (simp [h, hg]; done))) ?_
      refine XOps.s rfl rfl rfl (Q.move_d rfl) ?_
      refine XOps.gs rfl rfl rfl rfl rfl rfl rfl (fun hg => Q.move_ptr rfl) ?_
      refine XOps.gs rfl rfl rfl rfl rfl rfl rfl (fun hg => Quiet.open 65 hg rfl (Q.call rfl Tryd.func16 go16 rfl (bytes_c 3 4 rfl rfl))) ?_
      refine XOps.gs rfl rfl rfl rfl rfl rfl rfl (fun hg => Q.move_ptr rfl) ?_
      refine XOps.gs rfl rfl rfl rfl rfl rfl rfl (fun hg => Quiet.open 67 hg rfl (Q.call rfl Tryd.func16 go16 rfl (bytes_c 1 2 rfl rfl))) ?_
      refine XOps.gs rfl rfl rfl rfl rfl rfl rfl (fun hg => Quiet.open 66 hg rfl (Quiet.open 68 hg rfl (Q.eql_str rfl rfl))) ?_
      refine XOps.s rfl rfl rfl (Q.pick_and rfl rfl rfl (fun h => by first | (rw [h]; rfl) | (rw [hg, h]; rfl) | (simp [h, hg]; done))) ?_
      refine XOps.s rfl rfl rfl (Q.assign_d rfl) ?_
      refine XOps.nil ?_
      refine W.ret ?_
      refine ⟨_, _, rfl, HLe.refl _, ?_⟩
      show AV.d (.bool _) = _
      refine congrArg (fun b => AV.d (D.bool b)) ?_
      simp
end Go.Proofs.YtldkkoecehdicaaDoorA
