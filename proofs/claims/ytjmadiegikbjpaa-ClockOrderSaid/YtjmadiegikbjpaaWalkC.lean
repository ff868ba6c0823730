/- Lamport, Vectors, Before and Consistent of package clock; slices.Clone, slices.Equal. -/
import Derived.Test.YtjmadiegikbjpaaBase
import Derived.Test.YtjmadiegikbjpaaWalkB
set_option linter.unusedVariables false
set_option linter.unusedSimpArgs false
set_option linter.unnecessarySimpa false
namespace Go.Proofs.YtjmadiegikbjpaaA.FWalkC
open Go
theorem ag26 : tAgg P 26 = some ((true, 3)) := by kernel_rfl
theorem ag3 : tAgg P 3 = some ((false, 1)) := by kernel_rfl
theorem ag48 : tAgg P 48 = some ((true, 8)) := by kernel_rfl
theorem ap22 : tApp P 22 = some ((1, 8)) := by kernel_rfl
theorem ap32 : tApp P 32 = some ((1, 24)) := by kernel_rfl
theorem ar48 : tArr P 48 = some ((8, 1)) := by kernel_rfl
theorem are48 : tEl P 48 = some ((false, 1)) := by kernel_rfl
theorem fl26_0 : tFld P 26 0 = some (0) := by kernel_rfl
theorem fl26_1 : tFld P 26 1 = some (1) := by kernel_rfl
theorem fl26_2 : tFld P 26 2 = some (2) := by kernel_rfl
theorem go12 : callGo Go.Proofs.Try.f12 = true := by kernel_rfl
theorem go13 : callGo Go.Proofs.Try.f13 = true := by kernel_rfl
theorem go18 : callGo Go.Proofs.Try.f18 = true := by kernel_rfl
theorem go20 : callGo Go.Proofs.Try.f20 = true := by kernel_rfl
theorem go21 : callGo Go.Proofs.Try.f21 = true := by kernel_rfl
theorem go22 : callGo Go.Proofs.Try.f22 = true := by kernel_rfl
theorem isl22 : isSl P 22 = true := by kernel_rfl
theorem isl23 : isSl P 23 = true := by kernel_rfl
theorem isl46 : isSl P 46 = true := by kernel_rfl
theorem pl26 : tPl P 26 = some ([(0, 1), (1, 1), (2, 1)]) := by kernel_rfl
theorem sl22 : tSl P 22 = some (1) := by kernel_rfl
theorem sl23 : tSl P 23 = some (3) := by kernel_rfl
theorem sl32 : tSl P 32 = some (1) := by kernel_rfl
theorem sl46 : tSl P 46 = some (8) := by kernel_rfl
theorem tz26 : tZero P 26 = some ([.int .i64 0, .int .i64 0, .int .i64 0]) := by kernel_rfl
theorem tz48 : tZero P 48 = some ([.int .i64 0, .int .i64 0, .int .i64 0, .int .i64 0, .int .i64 0, .int .i64 0, .int .i64 0, .int .i64 0]) := by kernel_rfl
theorem tzd26 : cellsD [.int .i64 0, .int .i64 0, .int .i64 0] = some ([.int .i64 0, .int .i64 0, .int .i64 0]) := rfl
theorem zr22 : tZrow P 22 = some ([.int .i64 0]) := by kernel_rfl
theorem zr23 : tZrow P 23 = some ([.int .i64 0, .int .i64 0, .int .i64 0]) := by kernel_rfl
theorem zr32 : tZrow P 32 = some ([.slice none 0 0]) := by kernel_rfl
theorem zrd22 : cellsD [.int .i64 0] = some ([.int .i64 0]) := rfl
theorem zrd23 : cellsD [.int .i64 0, .int .i64 0, .int .i64 0] = some ([.int .i64 0, .int .i64 0, .int .i64 0]) := rfl
theorem zrd32 : cellsD [.slice none 0 0] = some ([.sl 0 []]) := rfl
end Go.Proofs.YtjmadiegikbjpaaA.FWalkC
namespace Go.Proofs.YtjmadiegikbjpaaA
open Go FWalkC
set_option maxHeartbeats 1000000 in
set_option maxRecDepth 100000 in
theorem cloneN_c (l : List Int) (hs : Hp) (hL : l.length * 8 ≤ 140737488355328) : AC P 18 [.d (.sl 1 (l.map nE))] hs (fun r h => ∃ v, r = .vs v 0 l.length 1 ∧ h = (v, .lst 1 (l.map nE)) :: hs) := by
  refine AC.of 8 Try.func18 rfl rfl rfl ?_
  refine W.reg ?_
  first
    | refine XOps.s rfl rfl rfl (Q.assign_d rfl) ?_
    | refine XOps.s rfl rfl rfl (Q.assign_vs rfl) ?_
    | refine XOps.s rfl rfl rfl (Q.assign_ptr rfl) ?_
    | refine XOps.s rfl rfl rfl (Q.assign_nilsl rfl) ?_
    | refine XOps.s rfl rfl rfl (Q.assign_fn rfl) ?_
    | refine XOps.s rfl rfl rfl (Q.assign_tup rfl) ?_
    | refine XOps.s rfl rfl rfl (Q.assign_ep rfl) ?_
    | refine XOps.s rfl rfl rfl (Q.assign_dp rfl) ?_
    | refine XOps.s rfl rfl rfl (Q.assign_dcut rfl) ?_
    | refine XOps.s rfl rfl rfl (Q.assign_aggv rfl) ?_
    | refine XOps.s rfl rfl rfl (Q.assign rfl) ?_
  refine XOps.nil ?_
  refine W.seq ?_
  refine W.reg ?_
  first
    | refine XOps.s rfl rfl rfl (Q.move_d rfl) ?_
    | refine XOps.s rfl rfl rfl (Q.move_vs rfl) ?_
    | refine XOps.s rfl rfl rfl (Q.move_ptr rfl) ?_
    | refine XOps.s rfl rfl rfl (Q.move_nilsl rfl) ?_
    | refine XOps.s rfl rfl rfl (Q.move_fn rfl) ?_
    | refine XOps.s rfl rfl rfl (Q.move_tup rfl) ?_
    | refine XOps.s rfl rfl rfl (Q.move_ep rfl) ?_
    | refine XOps.s rfl rfl rfl (Q.move_dp rfl) ?_
    | refine XOps.s rfl rfl rfl (Q.move_dcut rfl) ?_
    | refine XOps.s rfl rfl rfl (Q.move_aggv rfl) ?_
    | refine XOps.s rfl rfl rfl (Q.move rfl) ?_
  (refine XOps.loud rfl (L.eqnil sl22 (by decide) rfl rfl rfl) ?_; rintro _ _ ⟨bb, hbb, rfl, hh⟩; obtain rfl := hh.symm)
  refine XOps.nil ?_
  refine W.cond rfl (fun hc4 => ?_) (fun hc4 => ?_)
  · try simp only [Bool.or_eq_true, Bool.or_eq_false_iff, Bool.and_eq_true, Bool.and_eq_false_iff, decide_eq_true_eq, decide_eq_false_iff_not, Bool.not_eq_true', Bool.not_eq_false', Int.not_lt, Int.not_le, List.length_map] at hc4
    have hle : l = [] := by simpa using hbb hc4
    subst hle
    refine W.reg ?_
    first
      | refine XOps.s rfl rfl rfl (Q.assign_d rfl) ?_
      | refine XOps.s rfl rfl rfl (Q.assign_vs rfl) ?_
      | refine XOps.s rfl rfl rfl (Q.assign_ptr rfl) ?_
      | refine XOps.s rfl rfl rfl (Q.assign_nilsl rfl) ?_
      | refine XOps.s rfl rfl rfl (Q.assign_fn rfl) ?_
      | refine XOps.s rfl rfl rfl (Q.assign_tup rfl) ?_
      | refine XOps.s rfl rfl rfl (Q.assign_ep rfl) ?_
      | refine XOps.s rfl rfl rfl (Q.assign_dp rfl) ?_
      | refine XOps.s rfl rfl rfl (Q.assign_dcut rfl) ?_
      | refine XOps.s rfl rfl rfl (Q.assign_aggv rfl) ?_
      | refine XOps.s rfl rfl rfl (Q.assign rfl) ?_
    refine XOps.nil ?_
    refine W.ghost 2 1 (by decide) rfl rfl (fun v2 => ?_)
    refine W.ret ?_
    first
      | exact ⟨_, (v7, .lst 1 (l.map nE)) :: hs, rfl, by repeat (first | exact HLe.refl _ | refine HLe.cons' (by first | rfl | (simp [Ev.enc, nE]; done)) ?_ | refine HLe.pick 1 rfl (by first | rfl | (simp [Ev.enc, nE]; done)) ?_ | refine HLe.pick 2 rfl (by first | rfl | (simp [Ev.enc, nE]; done)) ?_ | refine HLe.pick 3 rfl (by first | rfl | (simp [Ev.enc, nE]; done)) ?_ | refine HLe.pick 4 rfl (by first | rfl | (simp [Ev.enc, nE]; done)) ?_ | refine HLe.pick 5 rfl (by first | rfl | (simp [Ev.enc, nE]; done)) ?_ | refine HLe.skip _ ?_), v7, by show AV.vs _ _ _ _ = _; congr 1; simp, rfl⟩
      | exact ⟨_, (v2, .lst 1 []) :: hs, rfl, by repeat (first | exact HLe.refl _ | refine HLe.cons' (by first | rfl | (simp [Ev.enc, nE]; done)) ?_ | refine HLe.pick 1 rfl (by first | rfl | (simp [Ev.enc, nE]; done)) ?_ | refine HLe.pick 2 rfl (by first | rfl | (simp [Ev.enc, nE]; done)) ?_ | refine HLe.pick 3 rfl (by first | rfl | (simp [Ev.enc, nE]; done)) ?_ | refine HLe.pick 4 rfl (by first | rfl | (simp [Ev.enc, nE]; done)) ?_ | refine HLe.pick 5 rfl (by first | rfl | (simp [Ev.enc, nE]; done)) ?_ | refine HLe.skip _ ?_), v2, rfl, rfl⟩
  · try simp only [Bool.or_eq_true, Bool.or_eq_false_iff, Bool.and_eq_true, Bool.and_eq_false_iff, decide_eq_true_eq, decide_eq_false_iff_not, Bool.not_eq_true', Bool.not_eq_false', Int.not_lt, Int.not_le, List.length_map] at hc4
    refine W.skip ?_
    refine W.reg ?_
    first
      | refine XOps.s rfl rfl rfl (Q.bsl0 sl22) ?_
      | refine XOps.s rfl rfl rfl (Q.bsl sl22 (by decide) zr22 rfl zrd22 (by decide) rfl rfl) ?_
    first
      | refine XOps.s rfl rfl rfl (Q.move_d rfl) ?_
      | refine XOps.s rfl rfl rfl (Q.move_vs rfl) ?_
      | refine XOps.s rfl rfl rfl (Q.move_ptr rfl) ?_
      | refine XOps.s rfl rfl rfl (Q.move_nilsl rfl) ?_
      | refine XOps.s rfl rfl rfl (Q.move_fn rfl) ?_
      | refine XOps.s rfl rfl rfl (Q.move_tup rfl) ?_
      | refine XOps.s rfl rfl rfl (Q.move_ep rfl) ?_
      | refine XOps.s rfl rfl rfl (Q.move_dp rfl) ?_
      | refine XOps.s rfl rfl rfl (Q.move_dcut rfl) ?_
      | refine XOps.s rfl rfl rfl (Q.move_aggv rfl) ?_
      | refine XOps.s rfl rfl rfl (Q.move rfl) ?_
    first
      | (refine XOps.loud rfl (L.app_new ap22 (.inl rfl) (by first | exact .inl rfl | exact .inr (by simp)) rfl (by simp [lst_len]; omega) rfl) ?_; rintro _ _ ⟨v7, rfl, rfl⟩)
      | (refine XOps.loud rfl (L.app_new (rows := []) ap22 (.inr ⟨rfl, rfl⟩) (.inl rfl) rfl (by simp [lst_len]; omega) rfl) ?_; rintro _ _ ⟨v7, rfl, rfl⟩)
      | (refine XOps.loud rfl (L.app (k := 0) ap22 rfl rfl (by first | rfl | (simp [List.length_map, lst_len]; done)) rfl (by simp [lst_len]; omega) rfl) ?_; rintro _ _ ⟨v7, rfl, rfl⟩)
      | (refine XOps.loud rfl (L.app (k := 1) ap22 rfl rfl (by first | rfl | (simp [List.length_map, lst_len]; done)) rfl (by simp [lst_len]; omega) rfl) ?_; rintro _ _ ⟨v7, rfl, rfl⟩)
      | (refine XOps.loud rfl (L.app (k := 2) ap22 rfl rfl (by first | rfl | (simp [List.length_map, lst_len]; done)) rfl (by simp [lst_len]; omega) rfl) ?_; rintro _ _ ⟨v7, rfl, rfl⟩)
      | (refine XOps.loud rfl (L.app (k := 3) ap22 rfl rfl (by first | rfl | (simp [List.length_map, lst_len]; done)) rfl (by simp [lst_len]; omega) rfl) ?_; rintro _ _ ⟨v7, rfl, rfl⟩)
      | (refine XOps.loud rfl (L.app (k := 4) ap22 rfl rfl (by first | rfl | (simp [List.length_map, lst_len]; done)) rfl (by simp [lst_len]; omega) rfl) ?_; rintro _ _ ⟨v7, rfl, rfl⟩)
      | (refine XOps.loud rfl (L.app (k := 5) ap22 rfl rfl (by first | rfl | (simp [List.length_map, lst_len]; done)) rfl (by simp [lst_len]; omega) rfl) ?_; rintro _ _ ⟨v7, rfl, rfl⟩)
      | (refine XOps.loud rfl (L.app_in (k := 0) ap22 rfl rfl rfl (by simp [lst_len]; omega) (by simp [lst_len]; omega) rfl) ?_; rintro _ _ ⟨rfl, rfl⟩)
      | (refine XOps.loud rfl (L.app_in (k := 1) ap22 rfl rfl rfl (by simp [lst_len]; omega) (by simp [lst_len]; omega) rfl) ?_; rintro _ _ ⟨rfl, rfl⟩)
      | (refine XOps.loud rfl (L.app_in (k := 2) ap22 rfl rfl rfl (by simp [lst_len]; omega) (by simp [lst_len]; omega) rfl) ?_; rintro _ _ ⟨rfl, rfl⟩)
      | (refine XOps.loud rfl (L.app_in (k := 3) ap22 rfl rfl rfl (by simp [lst_len]; omega) (by simp [lst_len]; omega) rfl) ?_; rintro _ _ ⟨rfl, rfl⟩)
      | (refine XOps.loud rfl (L.app_in (k := 4) ap22 rfl rfl rfl (by simp [lst_len]; omega) (by simp [lst_len]; omega) rfl) ?_; rintro _ _ ⟨rfl, rfl⟩)
      | (refine XOps.loud rfl (L.app_in (k := 5) ap22 rfl rfl rfl (by simp [lst_len]; omega) (by simp [lst_len]; omega) rfl) ?_; rintro _ _ ⟨rfl, rfl⟩)
    first
      | refine XOps.s rfl rfl rfl (Q.assign_d rfl) ?_
      | refine XOps.s rfl rfl rfl (Q.assign_vs rfl) ?_
      | refine XOps.s rfl rfl rfl (Q.assign_ptr rfl) ?_
      | refine XOps.s rfl rfl rfl (Q.assign_nilsl rfl) ?_
      | refine XOps.s rfl rfl rfl (Q.assign_fn rfl) ?_
      | refine XOps.s rfl rfl rfl (Q.assign_tup rfl) ?_
      | refine XOps.s rfl rfl rfl (Q.assign_ep rfl) ?_
      | refine XOps.s rfl rfl rfl (Q.assign_dp rfl) ?_
      | refine XOps.s rfl rfl rfl (Q.assign_dcut rfl) ?_
      | refine XOps.s rfl rfl rfl (Q.assign_aggv rfl) ?_
      | refine XOps.s rfl rfl rfl (Q.assign rfl) ?_
    refine XOps.nil ?_
    refine W.ret ?_
    first
      | exact ⟨_, (v7, .lst 1 (l.map nE)) :: hs, rfl, by repeat (first | exact HLe.refl _ | refine HLe.cons' (by first | rfl | (simp [Ev.enc, nE]; done)) ?_ | refine HLe.pick 1 rfl (by first | rfl | (simp [Ev.enc, nE]; done)) ?_ | refine HLe.pick 2 rfl (by first | rfl | (simp [Ev.enc, nE]; done)) ?_ | refine HLe.pick 3 rfl (by first | rfl | (simp [Ev.enc, nE]; done)) ?_ | refine HLe.pick 4 rfl (by first | rfl | (simp [Ev.enc, nE]; done)) ?_ | refine HLe.pick 5 rfl (by first | rfl | (simp [Ev.enc, nE]; done)) ?_ | refine HLe.skip _ ?_), v7, by show AV.vs _ _ _ _ = _; congr 1; simp, rfl⟩
      | exact ⟨_, (v2, .lst 1 []) :: hs, rfl, by repeat (first | exact HLe.refl _ | refine HLe.cons' (by first | rfl | (simp [Ev.enc, nE]; done)) ?_ | refine HLe.pick 1 rfl (by first | rfl | (simp [Ev.enc, nE]; done)) ?_ | refine HLe.pick 2 rfl (by first | rfl | (simp [Ev.enc, nE]; done)) ?_ | refine HLe.pick 3 rfl (by first | rfl | (simp [Ev.enc, nE]; done)) ?_ | refine HLe.pick 4 rfl (by first | rfl | (simp [Ev.enc, nE]; done)) ?_ | refine HLe.pick 5 rfl (by first | rfl | (simp [Ev.enc, nE]; done)) ?_ | refine HLe.skip _ ?_), v2, rfl, rfl⟩

set_option maxHeartbeats 1000000 in
set_option maxRecDepth 100000 in
theorem equalN_c (a b : List Int) (hs : Hp) (hl : a.length ≤ 4611686018427387904) : AC P 13 [.d (.sl 1 (a.map nE)), .d (.sl 1 (b.map nE))] hs (fun r h => r = .d (.bool (decide (a = b))) ∧ h = hs) := by
  refine AC.of 26 Try.func13 rfl rfl rfl ?_
  refine W.reg ?_
  first
    | refine XOps.s rfl rfl rfl (Q.assign_d rfl) ?_
    | refine XOps.s rfl rfl rfl (Q.assign_vs rfl) ?_
    | refine XOps.s rfl rfl rfl (Q.assign_ptr rfl) ?_
    | refine XOps.s rfl rfl rfl (Q.assign_nilsl rfl) ?_
    | refine XOps.s rfl rfl rfl (Q.assign_fn rfl) ?_
    | refine XOps.s rfl rfl rfl (Q.assign_tup rfl) ?_
    | refine XOps.s rfl rfl rfl (Q.assign_ep rfl) ?_
    | refine XOps.s rfl rfl rfl (Q.assign_dp rfl) ?_
    | refine XOps.s rfl rfl rfl (Q.assign_dcut rfl) ?_
    | refine XOps.s rfl rfl rfl (Q.assign_aggv rfl) ?_
    | refine XOps.s rfl rfl rfl (Q.assign rfl) ?_
  refine XOps.nil ?_
  refine W.seq ?_
  refine W.reg ?_
  first
    | refine XOps.s rfl rfl rfl (Q.move_d rfl) ?_
    | refine XOps.s rfl rfl rfl (Q.move_vs rfl) ?_
    | refine XOps.s rfl rfl rfl (Q.move_ptr rfl) ?_
    | refine XOps.s rfl rfl rfl (Q.move_nilsl rfl) ?_
    | refine XOps.s rfl rfl rfl (Q.move_fn rfl) ?_
    | refine XOps.s rfl rfl rfl (Q.move_tup rfl) ?_
    | refine XOps.s rfl rfl rfl (Q.move_ep rfl) ?_
    | refine XOps.s rfl rfl rfl (Q.move_dp rfl) ?_
    | refine XOps.s rfl rfl rfl (Q.move_dcut rfl) ?_
    | refine XOps.s rfl rfl rfl (Q.move_aggv rfl) ?_
    | refine XOps.s rfl rfl rfl (Q.move rfl) ?_
  first
    | refine XOps.s rfl rfl rfl (Q.len_sl isl22 rfl) ?_
    | refine XOps.s rfl rfl rfl (Q.len_vs isl22 rfl) ?_
    | refine XOps.s rfl rfl rfl (Q.len_nil isl22 rfl) ?_
    | refine XOps.s rfl rfl rfl (Q.len_dcut isl22 rfl) ?_
  first
    | refine XOps.s rfl rfl rfl (Q.move_d rfl) ?_
    | refine XOps.s rfl rfl rfl (Q.move_vs rfl) ?_
    | refine XOps.s rfl rfl rfl (Q.move_ptr rfl) ?_
    | refine XOps.s rfl rfl rfl (Q.move_nilsl rfl) ?_
    | refine XOps.s rfl rfl rfl (Q.move_fn rfl) ?_
    | refine XOps.s rfl rfl rfl (Q.move_tup rfl) ?_
    | refine XOps.s rfl rfl rfl (Q.move_ep rfl) ?_
    | refine XOps.s rfl rfl rfl (Q.move_dp rfl) ?_
    | refine XOps.s rfl rfl rfl (Q.move_dcut rfl) ?_
    | refine XOps.s rfl rfl rfl (Q.move_aggv rfl) ?_
    | refine XOps.s rfl rfl rfl (Q.move rfl) ?_
  first
    | refine XOps.s rfl rfl rfl (Q.len_sl isl22 rfl) ?_
    | refine XOps.s rfl rfl rfl (Q.len_vs isl22 rfl) ?_
    | refine XOps.s rfl rfl rfl (Q.len_nil isl22 rfl) ?_
    | refine XOps.s rfl rfl rfl (Q.len_dcut isl22 rfl) ?_
  first
    | refine XOps.s rfl rfl rfl (Q.neq rfl rfl) ?_
    | refine XOps.s rfl rfl rfl (Q.neq_str rfl rfl) ?_
  refine XOps.nil ?_
  refine W.cond rfl (fun hc10 => ?_) (fun hc10 => ?_)
  · try simp only [Bool.or_eq_true, Bool.or_eq_false_iff, Bool.and_eq_true, Bool.and_eq_false_iff, decide_eq_true_eq, decide_eq_false_iff_not, Bool.not_eq_true', Bool.not_eq_false', Int.not_lt, Int.not_le, List.length_map] at hc10
    have hr : decide (a = b) = false := decide_eq_false fun h => by subst h; simp at hc10
    refine W.reg ?_
    first
      | refine XOps.s rfl rfl rfl (Q.assign_d rfl) ?_
      | refine XOps.s rfl rfl rfl (Q.assign_vs rfl) ?_
      | refine XOps.s rfl rfl rfl (Q.assign_ptr rfl) ?_
      | refine XOps.s rfl rfl rfl (Q.assign_nilsl rfl) ?_
      | refine XOps.s rfl rfl rfl (Q.assign_fn rfl) ?_
      | refine XOps.s rfl rfl rfl (Q.assign_tup rfl) ?_
      | refine XOps.s rfl rfl rfl (Q.assign_ep rfl) ?_
      | refine XOps.s rfl rfl rfl (Q.assign_dp rfl) ?_
      | refine XOps.s rfl rfl rfl (Q.assign_dcut rfl) ?_
      | refine XOps.s rfl rfl rfl (Q.assign_aggv rfl) ?_
      | refine XOps.s rfl rfl rfl (Q.assign rfl) ?_
    refine XOps.nil ?_
    refine W.ret ?_
    refine ⟨_, hs, rfl, by repeat (first | exact HLe.refl _ | refine HLe.cons' (by first | rfl | (simp [Ev.enc, nE]; done)) ?_ | refine HLe.pick 1 rfl (by first | rfl | (simp [Ev.enc, nE]; done)) ?_ | refine HLe.pick 2 rfl (by first | rfl | (simp [Ev.enc, nE]; done)) ?_ | refine HLe.pick 3 rfl (by first | rfl | (simp [Ev.enc, nE]; done)) ?_ | refine HLe.pick 4 rfl (by first | rfl | (simp [Ev.enc, nE]; done)) ?_ | refine HLe.pick 5 rfl (by first | rfl | (simp [Ev.enc, nE]; done)) ?_ | refine HLe.skip _ ?_), ?_, rfl⟩
    rw [hr]; rfl
  · try simp only [Bool.or_eq_true, Bool.or_eq_false_iff, Bool.and_eq_true, Bool.and_eq_false_iff, decide_eq_true_eq, decide_eq_false_iff_not, Bool.not_eq_true', Bool.not_eq_false', Int.not_lt, Int.not_le, List.length_map] at hc10
    have hlen : a.length = b.length := by omega
    refine W.skip ?_
    refine W.seq ?_
    refine W.reg ?_
    first
      | refine XOps.s rfl rfl rfl (Q.move_d rfl) ?_
      | refine XOps.s rfl rfl rfl (Q.move_vs rfl) ?_
      | refine XOps.s rfl rfl rfl (Q.move_ptr rfl) ?_
      | refine XOps.s rfl rfl rfl (Q.move_nilsl rfl) ?_
      | refine XOps.s rfl rfl rfl (Q.move_fn rfl) ?_
      | refine XOps.s rfl rfl rfl (Q.move_tup rfl) ?_
      | refine XOps.s rfl rfl rfl (Q.move_ep rfl) ?_
      | refine XOps.s rfl rfl rfl (Q.move_dp rfl) ?_
      | refine XOps.s rfl rfl rfl (Q.move_dcut rfl) ?_
      | refine XOps.s rfl rfl rfl (Q.move_aggv rfl) ?_
      | refine XOps.s rfl rfl rfl (Q.move rfl) ?_
    first
      | refine XOps.s rfl rfl rfl (Q.len_sl isl22 rfl) ?_
      | refine XOps.s rfl rfl rfl (Q.len_vs isl22 rfl) ?_
      | refine XOps.s rfl rfl rfl (Q.len_nil isl22 rfl) ?_
      | refine XOps.s rfl rfl rfl (Q.len_dcut isl22 rfl) ?_
    first
      | refine XOps.s rfl rfl rfl (Q.move_d rfl) ?_
      | refine XOps.s rfl rfl rfl (Q.move_vs rfl) ?_
      | refine XOps.s rfl rfl rfl (Q.move_ptr rfl) ?_
      | refine XOps.s rfl rfl rfl (Q.move_nilsl rfl) ?_
      | refine XOps.s rfl rfl rfl (Q.move_fn rfl) ?_
      | refine XOps.s rfl rfl rfl (Q.move_tup rfl) ?_
      | refine XOps.s rfl rfl rfl (Q.move_ep rfl) ?_
      | refine XOps.s rfl rfl rfl (Q.move_dp rfl) ?_
      | refine XOps.s rfl rfl rfl (Q.move_dcut rfl) ?_
      | refine XOps.s rfl rfl rfl (Q.move_aggv rfl) ?_
      | refine XOps.s rfl rfl rfl (Q.move rfl) ?_
    refine XOps.nil ?_
    refine W.block ?_
    refine W.loop (ι := Nat) (fun k => [(0, .d (.sl 1 (a.map nE))), (1, .d (.sl 1 (b.map nE))), (11, .d (.sl 1 (a.map nE))), (12, .d (.int .i64 a.length)), (13, .d (.int .i64 k))]) (fun k => hs) (fun k => k ≤ a.length ∧ ∀ i, i < k → a[i]? = b[i]?) (fun k => a.length - k) 0 ?_ ?_ ?_ ?_
    · exact ⟨Nat.zero_le _, fun i hi => absurd hi (Nat.not_lt_zero _)⟩
    · exact ⟨by first | rfl | exact int_eq (by omega) | exact len_eq (by simp) | exact int_eq (by simp; done), by first | rfl | exact int_eq (by omega) | exact len_eq (by simp) | exact int_eq (by simp; done), by first | rfl | exact int_eq (by omega) | exact len_eq (by simp) | exact int_eq (by simp; done), by first | rfl | exact int_eq (by omega) | exact len_eq (by simp) | exact int_eq (by simp; done), by first | rfl | exact int_eq (by omega) | exact len_eq (by simp) | exact int_eq (by simp; done), trivial⟩
    · repeat (first | exact HLe.refl _ | refine HLe.cons' (by first | rfl | (simp [Ev.enc, nE]; done)) ?_ | refine HLe.pick 1 rfl (by first | rfl | (simp [Ev.enc, nE]; done)) ?_ | refine HLe.pick 2 rfl (by first | rfl | (simp [Ev.enc, nE]; done)) ?_ | refine HLe.pick 3 rfl (by first | rfl | (simp [Ev.enc, nE]; done)) ?_ | refine HLe.pick 4 rfl (by first | rfl | (simp [Ev.enc, nE]; done)) ?_ | refine HLe.pick 5 rfl (by first | rfl | (simp [Ev.enc, nE]; done)) ?_ | refine HLe.skip _ ?_)
    · rintro k ⟨hk, hI⟩
      try dsimp only
      refine W.reg ?_
      first
        | refine XOps.s rfl rfl rfl (Q.lss rfl rfl) ?_
        | refine XOps.s rfl rfl rfl (Q.lss_str rfl rfl) ?_
      refine XOps.nil ?_
      refine W.seq ?_
      refine W.cond rfl (fun hc14 => ?_) (fun hc14 => ?_)
      · try simp only [Bool.or_eq_true, Bool.or_eq_false_iff, Bool.and_eq_true, Bool.and_eq_false_iff, decide_eq_true_eq, decide_eq_false_iff_not, Bool.not_eq_true', Bool.not_eq_false', Int.not_lt, Int.not_le, List.length_map] at hc14
        obtain ⟨u, hu⟩ : ∃ u, a[k]? = some u := ⟨_, List.getElem?_eq_getElem (by omega)⟩
        obtain ⟨v, hv⟩ : ∃ v, b[k]? = some v := ⟨_, List.getElem?_eq_getElem (by omega)⟩
        refine W.skip ?_
        refine W.seq ?_
        refine W.block ?_
        refine W.reg ?_
        first
          | refine XOps.s rfl rfl rfl (Q.move_d rfl) ?_
          | refine XOps.s rfl rfl rfl (Q.move_vs rfl) ?_
          | refine XOps.s rfl rfl rfl (Q.move_ptr rfl) ?_
          | refine XOps.s rfl rfl rfl (Q.move_nilsl rfl) ?_
          | refine XOps.s rfl rfl rfl (Q.move_fn rfl) ?_
          | refine XOps.s rfl rfl rfl (Q.move_tup rfl) ?_
          | refine XOps.s rfl rfl rfl (Q.move_ep rfl) ?_
          | refine XOps.s rfl rfl rfl (Q.move_dp rfl) ?_
          | refine XOps.s rfl rfl rfl (Q.move_dcut rfl) ?_
          | refine XOps.s rfl rfl rfl (Q.move_aggv rfl) ?_
          | refine XOps.s rfl rfl rfl (Q.move rfl) ?_
        first
          | refine XOps.s rfl rfl rfl (Q.assign_d rfl) ?_
          | refine XOps.s rfl rfl rfl (Q.assign_vs rfl) ?_
          | refine XOps.s rfl rfl rfl (Q.assign_ptr rfl) ?_
          | refine XOps.s rfl rfl rfl (Q.assign_nilsl rfl) ?_
          | refine XOps.s rfl rfl rfl (Q.assign_fn rfl) ?_
          | refine XOps.s rfl rfl rfl (Q.assign_tup rfl) ?_
          | refine XOps.s rfl rfl rfl (Q.assign_ep rfl) ?_
          | refine XOps.s rfl rfl rfl (Q.assign_dp rfl) ?_
          | refine XOps.s rfl rfl rfl (Q.assign_dcut rfl) ?_
          | refine XOps.s rfl rfl rfl (Q.assign_aggv rfl) ?_
          | refine XOps.s rfl rfl rfl (Q.assign rfl) ?_
        refine XOps.nil ?_
        refine W.drawreg 9 follows (by kernel_rfl) ?_
        first
          | refine Chain.cons _ (GQ.q rfl (Q.move_d rfl)) rfl ?_
          | refine Chain.cons _ (GQ.q rfl (Q.move_vs rfl)) rfl ?_
          | refine Chain.cons _ (GQ.q rfl (Q.move_ptr rfl)) rfl ?_
          | refine Chain.cons _ (GQ.q rfl (Q.move_nilsl rfl)) rfl ?_
          | refine Chain.cons _ (GQ.q rfl (Q.move_fn rfl)) rfl ?_
          | refine Chain.cons _ (GQ.q rfl (Q.move_tup rfl)) rfl ?_
          | refine Chain.cons _ (GQ.q rfl (Q.move_ep rfl)) rfl ?_
          | refine Chain.cons _ (GQ.q rfl (Q.move_dp rfl)) rfl ?_
          | refine Chain.cons _ (GQ.q rfl (Q.move_dcut rfl)) rfl ?_
          | refine Chain.cons _ (GQ.q rfl (Q.move_aggv rfl)) rfl ?_
          | refine Chain.cons _ (GQ.q rfl (Q.move rfl)) rfl ?_
        first
          | refine Chain.cons _ (GQ.q rfl (Q.move_d rfl)) rfl ?_
          | refine Chain.cons _ (GQ.q rfl (Q.move_vs rfl)) rfl ?_
          | refine Chain.cons _ (GQ.q rfl (Q.move_ptr rfl)) rfl ?_
          | refine Chain.cons _ (GQ.q rfl (Q.move_nilsl rfl)) rfl ?_
          | refine Chain.cons _ (GQ.q rfl (Q.move_fn rfl)) rfl ?_
          | refine Chain.cons _ (GQ.q rfl (Q.move_tup rfl)) rfl ?_
          | refine Chain.cons _ (GQ.q rfl (Q.move_ep rfl)) rfl ?_
          | refine Chain.cons _ (GQ.q rfl (Q.move_dp rfl)) rfl ?_
          | refine Chain.cons _ (GQ.q rfl (Q.move_dcut rfl)) rfl ?_
          | refine Chain.cons _ (GQ.q rfl (Q.move_aggv rfl)) rfl ?_
          | refine Chain.cons _ (GQ.q rfl (Q.move rfl)) rfl ?_
        first
          | refine Chain.cons _ (GQ.q rfl (Q.idx_sl sl22 (by decide) rfl rfl (by first | omega | (simp only [List.length_map]; omega)) (by first | exact map_at (by assumption) | exact map_at0 (by assumption) | assumption))) rfl ?_
          | refine Chain.cons _ (GQ.q rfl (Q.idx_vs (kk := 0) sl22 rfl rfl rfl (by first | omega | (simp at hg; omega)) (by first | omega | (dsimp only; omega)))) rfl ?_
          | refine Chain.cons _ (GQ.q rfl (Q.idx_vs (kk := 1) sl22 rfl rfl rfl (by first | omega | (simp at hg; omega)) (by first | omega | (dsimp only; omega)))) rfl ?_
          | refine Chain.cons _ (GQ.q rfl (Q.idx_vs (kk := 2) sl22 rfl rfl rfl (by first | omega | (simp at hg; omega)) (by first | omega | (dsimp only; omega)))) rfl ?_
          | refine Chain.cons _ (GQ.q rfl (Q.idx_vs (kk := 3) sl22 rfl rfl rfl (by first | omega | (simp at hg; omega)) (by first | omega | (dsimp only; omega)))) rfl ?_
          | refine Chain.cons _ (GQ.q rfl (Q.idx_vs (kk := 4) sl22 rfl rfl rfl (by first | omega | (simp at hg; omega)) (by first | omega | (dsimp only; omega)))) rfl ?_
          | refine Chain.cons _ (GQ.q rfl (Q.idx_vs (kk := 5) sl22 rfl rfl rfl (by first | omega | (simp at hg; omega)) (by first | omega | (dsimp only; omega)))) rfl ?_
        first
          | refine Chain.cons _ (GQ.q rfl (Q.ld_dp ag3 rfl rfl)) rfl ?_
          | refine Chain.cons _ (GQ.q rfl (Q.ld_ptr (k := 0) ag3 rfl rfl rfl)) rfl ?_
          | refine Chain.cons _ (GQ.q rfl (Q.ld_ptr (k := 1) ag3 rfl rfl rfl)) rfl ?_
          | refine Chain.cons _ (GQ.q rfl (Q.ld_ptr (k := 2) ag3 rfl rfl rfl)) rfl ?_
          | refine Chain.cons _ (GQ.q rfl (Q.ld_ptr (k := 3) ag3 rfl rfl rfl)) rfl ?_
          | refine Chain.cons _ (GQ.q rfl (Q.ld_ptr (k := 4) ag3 rfl rfl rfl)) rfl ?_
          | refine Chain.cons _ (GQ.q rfl (Q.ld_ptr (k := 5) ag3 rfl rfl rfl)) rfl ?_
          | refine Chain.cons _ (GQ.q rfl (Q.ld_ep (k := 0) ag3 rfl rfl (by first | exact map_at (by assumption) | exact map_at0 (by assumption) | assumption) rfl)) rfl ?_
          | refine Chain.cons _ (GQ.q rfl (Q.ld_ep (k := 1) ag3 rfl rfl (by first | exact map_at (by assumption) | exact map_at0 (by assumption) | assumption) rfl)) rfl ?_
          | refine Chain.cons _ (GQ.q rfl (Q.ld_ep (k := 2) ag3 rfl rfl (by first | exact map_at (by assumption) | exact map_at0 (by assumption) | assumption) rfl)) rfl ?_
          | refine Chain.cons _ (GQ.q rfl (Q.ld_ep (k := 3) ag3 rfl rfl (by first | exact map_at (by assumption) | exact map_at0 (by assumption) | assumption) rfl)) rfl ?_
          | refine Chain.cons _ (GQ.q rfl (Q.ld_ep (k := 4) ag3 rfl rfl (by first | exact map_at (by assumption) | exact map_at0 (by assumption) | assumption) rfl)) rfl ?_
          | refine Chain.cons _ (GQ.q rfl (Q.ld_ep (k := 5) ag3 rfl rfl (by first | exact map_at (by assumption) | exact map_at0 (by assumption) | assumption) rfl)) rfl ?_
        first
          | refine Chain.cons _ (GQ.q rfl (Q.move_d rfl)) rfl ?_
          | refine Chain.cons _ (GQ.q rfl (Q.move_vs rfl)) rfl ?_
          | refine Chain.cons _ (GQ.q rfl (Q.move_ptr rfl)) rfl ?_
          | refine Chain.cons _ (GQ.q rfl (Q.move_nilsl rfl)) rfl ?_
          | refine Chain.cons _ (GQ.q rfl (Q.move_fn rfl)) rfl ?_
          | refine Chain.cons _ (GQ.q rfl (Q.move_tup rfl)) rfl ?_
          | refine Chain.cons _ (GQ.q rfl (Q.move_ep rfl)) rfl ?_
          | refine Chain.cons _ (GQ.q rfl (Q.move_dp rfl)) rfl ?_
          | refine Chain.cons _ (GQ.q rfl (Q.move_dcut rfl)) rfl ?_
          | refine Chain.cons _ (GQ.q rfl (Q.move_aggv rfl)) rfl ?_
          | refine Chain.cons _ (GQ.q rfl (Q.move rfl)) rfl ?_
        first
          | refine Chain.cons _ (GQ.q rfl (Q.move_d rfl)) rfl ?_
          | refine Chain.cons _ (GQ.q rfl (Q.move_vs rfl)) rfl ?_
          | refine Chain.cons _ (GQ.q rfl (Q.move_ptr rfl)) rfl ?_
          | refine Chain.cons _ (GQ.q rfl (Q.move_nilsl rfl)) rfl ?_
          | refine Chain.cons _ (GQ.q rfl (Q.move_fn rfl)) rfl ?_
          | refine Chain.cons _ (GQ.q rfl (Q.move_tup rfl)) rfl ?_
          | refine Chain.cons _ (GQ.q rfl (Q.move_ep rfl)) rfl ?_
          | refine Chain.cons _ (GQ.q rfl (Q.move_dp rfl)) rfl ?_
          | refine Chain.cons _ (GQ.q rfl (Q.move_dcut rfl)) rfl ?_
          | refine Chain.cons _ (GQ.q rfl (Q.move_aggv rfl)) rfl ?_
          | refine Chain.cons _ (GQ.q rfl (Q.move rfl)) rfl ?_
        first
          | refine Chain.cons _ (GQ.q rfl (Q.idx_sl sl22 (by decide) rfl rfl (by first | omega | (simp only [List.length_map]; omega)) (by first | exact map_at (by assumption) | exact map_at0 (by assumption) | assumption))) rfl ?_
          | refine Chain.cons _ (GQ.q rfl (Q.idx_vs (kk := 0) sl22 rfl rfl rfl (by first | omega | (simp at hg; omega)) (by first | omega | (dsimp only; omega)))) rfl ?_
          | refine Chain.cons _ (GQ.q rfl (Q.idx_vs (kk := 1) sl22 rfl rfl rfl (by first | omega | (simp at hg; omega)) (by first | omega | (dsimp only; omega)))) rfl ?_
          | refine Chain.cons _ (GQ.q rfl (Q.idx_vs (kk := 2) sl22 rfl rfl rfl (by first | omega | (simp at hg; omega)) (by first | omega | (dsimp only; omega)))) rfl ?_
          | refine Chain.cons _ (GQ.q rfl (Q.idx_vs (kk := 3) sl22 rfl rfl rfl (by first | omega | (simp at hg; omega)) (by first | omega | (dsimp only; omega)))) rfl ?_
          | refine Chain.cons _ (GQ.q rfl (Q.idx_vs (kk := 4) sl22 rfl rfl rfl (by first | omega | (simp at hg; omega)) (by first | omega | (dsimp only; omega)))) rfl ?_
          | refine Chain.cons _ (GQ.q rfl (Q.idx_vs (kk := 5) sl22 rfl rfl rfl (by first | omega | (simp at hg; omega)) (by first | omega | (dsimp only; omega)))) rfl ?_
        first
          | refine Chain.cons _ (GQ.q rfl (Q.ld_dp ag3 rfl rfl)) rfl ?_
          | refine Chain.cons _ (GQ.q rfl (Q.ld_ptr (k := 0) ag3 rfl rfl rfl)) rfl ?_
          | refine Chain.cons _ (GQ.q rfl (Q.ld_ptr (k := 1) ag3 rfl rfl rfl)) rfl ?_
          | refine Chain.cons _ (GQ.q rfl (Q.ld_ptr (k := 2) ag3 rfl rfl rfl)) rfl ?_
          | refine Chain.cons _ (GQ.q rfl (Q.ld_ptr (k := 3) ag3 rfl rfl rfl)) rfl ?_
          | refine Chain.cons _ (GQ.q rfl (Q.ld_ptr (k := 4) ag3 rfl rfl rfl)) rfl ?_
          | refine Chain.cons _ (GQ.q rfl (Q.ld_ptr (k := 5) ag3 rfl rfl rfl)) rfl ?_
          | refine Chain.cons _ (GQ.q rfl (Q.ld_ep (k := 0) ag3 rfl rfl (by first | exact map_at (by assumption) | exact map_at0 (by assumption) | assumption) rfl)) rfl ?_
          | refine Chain.cons _ (GQ.q rfl (Q.ld_ep (k := 1) ag3 rfl rfl (by first | exact map_at (by assumption) | exact map_at0 (by assumption) | assumption) rfl)) rfl ?_
          | refine Chain.cons _ (GQ.q rfl (Q.ld_ep (k := 2) ag3 rfl rfl (by first | exact map_at (by assumption) | exact map_at0 (by assumption) | assumption) rfl)) rfl ?_
          | refine Chain.cons _ (GQ.q rfl (Q.ld_ep (k := 3) ag3 rfl rfl (by first | exact map_at (by assumption) | exact map_at0 (by assumption) | assumption) rfl)) rfl ?_
          | refine Chain.cons _ (GQ.q rfl (Q.ld_ep (k := 4) ag3 rfl rfl (by first | exact map_at (by assumption) | exact map_at0 (by assumption) | assumption) rfl)) rfl ?_
          | refine Chain.cons _ (GQ.q rfl (Q.ld_ep (k := 5) ag3 rfl rfl (by first | exact map_at (by assumption) | exact map_at0 (by assumption) | assumption) rfl)) rfl ?_
        first
          | refine Chain.cons _ (GQ.q rfl (Q.neq rfl rfl)) rfl ?_
          | refine Chain.cons _ (GQ.q rfl (Q.neq_str rfl rfl)) rfl ?_
        refine Chain.nil ?_
        refine XOps.nil ?_
        refine W.cond rfl (fun hc24 => ?_) (fun hc24 => ?_)
        · try simp only [Bool.or_eq_true, Bool.or_eq_false_iff, Bool.and_eq_true, Bool.and_eq_false_iff, decide_eq_true_eq, decide_eq_false_iff_not, Bool.not_eq_true', Bool.not_eq_false', Int.not_lt, Int.not_le, List.length_map] at hc24
          have hr : decide (a = b) = false := decide_eq_false fun h => by subst h; rw [hu] at hv; exact hc24 (Option.some.inj hv)
          refine W.reg ?_
          first
            | refine XOps.s rfl rfl rfl (Q.assign_d rfl) ?_
            | refine XOps.s rfl rfl rfl (Q.assign_vs rfl) ?_
            | refine XOps.s rfl rfl rfl (Q.assign_ptr rfl) ?_
            | refine XOps.s rfl rfl rfl (Q.assign_nilsl rfl) ?_
            | refine XOps.s rfl rfl rfl (Q.assign_fn rfl) ?_
            | refine XOps.s rfl rfl rfl (Q.assign_tup rfl) ?_
            | refine XOps.s rfl rfl rfl (Q.assign_ep rfl) ?_
            | refine XOps.s rfl rfl rfl (Q.assign_dp rfl) ?_
            | refine XOps.s rfl rfl rfl (Q.assign_dcut rfl) ?_
            | refine XOps.s rfl rfl rfl (Q.assign_aggv rfl) ?_
            | refine XOps.s rfl rfl rfl (Q.assign rfl) ?_
          refine XOps.nil ?_
          refine W.ret ?_
          refine ⟨_, hs, rfl, by repeat (first | exact HLe.refl _ | refine HLe.cons' (by first | rfl | (simp [Ev.enc, nE]; done)) ?_ | refine HLe.pick 1 rfl (by first | rfl | (simp [Ev.enc, nE]; done)) ?_ | refine HLe.pick 2 rfl (by first | rfl | (simp [Ev.enc, nE]; done)) ?_ | refine HLe.pick 3 rfl (by first | rfl | (simp [Ev.enc, nE]; done)) ?_ | refine HLe.pick 4 rfl (by first | rfl | (simp [Ev.enc, nE]; done)) ?_ | refine HLe.pick 5 rfl (by first | rfl | (simp [Ev.enc, nE]; done)) ?_ | refine HLe.skip _ ?_), ?_, rfl⟩
          rw [hr]; rfl
        · try simp only [Bool.or_eq_true, Bool.or_eq_false_iff, Bool.and_eq_true, Bool.and_eq_false_iff, decide_eq_true_eq, decide_eq_false_iff_not, Bool.not_eq_true', Bool.not_eq_false', Int.not_lt, Int.not_le, List.length_map] at hc24
          refine W.skip ?_
          refine W.region ?_
          first
            | refine XOps.s rfl rfl rfl (Q.add rfl rfl (wi64 (by first | omega | (dsimp only; omega) | (simp only [List.length_map]; omega)) (by first | omega | (dsimp only; omega) | (simp only [List.length_map]; omega)))) ?_
            | refine XOps.s rfl rfl rfl (Q.add rfl rfl rfl) ?_
            | refine XOps.s rfl rfl rfl (Q.adds rfl rfl (by first | omega | (simp at hg; omega))) ?_
          first
            | refine XOps.s rfl rfl rfl (Q.move_d rfl) ?_
            | refine XOps.s rfl rfl rfl (Q.move_vs rfl) ?_
            | refine XOps.s rfl rfl rfl (Q.move_ptr rfl) ?_
            | refine XOps.s rfl rfl rfl (Q.move_nilsl rfl) ?_
            | refine XOps.s rfl rfl rfl (Q.move_fn rfl) ?_
            | refine XOps.s rfl rfl rfl (Q.move_tup rfl) ?_
            | refine XOps.s rfl rfl rfl (Q.move_ep rfl) ?_
            | refine XOps.s rfl rfl rfl (Q.move_dp rfl) ?_
            | refine XOps.s rfl rfl rfl (Q.move_dcut rfl) ?_
            | refine XOps.s rfl rfl rfl (Q.move_aggv rfl) ?_
            | refine XOps.s rfl rfl rfl (Q.move rfl) ?_
          refine XOps.nil ?_
          refine ⟨k + 1, ?_, ?_, ?_, ?_⟩
          · refine ⟨by omega, fun i hi => ?_⟩
            by_cases h : i = k
            · subst h; rw [hu, hv, hc24]
            · exact hI i (by omega)
          · omega
          · exact ⟨by first | rfl | exact int_eq (by omega) | exact len_eq (by simp) | exact int_eq (by simp; done), by first | rfl | exact int_eq (by omega) | exact len_eq (by simp) | exact int_eq (by simp; done), by first | rfl | exact int_eq (by omega) | exact len_eq (by simp) | exact int_eq (by simp; done), by first | rfl | exact int_eq (by omega) | exact len_eq (by simp) | exact int_eq (by simp; done), by first | rfl | exact int_eq (by omega) | exact len_eq (by simp) | exact int_eq (by simp; done), trivial⟩
          · repeat (first | exact HLe.refl _ | refine HLe.cons' (by first | rfl | (simp [Ev.enc, nE]; done)) ?_ | refine HLe.pick 1 rfl (by first | rfl | (simp [Ev.enc, nE]; done)) ?_ | refine HLe.pick 2 rfl (by first | rfl | (simp [Ev.enc, nE]; done)) ?_ | refine HLe.pick 3 rfl (by first | rfl | (simp [Ev.enc, nE]; done)) ?_ | refine HLe.pick 4 rfl (by first | rfl | (simp [Ev.enc, nE]; done)) ?_ | refine HLe.pick 5 rfl (by first | rfl | (simp [Ev.enc, nE]; done)) ?_ | refine HLe.skip _ ?_)
      · try simp only [Bool.or_eq_true, Bool.or_eq_false_iff, Bool.and_eq_true, Bool.and_eq_false_iff, decide_eq_true_eq, decide_eq_false_iff_not, Bool.not_eq_true', Bool.not_eq_false', Int.not_lt, Int.not_le, List.length_map] at hc14
        have hr : decide (a = b) = true := decide_eq_true (List.ext_getElem? fun i => by
          rcases Nat.lt_or_ge i k with h | h
          · exact hI i h
          · rw [List.getElem?_eq_none (by omega), List.getElem?_eq_none (by omega)])
        refine W.exit ?_
        refine W.reg ?_
        first
          | refine XOps.s rfl rfl rfl (Q.assign_d rfl) ?_
          | refine XOps.s rfl rfl rfl (Q.assign_vs rfl) ?_
          | refine XOps.s rfl rfl rfl (Q.assign_ptr rfl) ?_
          | refine XOps.s rfl rfl rfl (Q.assign_nilsl rfl) ?_
          | refine XOps.s rfl rfl rfl (Q.assign_fn rfl) ?_
          | refine XOps.s rfl rfl rfl (Q.assign_tup rfl) ?_
          | refine XOps.s rfl rfl rfl (Q.assign_ep rfl) ?_
          | refine XOps.s rfl rfl rfl (Q.assign_dp rfl) ?_
          | refine XOps.s rfl rfl rfl (Q.assign_dcut rfl) ?_
          | refine XOps.s rfl rfl rfl (Q.assign_aggv rfl) ?_
          | refine XOps.s rfl rfl rfl (Q.assign rfl) ?_
        refine XOps.nil ?_
        refine W.ret ?_
        refine ⟨_, hs, rfl, by repeat (first | exact HLe.refl _ | refine HLe.cons' (by first | rfl | (simp [Ev.enc, nE]; done)) ?_ | refine HLe.pick 1 rfl (by first | rfl | (simp [Ev.enc, nE]; done)) ?_ | refine HLe.pick 2 rfl (by first | rfl | (simp [Ev.enc, nE]; done)) ?_ | refine HLe.pick 3 rfl (by first | rfl | (simp [Ev.enc, nE]; done)) ?_ | refine HLe.pick 4 rfl (by first | rfl | (simp [Ev.enc, nE]; done)) ?_ | refine HLe.pick 5 rfl (by first | rfl | (simp [Ev.enc, nE]; done)) ?_ | refine HLe.skip _ ?_), ?_, rfl⟩
        rw [hr]; rfl

theorem cloneN_f (l : List Int) (hs : Hp) (hL : l.length * 8 ≤ 140737488355328) : AC P 18 [.d (slN l)] hs (fun r h => r = .d (slN l) ∧ h = hs) :=
  AC.frz ((cloneN_c l hs hL).mono fun r h ⟨v, h1, h2⟩ => ⟨v, h2, h1 ▸ .vs (by simp)⟩)
def lamE (l : List Ev) : List Int := if checkS l = 0 then lamS l else []
def vecE (l : List Ev) : List (Nat → Int) := if checkS l = 0 then vecS l else []
def vl (v : Nat → Int) : List Int := (List.range 8).map v
def rowV (v : Nat → Int) : List D := [slN (vl v)]
theorem vl_at (v : Nat → Int) {j : Nat} (h : j < 8) : (vl v)[j]? = some (v j) := by unfold vl; rw [List.getElem?_map, List.getElem?_range h]; rfl
theorem vl_len (v : Nat → Int) : (vl v).length = 8 := by simp [vl]
theorem vl_ext {v w : Nat → Int} (h : ∀ j, j < 8 → v j = w j) : vl v = vl w := by
  unfold vl; exact List.map_congr_left fun j hj => h j (List.mem_range.1 hj)
theorem lamE_len (l : List Ev) (h : checkS l = 0) : (lamE l).length = l.length := by unfold lamE; rw [if_pos h, lamS_len]
theorem vecE_len (l : List Ev) (h : checkS l = 0) : (vecE l).length = l.length := by unfold vecE; rw [if_pos h, vecS_len]
theorem upd_cells {n p i : Nat} {f g : Nat → Int} {u : Int} {v : AV} (hp : p = i) (h : i < n) (hv : v = .d (.int .i64 u)) (hg : updF f i u = g) : HO.cells (cellsI n g) = HO.cells ((cellsI n f).set p v) := by
  subst hp hv hg; rw [cellsI_set _ h]

set_option maxHeartbeats 1000000 in
set_option maxRecDepth 100000 in
theorem lamport_own (l : List Ev) (hs : Hp) (hl : l.length ≤ 4611686018427387904) : AC P 12 [.d (.sl 3 (l.map Ev.enc))] hs (fun r h => ∃ v, r = .tup [.vs v 0 (lamE l).length 1, .d (.int .i64 (checkS l))] ∧ h = (v, .lst 1 ((lamE l).map nE)) :: hs) := by
  refine AC.of 52 Try.func12 rfl rfl rfl ?_
  refine W.reg ?_
  first
    | refine XOps.s rfl rfl rfl (Q.assign_d rfl) ?_
    | refine XOps.s rfl rfl rfl (Q.assign_vs rfl) ?_
    | refine XOps.s rfl rfl rfl (Q.assign_ptr rfl) ?_
    | refine XOps.s rfl rfl rfl (Q.assign_nilsl rfl) ?_
    | refine XOps.s rfl rfl rfl (Q.assign_fn rfl) ?_
    | refine XOps.s rfl rfl rfl (Q.assign_tup rfl) ?_
    | refine XOps.s rfl rfl rfl (Q.assign_ep rfl) ?_
    | refine XOps.s rfl rfl rfl (Q.assign_dp rfl) ?_
    | refine XOps.s rfl rfl rfl (Q.assign_dcut rfl) ?_
    | refine XOps.s rfl rfl rfl (Q.assign_aggv rfl) ?_
    | refine XOps.s rfl rfl rfl (Q.assign rfl) ?_
  first
    | refine XOps.s rfl rfl rfl (Q.assign_d rfl) ?_
    | refine XOps.s rfl rfl rfl (Q.assign_vs rfl) ?_
    | refine XOps.s rfl rfl rfl (Q.assign_ptr rfl) ?_
    | refine XOps.s rfl rfl rfl (Q.assign_nilsl rfl) ?_
    | refine XOps.s rfl rfl rfl (Q.assign_fn rfl) ?_
    | refine XOps.s rfl rfl rfl (Q.assign_tup rfl) ?_
    | refine XOps.s rfl rfl rfl (Q.assign_ep rfl) ?_
    | refine XOps.s rfl rfl rfl (Q.assign_dp rfl) ?_
    | refine XOps.s rfl rfl rfl (Q.assign_dcut rfl) ?_
    | refine XOps.s rfl rfl rfl (Q.assign_aggv rfl) ?_
    | refine XOps.s rfl rfl rfl (Q.assign rfl) ?_
  refine XOps.nil ?_
  refine W.seq ?_
  refine W.reg ?_
  first
    | refine XOps.s rfl rfl rfl (Q.move_d rfl) ?_
    | refine XOps.s rfl rfl rfl (Q.move_vs rfl) ?_
    | refine XOps.s rfl rfl rfl (Q.move_ptr rfl) ?_
    | refine XOps.s rfl rfl rfl (Q.move_nilsl rfl) ?_
    | refine XOps.s rfl rfl rfl (Q.move_fn rfl) ?_
    | refine XOps.s rfl rfl rfl (Q.move_tup rfl) ?_
    | refine XOps.s rfl rfl rfl (Q.move_ep rfl) ?_
    | refine XOps.s rfl rfl rfl (Q.move_dp rfl) ?_
    | refine XOps.s rfl rfl rfl (Q.move_dcut rfl) ?_
    | refine XOps.s rfl rfl rfl (Q.move_aggv rfl) ?_
    | refine XOps.s rfl rfl rfl (Q.move rfl) ?_
  refine XOps.s rfl rfl rfl (Q.call rfl Try.func20 go20 rfl (check_c l _ hl)) ?_
  first
    | refine XOps.s rfl rfl rfl (Q.assign_d rfl) ?_
    | refine XOps.s rfl rfl rfl (Q.assign_vs rfl) ?_
    | refine XOps.s rfl rfl rfl (Q.assign_ptr rfl) ?_
    | refine XOps.s rfl rfl rfl (Q.assign_nilsl rfl) ?_
    | refine XOps.s rfl rfl rfl (Q.assign_fn rfl) ?_
    | refine XOps.s rfl rfl rfl (Q.assign_tup rfl) ?_
    | refine XOps.s rfl rfl rfl (Q.assign_ep rfl) ?_
    | refine XOps.s rfl rfl rfl (Q.assign_dp rfl) ?_
    | refine XOps.s rfl rfl rfl (Q.assign_dcut rfl) ?_
    | refine XOps.s rfl rfl rfl (Q.assign_aggv rfl) ?_
    | refine XOps.s rfl rfl rfl (Q.assign rfl) ?_
  refine XOps.nil ?_
  refine W.reg ?_
  first
    | refine XOps.s rfl rfl rfl (Q.move_d rfl) ?_
    | refine XOps.s rfl rfl rfl (Q.move_vs rfl) ?_
    | refine XOps.s rfl rfl rfl (Q.move_ptr rfl) ?_
    | refine XOps.s rfl rfl rfl (Q.move_nilsl rfl) ?_
    | refine XOps.s rfl rfl rfl (Q.move_fn rfl) ?_
    | refine XOps.s rfl rfl rfl (Q.move_tup rfl) ?_
    | refine XOps.s rfl rfl rfl (Q.move_ep rfl) ?_
    | refine XOps.s rfl rfl rfl (Q.move_dp rfl) ?_
    | refine XOps.s rfl rfl rfl (Q.move_dcut rfl) ?_
    | refine XOps.s rfl rfl rfl (Q.move_aggv rfl) ?_
    | refine XOps.s rfl rfl rfl (Q.move rfl) ?_
  first
    | refine XOps.s rfl rfl rfl (Q.neq rfl rfl) ?_
    | refine XOps.s rfl rfl rfl (Q.neq_str rfl rfl) ?_
  refine XOps.nil ?_
  refine W.cond rfl (fun hc13 => ?_) (fun hc13 => ?_)
  · try simp only [Bool.or_eq_true, Bool.or_eq_false_iff, Bool.and_eq_true, Bool.and_eq_false_iff, decide_eq_true_eq, decide_eq_false_iff_not, Bool.not_eq_true', Bool.not_eq_false', Int.not_lt, Int.not_le, List.length_map] at hc13
    have hE : lamE l = [] := by unfold lamE; rw [if_neg (by omega)]
    rw [hE]
    refine W.reg ?_
    first
      | refine XOps.s rfl rfl rfl (Q.move_d rfl) ?_
      | refine XOps.s rfl rfl rfl (Q.move_vs rfl) ?_
      | refine XOps.s rfl rfl rfl (Q.move_ptr rfl) ?_
      | refine XOps.s rfl rfl rfl (Q.move_nilsl rfl) ?_
      | refine XOps.s rfl rfl rfl (Q.move_fn rfl) ?_
      | refine XOps.s rfl rfl rfl (Q.move_tup rfl) ?_
      | refine XOps.s rfl rfl rfl (Q.move_ep rfl) ?_
      | refine XOps.s rfl rfl rfl (Q.move_dp rfl) ?_
      | refine XOps.s rfl rfl rfl (Q.move_dcut rfl) ?_
      | refine XOps.s rfl rfl rfl (Q.move_aggv rfl) ?_
      | refine XOps.s rfl rfl rfl (Q.move rfl) ?_
    first
      | refine XOps.s rfl rfl rfl (Q.assign_d rfl) ?_
      | refine XOps.s rfl rfl rfl (Q.assign_vs rfl) ?_
      | refine XOps.s rfl rfl rfl (Q.assign_ptr rfl) ?_
      | refine XOps.s rfl rfl rfl (Q.assign_nilsl rfl) ?_
      | refine XOps.s rfl rfl rfl (Q.assign_fn rfl) ?_
      | refine XOps.s rfl rfl rfl (Q.assign_tup rfl) ?_
      | refine XOps.s rfl rfl rfl (Q.assign_ep rfl) ?_
      | refine XOps.s rfl rfl rfl (Q.assign_dp rfl) ?_
      | refine XOps.s rfl rfl rfl (Q.assign_dcut rfl) ?_
      | refine XOps.s rfl rfl rfl (Q.assign_aggv rfl) ?_
      | refine XOps.s rfl rfl rfl (Q.assign rfl) ?_
    first
      | refine XOps.s rfl rfl rfl (Q.assign_d rfl) ?_
      | refine XOps.s rfl rfl rfl (Q.assign_vs rfl) ?_
      | refine XOps.s rfl rfl rfl (Q.assign_ptr rfl) ?_
      | refine XOps.s rfl rfl rfl (Q.assign_nilsl rfl) ?_
      | refine XOps.s rfl rfl rfl (Q.assign_fn rfl) ?_
      | refine XOps.s rfl rfl rfl (Q.assign_tup rfl) ?_
      | refine XOps.s rfl rfl rfl (Q.assign_ep rfl) ?_
      | refine XOps.s rfl rfl rfl (Q.assign_dp rfl) ?_
      | refine XOps.s rfl rfl rfl (Q.assign_dcut rfl) ?_
      | refine XOps.s rfl rfl rfl (Q.assign_aggv rfl) ?_
      | refine XOps.s rfl rfl rfl (Q.assign rfl) ?_
    refine XOps.nil ?_
    refine W.ghost 2 1 (by decide) rfl rfl (fun v2 => ?_)
    refine W.ret ?_
    first
      | exact ⟨_, (v2, .lst 1 []) :: hs, rfl, HLe.refl _, v2, rfl, rfl⟩
      | exact ⟨_, (o, .lst 1 ((lamS l).map nE)) :: hs, rfl, HLe.skip _ (HLe.refl _), o, by rw [lamS_len]; rfl, rfl⟩
  · try simp only [Bool.or_eq_true, Bool.or_eq_false_iff, Bool.and_eq_true, Bool.and_eq_false_iff, decide_eq_true_eq, decide_eq_false_iff_not, Bool.not_eq_true', Bool.not_eq_false', Int.not_lt, Int.not_le, List.length_map] at hc13
    have hc0 : checkS l = 0 := by omega
    have hE : lamE l = lamS l := by unfold lamE; rw [if_pos hc0]
    rw [hE, hc0]
    have hw := WF.of hc0
    have hln := hw.len
    refine W.skip ?_
    refine W.reg ?_
    (refine XOps.loud rfl (L.alloc tz48 rfl rfl) ?_; rintro _ _ ⟨b5, rfl, rfl⟩)
    refine XOps.nil ?_
    refine W.reg ?_
    first
      | refine XOps.s rfl rfl rfl (Q.assign_d rfl) ?_
      | refine XOps.s rfl rfl rfl (Q.assign_vs rfl) ?_
      | refine XOps.s rfl rfl rfl (Q.assign_ptr rfl) ?_
      | refine XOps.s rfl rfl rfl (Q.assign_nilsl rfl) ?_
      | refine XOps.s rfl rfl rfl (Q.assign_fn rfl) ?_
      | refine XOps.s rfl rfl rfl (Q.assign_tup rfl) ?_
      | refine XOps.s rfl rfl rfl (Q.assign_ep rfl) ?_
      | refine XOps.s rfl rfl rfl (Q.assign_dp rfl) ?_
      | refine XOps.s rfl rfl rfl (Q.assign_dcut rfl) ?_
      | refine XOps.s rfl rfl rfl (Q.assign_aggv rfl) ?_
      | refine XOps.s rfl rfl rfl (Q.assign rfl) ?_
    refine XOps.nil ?_
    refine W.ghost 6 1 (by decide) rfl rfl (fun o => ?_)
    refine W.seq ?_
    refine W.reg ?_
    first
      | refine XOps.s rfl rfl rfl (Q.move_d rfl) ?_
      | refine XOps.s rfl rfl rfl (Q.move_vs rfl) ?_
      | refine XOps.s rfl rfl rfl (Q.move_ptr rfl) ?_
      | refine XOps.s rfl rfl rfl (Q.move_nilsl rfl) ?_
      | refine XOps.s rfl rfl rfl (Q.move_fn rfl) ?_
      | refine XOps.s rfl rfl rfl (Q.move_tup rfl) ?_
      | refine XOps.s rfl rfl rfl (Q.move_ep rfl) ?_
      | refine XOps.s rfl rfl rfl (Q.move_dp rfl) ?_
      | refine XOps.s rfl rfl rfl (Q.move_dcut rfl) ?_
      | refine XOps.s rfl rfl rfl (Q.move_aggv rfl) ?_
      | refine XOps.s rfl rfl rfl (Q.move rfl) ?_
    first
      | refine XOps.s rfl rfl rfl (Q.len_sl isl23 rfl) ?_
      | refine XOps.s rfl rfl rfl (Q.len_vs isl23 rfl) ?_
      | refine XOps.s rfl rfl rfl (Q.len_nil isl23 rfl) ?_
      | refine XOps.s rfl rfl rfl (Q.len_dcut isl23 rfl) ?_
    first
      | refine XOps.s rfl rfl rfl (Q.move_d rfl) ?_
      | refine XOps.s rfl rfl rfl (Q.move_vs rfl) ?_
      | refine XOps.s rfl rfl rfl (Q.move_ptr rfl) ?_
      | refine XOps.s rfl rfl rfl (Q.move_nilsl rfl) ?_
      | refine XOps.s rfl rfl rfl (Q.move_fn rfl) ?_
      | refine XOps.s rfl rfl rfl (Q.move_tup rfl) ?_
      | refine XOps.s rfl rfl rfl (Q.move_ep rfl) ?_
      | refine XOps.s rfl rfl rfl (Q.move_dp rfl) ?_
      | refine XOps.s rfl rfl rfl (Q.move_dcut rfl) ?_
      | refine XOps.s rfl rfl rfl (Q.move_aggv rfl) ?_
      | refine XOps.s rfl rfl rfl (Q.move rfl) ?_
    refine XOps.nil ?_
    refine W.block ?_
    refine W.loop (ι := Nat × Nat) (fun q => [(0, .d (.sl 3 (l.map Ev.enc))), (5, .ptr b5 0), (6, .vs q.2 0 q.1 1), (15, .d (.sl 3 (l.map Ev.enc))), (16, .d (.int .i64 l.length)), (17, .d (.int .i64 (q.1 : Nat)))]) (fun q => (b5, .cells (cellsI 8 (lst l q.1).1)) :: (q.2, .lst 1 ((lst l q.1).2.map nE)) :: hs) (fun q => q.1 ≤ l.length) (fun q => l.length - q.1) (0, o) ?_ ?_ ?_ ?_
    · exact Nat.zero_le _
    · exact ⟨by first | rfl | exact int_eq (by omega) | exact len_eq (by simp) | exact int_eq (by simp; done), by first | rfl | exact int_eq (by omega) | exact len_eq (by simp) | exact int_eq (by simp; done), by first | rfl | exact int_eq (by omega) | exact len_eq (by simp) | exact int_eq (by simp; done), by first | rfl | exact int_eq (by omega) | exact len_eq (by simp) | exact int_eq (by simp; done), by first | rfl | exact int_eq (by omega) | exact len_eq (by simp) | exact int_eq (by simp; done), by first | rfl | exact int_eq (by omega) | exact len_eq (by simp) | exact int_eq (by simp; done), trivial⟩
    · exact HLe.pick 1 rfl rfl (HLe.pick 0 rfl rfl (HLe.refl _))
    · rintro ⟨k, o⟩ hk
      try dsimp only at hk ⊢
      refine W.reg ?_
      first
        | refine XOps.s rfl rfl rfl (Q.lss rfl rfl) ?_
        | refine XOps.s rfl rfl rfl (Q.lss_str rfl rfl) ?_
      refine XOps.nil ?_
      refine W.seq ?_
      refine W.cond rfl (fun hc18 => ?_) (fun hc18 => ?_)
      · try simp only [Bool.or_eq_true, Bool.or_eq_false_iff, Bool.and_eq_true, Bool.and_eq_false_iff, decide_eq_true_eq, decide_eq_false_iff_not, Bool.not_eq_true', Bool.not_eq_false', Int.not_lt, Int.not_le, List.length_map] at hc18
        obtain ⟨x, hx⟩ : ∃ x, l[k]? = some x := ⟨_, List.getElem?_eq_getElem (by omega)⟩
        have hsb := hw.site k x hx
        have hs8 : x.site.toNat < 8 := by omega
        obtain ⟨hb1, hb2⟩ := lst_bound hw k (by omega)
        have hb3 := hb1 x.site.toNat hs8
        have hcell : (cellsI 8 (lst l k).1)[0 + x.site.toNat * 1]? = some (.d (.int .i64 ((lst l k).1 x.site.toNat))) := by rw [show 0 + x.site.toNat * 1 = x.site.toNat by omega]; exact cellsI_at _ hs8
        have hoff : Nat.blt (0 + x.site.toNat * 1) (cellsI 8 (lst l k).1).length = true := by rw [cellsI_len, Nat.blt_eq]; omega
        have hstep : lst l (k + 1) = (updF (lst l k).1 x.site.toNat (lval (lst l k).1 (lst l k).2 l k x + 1), (lst l k).2 ++ [lval (lst l k).1 (lst l k).2 l k x + 1]) := by rw [lst, getD_at hx]
        refine W.skip ?_
        refine W.seq ?_
        refine W.block ?_
        refine W.reg ?_
        first
          | refine XOps.s rfl rfl rfl (Q.move_d rfl) ?_
          | refine XOps.s rfl rfl rfl (Q.move_vs rfl) ?_
          | refine XOps.s rfl rfl rfl (Q.move_ptr rfl) ?_
          | refine XOps.s rfl rfl rfl (Q.move_nilsl rfl) ?_
          | refine XOps.s rfl rfl rfl (Q.move_fn rfl) ?_
          | refine XOps.s rfl rfl rfl (Q.move_tup rfl) ?_
          | refine XOps.s rfl rfl rfl (Q.move_ep rfl) ?_
          | refine XOps.s rfl rfl rfl (Q.move_dp rfl) ?_
          | refine XOps.s rfl rfl rfl (Q.move_dcut rfl) ?_
          | refine XOps.s rfl rfl rfl (Q.move_aggv rfl) ?_
          | refine XOps.s rfl rfl rfl (Q.move rfl) ?_
        first
          | refine XOps.s rfl rfl rfl (Q.idx_sl sl23 (by decide) rfl rfl (by first | omega | (simp only [List.length_map]; omega)) (by first | exact map_at (by assumption) | exact map_at0 (by assumption) | assumption)) ?_
          | refine XOps.s rfl rfl rfl (Q.idx_vs (kk := 0) sl23 rfl rfl rfl (by first | omega | (simp at hg; omega)) (by first | omega | (dsimp only; omega))) ?_
          | refine XOps.s rfl rfl rfl (Q.idx_vs (kk := 1) sl23 rfl rfl rfl (by first | omega | (simp at hg; omega)) (by first | omega | (dsimp only; omega))) ?_
          | refine XOps.s rfl rfl rfl (Q.idx_vs (kk := 2) sl23 rfl rfl rfl (by first | omega | (simp at hg; omega)) (by first | omega | (dsimp only; omega))) ?_
          | refine XOps.s rfl rfl rfl (Q.idx_vs (kk := 3) sl23 rfl rfl rfl (by first | omega | (simp at hg; omega)) (by first | omega | (dsimp only; omega))) ?_
          | refine XOps.s rfl rfl rfl (Q.idx_vs (kk := 4) sl23 rfl rfl rfl (by first | omega | (simp at hg; omega)) (by first | omega | (dsimp only; omega))) ?_
          | refine XOps.s rfl rfl rfl (Q.idx_vs (kk := 5) sl23 rfl rfl rfl (by first | omega | (simp at hg; omega)) (by first | omega | (dsimp only; omega))) ?_
        first
          | refine XOps.s rfl rfl rfl (Q.ld_dpn ag26 rfl rfl) ?_
          | refine XOps.s rfl rfl rfl (Q.ld_ptrn (k := 0) ag26 rfl rfl rfl) ?_
          | refine XOps.s rfl rfl rfl (Q.ld_ptrv (k := 0) ag26 rfl rfl rfl) ?_
          | refine XOps.s rfl rfl rfl (Q.ld_ptrn (k := 1) ag26 rfl rfl rfl) ?_
          | refine XOps.s rfl rfl rfl (Q.ld_ptrv (k := 1) ag26 rfl rfl rfl) ?_
          | refine XOps.s rfl rfl rfl (Q.ld_ptrn (k := 2) ag26 rfl rfl rfl) ?_
          | refine XOps.s rfl rfl rfl (Q.ld_ptrv (k := 2) ag26 rfl rfl rfl) ?_
          | refine XOps.s rfl rfl rfl (Q.ld_ptrn (k := 3) ag26 rfl rfl rfl) ?_
          | refine XOps.s rfl rfl rfl (Q.ld_ptrv (k := 3) ag26 rfl rfl rfl) ?_
          | refine XOps.s rfl rfl rfl (Q.ld_ptrn (k := 4) ag26 rfl rfl rfl) ?_
          | refine XOps.s rfl rfl rfl (Q.ld_ptrv (k := 4) ag26 rfl rfl rfl) ?_
          | refine XOps.s rfl rfl rfl (Q.ld_ptrn (k := 5) ag26 rfl rfl rfl) ?_
          | refine XOps.s rfl rfl rfl (Q.ld_ptrv (k := 5) ag26 rfl rfl rfl) ?_
          | refine XOps.s rfl rfl rfl (Q.ld_epn (k := 0) ag26 rfl rfl (by first | exact map_at (by assumption) | exact map_at0 (by assumption) | assumption) rfl) ?_
          | refine XOps.s rfl rfl rfl (Q.ld_epn (k := 1) ag26 rfl rfl (by first | exact map_at (by assumption) | exact map_at0 (by assumption) | assumption) rfl) ?_
          | refine XOps.s rfl rfl rfl (Q.ld_epn (k := 2) ag26 rfl rfl (by first | exact map_at (by assumption) | exact map_at0 (by assumption) | assumption) rfl) ?_
          | refine XOps.s rfl rfl rfl (Q.ld_epn (k := 3) ag26 rfl rfl (by first | exact map_at (by assumption) | exact map_at0 (by assumption) | assumption) rfl) ?_
          | refine XOps.s rfl rfl rfl (Q.ld_epn (k := 4) ag26 rfl rfl (by first | exact map_at (by assumption) | exact map_at0 (by assumption) | assumption) rfl) ?_
          | refine XOps.s rfl rfl rfl (Q.ld_epn (k := 5) ag26 rfl rfl (by first | exact map_at (by assumption) | exact map_at0 (by assumption) | assumption) rfl) ?_
        (refine XOps.loud rfl (L.alloc tz26 rfl rfl) ?_; rintro _ _ ⟨b8, rfl, rfl⟩)
        first
          | refine XOps.s rfl rfl rfl (Q.assign_d rfl) ?_
          | refine XOps.s rfl rfl rfl (Q.assign_vs rfl) ?_
          | refine XOps.s rfl rfl rfl (Q.assign_ptr rfl) ?_
          | refine XOps.s rfl rfl rfl (Q.assign_nilsl rfl) ?_
          | refine XOps.s rfl rfl rfl (Q.assign_fn rfl) ?_
          | refine XOps.s rfl rfl rfl (Q.assign_tup rfl) ?_
          | refine XOps.s rfl rfl rfl (Q.assign_ep rfl) ?_
          | refine XOps.s rfl rfl rfl (Q.assign_dp rfl) ?_
          | refine XOps.s rfl rfl rfl (Q.assign_dcut rfl) ?_
          | refine XOps.s rfl rfl rfl (Q.assign_aggv rfl) ?_
          | refine XOps.s rfl rfl rfl (Q.assign rfl) ?_
        first
          | (refine XOps.loud rfl (L.storen (k := 0) ag26 rfl rfl rfl rfl rfl) ?_; rintro _ _ ⟨rfl, rfl⟩)
          | (refine XOps.loud rfl (L.storev (k := 0) ag26 rfl rfl rfl rfl rfl) ?_; rintro _ _ ⟨rfl, rfl⟩)
          | (refine XOps.loud rfl (L.storen (k := 1) ag26 rfl rfl rfl rfl rfl) ?_; rintro _ _ ⟨rfl, rfl⟩)
          | (refine XOps.loud rfl (L.storev (k := 1) ag26 rfl rfl rfl rfl rfl) ?_; rintro _ _ ⟨rfl, rfl⟩)
          | (refine XOps.loud rfl (L.storen (k := 2) ag26 rfl rfl rfl rfl rfl) ?_; rintro _ _ ⟨rfl, rfl⟩)
          | (refine XOps.loud rfl (L.storev (k := 2) ag26 rfl rfl rfl rfl rfl) ?_; rintro _ _ ⟨rfl, rfl⟩)
          | (refine XOps.loud rfl (L.storen (k := 3) ag26 rfl rfl rfl rfl rfl) ?_; rintro _ _ ⟨rfl, rfl⟩)
          | (refine XOps.loud rfl (L.storev (k := 3) ag26 rfl rfl rfl rfl rfl) ?_; rintro _ _ ⟨rfl, rfl⟩)
          | (refine XOps.loud rfl (L.storen (k := 4) ag26 rfl rfl rfl rfl rfl) ?_; rintro _ _ ⟨rfl, rfl⟩)
          | (refine XOps.loud rfl (L.storev (k := 4) ag26 rfl rfl rfl rfl rfl) ?_; rintro _ _ ⟨rfl, rfl⟩)
          | (refine XOps.loud rfl (L.storen (k := 5) ag26 rfl rfl rfl rfl rfl) ?_; rintro _ _ ⟨rfl, rfl⟩)
          | (refine XOps.loud rfl (L.storev (k := 5) ag26 rfl rfl rfl rfl rfl) ?_; rintro _ _ ⟨rfl, rfl⟩)
          | (refine XOps.loud rfl (L.storen_ep (k := 0) ag26 rfl rfl (by first | exact map_at (by assumption) | exact map_at0 (by assumption) | assumption) rfl rfl rfl) ?_; rintro _ _ ⟨rfl, rfl⟩)
          | (refine XOps.loud rfl (L.storen_ep (k := 1) ag26 rfl rfl (by first | exact map_at (by assumption) | exact map_at0 (by assumption) | assumption) rfl rfl rfl) ?_; rintro _ _ ⟨rfl, rfl⟩)
          | (refine XOps.loud rfl (L.storen_ep (k := 2) ag26 rfl rfl (by first | exact map_at (by assumption) | exact map_at0 (by assumption) | assumption) rfl rfl rfl) ?_; rintro _ _ ⟨rfl, rfl⟩)
          | (refine XOps.loud rfl (L.storen_ep (k := 3) ag26 rfl rfl (by first | exact map_at (by assumption) | exact map_at0 (by assumption) | assumption) rfl rfl rfl) ?_; rintro _ _ ⟨rfl, rfl⟩)
          | (refine XOps.loud rfl (L.storen_ep (k := 4) ag26 rfl rfl (by first | exact map_at (by assumption) | exact map_at0 (by assumption) | assumption) rfl rfl rfl) ?_; rintro _ _ ⟨rfl, rfl⟩)
          | (refine XOps.loud rfl (L.storen_ep (k := 5) ag26 rfl rfl (by first | exact map_at (by assumption) | exact map_at0 (by assumption) | assumption) rfl rfl rfl) ?_; rintro _ _ ⟨rfl, rfl⟩)
        refine XOps.nil ?_
        refine W.reg ?_
        first
          | refine XOps.s rfl rfl rfl (Q.fld_ptr fl26_0 rfl) ?_
          | refine XOps.s rfl rfl rfl (Q.fld_dp fl26_0 rfl) ?_
          | refine XOps.s rfl rfl rfl (Q.fld_ep fl26_0 rfl) ?_
        first
          | refine XOps.s rfl rfl rfl (Q.ld_dp ag3 rfl rfl) ?_
          | refine XOps.s rfl rfl rfl (Q.ld_ptr (k := 0) ag3 rfl rfl rfl) ?_
          | refine XOps.s rfl rfl rfl (Q.ld_ptr (k := 1) ag3 rfl rfl rfl) ?_
          | refine XOps.s rfl rfl rfl (Q.ld_ptr (k := 2) ag3 rfl rfl rfl) ?_
          | refine XOps.s rfl rfl rfl (Q.ld_ptr (k := 3) ag3 rfl rfl rfl) ?_
          | refine XOps.s rfl rfl rfl (Q.ld_ptr (k := 4) ag3 rfl rfl rfl) ?_
          | refine XOps.s rfl rfl rfl (Q.ld_ptr (k := 5) ag3 rfl rfl rfl) ?_
          | refine XOps.s rfl rfl rfl (Q.ld_ep (k := 0) ag3 rfl rfl (by first | exact map_at (by assumption) | exact map_at0 (by assumption) | assumption) rfl) ?_
          | refine XOps.s rfl rfl rfl (Q.ld_ep (k := 1) ag3 rfl rfl (by first | exact map_at (by assumption) | exact map_at0 (by assumption) | assumption) rfl) ?_
          | refine XOps.s rfl rfl rfl (Q.ld_ep (k := 2) ag3 rfl rfl (by first | exact map_at (by assumption) | exact map_at0 (by assumption) | assumption) rfl) ?_
          | refine XOps.s rfl rfl rfl (Q.ld_ep (k := 3) ag3 rfl rfl (by first | exact map_at (by assumption) | exact map_at0 (by assumption) | assumption) rfl) ?_
          | refine XOps.s rfl rfl rfl (Q.ld_ep (k := 4) ag3 rfl rfl (by first | exact map_at (by assumption) | exact map_at0 (by assumption) | assumption) rfl) ?_
          | refine XOps.s rfl rfl rfl (Q.ld_ep (k := 5) ag3 rfl rfl (by first | exact map_at (by assumption) | exact map_at0 (by assumption) | assumption) rfl) ?_
        first
          | refine XOps.s rfl rfl rfl (Q.idx_arr ar48 rfl rfl (by first | omega | (simp at hg; omega)) (by first | omega | (simp at hg; omega))) ?_
          | refine XOps.s rfl rfl rfl (Q.idx_darr ar48 rfl rfl (by first | omega | (simp at hg; omega)) (by first | omega | (simp at hg; omega))) ?_
        refine XOps.s rfl rfl rfl (Q.ld_ptr (k := 1) ag3 rfl rfl hcell) ?_
        first
          | refine XOps.s rfl rfl rfl (Q.assign_d rfl) ?_
          | refine XOps.s rfl rfl rfl (Q.assign_vs rfl) ?_
          | refine XOps.s rfl rfl rfl (Q.assign_ptr rfl) ?_
          | refine XOps.s rfl rfl rfl (Q.assign_nilsl rfl) ?_
          | refine XOps.s rfl rfl rfl (Q.assign_fn rfl) ?_
          | refine XOps.s rfl rfl rfl (Q.assign_tup rfl) ?_
          | refine XOps.s rfl rfl rfl (Q.assign_ep rfl) ?_
          | refine XOps.s rfl rfl rfl (Q.assign_dp rfl) ?_
          | refine XOps.s rfl rfl rfl (Q.assign_dcut rfl) ?_
          | refine XOps.s rfl rfl rfl (Q.assign_aggv rfl) ?_
          | refine XOps.s rfl rfl rfl (Q.assign rfl) ?_
        refine XOps.nil ?_
        refine W.seq_mid (fun σ₁ hs₁ => ∃ u : Unit, (0 ≤ lval (lst l k).1 (lst l k).2 l k x ∧ lval (lst l k).1 (lst l k).2 l k x ≤ k) ∧ ELe [(0, .d (.sl 3 (l.map Ev.enc))), (5, .ptr b5 0), (6, .vs o 0 k 1), (8, .ptr b8 0), (9, .d (.int .i64 (lval (lst l k).1 (lst l k).2 l k x))), (15, .d (.sl 3 (l.map Ev.enc))), (16, .d (.int .i64 l.length)), (17, .d (.int .i64 (k : Nat)))] σ₁ ∧ HLe ((b8, .cells (x.enc.map .d)) :: (b5, .cells (cellsI 8 (lst l k).1)) :: (o, .lst 1 ((lst l k).2.map nE)) :: hs) hs₁) ?_ ?_
        ·
          refine W.reg ?_
          first
            | refine XOps.s rfl rfl rfl (Q.fld_ptr fl26_1 rfl) ?_
            | refine XOps.s rfl rfl rfl (Q.fld_dp fl26_1 rfl) ?_
            | refine XOps.s rfl rfl rfl (Q.fld_ep fl26_1 rfl) ?_
          first
            | refine XOps.s rfl rfl rfl (Q.ld_dp ag3 rfl rfl) ?_
            | refine XOps.s rfl rfl rfl (Q.ld_ptr (k := 0) ag3 rfl rfl rfl) ?_
            | refine XOps.s rfl rfl rfl (Q.ld_ptr (k := 1) ag3 rfl rfl rfl) ?_
            | refine XOps.s rfl rfl rfl (Q.ld_ptr (k := 2) ag3 rfl rfl rfl) ?_
            | refine XOps.s rfl rfl rfl (Q.ld_ptr (k := 3) ag3 rfl rfl rfl) ?_
            | refine XOps.s rfl rfl rfl (Q.ld_ptr (k := 4) ag3 rfl rfl rfl) ?_
            | refine XOps.s rfl rfl rfl (Q.ld_ptr (k := 5) ag3 rfl rfl rfl) ?_
            | refine XOps.s rfl rfl rfl (Q.ld_ep (k := 0) ag3 rfl rfl (by first | exact map_at (by assumption) | exact map_at0 (by assumption) | assumption) rfl) ?_
            | refine XOps.s rfl rfl rfl (Q.ld_ep (k := 1) ag3 rfl rfl (by first | exact map_at (by assumption) | exact map_at0 (by assumption) | assumption) rfl) ?_
            | refine XOps.s rfl rfl rfl (Q.ld_ep (k := 2) ag3 rfl rfl (by first | exact map_at (by assumption) | exact map_at0 (by assumption) | assumption) rfl) ?_
            | refine XOps.s rfl rfl rfl (Q.ld_ep (k := 3) ag3 rfl rfl (by first | exact map_at (by assumption) | exact map_at0 (by assumption) | assumption) rfl) ?_
            | refine XOps.s rfl rfl rfl (Q.ld_ep (k := 4) ag3 rfl rfl (by first | exact map_at (by assumption) | exact map_at0 (by assumption) | assumption) rfl) ?_
            | refine XOps.s rfl rfl rfl (Q.ld_ep (k := 5) ag3 rfl rfl (by first | exact map_at (by assumption) | exact map_at0 (by assumption) | assumption) rfl) ?_
          first
            | refine XOps.s rfl rfl rfl (Q.eql rfl rfl) ?_
            | refine XOps.s rfl rfl rfl (Q.eql_str rfl rfl) ?_
          refine XOps.nil ?_
          refine W.cond rfl (fun hc28 => ?_) (fun hc28 => ?_)
          · try simp only [Bool.or_eq_true, Bool.or_eq_false_iff, Bool.and_eq_true, Bool.and_eq_false_iff, decide_eq_true_eq, decide_eq_false_iff_not, Bool.not_eq_true', Bool.not_eq_false', Int.not_lt, Int.not_le, List.length_map] at hc28
            obtain ⟨i, hi, hik⟩ := hw.src k x hx hc28
            have hsi : srcI l k x = i := by unfold srcI; omega
            obtain ⟨q, hq⟩ : ∃ q, (lst l k).2[i]? = some q := ⟨_, List.getElem?_eq_getElem (by rw [lst_len]; exact hik)⟩
            have hqb := hb2 i q hq
            have hrow2 : ((lst l k).2.map nE)[0 + (senderS (l.take k) x.msg).toNat]? = some (nE q) := by rw [Nat.zero_add, hi, Int.toNat_natCast, List.getElem?_map, hq]; rfl
            have hlv : lval (lst l k).1 (lst l k).2 l k x = max ((lst l k).1 x.site.toNat) q := by unfold lval; rw [if_pos hc28, hsi, getD_at hq]
            refine W.draw 11 follows (by kernel_rfl) ?_
            first
              | refine Chain.cons _ (GQ.q rfl (Q.move_d rfl)) rfl ?_
              | refine Chain.cons _ (GQ.q rfl (Q.move_vs rfl)) rfl ?_
              | refine Chain.cons _ (GQ.q rfl (Q.move_ptr rfl)) rfl ?_
              | refine Chain.cons _ (GQ.q rfl (Q.move_nilsl rfl)) rfl ?_
              | refine Chain.cons _ (GQ.q rfl (Q.move_fn rfl)) rfl ?_
              | refine Chain.cons _ (GQ.q rfl (Q.move_tup rfl)) rfl ?_
              | refine Chain.cons _ (GQ.q rfl (Q.move_ep rfl)) rfl ?_
              | refine Chain.cons _ (GQ.q rfl (Q.move_dp rfl)) rfl ?_
              | refine Chain.cons _ (GQ.q rfl (Q.move_dcut rfl)) rfl ?_
              | refine Chain.cons _ (GQ.q rfl (Q.move_aggv rfl)) rfl ?_
              | refine Chain.cons _ (GQ.q rfl (Q.move rfl)) rfl ?_
            first
              | refine Chain.cons _ (GQ.q rfl (Q.move_d rfl)) rfl ?_
              | refine Chain.cons _ (GQ.q rfl (Q.move_vs rfl)) rfl ?_
              | refine Chain.cons _ (GQ.q rfl (Q.move_ptr rfl)) rfl ?_
              | refine Chain.cons _ (GQ.q rfl (Q.move_nilsl rfl)) rfl ?_
              | refine Chain.cons _ (GQ.q rfl (Q.move_fn rfl)) rfl ?_
              | refine Chain.cons _ (GQ.q rfl (Q.move_tup rfl)) rfl ?_
              | refine Chain.cons _ (GQ.q rfl (Q.move_ep rfl)) rfl ?_
              | refine Chain.cons _ (GQ.q rfl (Q.move_dp rfl)) rfl ?_
              | refine Chain.cons _ (GQ.q rfl (Q.move_dcut rfl)) rfl ?_
              | refine Chain.cons _ (GQ.q rfl (Q.move_aggv rfl)) rfl ?_
              | refine Chain.cons _ (GQ.q rfl (Q.move rfl)) rfl ?_
            first
              | refine Chain.cons _ (GQ.q rfl (Q.move_d rfl)) rfl ?_
              | refine Chain.cons _ (GQ.q rfl (Q.move_vs rfl)) rfl ?_
              | refine Chain.cons _ (GQ.q rfl (Q.move_ptr rfl)) rfl ?_
              | refine Chain.cons _ (GQ.q rfl (Q.move_nilsl rfl)) rfl ?_
              | refine Chain.cons _ (GQ.q rfl (Q.move_fn rfl)) rfl ?_
              | refine Chain.cons _ (GQ.q rfl (Q.move_tup rfl)) rfl ?_
              | refine Chain.cons _ (GQ.q rfl (Q.move_ep rfl)) rfl ?_
              | refine Chain.cons _ (GQ.q rfl (Q.move_dp rfl)) rfl ?_
              | refine Chain.cons _ (GQ.q rfl (Q.move_dcut rfl)) rfl ?_
              | refine Chain.cons _ (GQ.q rfl (Q.move_aggv rfl)) rfl ?_
              | refine Chain.cons _ (GQ.q rfl (Q.move rfl)) rfl ?_
            first
              | refine Chain.cons _ (GQ.q rfl (Q.move_d rfl)) rfl ?_
              | refine Chain.cons _ (GQ.q rfl (Q.move_vs rfl)) rfl ?_
              | refine Chain.cons _ (GQ.q rfl (Q.move_ptr rfl)) rfl ?_
              | refine Chain.cons _ (GQ.q rfl (Q.move_nilsl rfl)) rfl ?_
              | refine Chain.cons _ (GQ.q rfl (Q.move_fn rfl)) rfl ?_
              | refine Chain.cons _ (GQ.q rfl (Q.move_tup rfl)) rfl ?_
              | refine Chain.cons _ (GQ.q rfl (Q.move_ep rfl)) rfl ?_
              | refine Chain.cons _ (GQ.q rfl (Q.move_dp rfl)) rfl ?_
              | refine Chain.cons _ (GQ.q rfl (Q.move_dcut rfl)) rfl ?_
              | refine Chain.cons _ (GQ.q rfl (Q.move_aggv rfl)) rfl ?_
              | refine Chain.cons _ (GQ.q rfl (Q.move rfl)) rfl ?_
            first
              | refine Chain.cons _ (GQ.q rfl (Q.cut_slm sl23 rfl rfl rfl (by first | omega | (simp only [List.length_map]; omega)) (by first | omega | (simp only [List.length_map]; omega)) (by first | omega | (simp only [List.length_map]; omega)))) rfl ?_
              | refine Chain.cons _ (GQ.q rfl (Q.cut_sl sl23 rfl rfl rfl (by first | omega | (simp only [List.length_map]; omega)) (by first | omega | (simp only [List.length_map]; omega)) (by first | omega | (simp only [List.length_map]; omega)))) rfl ?_
              | refine Chain.cons _ (GQ.q rfl (Q.cut_vs sl23 rfl rfl rfl (by first | omega | (simp only [List.length_map]; omega)) (by first | omega | (simp only [List.length_map]; omega)) (by first | omega | (simp only [List.length_map]; omega)))) rfl ?_
              | refine Chain.cons _ (GQ.q rfl (Q.cut_nil sl23 rfl rfl rfl (by first | omega | (simp at hg; omega)) (by first | omega | (simp at hg; omega)))) rfl ?_
            first
              | refine Chain.cons _ (GQ.q rfl (Q.fld_ptr fl26_2 rfl)) rfl ?_
              | refine Chain.cons _ (GQ.q rfl (Q.fld_dp fl26_2 rfl)) rfl ?_
              | refine Chain.cons _ (GQ.q rfl (Q.fld_ep fl26_2 rfl)) rfl ?_
            first
              | refine Chain.cons _ (GQ.q rfl (Q.ld_dp ag3 rfl rfl)) rfl ?_
              | refine Chain.cons _ (GQ.q rfl (Q.ld_ptr (k := 0) ag3 rfl rfl rfl)) rfl ?_
              | refine Chain.cons _ (GQ.q rfl (Q.ld_ptr (k := 1) ag3 rfl rfl rfl)) rfl ?_
              | refine Chain.cons _ (GQ.q rfl (Q.ld_ptr (k := 2) ag3 rfl rfl rfl)) rfl ?_
              | refine Chain.cons _ (GQ.q rfl (Q.ld_ptr (k := 3) ag3 rfl rfl rfl)) rfl ?_
              | refine Chain.cons _ (GQ.q rfl (Q.ld_ptr (k := 4) ag3 rfl rfl rfl)) rfl ?_
              | refine Chain.cons _ (GQ.q rfl (Q.ld_ptr (k := 5) ag3 rfl rfl rfl)) rfl ?_
              | refine Chain.cons _ (GQ.q rfl (Q.ld_ep (k := 0) ag3 rfl rfl (by first | exact map_at (by assumption) | exact map_at0 (by assumption) | assumption) rfl)) rfl ?_
              | refine Chain.cons _ (GQ.q rfl (Q.ld_ep (k := 1) ag3 rfl rfl (by first | exact map_at (by assumption) | exact map_at0 (by assumption) | assumption) rfl)) rfl ?_
              | refine Chain.cons _ (GQ.q rfl (Q.ld_ep (k := 2) ag3 rfl rfl (by first | exact map_at (by assumption) | exact map_at0 (by assumption) | assumption) rfl)) rfl ?_
              | refine Chain.cons _ (GQ.q rfl (Q.ld_ep (k := 3) ag3 rfl rfl (by first | exact map_at (by assumption) | exact map_at0 (by assumption) | assumption) rfl)) rfl ?_
              | refine Chain.cons _ (GQ.q rfl (Q.ld_ep (k := 4) ag3 rfl rfl (by first | exact map_at (by assumption) | exact map_at0 (by assumption) | assumption) rfl)) rfl ?_
              | refine Chain.cons _ (GQ.q rfl (Q.ld_ep (k := 5) ag3 rfl rfl (by first | exact map_at (by assumption) | exact map_at0 (by assumption) | assumption) rfl)) rfl ?_
            refine Chain.cons _ (GQ.q rfl (Q.call rfl Try.func22 go22 rfl (sender_c (l.take k) x.msg _ (by simp; omega)))) rfl ?_
            refine Chain.cons _ (GQ.q rfl (Q.idx_vs (kk := 2) sl22 rfl rfl rfl (by omega) (by omega))) rfl ?_
            refine Chain.cons _ (GQ.q rfl (Q.ld_ep (k := 2) ag3 rfl rfl hrow2 rfl)) rfl ?_
            refine Chain.cons _ (GQ.q rfl (Q.maxi rfl rfl)) rfl ?_
            refine Chain.nil ?_
            first
              | refine XOps.s rfl rfl rfl (Q.assign_d rfl) ?_
              | refine XOps.s rfl rfl rfl (Q.assign_vs rfl) ?_
              | refine XOps.s rfl rfl rfl (Q.assign_ptr rfl) ?_
              | refine XOps.s rfl rfl rfl (Q.assign_nilsl rfl) ?_
              | refine XOps.s rfl rfl rfl (Q.assign_fn rfl) ?_
              | refine XOps.s rfl rfl rfl (Q.assign_tup rfl) ?_
              | refine XOps.s rfl rfl rfl (Q.assign_ep rfl) ?_
              | refine XOps.s rfl rfl rfl (Q.assign_dp rfl) ?_
              | refine XOps.s rfl rfl rfl (Q.assign_dcut rfl) ?_
              | refine XOps.s rfl rfl rfl (Q.assign_aggv rfl) ?_
              | refine XOps.s rfl rfl rfl (Q.assign rfl) ?_
            refine XOps.nil ?_
            refine ⟨(), (by rw [hlv]; omega), ⟨by first | rfl | exact int_eq (by omega) | exact len_eq (by simp) | exact int_eq (by simp; done), by first | rfl | exact int_eq (by omega) | exact len_eq (by simp) | exact int_eq (by simp; done), by first | rfl | exact int_eq (by omega) | exact len_eq (by simp) | exact int_eq (by simp; done), by first | rfl | exact int_eq (by omega) | exact len_eq (by simp) | exact int_eq (by simp; done), by (rw [hlv]; rfl), by first | rfl | exact int_eq (by omega) | exact len_eq (by simp) | exact int_eq (by simp; done), by first | rfl | exact int_eq (by omega) | exact len_eq (by simp) | exact int_eq (by simp; done), by first | rfl | exact int_eq (by omega) | exact len_eq (by simp) | exact int_eq (by simp; done), trivial⟩, by first | exact HLe.refl _ | exact HLe.cons' (by simp [Ev.enc]) (HLe.refl _)⟩
          · try simp only [Bool.or_eq_true, Bool.or_eq_false_iff, Bool.and_eq_true, Bool.and_eq_false_iff, decide_eq_true_eq, decide_eq_false_iff_not, Bool.not_eq_true', Bool.not_eq_false', Int.not_lt, Int.not_le, List.length_map] at hc28
            have hlv : lval (lst l k).1 (lst l k).2 l k x = (lst l k).1 x.site.toNat := by unfold lval; rw [if_neg hc28]
            refine W.skip ?_
            refine ⟨(), (by rw [hlv]; omega), ⟨by first | rfl | exact int_eq (by omega) | exact len_eq (by simp) | exact int_eq (by simp; done), by first | rfl | exact int_eq (by omega) | exact len_eq (by simp) | exact int_eq (by simp; done), by first | rfl | exact int_eq (by omega) | exact len_eq (by simp) | exact int_eq (by simp; done), by first | rfl | exact int_eq (by omega) | exact len_eq (by simp) | exact int_eq (by simp; done), by (rw [hlv]; rfl), by first | rfl | exact int_eq (by omega) | exact len_eq (by simp) | exact int_eq (by simp; done), by first | rfl | exact int_eq (by omega) | exact len_eq (by simp) | exact int_eq (by simp; done), by first | rfl | exact int_eq (by omega) | exact len_eq (by simp) | exact int_eq (by simp; done), trivial⟩, by first | exact HLe.refl _ | exact HLe.cons' (by simp [Ev.enc]) (HLe.refl _)⟩
        · rintro σ₁ hs₁ ⟨_, hlb, he, hh⟩
          refine W.le _ _ he hh ?_
          clear he hh
          refine W.reg ?_
          first
            | refine XOps.s rfl rfl rfl (Q.fld_ptr fl26_0 rfl) ?_
            | refine XOps.s rfl rfl rfl (Q.fld_dp fl26_0 rfl) ?_
            | refine XOps.s rfl rfl rfl (Q.fld_ep fl26_0 rfl) ?_
          first
            | refine XOps.s rfl rfl rfl (Q.ld_dp ag3 rfl rfl) ?_
            | refine XOps.s rfl rfl rfl (Q.ld_ptr (k := 0) ag3 rfl rfl rfl) ?_
            | refine XOps.s rfl rfl rfl (Q.ld_ptr (k := 1) ag3 rfl rfl rfl) ?_
            | refine XOps.s rfl rfl rfl (Q.ld_ptr (k := 2) ag3 rfl rfl rfl) ?_
            | refine XOps.s rfl rfl rfl (Q.ld_ptr (k := 3) ag3 rfl rfl rfl) ?_
            | refine XOps.s rfl rfl rfl (Q.ld_ptr (k := 4) ag3 rfl rfl rfl) ?_
            | refine XOps.s rfl rfl rfl (Q.ld_ptr (k := 5) ag3 rfl rfl rfl) ?_
            | refine XOps.s rfl rfl rfl (Q.ld_ep (k := 0) ag3 rfl rfl (by first | exact map_at (by assumption) | exact map_at0 (by assumption) | assumption) rfl) ?_
            | refine XOps.s rfl rfl rfl (Q.ld_ep (k := 1) ag3 rfl rfl (by first | exact map_at (by assumption) | exact map_at0 (by assumption) | assumption) rfl) ?_
            | refine XOps.s rfl rfl rfl (Q.ld_ep (k := 2) ag3 rfl rfl (by first | exact map_at (by assumption) | exact map_at0 (by assumption) | assumption) rfl) ?_
            | refine XOps.s rfl rfl rfl (Q.ld_ep (k := 3) ag3 rfl rfl (by first | exact map_at (by assumption) | exact map_at0 (by assumption) | assumption) rfl) ?_
            | refine XOps.s rfl rfl rfl (Q.ld_ep (k := 4) ag3 rfl rfl (by first | exact map_at (by assumption) | exact map_at0 (by assumption) | assumption) rfl) ?_
            | refine XOps.s rfl rfl rfl (Q.ld_ep (k := 5) ag3 rfl rfl (by first | exact map_at (by assumption) | exact map_at0 (by assumption) | assumption) rfl) ?_
          first
            | refine XOps.s rfl rfl rfl (Q.move_d rfl) ?_
            | refine XOps.s rfl rfl rfl (Q.move_vs rfl) ?_
            | refine XOps.s rfl rfl rfl (Q.move_ptr rfl) ?_
            | refine XOps.s rfl rfl rfl (Q.move_nilsl rfl) ?_
            | refine XOps.s rfl rfl rfl (Q.move_fn rfl) ?_
            | refine XOps.s rfl rfl rfl (Q.move_tup rfl) ?_
            | refine XOps.s rfl rfl rfl (Q.move_ep rfl) ?_
            | refine XOps.s rfl rfl rfl (Q.move_dp rfl) ?_
            | refine XOps.s rfl rfl rfl (Q.move_dcut rfl) ?_
            | refine XOps.s rfl rfl rfl (Q.move_aggv rfl) ?_
            | refine XOps.s rfl rfl rfl (Q.move rfl) ?_
          first
            | refine XOps.s rfl rfl rfl (Q.add rfl rfl (wi64 (by first | omega | (dsimp only; omega) | (simp only [List.length_map]; omega)) (by first | omega | (dsimp only; omega) | (simp only [List.length_map]; omega)))) ?_
            | refine XOps.s rfl rfl rfl (Q.add rfl rfl rfl) ?_
            | refine XOps.s rfl rfl rfl (Q.adds rfl rfl (by first | omega | (simp at hg; omega))) ?_
          first
            | refine XOps.s rfl rfl rfl (Q.idx_arr ar48 rfl rfl (by first | omega | (simp at hg; omega)) (by first | omega | (simp at hg; omega))) ?_
            | refine XOps.s rfl rfl rfl (Q.idx_darr ar48 rfl rfl (by first | omega | (simp at hg; omega)) (by first | omega | (simp at hg; omega))) ?_
          (refine XOps.loud rfl (L.store (k := 1) ag3 rfl rfl hoff rfl rfl) ?_; rintro _ _ ⟨rfl, rfl⟩)
          refine XOps.nil ?_
          refine W.heap ((b8, .cells (x.enc.map .d)) :: (b5, .cells (cellsI 8 (updF (lst l k).1 x.site.toNat (lval (lst l k).1 (lst l k).2 l k x + 1)))) :: (o, .lst 1 ((lst l k).2.map nE)) :: hs) (HLe.cons _ (HLe.cons' (upd_cells (show 0 + x.site.toNat * 1 = x.site.toNat by omega) hs8 rfl rfl) (HLe.refl _))) ?_
          refine W.region ?_
          first
            | refine XOps.s rfl rfl rfl (Q.move_d rfl) ?_
            | refine XOps.s rfl rfl rfl (Q.move_vs rfl) ?_
            | refine XOps.s rfl rfl rfl (Q.move_ptr rfl) ?_
            | refine XOps.s rfl rfl rfl (Q.move_nilsl rfl) ?_
            | refine XOps.s rfl rfl rfl (Q.move_fn rfl) ?_
            | refine XOps.s rfl rfl rfl (Q.move_tup rfl) ?_
            | refine XOps.s rfl rfl rfl (Q.move_ep rfl) ?_
            | refine XOps.s rfl rfl rfl (Q.move_dp rfl) ?_
            | refine XOps.s rfl rfl rfl (Q.move_dcut rfl) ?_
            | refine XOps.s rfl rfl rfl (Q.move_aggv rfl) ?_
            | refine XOps.s rfl rfl rfl (Q.move rfl) ?_
          first
            | refine XOps.s rfl rfl rfl (Q.move_d rfl) ?_
            | refine XOps.s rfl rfl rfl (Q.move_vs rfl) ?_
            | refine XOps.s rfl rfl rfl (Q.move_ptr rfl) ?_
            | refine XOps.s rfl rfl rfl (Q.move_nilsl rfl) ?_
            | refine XOps.s rfl rfl rfl (Q.move_fn rfl) ?_
            | refine XOps.s rfl rfl rfl (Q.move_tup rfl) ?_
            | refine XOps.s rfl rfl rfl (Q.move_ep rfl) ?_
            | refine XOps.s rfl rfl rfl (Q.move_dp rfl) ?_
            | refine XOps.s rfl rfl rfl (Q.move_dcut rfl) ?_
            | refine XOps.s rfl rfl rfl (Q.move_aggv rfl) ?_
            | refine XOps.s rfl rfl rfl (Q.move rfl) ?_
          first
            | refine XOps.s rfl rfl rfl (Q.add rfl rfl (wi64 (by first | omega | (dsimp only; omega) | (simp only [List.length_map]; omega)) (by first | omega | (dsimp only; omega) | (simp only [List.length_map]; omega)))) ?_
            | refine XOps.s rfl rfl rfl (Q.add rfl rfl rfl) ?_
            | refine XOps.s rfl rfl rfl (Q.adds rfl rfl (by first | omega | (simp at hg; omega))) ?_
          first
            | refine XOps.s rfl rfl rfl (Q.bsl1 sl22 zr22 rfl zrd22 rfl rfl) ?_
            | refine XOps.s rfl rfl rfl (Q.bsl1n sl22 (by decide) zr22 rfl zrd22 rfl rfl (by decide)) ?_
            | refine XOps.s rfl rfl rfl (Q.bsl sl22 (by decide) zr22 rfl zrd22 (by decide) rfl rfl) ?_
          first
            | (refine XOps.loud rfl (L.app_new ap22 (.inl rfl) (by first | exact .inl rfl | exact .inr (by simp)) rfl (by simp [lst_len]; omega) rfl) ?_; rintro _ _ ⟨v49, rfl, rfl⟩)
            | (refine XOps.loud rfl (L.app_new (rows := []) ap22 (.inr ⟨rfl, rfl⟩) (.inl rfl) rfl (by simp [lst_len]; omega) rfl) ?_; rintro _ _ ⟨v49, rfl, rfl⟩)
            | (refine XOps.loud rfl (L.app (k := 0) ap22 rfl rfl (by first | rfl | (simp [List.length_map, lst_len]; done)) rfl (by simp [lst_len]; omega) rfl) ?_; rintro _ _ ⟨v49, rfl, rfl⟩)
            | (refine XOps.loud rfl (L.app (k := 1) ap22 rfl rfl (by first | rfl | (simp [List.length_map, lst_len]; done)) rfl (by simp [lst_len]; omega) rfl) ?_; rintro _ _ ⟨v49, rfl, rfl⟩)
            | (refine XOps.loud rfl (L.app (k := 2) ap22 rfl rfl (by first | rfl | (simp [List.length_map, lst_len]; done)) rfl (by simp [lst_len]; omega) rfl) ?_; rintro _ _ ⟨v49, rfl, rfl⟩)
            | (refine XOps.loud rfl (L.app (k := 3) ap22 rfl rfl (by first | rfl | (simp [List.length_map, lst_len]; done)) rfl (by simp [lst_len]; omega) rfl) ?_; rintro _ _ ⟨v49, rfl, rfl⟩)
            | (refine XOps.loud rfl (L.app (k := 4) ap22 rfl rfl (by first | rfl | (simp [List.length_map, lst_len]; done)) rfl (by simp [lst_len]; omega) rfl) ?_; rintro _ _ ⟨v49, rfl, rfl⟩)
            | (refine XOps.loud rfl (L.app (k := 5) ap22 rfl rfl (by first | rfl | (simp [List.length_map, lst_len]; done)) rfl (by simp [lst_len]; omega) rfl) ?_; rintro _ _ ⟨v49, rfl, rfl⟩)
            | (refine XOps.loud rfl (L.app_in (k := 0) ap22 rfl rfl rfl (by simp [lst_len]; omega) (by simp [lst_len]; omega) rfl) ?_; rintro _ _ ⟨rfl, rfl⟩)
            | (refine XOps.loud rfl (L.app_in (k := 1) ap22 rfl rfl rfl (by simp [lst_len]; omega) (by simp [lst_len]; omega) rfl) ?_; rintro _ _ ⟨rfl, rfl⟩)
            | (refine XOps.loud rfl (L.app_in (k := 2) ap22 rfl rfl rfl (by simp [lst_len]; omega) (by simp [lst_len]; omega) rfl) ?_; rintro _ _ ⟨rfl, rfl⟩)
            | (refine XOps.loud rfl (L.app_in (k := 3) ap22 rfl rfl rfl (by simp [lst_len]; omega) (by simp [lst_len]; omega) rfl) ?_; rintro _ _ ⟨rfl, rfl⟩)
            | (refine XOps.loud rfl (L.app_in (k := 4) ap22 rfl rfl rfl (by simp [lst_len]; omega) (by simp [lst_len]; omega) rfl) ?_; rintro _ _ ⟨rfl, rfl⟩)
            | (refine XOps.loud rfl (L.app_in (k := 5) ap22 rfl rfl rfl (by simp [lst_len]; omega) (by simp [lst_len]; omega) rfl) ?_; rintro _ _ ⟨rfl, rfl⟩)
          first
            | refine XOps.s rfl rfl rfl (Q.assign_d rfl) ?_
            | refine XOps.s rfl rfl rfl (Q.assign_vs rfl) ?_
            | refine XOps.s rfl rfl rfl (Q.assign_ptr rfl) ?_
            | refine XOps.s rfl rfl rfl (Q.assign_nilsl rfl) ?_
            | refine XOps.s rfl rfl rfl (Q.assign_fn rfl) ?_
            | refine XOps.s rfl rfl rfl (Q.assign_tup rfl) ?_
            | refine XOps.s rfl rfl rfl (Q.assign_ep rfl) ?_
            | refine XOps.s rfl rfl rfl (Q.assign_dp rfl) ?_
            | refine XOps.s rfl rfl rfl (Q.assign_dcut rfl) ?_
            | refine XOps.s rfl rfl rfl (Q.assign_aggv rfl) ?_
            | refine XOps.s rfl rfl rfl (Q.assign rfl) ?_
          refine XOps.nil ?_
          refine W.region ?_
          first
            | refine XOps.s rfl rfl rfl (Q.add rfl rfl (wi64 (by first | omega | (dsimp only; omega) | (simp only [List.length_map]; omega)) (by first | omega | (dsimp only; omega) | (simp only [List.length_map]; omega)))) ?_
            | refine XOps.s rfl rfl rfl (Q.add rfl rfl rfl) ?_
            | refine XOps.s rfl rfl rfl (Q.adds rfl rfl (by first | omega | (simp at hg; omega))) ?_
          first
            | refine XOps.s rfl rfl rfl (Q.move_d rfl) ?_
            | refine XOps.s rfl rfl rfl (Q.move_vs rfl) ?_
            | refine XOps.s rfl rfl rfl (Q.move_ptr rfl) ?_
            | refine XOps.s rfl rfl rfl (Q.move_nilsl rfl) ?_
            | refine XOps.s rfl rfl rfl (Q.move_fn rfl) ?_
            | refine XOps.s rfl rfl rfl (Q.move_tup rfl) ?_
            | refine XOps.s rfl rfl rfl (Q.move_ep rfl) ?_
            | refine XOps.s rfl rfl rfl (Q.move_dp rfl) ?_
            | refine XOps.s rfl rfl rfl (Q.move_dcut rfl) ?_
            | refine XOps.s rfl rfl rfl (Q.move_aggv rfl) ?_
            | refine XOps.s rfl rfl rfl (Q.move rfl) ?_
          refine XOps.nil ?_
          refine ⟨(k + 1, v49), ?_, ?_, ?_, ?_⟩
          · dsimp only; omega
          · dsimp only; omega
          · exact ⟨by first | rfl | exact int_eq (by omega) | exact len_eq (by simp) | exact int_eq (by simp; done), by first | rfl | exact int_eq (by omega) | exact len_eq (by simp) | exact int_eq (by simp; done), by (show AV.vs v49 0 (((lst l k).2.map nE).length + 1) 1 = AV.vs v49 0 (k + 1) 1; simp [lst_len]), by first | rfl | exact int_eq (by omega) | exact len_eq (by simp) | exact int_eq (by simp; done), by first | rfl | exact int_eq (by omega) | exact len_eq (by simp) | exact int_eq (by simp; done), by exact int_eq (by dsimp only; omega), trivial⟩
          · exact HLe.pick 2 rfl (by rw [hstep]) (HLe.pick 0 rfl (by rw [hstep, List.map_append]; rfl) (HLe.skip _ (HLe.refl _)))
      · try simp only [Bool.or_eq_true, Bool.or_eq_false_iff, Bool.and_eq_true, Bool.and_eq_false_iff, decide_eq_true_eq, decide_eq_false_iff_not, Bool.not_eq_true', Bool.not_eq_false', Int.not_lt, Int.not_le, List.length_map] at hc18
        obtain rfl : k = l.length := by omega
        refine W.exit ?_
        refine W.reg ?_
        first
          | refine XOps.s rfl rfl rfl (Q.move_d rfl) ?_
          | refine XOps.s rfl rfl rfl (Q.move_vs rfl) ?_
          | refine XOps.s rfl rfl rfl (Q.move_ptr rfl) ?_
          | refine XOps.s rfl rfl rfl (Q.move_nilsl rfl) ?_
          | refine XOps.s rfl rfl rfl (Q.move_fn rfl) ?_
          | refine XOps.s rfl rfl rfl (Q.move_tup rfl) ?_
          | refine XOps.s rfl rfl rfl (Q.move_ep rfl) ?_
          | refine XOps.s rfl rfl rfl (Q.move_dp rfl) ?_
          | refine XOps.s rfl rfl rfl (Q.move_dcut rfl) ?_
          | refine XOps.s rfl rfl rfl (Q.move_aggv rfl) ?_
          | refine XOps.s rfl rfl rfl (Q.move rfl) ?_
        first
          | refine XOps.s rfl rfl rfl (Q.assign_d rfl) ?_
          | refine XOps.s rfl rfl rfl (Q.assign_vs rfl) ?_
          | refine XOps.s rfl rfl rfl (Q.assign_ptr rfl) ?_
          | refine XOps.s rfl rfl rfl (Q.assign_nilsl rfl) ?_
          | refine XOps.s rfl rfl rfl (Q.assign_fn rfl) ?_
          | refine XOps.s rfl rfl rfl (Q.assign_tup rfl) ?_
          | refine XOps.s rfl rfl rfl (Q.assign_ep rfl) ?_
          | refine XOps.s rfl rfl rfl (Q.assign_dp rfl) ?_
          | refine XOps.s rfl rfl rfl (Q.assign_dcut rfl) ?_
          | refine XOps.s rfl rfl rfl (Q.assign_aggv rfl) ?_
          | refine XOps.s rfl rfl rfl (Q.assign rfl) ?_
        first
          | refine XOps.s rfl rfl rfl (Q.assign_d rfl) ?_
          | refine XOps.s rfl rfl rfl (Q.assign_vs rfl) ?_
          | refine XOps.s rfl rfl rfl (Q.assign_ptr rfl) ?_
          | refine XOps.s rfl rfl rfl (Q.assign_nilsl rfl) ?_
          | refine XOps.s rfl rfl rfl (Q.assign_fn rfl) ?_
          | refine XOps.s rfl rfl rfl (Q.assign_tup rfl) ?_
          | refine XOps.s rfl rfl rfl (Q.assign_ep rfl) ?_
          | refine XOps.s rfl rfl rfl (Q.assign_dp rfl) ?_
          | refine XOps.s rfl rfl rfl (Q.assign_dcut rfl) ?_
          | refine XOps.s rfl rfl rfl (Q.assign_aggv rfl) ?_
          | refine XOps.s rfl rfl rfl (Q.assign rfl) ?_
        refine XOps.nil ?_
        refine W.ret ?_
        first
          | exact ⟨_, (v2, .lst 1 []) :: hs, rfl, HLe.refl _, v2, rfl, rfl⟩
          | exact ⟨_, (o, .lst 1 ((lamS l).map nE)) :: hs, rfl, HLe.skip _ (HLe.refl _), o, by rw [lamS_len]; rfl, rfl⟩

theorem lamport_c (l : List Ev) (hs : Hp) (hl : l.length ≤ 4611686018427387904) : AC P 12 [.d (.sl 3 (l.map Ev.enc))] hs (fun r h => r = .tup [.d (slN (lamE l)), .d (.int .i64 (checkS l))] ∧ h = hs) :=
  AC.frz2 ((lamport_own l hs hl).mono fun r h ⟨v, h1, h2⟩ => ⟨v, _, _, h2, h1, .vs (by simp), .same _⟩)

set_option maxHeartbeats 1000000 in
set_option maxRecDepth 100000 in
theorem vecs_own (l : List Ev) (hs : Hp) (hl : l.length ≤ 4611686018427387904) : AC P 11 [.d (.sl 3 (l.map Ev.enc))] hs (fun r h => ∃ v, r = .tup [.vs v 0 (vecE l).length 1, .d (.int .i64 (checkS l))] ∧ h = (v, .lst 1 ((vecE l).map rowV)) :: hs) := by
  refine AC.of 27 Try.func11 rfl rfl rfl ?_
  refine W.reg ?_
  first
    | refine XOps.s rfl rfl rfl (Q.assign_d rfl) ?_
    | refine XOps.s rfl rfl rfl (Q.assign_vs rfl) ?_
    | refine XOps.s rfl rfl rfl (Q.assign_ptr rfl) ?_
    | refine XOps.s rfl rfl rfl (Q.assign_nilsl rfl) ?_
    | refine XOps.s rfl rfl rfl (Q.assign_fn rfl) ?_
    | refine XOps.s rfl rfl rfl (Q.assign_tup rfl) ?_
    | refine XOps.s rfl rfl rfl (Q.assign_ep rfl) ?_
    | refine XOps.s rfl rfl rfl (Q.assign_dp rfl) ?_
    | refine XOps.s rfl rfl rfl (Q.assign_dcut rfl) ?_
    | refine XOps.s rfl rfl rfl (Q.assign_aggv rfl) ?_
    | refine XOps.s rfl rfl rfl (Q.assign rfl) ?_
  first
    | refine XOps.s rfl rfl rfl (Q.assign_d rfl) ?_
    | refine XOps.s rfl rfl rfl (Q.assign_vs rfl) ?_
    | refine XOps.s rfl rfl rfl (Q.assign_ptr rfl) ?_
    | refine XOps.s rfl rfl rfl (Q.assign_nilsl rfl) ?_
    | refine XOps.s rfl rfl rfl (Q.assign_fn rfl) ?_
    | refine XOps.s rfl rfl rfl (Q.assign_tup rfl) ?_
    | refine XOps.s rfl rfl rfl (Q.assign_ep rfl) ?_
    | refine XOps.s rfl rfl rfl (Q.assign_dp rfl) ?_
    | refine XOps.s rfl rfl rfl (Q.assign_dcut rfl) ?_
    | refine XOps.s rfl rfl rfl (Q.assign_aggv rfl) ?_
    | refine XOps.s rfl rfl rfl (Q.assign rfl) ?_
  refine XOps.nil ?_
  refine W.seq ?_
  refine W.reg ?_
  first
    | refine XOps.s rfl rfl rfl (Q.move_d rfl) ?_
    | refine XOps.s rfl rfl rfl (Q.move_vs rfl) ?_
    | refine XOps.s rfl rfl rfl (Q.move_ptr rfl) ?_
    | refine XOps.s rfl rfl rfl (Q.move_nilsl rfl) ?_
    | refine XOps.s rfl rfl rfl (Q.move_fn rfl) ?_
    | refine XOps.s rfl rfl rfl (Q.move_tup rfl) ?_
    | refine XOps.s rfl rfl rfl (Q.move_ep rfl) ?_
    | refine XOps.s rfl rfl rfl (Q.move_dp rfl) ?_
    | refine XOps.s rfl rfl rfl (Q.move_dcut rfl) ?_
    | refine XOps.s rfl rfl rfl (Q.move_aggv rfl) ?_
    | refine XOps.s rfl rfl rfl (Q.move rfl) ?_
  refine XOps.s rfl rfl rfl (Q.call rfl Try.func20 go20 rfl (check_c l _ hl)) ?_
  first
    | refine XOps.s rfl rfl rfl (Q.assign_d rfl) ?_
    | refine XOps.s rfl rfl rfl (Q.assign_vs rfl) ?_
    | refine XOps.s rfl rfl rfl (Q.assign_ptr rfl) ?_
    | refine XOps.s rfl rfl rfl (Q.assign_nilsl rfl) ?_
    | refine XOps.s rfl rfl rfl (Q.assign_fn rfl) ?_
    | refine XOps.s rfl rfl rfl (Q.assign_tup rfl) ?_
    | refine XOps.s rfl rfl rfl (Q.assign_ep rfl) ?_
    | refine XOps.s rfl rfl rfl (Q.assign_dp rfl) ?_
    | refine XOps.s rfl rfl rfl (Q.assign_dcut rfl) ?_
    | refine XOps.s rfl rfl rfl (Q.assign_aggv rfl) ?_
    | refine XOps.s rfl rfl rfl (Q.assign rfl) ?_
  refine XOps.nil ?_
  refine W.reg ?_
  first
    | refine XOps.s rfl rfl rfl (Q.move_d rfl) ?_
    | refine XOps.s rfl rfl rfl (Q.move_vs rfl) ?_
    | refine XOps.s rfl rfl rfl (Q.move_ptr rfl) ?_
    | refine XOps.s rfl rfl rfl (Q.move_nilsl rfl) ?_
    | refine XOps.s rfl rfl rfl (Q.move_fn rfl) ?_
    | refine XOps.s rfl rfl rfl (Q.move_tup rfl) ?_
    | refine XOps.s rfl rfl rfl (Q.move_ep rfl) ?_
    | refine XOps.s rfl rfl rfl (Q.move_dp rfl) ?_
    | refine XOps.s rfl rfl rfl (Q.move_dcut rfl) ?_
    | refine XOps.s rfl rfl rfl (Q.move_aggv rfl) ?_
    | refine XOps.s rfl rfl rfl (Q.move rfl) ?_
  first
    | refine XOps.s rfl rfl rfl (Q.neq rfl rfl) ?_
    | refine XOps.s rfl rfl rfl (Q.neq_str rfl rfl) ?_
  refine XOps.nil ?_
  refine W.cond rfl (fun hc11 => ?_) (fun hc11 => ?_)
  · try simp only [Bool.or_eq_true, Bool.or_eq_false_iff, Bool.and_eq_true, Bool.and_eq_false_iff, decide_eq_true_eq, decide_eq_false_iff_not, Bool.not_eq_true', Bool.not_eq_false', Int.not_lt, Int.not_le, List.length_map] at hc11
    have hE : vecE l = [] := by unfold vecE; rw [if_neg (by omega)]
    rw [hE]
    refine W.reg ?_
    first
      | refine XOps.s rfl rfl rfl (Q.move_d rfl) ?_
      | refine XOps.s rfl rfl rfl (Q.move_vs rfl) ?_
      | refine XOps.s rfl rfl rfl (Q.move_ptr rfl) ?_
      | refine XOps.s rfl rfl rfl (Q.move_nilsl rfl) ?_
      | refine XOps.s rfl rfl rfl (Q.move_fn rfl) ?_
      | refine XOps.s rfl rfl rfl (Q.move_tup rfl) ?_
      | refine XOps.s rfl rfl rfl (Q.move_ep rfl) ?_
      | refine XOps.s rfl rfl rfl (Q.move_dp rfl) ?_
      | refine XOps.s rfl rfl rfl (Q.move_dcut rfl) ?_
      | refine XOps.s rfl rfl rfl (Q.move_aggv rfl) ?_
      | refine XOps.s rfl rfl rfl (Q.move rfl) ?_
    first
      | refine XOps.s rfl rfl rfl (Q.assign_d rfl) ?_
      | refine XOps.s rfl rfl rfl (Q.assign_vs rfl) ?_
      | refine XOps.s rfl rfl rfl (Q.assign_ptr rfl) ?_
      | refine XOps.s rfl rfl rfl (Q.assign_nilsl rfl) ?_
      | refine XOps.s rfl rfl rfl (Q.assign_fn rfl) ?_
      | refine XOps.s rfl rfl rfl (Q.assign_tup rfl) ?_
      | refine XOps.s rfl rfl rfl (Q.assign_ep rfl) ?_
      | refine XOps.s rfl rfl rfl (Q.assign_dp rfl) ?_
      | refine XOps.s rfl rfl rfl (Q.assign_dcut rfl) ?_
      | refine XOps.s rfl rfl rfl (Q.assign_aggv rfl) ?_
      | refine XOps.s rfl rfl rfl (Q.assign rfl) ?_
    first
      | refine XOps.s rfl rfl rfl (Q.assign_d rfl) ?_
      | refine XOps.s rfl rfl rfl (Q.assign_vs rfl) ?_
      | refine XOps.s rfl rfl rfl (Q.assign_ptr rfl) ?_
      | refine XOps.s rfl rfl rfl (Q.assign_nilsl rfl) ?_
      | refine XOps.s rfl rfl rfl (Q.assign_fn rfl) ?_
      | refine XOps.s rfl rfl rfl (Q.assign_tup rfl) ?_
      | refine XOps.s rfl rfl rfl (Q.assign_ep rfl) ?_
      | refine XOps.s rfl rfl rfl (Q.assign_dp rfl) ?_
      | refine XOps.s rfl rfl rfl (Q.assign_dcut rfl) ?_
      | refine XOps.s rfl rfl rfl (Q.assign_aggv rfl) ?_
      | refine XOps.s rfl rfl rfl (Q.assign rfl) ?_
    refine XOps.nil ?_
    refine W.ghost 2 1 (by decide) rfl rfl (fun v2 => ?_)
    refine W.ret ?_
    first
      | exact ⟨_, (v2, .lst 1 []) :: hs, rfl, HLe.refl _, v2, rfl, rfl⟩
      | exact ⟨_, (o, .lst 1 ((vecS l).map rowV)) :: hs, rfl, HLe.refl _, o, rfl, rfl⟩
  · try simp only [Bool.or_eq_true, Bool.or_eq_false_iff, Bool.and_eq_true, Bool.and_eq_false_iff, decide_eq_true_eq, decide_eq_false_iff_not, Bool.not_eq_true', Bool.not_eq_false', Int.not_lt, Int.not_le, List.length_map] at hc11
    have hc0 : checkS l = 0 := by omega
    have hE : vecE l = vecS l := by unfold vecE; rw [if_pos hc0]
    rw [hE, hc0]
    have hw := WF.of hc0
    have hln := hw.len
    have hvn := vecS_len l
    refine W.skip ?_
    refine W.reg ?_
    first
      | refine XOps.s rfl rfl rfl (Q.assign_d rfl) ?_
      | refine XOps.s rfl rfl rfl (Q.assign_vs rfl) ?_
      | refine XOps.s rfl rfl rfl (Q.assign_ptr rfl) ?_
      | refine XOps.s rfl rfl rfl (Q.assign_nilsl rfl) ?_
      | refine XOps.s rfl rfl rfl (Q.assign_fn rfl) ?_
      | refine XOps.s rfl rfl rfl (Q.assign_tup rfl) ?_
      | refine XOps.s rfl rfl rfl (Q.assign_ep rfl) ?_
      | refine XOps.s rfl rfl rfl (Q.assign_dp rfl) ?_
      | refine XOps.s rfl rfl rfl (Q.assign_dcut rfl) ?_
      | refine XOps.s rfl rfl rfl (Q.assign_aggv rfl) ?_
      | refine XOps.s rfl rfl rfl (Q.assign rfl) ?_
    refine XOps.nil ?_
    refine W.ghost 5 1 (by decide) rfl rfl (fun o => ?_)
    refine W.seq ?_
    refine W.reg ?_
    first
      | refine XOps.s rfl rfl rfl (Q.move_d rfl) ?_
      | refine XOps.s rfl rfl rfl (Q.move_vs rfl) ?_
      | refine XOps.s rfl rfl rfl (Q.move_ptr rfl) ?_
      | refine XOps.s rfl rfl rfl (Q.move_nilsl rfl) ?_
      | refine XOps.s rfl rfl rfl (Q.move_fn rfl) ?_
      | refine XOps.s rfl rfl rfl (Q.move_tup rfl) ?_
      | refine XOps.s rfl rfl rfl (Q.move_ep rfl) ?_
      | refine XOps.s rfl rfl rfl (Q.move_dp rfl) ?_
      | refine XOps.s rfl rfl rfl (Q.move_dcut rfl) ?_
      | refine XOps.s rfl rfl rfl (Q.move_aggv rfl) ?_
      | refine XOps.s rfl rfl rfl (Q.move rfl) ?_
    refine XOps.s rfl rfl rfl (Q.call rfl Try.func21 go21 rfl (vectors_c l _ hw)) ?_
    first
      | refine XOps.s rfl rfl rfl (Q.len_sl isl46 rfl) ?_
      | refine XOps.s rfl rfl rfl (Q.len_vs isl46 rfl) ?_
      | refine XOps.s rfl rfl rfl (Q.len_nil isl46 rfl) ?_
      | refine XOps.s rfl rfl rfl (Q.len_dcut isl46 rfl) ?_
    first
      | refine XOps.s rfl rfl rfl (Q.move_d rfl) ?_
      | refine XOps.s rfl rfl rfl (Q.move_vs rfl) ?_
      | refine XOps.s rfl rfl rfl (Q.move_ptr rfl) ?_
      | refine XOps.s rfl rfl rfl (Q.move_nilsl rfl) ?_
      | refine XOps.s rfl rfl rfl (Q.move_fn rfl) ?_
      | refine XOps.s rfl rfl rfl (Q.move_tup rfl) ?_
      | refine XOps.s rfl rfl rfl (Q.move_ep rfl) ?_
      | refine XOps.s rfl rfl rfl (Q.move_dp rfl) ?_
      | refine XOps.s rfl rfl rfl (Q.move_dcut rfl) ?_
      | refine XOps.s rfl rfl rfl (Q.move_aggv rfl) ?_
      | refine XOps.s rfl rfl rfl (Q.move rfl) ?_
    refine XOps.nil ?_
    refine W.block ?_
    refine W.loop (ι := Nat × Nat) (fun q => [(5, .vs q.2 0 q.1 1), (14, .d (.sl 8 ((vecS l).map vD))), (15, .d (.int .i64 (vecS l).length)), (16, .d (.int .i64 (q.1 : Nat)))]) (fun q => (q.2, .lst 1 (((vecS l).take q.1).map rowV)) :: hs) (fun q => q.1 ≤ (vecS l).length) (fun q => (vecS l).length - q.1) (0, o) ?_ ?_ ?_ ?_
    · exact Nat.zero_le _
    · exact ⟨by first | rfl | exact int_eq (by omega) | exact len_eq (by simp) | exact int_eq (by simp; done), by first | rfl | exact int_eq (by omega) | exact len_eq (by simp) | exact int_eq (by simp; done), by first | rfl | exact int_eq (by omega) | exact len_eq (by simp) | exact int_eq (by simp; done), by first | rfl | exact int_eq (by omega) | exact len_eq (by simp) | exact int_eq (by simp; done), trivial⟩
    · exact HLe.refl _
    · rintro ⟨k, o⟩ hk
      try dsimp only at hk ⊢
      refine W.reg ?_
      first
        | refine XOps.s rfl rfl rfl (Q.lss rfl rfl) ?_
        | refine XOps.s rfl rfl rfl (Q.lss_str rfl rfl) ?_
      refine XOps.nil ?_
      refine W.seq ?_
      refine W.cond rfl (fun hc17 => ?_) (fun hc17 => ?_)
      · try simp only [Bool.or_eq_true, Bool.or_eq_false_iff, Bool.and_eq_true, Bool.and_eq_false_iff, decide_eq_true_eq, decide_eq_false_iff_not, Bool.not_eq_true', Bool.not_eq_false', Int.not_lt, Int.not_le, List.length_map] at hc17
        obtain ⟨v, hv⟩ : ∃ v, (vecS l)[k]? = some v := ⟨_, List.getElem?_eq_getElem (by omega)⟩
        have htk : (vecS l).take (k + 1) = (vecS l).take k ++ [v] := by rw [List.take_add_one, hv]; rfl
        refine W.skip ?_
        refine W.seq ?_
        refine W.block ?_
        refine W.reg ?_
        first
          | refine XOps.s rfl rfl rfl (Q.idx_sl sl46 (by decide) rfl rfl (by first | omega | (simp only [List.length_map]; omega)) (by first | exact map_at (by assumption) | exact map_at0 (by assumption) | assumption)) ?_
          | refine XOps.s rfl rfl rfl (Q.idx_vs (kk := 0) sl46 rfl rfl rfl (by first | omega | (simp at hg; omega)) (by first | omega | (dsimp only; omega))) ?_
          | refine XOps.s rfl rfl rfl (Q.idx_vs (kk := 1) sl46 rfl rfl rfl (by first | omega | (simp at hg; omega)) (by first | omega | (dsimp only; omega))) ?_
          | refine XOps.s rfl rfl rfl (Q.idx_vs (kk := 2) sl46 rfl rfl rfl (by first | omega | (simp at hg; omega)) (by first | omega | (dsimp only; omega))) ?_
          | refine XOps.s rfl rfl rfl (Q.idx_vs (kk := 3) sl46 rfl rfl rfl (by first | omega | (simp at hg; omega)) (by first | omega | (dsimp only; omega))) ?_
          | refine XOps.s rfl rfl rfl (Q.idx_vs (kk := 4) sl46 rfl rfl rfl (by first | omega | (simp at hg; omega)) (by first | omega | (dsimp only; omega))) ?_
          | refine XOps.s rfl rfl rfl (Q.idx_vs (kk := 5) sl46 rfl rfl rfl (by first | omega | (simp at hg; omega)) (by first | omega | (dsimp only; omega))) ?_
        first
          | refine XOps.s rfl rfl rfl (Q.ld_dpn ag48 rfl rfl) ?_
          | refine XOps.s rfl rfl rfl (Q.ld_ptrn (k := 0) ag48 rfl rfl rfl) ?_
          | refine XOps.s rfl rfl rfl (Q.ld_ptrv (k := 0) ag48 rfl rfl rfl) ?_
          | refine XOps.s rfl rfl rfl (Q.ld_ptrn (k := 1) ag48 rfl rfl rfl) ?_
          | refine XOps.s rfl rfl rfl (Q.ld_ptrv (k := 1) ag48 rfl rfl rfl) ?_
          | refine XOps.s rfl rfl rfl (Q.ld_ptrn (k := 2) ag48 rfl rfl rfl) ?_
          | refine XOps.s rfl rfl rfl (Q.ld_ptrv (k := 2) ag48 rfl rfl rfl) ?_
          | refine XOps.s rfl rfl rfl (Q.ld_ptrn (k := 3) ag48 rfl rfl rfl) ?_
          | refine XOps.s rfl rfl rfl (Q.ld_ptrv (k := 3) ag48 rfl rfl rfl) ?_
          | refine XOps.s rfl rfl rfl (Q.ld_ptrn (k := 4) ag48 rfl rfl rfl) ?_
          | refine XOps.s rfl rfl rfl (Q.ld_ptrv (k := 4) ag48 rfl rfl rfl) ?_
          | refine XOps.s rfl rfl rfl (Q.ld_ptrn (k := 5) ag48 rfl rfl rfl) ?_
          | refine XOps.s rfl rfl rfl (Q.ld_ptrv (k := 5) ag48 rfl rfl rfl) ?_
          | refine XOps.s rfl rfl rfl (Q.ld_epn (k := 0) ag48 rfl rfl (by first | exact map_at (by assumption) | exact map_at0 (by assumption) | assumption) rfl) ?_
          | refine XOps.s rfl rfl rfl (Q.ld_epn (k := 1) ag48 rfl rfl (by first | exact map_at (by assumption) | exact map_at0 (by assumption) | assumption) rfl) ?_
          | refine XOps.s rfl rfl rfl (Q.ld_epn (k := 2) ag48 rfl rfl (by first | exact map_at (by assumption) | exact map_at0 (by assumption) | assumption) rfl) ?_
          | refine XOps.s rfl rfl rfl (Q.ld_epn (k := 3) ag48 rfl rfl (by first | exact map_at (by assumption) | exact map_at0 (by assumption) | assumption) rfl) ?_
          | refine XOps.s rfl rfl rfl (Q.ld_epn (k := 4) ag48 rfl rfl (by first | exact map_at (by assumption) | exact map_at0 (by assumption) | assumption) rfl) ?_
          | refine XOps.s rfl rfl rfl (Q.ld_epn (k := 5) ag48 rfl rfl (by first | exact map_at (by assumption) | exact map_at0 (by assumption) | assumption) rfl) ?_
        (refine XOps.loud rfl (L.alloc tz48 rfl rfl) ?_; rintro _ _ ⟨b7, rfl, rfl⟩)
        first
          | (refine XOps.loud rfl (L.storen (k := 0) ag48 rfl rfl rfl rfl rfl) ?_; rintro _ _ ⟨rfl, rfl⟩)
          | (refine XOps.loud rfl (L.storev (k := 0) ag48 rfl rfl rfl rfl rfl) ?_; rintro _ _ ⟨rfl, rfl⟩)
          | (refine XOps.loud rfl (L.storen (k := 1) ag48 rfl rfl rfl rfl rfl) ?_; rintro _ _ ⟨rfl, rfl⟩)
          | (refine XOps.loud rfl (L.storev (k := 1) ag48 rfl rfl rfl rfl rfl) ?_; rintro _ _ ⟨rfl, rfl⟩)
          | (refine XOps.loud rfl (L.storen (k := 2) ag48 rfl rfl rfl rfl rfl) ?_; rintro _ _ ⟨rfl, rfl⟩)
          | (refine XOps.loud rfl (L.storev (k := 2) ag48 rfl rfl rfl rfl rfl) ?_; rintro _ _ ⟨rfl, rfl⟩)
          | (refine XOps.loud rfl (L.storen (k := 3) ag48 rfl rfl rfl rfl rfl) ?_; rintro _ _ ⟨rfl, rfl⟩)
          | (refine XOps.loud rfl (L.storev (k := 3) ag48 rfl rfl rfl rfl rfl) ?_; rintro _ _ ⟨rfl, rfl⟩)
          | (refine XOps.loud rfl (L.storen (k := 4) ag48 rfl rfl rfl rfl rfl) ?_; rintro _ _ ⟨rfl, rfl⟩)
          | (refine XOps.loud rfl (L.storev (k := 4) ag48 rfl rfl rfl rfl rfl) ?_; rintro _ _ ⟨rfl, rfl⟩)
          | (refine XOps.loud rfl (L.storen (k := 5) ag48 rfl rfl rfl rfl rfl) ?_; rintro _ _ ⟨rfl, rfl⟩)
          | (refine XOps.loud rfl (L.storev (k := 5) ag48 rfl rfl rfl rfl rfl) ?_; rintro _ _ ⟨rfl, rfl⟩)
          | (refine XOps.loud rfl (L.storen_ep (k := 0) ag48 rfl rfl (by first | exact map_at (by assumption) | exact map_at0 (by assumption) | assumption) rfl rfl rfl) ?_; rintro _ _ ⟨rfl, rfl⟩)
          | (refine XOps.loud rfl (L.storen_ep (k := 1) ag48 rfl rfl (by first | exact map_at (by assumption) | exact map_at0 (by assumption) | assumption) rfl rfl rfl) ?_; rintro _ _ ⟨rfl, rfl⟩)
          | (refine XOps.loud rfl (L.storen_ep (k := 2) ag48 rfl rfl (by first | exact map_at (by assumption) | exact map_at0 (by assumption) | assumption) rfl rfl rfl) ?_; rintro _ _ ⟨rfl, rfl⟩)
          | (refine XOps.loud rfl (L.storen_ep (k := 3) ag48 rfl rfl (by first | exact map_at (by assumption) | exact map_at0 (by assumption) | assumption) rfl rfl rfl) ?_; rintro _ _ ⟨rfl, rfl⟩)
          | (refine XOps.loud rfl (L.storen_ep (k := 4) ag48 rfl rfl (by first | exact map_at (by assumption) | exact map_at0 (by assumption) | assumption) rfl rfl rfl) ?_; rintro _ _ ⟨rfl, rfl⟩)
          | (refine XOps.loud rfl (L.storen_ep (k := 5) ag48 rfl rfl (by first | exact map_at (by assumption) | exact map_at0 (by assumption) | assumption) rfl rfl rfl) ?_; rintro _ _ ⟨rfl, rfl⟩)
        refine XOps.nil ?_
        refine W.heap ((b7, .cells ((vD v).map .d)) :: (o, .lst 1 (((vecS l).take k).map rowV)) :: hs) (HLe.cons' (by rfl) (HLe.refl _)) ?_
        refine W.region ?_
        first
          | refine XOps.s rfl rfl rfl (Q.move_d rfl) ?_
          | refine XOps.s rfl rfl rfl (Q.move_vs rfl) ?_
          | refine XOps.s rfl rfl rfl (Q.move_ptr rfl) ?_
          | refine XOps.s rfl rfl rfl (Q.move_nilsl rfl) ?_
          | refine XOps.s rfl rfl rfl (Q.move_fn rfl) ?_
          | refine XOps.s rfl rfl rfl (Q.move_tup rfl) ?_
          | refine XOps.s rfl rfl rfl (Q.move_ep rfl) ?_
          | refine XOps.s rfl rfl rfl (Q.move_dp rfl) ?_
          | refine XOps.s rfl rfl rfl (Q.move_dcut rfl) ?_
          | refine XOps.s rfl rfl rfl (Q.move_aggv rfl) ?_
          | refine XOps.s rfl rfl rfl (Q.move rfl) ?_
        (refine XOps.loud rfl (L.arrslice (k := 0) (ds := vD v) ar48 rfl rfl rfl (fun x hx => by unfold vD at hx; obtain ⟨_, _, rfl⟩ := List.mem_map.1 hx; rfl) rfl) ?_; rintro _ _ ⟨rfl, rfl⟩)
        refine XOps.s rfl rfl rfl (Q.call rfl Try.func18 go18 rfl (cloneN_f (vl v) _ (by rw [vl_len]; decide))) ?_
        first
          | refine XOps.s rfl rfl rfl (Q.bsl1 sl32 zr32 rfl zrd32 rfl rfl) ?_
          | refine XOps.s rfl rfl rfl (Q.bsl1n sl32 (by decide) zr32 rfl zrd32 rfl rfl (by decide)) ?_
          | refine XOps.s rfl rfl rfl (Q.bsl sl32 (by decide) zr32 rfl zrd32 (by decide) rfl rfl) ?_
        (refine XOps.loud rfl (L.app (k := 0) ap32 rfl rfl (by rw [List.length_map, List.length_take, Nat.min_eq_left hk]) rfl (by simp; omega) rfl) ?_; rintro _ _ ⟨v24, rfl, rfl⟩)
        first
          | refine XOps.s rfl rfl rfl (Q.assign_d rfl) ?_
          | refine XOps.s rfl rfl rfl (Q.assign_vs rfl) ?_
          | refine XOps.s rfl rfl rfl (Q.assign_ptr rfl) ?_
          | refine XOps.s rfl rfl rfl (Q.assign_nilsl rfl) ?_
          | refine XOps.s rfl rfl rfl (Q.assign_fn rfl) ?_
          | refine XOps.s rfl rfl rfl (Q.assign_tup rfl) ?_
          | refine XOps.s rfl rfl rfl (Q.assign_ep rfl) ?_
          | refine XOps.s rfl rfl rfl (Q.assign_dp rfl) ?_
          | refine XOps.s rfl rfl rfl (Q.assign_dcut rfl) ?_
          | refine XOps.s rfl rfl rfl (Q.assign_aggv rfl) ?_
          | refine XOps.s rfl rfl rfl (Q.assign rfl) ?_
        refine XOps.nil ?_
        refine W.region ?_
        first
          | refine XOps.s rfl rfl rfl (Q.add rfl rfl (wi64 (by first | omega | (dsimp only; omega) | (simp only [List.length_map]; omega)) (by first | omega | (dsimp only; omega) | (simp only [List.length_map]; omega)))) ?_
          | refine XOps.s rfl rfl rfl (Q.add rfl rfl rfl) ?_
          | refine XOps.s rfl rfl rfl (Q.adds rfl rfl (by first | omega | (simp at hg; omega))) ?_
        first
          | refine XOps.s rfl rfl rfl (Q.move_d rfl) ?_
          | refine XOps.s rfl rfl rfl (Q.move_vs rfl) ?_
          | refine XOps.s rfl rfl rfl (Q.move_ptr rfl) ?_
          | refine XOps.s rfl rfl rfl (Q.move_nilsl rfl) ?_
          | refine XOps.s rfl rfl rfl (Q.move_fn rfl) ?_
          | refine XOps.s rfl rfl rfl (Q.move_tup rfl) ?_
          | refine XOps.s rfl rfl rfl (Q.move_ep rfl) ?_
          | refine XOps.s rfl rfl rfl (Q.move_dp rfl) ?_
          | refine XOps.s rfl rfl rfl (Q.move_dcut rfl) ?_
          | refine XOps.s rfl rfl rfl (Q.move_aggv rfl) ?_
          | refine XOps.s rfl rfl rfl (Q.move rfl) ?_
        refine XOps.nil ?_
        refine ⟨(k + 1, v24), ?_, ?_, ?_, ?_⟩
        · dsimp only; omega
        · dsimp only; omega
        · exact ⟨by (show AV.vs v24 0 ((((vecS l).take k).map rowV).length + 1) 1 = AV.vs v24 0 (k + 1) 1; rw [List.length_map, List.length_take, Nat.min_eq_left hk]), by first | rfl | exact int_eq (by omega) | exact len_eq (by simp) | exact int_eq (by simp; done), by first | rfl | exact int_eq (by omega) | exact len_eq (by simp) | exact int_eq (by simp; done), by exact int_eq (by dsimp only; omega), trivial⟩
        · exact HLe.cons' (by rw [htk, List.map_append]; rfl) (HLe.refl _)
      · try simp only [Bool.or_eq_true, Bool.or_eq_false_iff, Bool.and_eq_true, Bool.and_eq_false_iff, decide_eq_true_eq, decide_eq_false_iff_not, Bool.not_eq_true', Bool.not_eq_false', Int.not_lt, Int.not_le, List.length_map] at hc17
        obtain rfl : k = (vecS l).length := by omega
        rw [List.take_length]
        refine W.exit ?_
        refine W.reg ?_
        first
          | refine XOps.s rfl rfl rfl (Q.move_d rfl) ?_
          | refine XOps.s rfl rfl rfl (Q.move_vs rfl) ?_
          | refine XOps.s rfl rfl rfl (Q.move_ptr rfl) ?_
          | refine XOps.s rfl rfl rfl (Q.move_nilsl rfl) ?_
          | refine XOps.s rfl rfl rfl (Q.move_fn rfl) ?_
          | refine XOps.s rfl rfl rfl (Q.move_tup rfl) ?_
          | refine XOps.s rfl rfl rfl (Q.move_ep rfl) ?_
          | refine XOps.s rfl rfl rfl (Q.move_dp rfl) ?_
          | refine XOps.s rfl rfl rfl (Q.move_dcut rfl) ?_
          | refine XOps.s rfl rfl rfl (Q.move_aggv rfl) ?_
          | refine XOps.s rfl rfl rfl (Q.move rfl) ?_
        first
          | refine XOps.s rfl rfl rfl (Q.assign_d rfl) ?_
          | refine XOps.s rfl rfl rfl (Q.assign_vs rfl) ?_
          | refine XOps.s rfl rfl rfl (Q.assign_ptr rfl) ?_
          | refine XOps.s rfl rfl rfl (Q.assign_nilsl rfl) ?_
          | refine XOps.s rfl rfl rfl (Q.assign_fn rfl) ?_
          | refine XOps.s rfl rfl rfl (Q.assign_tup rfl) ?_
          | refine XOps.s rfl rfl rfl (Q.assign_ep rfl) ?_
          | refine XOps.s rfl rfl rfl (Q.assign_dp rfl) ?_
          | refine XOps.s rfl rfl rfl (Q.assign_dcut rfl) ?_
          | refine XOps.s rfl rfl rfl (Q.assign_aggv rfl) ?_
          | refine XOps.s rfl rfl rfl (Q.assign rfl) ?_
        first
          | refine XOps.s rfl rfl rfl (Q.assign_d rfl) ?_
          | refine XOps.s rfl rfl rfl (Q.assign_vs rfl) ?_
          | refine XOps.s rfl rfl rfl (Q.assign_ptr rfl) ?_
          | refine XOps.s rfl rfl rfl (Q.assign_nilsl rfl) ?_
          | refine XOps.s rfl rfl rfl (Q.assign_fn rfl) ?_
          | refine XOps.s rfl rfl rfl (Q.assign_tup rfl) ?_
          | refine XOps.s rfl rfl rfl (Q.assign_ep rfl) ?_
          | refine XOps.s rfl rfl rfl (Q.assign_dp rfl) ?_
          | refine XOps.s rfl rfl rfl (Q.assign_dcut rfl) ?_
          | refine XOps.s rfl rfl rfl (Q.assign_aggv rfl) ?_
          | refine XOps.s rfl rfl rfl (Q.assign rfl) ?_
        refine XOps.nil ?_
        refine W.ret ?_
        first
          | exact ⟨_, (v2, .lst 1 []) :: hs, rfl, HLe.refl _, v2, rfl, rfl⟩
          | exact ⟨_, (o, .lst 1 ((vecS l).map rowV)) :: hs, rfl, HLe.refl _, o, rfl, rfl⟩

theorem vecs_c (l : List Ev) (hs : Hp) (hl : l.length ≤ 4611686018427387904) : AC P 11 [.d (.sl 3 (l.map Ev.enc))] hs (fun r h => r = .tup [.d (.sl 1 ((vecE l).map rowV)), .d (.int .i64 (checkS l))] ∧ h = hs) :=
  AC.frz2 ((vecs_own l hs hl).mono fun r h ⟨v, h1, h2⟩ => ⟨v, _, _, h2, h1, .vs (by simp), .same _⟩)

set_option maxHeartbeats 1000000 in
set_option maxRecDepth 100000 in
theorem before_c (l : List Ev) (i k : Nat) (hs : Hp) (hc0 : checkS l = 0) (hi : i < l.length) (hk : k < l.length) : AC P 10 [.d (.sl 3 (l.map Ev.enc)), .d (.int .i64 (i : Int)), .d (.int .i64 (k : Int))] hs (fun r h => r = .tup [.d (.bool (befS l i k)), .d (.int .i64 0)] ∧ h = hs) := by
  have hw := WF.of hc0
  have hln := hw.len
  obtain ⟨x, hx⟩ : ∃ x, l[i]? = some x := ⟨_, List.getElem?_eq_getElem hi⟩
  obtain ⟨w, hwi⟩ : ∃ w, (vecS l)[i]? = some w := ⟨_, List.getElem?_eq_getElem (by rw [vecS_len]; exact hi)⟩
  obtain ⟨u, hu⟩ : ∃ w, (vecS l)[k]? = some w := ⟨_, List.getElem?_eq_getElem (by rw [vecS_len]; exact hk)⟩
  have hxb := hw.site i x hx
  have hdw : ((vD w).drop (x.site.toNat * 1))[0]? = some (.int .i64 (w x.site.toNat)) := by rw [Nat.mul_one]; exact vD_drop w (by omega)
  have hdu : ((vD u).drop (x.site.toNat * 1))[0]? = some (.int .i64 (u x.site.toNat)) := by rw [Nat.mul_one]; exact vD_drop u (by omega)
  have hbe : befS l i k = (!decide ((i : Int) = k) && decide (w x.site.toNat ≤ u x.site.toNat)) := by unfold befS; rw [getD_at hx, getD_at hwi, getD_at hu]
  refine AC.of 61 Try.func10 rfl rfl rfl ?_
  refine W.reg ?_
  first
    | refine XOps.s rfl rfl rfl (Q.assign_d rfl) ?_
    | refine XOps.s rfl rfl rfl (Q.assign_vs rfl) ?_
    | refine XOps.s rfl rfl rfl (Q.assign_ptr rfl) ?_
    | refine XOps.s rfl rfl rfl (Q.assign_nilsl rfl) ?_
    | refine XOps.s rfl rfl rfl (Q.assign_fn rfl) ?_
    | refine XOps.s rfl rfl rfl (Q.assign_tup rfl) ?_
    | refine XOps.s rfl rfl rfl (Q.assign_ep rfl) ?_
    | refine XOps.s rfl rfl rfl (Q.assign_dp rfl) ?_
    | refine XOps.s rfl rfl rfl (Q.assign_dcut rfl) ?_
    | refine XOps.s rfl rfl rfl (Q.assign_aggv rfl) ?_
    | refine XOps.s rfl rfl rfl (Q.assign rfl) ?_
  first
    | refine XOps.s rfl rfl rfl (Q.assign_d rfl) ?_
    | refine XOps.s rfl rfl rfl (Q.assign_vs rfl) ?_
    | refine XOps.s rfl rfl rfl (Q.assign_ptr rfl) ?_
    | refine XOps.s rfl rfl rfl (Q.assign_nilsl rfl) ?_
    | refine XOps.s rfl rfl rfl (Q.assign_fn rfl) ?_
    | refine XOps.s rfl rfl rfl (Q.assign_tup rfl) ?_
    | refine XOps.s rfl rfl rfl (Q.assign_ep rfl) ?_
    | refine XOps.s rfl rfl rfl (Q.assign_dp rfl) ?_
    | refine XOps.s rfl rfl rfl (Q.assign_dcut rfl) ?_
    | refine XOps.s rfl rfl rfl (Q.assign_aggv rfl) ?_
    | refine XOps.s rfl rfl rfl (Q.assign rfl) ?_
  refine XOps.nil ?_
  refine W.seq ?_
  refine W.reg ?_
  first
    | refine XOps.s rfl rfl rfl (Q.move_d rfl) ?_
    | refine XOps.s rfl rfl rfl (Q.move_vs rfl) ?_
    | refine XOps.s rfl rfl rfl (Q.move_ptr rfl) ?_
    | refine XOps.s rfl rfl rfl (Q.move_nilsl rfl) ?_
    | refine XOps.s rfl rfl rfl (Q.move_fn rfl) ?_
    | refine XOps.s rfl rfl rfl (Q.move_tup rfl) ?_
    | refine XOps.s rfl rfl rfl (Q.move_ep rfl) ?_
    | refine XOps.s rfl rfl rfl (Q.move_dp rfl) ?_
    | refine XOps.s rfl rfl rfl (Q.move_dcut rfl) ?_
    | refine XOps.s rfl rfl rfl (Q.move_aggv rfl) ?_
    | refine XOps.s rfl rfl rfl (Q.move rfl) ?_
  refine XOps.s rfl rfl rfl (Q.call rfl Try.func20 go20 rfl (check_c l _ (by omega))) ?_
  first
    | refine XOps.s rfl rfl rfl (Q.assign_d rfl) ?_
    | refine XOps.s rfl rfl rfl (Q.assign_vs rfl) ?_
    | refine XOps.s rfl rfl rfl (Q.assign_ptr rfl) ?_
    | refine XOps.s rfl rfl rfl (Q.assign_nilsl rfl) ?_
    | refine XOps.s rfl rfl rfl (Q.assign_fn rfl) ?_
    | refine XOps.s rfl rfl rfl (Q.assign_tup rfl) ?_
    | refine XOps.s rfl rfl rfl (Q.assign_ep rfl) ?_
    | refine XOps.s rfl rfl rfl (Q.assign_dp rfl) ?_
    | refine XOps.s rfl rfl rfl (Q.assign_dcut rfl) ?_
    | refine XOps.s rfl rfl rfl (Q.assign_aggv rfl) ?_
    | refine XOps.s rfl rfl rfl (Q.assign rfl) ?_
  refine XOps.nil ?_
  refine W.reg ?_
  first
    | refine XOps.s rfl rfl rfl (Q.move_d rfl) ?_
    | refine XOps.s rfl rfl rfl (Q.move_vs rfl) ?_
    | refine XOps.s rfl rfl rfl (Q.move_ptr rfl) ?_
    | refine XOps.s rfl rfl rfl (Q.move_nilsl rfl) ?_
    | refine XOps.s rfl rfl rfl (Q.move_fn rfl) ?_
    | refine XOps.s rfl rfl rfl (Q.move_tup rfl) ?_
    | refine XOps.s rfl rfl rfl (Q.move_ep rfl) ?_
    | refine XOps.s rfl rfl rfl (Q.move_dp rfl) ?_
    | refine XOps.s rfl rfl rfl (Q.move_dcut rfl) ?_
    | refine XOps.s rfl rfl rfl (Q.move_aggv rfl) ?_
    | refine XOps.s rfl rfl rfl (Q.move rfl) ?_
  first
    | refine XOps.s rfl rfl rfl (Q.neq rfl rfl) ?_
    | refine XOps.s rfl rfl rfl (Q.neq_str rfl rfl) ?_
  refine XOps.nil ?_
  refine W.cond rfl (fun hc13 => ?_) (fun hc13 => ?_)
  · try simp only [Bool.or_eq_true, Bool.or_eq_false_iff, Bool.and_eq_true, Bool.and_eq_false_iff, decide_eq_true_eq, decide_eq_false_iff_not, Bool.not_eq_true', Bool.not_eq_false', Int.not_lt, Int.not_le, List.length_map] at hc13
    exact absurd hc0 (by omega)
  · try simp only [Bool.or_eq_true, Bool.or_eq_false_iff, Bool.and_eq_true, Bool.and_eq_false_iff, decide_eq_true_eq, decide_eq_false_iff_not, Bool.not_eq_true', Bool.not_eq_false', Int.not_lt, Int.not_le, List.length_map] at hc13
    refine W.skip ?_
    refine W.seq ?_
    refine W.reg ?_
    first
      | refine XOps.s rfl rfl rfl (Q.move_d rfl) ?_
      | refine XOps.s rfl rfl rfl (Q.move_vs rfl) ?_
      | refine XOps.s rfl rfl rfl (Q.move_ptr rfl) ?_
      | refine XOps.s rfl rfl rfl (Q.move_nilsl rfl) ?_
      | refine XOps.s rfl rfl rfl (Q.move_fn rfl) ?_
      | refine XOps.s rfl rfl rfl (Q.move_tup rfl) ?_
      | refine XOps.s rfl rfl rfl (Q.move_ep rfl) ?_
      | refine XOps.s rfl rfl rfl (Q.move_dp rfl) ?_
      | refine XOps.s rfl rfl rfl (Q.move_dcut rfl) ?_
      | refine XOps.s rfl rfl rfl (Q.move_aggv rfl) ?_
      | refine XOps.s rfl rfl rfl (Q.move rfl) ?_
    first
      | refine XOps.s rfl rfl rfl (Q.lss rfl rfl) ?_
      | refine XOps.s rfl rfl rfl (Q.lss_str rfl rfl) ?_
    first
      | refine XOps.s rfl rfl rfl (Q.move_d rfl) ?_
      | refine XOps.s rfl rfl rfl (Q.move_vs rfl) ?_
      | refine XOps.s rfl rfl rfl (Q.move_ptr rfl) ?_
      | refine XOps.s rfl rfl rfl (Q.move_nilsl rfl) ?_
      | refine XOps.s rfl rfl rfl (Q.move_fn rfl) ?_
      | refine XOps.s rfl rfl rfl (Q.move_tup rfl) ?_
      | refine XOps.s rfl rfl rfl (Q.move_ep rfl) ?_
      | refine XOps.s rfl rfl rfl (Q.move_dp rfl) ?_
      | refine XOps.s rfl rfl rfl (Q.move_dcut rfl) ?_
      | refine XOps.s rfl rfl rfl (Q.move_aggv rfl) ?_
      | refine XOps.s rfl rfl rfl (Q.move rfl) ?_
    first
      | refine XOps.gs rfl rfl rfl rfl rfl rfl rfl (fun hg => Q.move_d rfl) ?_
      | refine XOps.gs rfl rfl rfl rfl rfl rfl rfl (fun hg => Q.move_vs rfl) ?_
      | refine XOps.gs rfl rfl rfl rfl rfl rfl rfl (fun hg => Q.move_ptr rfl) ?_
      | refine XOps.gs rfl rfl rfl rfl rfl rfl rfl (fun hg => Q.move_nilsl rfl) ?_
      | refine XOps.gs rfl rfl rfl rfl rfl rfl rfl (fun hg => Q.move_fn rfl) ?_
      | refine XOps.gs rfl rfl rfl rfl rfl rfl rfl (fun hg => Q.move_tup rfl) ?_
      | refine XOps.gs rfl rfl rfl rfl rfl rfl rfl (fun hg => Q.move_ep rfl) ?_
      | refine XOps.gs rfl rfl rfl rfl rfl rfl rfl (fun hg => Q.move_dp rfl) ?_
      | refine XOps.gs rfl rfl rfl rfl rfl rfl rfl (fun hg => Q.move_dcut rfl) ?_
      | refine XOps.gs rfl rfl rfl rfl rfl rfl rfl (fun hg => Q.move_aggv rfl) ?_
      | refine XOps.gs rfl rfl rfl rfl rfl rfl rfl (fun hg => Q.move rfl) ?_
    first
      | refine XOps.gs rfl rfl rfl rfl rfl rfl rfl (fun hg => Q.move_d rfl) ?_
      | refine XOps.gs rfl rfl rfl rfl rfl rfl rfl (fun hg => Q.move_vs rfl) ?_
      | refine XOps.gs rfl rfl rfl rfl rfl rfl rfl (fun hg => Q.move_ptr rfl) ?_
      | refine XOps.gs rfl rfl rfl rfl rfl rfl rfl (fun hg => Q.move_nilsl rfl) ?_
      | refine XOps.gs rfl rfl rfl rfl rfl rfl rfl (fun hg => Q.move_fn rfl) ?_
      | refine XOps.gs rfl rfl rfl rfl rfl rfl rfl (fun hg => Q.move_tup rfl) ?_
      | refine XOps.gs rfl rfl rfl rfl rfl rfl rfl (fun hg => Q.move_ep rfl) ?_
      | refine XOps.gs rfl rfl rfl rfl rfl rfl rfl (fun hg => Q.move_dp rfl) ?_
      | refine XOps.gs rfl rfl rfl rfl rfl rfl rfl (fun hg => Q.move_dcut rfl) ?_
      | refine XOps.gs rfl rfl rfl rfl rfl rfl rfl (fun hg => Q.move_aggv rfl) ?_
      | refine XOps.gs rfl rfl rfl rfl rfl rfl rfl (fun hg => Q.move rfl) ?_
    first
      | refine XOps.gs rfl rfl rfl rfl rfl rfl rfl (fun hg => Quiet.open 19 hg rfl (Q.len_sl isl23 rfl)) ?_
      | refine XOps.gs rfl rfl rfl rfl rfl rfl rfl (fun hg => Quiet.open 19 hg rfl (Q.len_vs isl23 rfl)) ?_
      | refine XOps.gs rfl rfl rfl rfl rfl rfl rfl (fun hg => Quiet.open 19 hg rfl (Q.len_nil isl23 rfl)) ?_
      | refine XOps.gs rfl rfl rfl rfl rfl rfl rfl (fun hg => Quiet.open 19 hg rfl (Q.len_dcut isl23 rfl)) ?_
    first
      | refine XOps.gs rfl rfl rfl rfl rfl rfl rfl (fun hg => Quiet.open 18 hg rfl (Quiet.open 20 hg rfl (Q.geq rfl rfl))) ?_
      | refine XOps.gs rfl rfl rfl rfl rfl rfl rfl (fun hg => Quiet.open 18 hg rfl (Quiet.open 20 hg rfl (Q.geq_str rfl rfl))) ?_
    first
      | refine XOps.s rfl rfl rfl (Q.pick_and rfl rfl rfl (fun h => by first | (rw [h]; rfl) | (rw [hg, h]; rfl) | (simp [h, hg]; done))) ?_
      | refine XOps.s rfl rfl rfl (Q.pick_or rfl rfl rfl (fun h => by first | (rw [h]; rfl) | (rw [hg, h]; rfl) | (simp [h, hg]; done))) ?_
      | refine XOps.s rfl rfl rfl (Q.pick rfl rfl rfl) ?_
    first
      | refine XOps.s rfl rfl rfl (Q.move_d rfl) ?_
      | refine XOps.s rfl rfl rfl (Q.move_vs rfl) ?_
      | refine XOps.s rfl rfl rfl (Q.move_ptr rfl) ?_
      | refine XOps.s rfl rfl rfl (Q.move_nilsl rfl) ?_
      | refine XOps.s rfl rfl rfl (Q.move_fn rfl) ?_
      | refine XOps.s rfl rfl rfl (Q.move_tup rfl) ?_
      | refine XOps.s rfl rfl rfl (Q.move_ep rfl) ?_
      | refine XOps.s rfl rfl rfl (Q.move_dp rfl) ?_
      | refine XOps.s rfl rfl rfl (Q.move_dcut rfl) ?_
      | refine XOps.s rfl rfl rfl (Q.move_aggv rfl) ?_
      | refine XOps.s rfl rfl rfl (Q.move rfl) ?_
    first
      | refine XOps.gs rfl rfl rfl rfl rfl rfl rfl (fun hg => Q.move_d rfl) ?_
      | refine XOps.gs rfl rfl rfl rfl rfl rfl rfl (fun hg => Q.move_vs rfl) ?_
      | refine XOps.gs rfl rfl rfl rfl rfl rfl rfl (fun hg => Q.move_ptr rfl) ?_
      | refine XOps.gs rfl rfl rfl rfl rfl rfl rfl (fun hg => Q.move_nilsl rfl) ?_
      | refine XOps.gs rfl rfl rfl rfl rfl rfl rfl (fun hg => Q.move_fn rfl) ?_
      | refine XOps.gs rfl rfl rfl rfl rfl rfl rfl (fun hg => Q.move_tup rfl) ?_
      | refine XOps.gs rfl rfl rfl rfl rfl rfl rfl (fun hg => Q.move_ep rfl) ?_
      | refine XOps.gs rfl rfl rfl rfl rfl rfl rfl (fun hg => Q.move_dp rfl) ?_
      | refine XOps.gs rfl rfl rfl rfl rfl rfl rfl (fun hg => Q.move_dcut rfl) ?_
      | refine XOps.gs rfl rfl rfl rfl rfl rfl rfl (fun hg => Q.move_aggv rfl) ?_
      | refine XOps.gs rfl rfl rfl rfl rfl rfl rfl (fun hg => Q.move rfl) ?_
    first
      | refine XOps.gs rfl rfl rfl rfl rfl rfl rfl (fun hg => Quiet.open 24 hg rfl (Q.lss rfl rfl)) ?_
      | refine XOps.gs rfl rfl rfl rfl rfl rfl rfl (fun hg => Quiet.open 24 hg rfl (Q.lss_str rfl rfl)) ?_
    first
      | refine XOps.s rfl rfl rfl (Q.pick_and rfl rfl rfl (fun h => by first | (rw [h]; rfl) | (rw [hg, h]; rfl) | (simp [h, hg]; done))) ?_
      | refine XOps.s rfl rfl rfl (Q.pick_or rfl rfl rfl (fun h => by first | (rw [h]; rfl) | (rw [hg, h]; rfl) | (simp [h, hg]; done))) ?_
      | refine XOps.s rfl rfl rfl (Q.pick rfl rfl rfl) ?_
    first
      | refine XOps.s rfl rfl rfl (Q.move_d rfl) ?_
      | refine XOps.s rfl rfl rfl (Q.move_vs rfl) ?_
      | refine XOps.s rfl rfl rfl (Q.move_ptr rfl) ?_
      | refine XOps.s rfl rfl rfl (Q.move_nilsl rfl) ?_
      | refine XOps.s rfl rfl rfl (Q.move_fn rfl) ?_
      | refine XOps.s rfl rfl rfl (Q.move_tup rfl) ?_
      | refine XOps.s rfl rfl rfl (Q.move_ep rfl) ?_
      | refine XOps.s rfl rfl rfl (Q.move_dp rfl) ?_
      | refine XOps.s rfl rfl rfl (Q.move_dcut rfl) ?_
      | refine XOps.s rfl rfl rfl (Q.move_aggv rfl) ?_
      | refine XOps.s rfl rfl rfl (Q.move rfl) ?_
    first
      | refine XOps.gs rfl rfl rfl rfl rfl rfl rfl (fun hg => Q.move_d rfl) ?_
      | refine XOps.gs rfl rfl rfl rfl rfl rfl rfl (fun hg => Q.move_vs rfl) ?_
      | refine XOps.gs rfl rfl rfl rfl rfl rfl rfl (fun hg => Q.move_ptr rfl) ?_
      | refine XOps.gs rfl rfl rfl rfl rfl rfl rfl (fun hg => Q.move_nilsl rfl) ?_
      | refine XOps.gs rfl rfl rfl rfl rfl rfl rfl (fun hg => Q.move_fn rfl) ?_
      | refine XOps.gs rfl rfl rfl rfl rfl rfl rfl (fun hg => Q.move_tup rfl) ?_
      | refine XOps.gs rfl rfl rfl rfl rfl rfl rfl (fun hg => Q.move_ep rfl) ?_
      | refine XOps.gs rfl rfl rfl rfl rfl rfl rfl (fun hg => Q.move_dp rfl) ?_
      | refine XOps.gs rfl rfl rfl rfl rfl rfl rfl (fun hg => Q.move_dcut rfl) ?_
      | refine XOps.gs rfl rfl rfl rfl rfl rfl rfl (fun hg => Q.move_aggv rfl) ?_
      | refine XOps.gs rfl rfl rfl rfl rfl rfl rfl (fun hg => Q.move rfl) ?_
    first
      | refine XOps.gs rfl rfl rfl rfl rfl rfl rfl (fun hg => Q.move_d rfl) ?_
      | refine XOps.gs rfl rfl rfl rfl rfl rfl rfl (fun hg => Q.move_vs rfl) ?_
      | refine XOps.gs rfl rfl rfl rfl rfl rfl rfl (fun hg => Q.move_ptr rfl) ?_
      | refine XOps.gs rfl rfl rfl rfl rfl rfl rfl (fun hg => Q.move_nilsl rfl) ?_
      | refine XOps.gs rfl rfl rfl rfl rfl rfl rfl (fun hg => Q.move_fn rfl) ?_
      | refine XOps.gs rfl rfl rfl rfl rfl rfl rfl (fun hg => Q.move_tup rfl) ?_
      | refine XOps.gs rfl rfl rfl rfl rfl rfl rfl (fun hg => Q.move_ep rfl) ?_
      | refine XOps.gs rfl rfl rfl rfl rfl rfl rfl (fun hg => Q.move_dp rfl) ?_
      | refine XOps.gs rfl rfl rfl rfl rfl rfl rfl (fun hg => Q.move_dcut rfl) ?_
      | refine XOps.gs rfl rfl rfl rfl rfl rfl rfl (fun hg => Q.move_aggv rfl) ?_
      | refine XOps.gs rfl rfl rfl rfl rfl rfl rfl (fun hg => Q.move rfl) ?_
    first
      | refine XOps.gs rfl rfl rfl rfl rfl rfl rfl (fun hg => Quiet.open 29 hg rfl (Q.len_sl isl23 rfl)) ?_
      | refine XOps.gs rfl rfl rfl rfl rfl rfl rfl (fun hg => Quiet.open 29 hg rfl (Q.len_vs isl23 rfl)) ?_
      | refine XOps.gs rfl rfl rfl rfl rfl rfl rfl (fun hg => Quiet.open 29 hg rfl (Q.len_nil isl23 rfl)) ?_
      | refine XOps.gs rfl rfl rfl rfl rfl rfl rfl (fun hg => Quiet.open 29 hg rfl (Q.len_dcut isl23 rfl)) ?_
    first
      | refine XOps.gs rfl rfl rfl rfl rfl rfl rfl (fun hg => Quiet.open 28 hg rfl (Quiet.open 30 hg rfl (Q.geq rfl rfl))) ?_
      | refine XOps.gs rfl rfl rfl rfl rfl rfl rfl (fun hg => Quiet.open 28 hg rfl (Quiet.open 30 hg rfl (Q.geq_str rfl rfl))) ?_
    first
      | refine XOps.s rfl rfl rfl (Q.pick_and rfl rfl rfl (fun h => by first | (rw [h]; rfl) | (rw [hg, h]; rfl) | (simp [h, hg]; done))) ?_
      | refine XOps.s rfl rfl rfl (Q.pick_or rfl rfl rfl (fun h => by first | (rw [h]; rfl) | (rw [hg, h]; rfl) | (simp [h, hg]; done))) ?_
      | refine XOps.s rfl rfl rfl (Q.pick rfl rfl rfl) ?_
    refine XOps.nil ?_
    refine W.cond rfl (fun hc32 => ?_) (fun hc32 => ?_)
    · try simp only [Bool.or_eq_true, Bool.or_eq_false_iff, Bool.and_eq_true, Bool.and_eq_false_iff, decide_eq_true_eq, decide_eq_false_iff_not, Bool.not_eq_true', Bool.not_eq_false', Int.not_lt, Int.not_le, List.length_map] at hc32
      exfalso
      omega
      --done
    · try simp only [Bool.or_eq_true, Bool.or_eq_false_iff, Bool.and_eq_true, Bool.and_eq_false_iff, decide_eq_true_eq, decide_eq_false_iff_not, Bool.not_eq_true', Bool.not_eq_false', Int.not_lt, Int.not_le, List.length_map] at hc32
      refine W.skip ?_
      refine W.reg ?_
      first
        | refine XOps.s rfl rfl rfl (Q.move_d rfl) ?_
        | refine XOps.s rfl rfl rfl (Q.move_vs rfl) ?_
        | refine XOps.s rfl rfl rfl (Q.move_ptr rfl) ?_
        | refine XOps.s rfl rfl rfl (Q.move_nilsl rfl) ?_
        | refine XOps.s rfl rfl rfl (Q.move_fn rfl) ?_
        | refine XOps.s rfl rfl rfl (Q.move_tup rfl) ?_
        | refine XOps.s rfl rfl rfl (Q.move_ep rfl) ?_
        | refine XOps.s rfl rfl rfl (Q.move_dp rfl) ?_
        | refine XOps.s rfl rfl rfl (Q.move_dcut rfl) ?_
        | refine XOps.s rfl rfl rfl (Q.move_aggv rfl) ?_
        | refine XOps.s rfl rfl rfl (Q.move rfl) ?_
      refine XOps.s rfl rfl rfl (Q.call rfl Try.func21 go21 rfl (vectors_c l _ hw)) ?_
      first
        | refine XOps.s rfl rfl rfl (Q.assign_d rfl) ?_
        | refine XOps.s rfl rfl rfl (Q.assign_vs rfl) ?_
        | refine XOps.s rfl rfl rfl (Q.assign_ptr rfl) ?_
        | refine XOps.s rfl rfl rfl (Q.assign_nilsl rfl) ?_
        | refine XOps.s rfl rfl rfl (Q.assign_fn rfl) ?_
        | refine XOps.s rfl rfl rfl (Q.assign_tup rfl) ?_
        | refine XOps.s rfl rfl rfl (Q.assign_ep rfl) ?_
        | refine XOps.s rfl rfl rfl (Q.assign_dp rfl) ?_
        | refine XOps.s rfl rfl rfl (Q.assign_dcut rfl) ?_
        | refine XOps.s rfl rfl rfl (Q.assign_aggv rfl) ?_
        | refine XOps.s rfl rfl rfl (Q.assign rfl) ?_
      refine XOps.nil ?_
      refine W.drawreg 26 follows (by kernel_rfl) ?_
      first
        | refine Chain.cons _ (GQ.q rfl (Q.move_d rfl)) rfl ?_
        | refine Chain.cons _ (GQ.q rfl (Q.move_vs rfl)) rfl ?_
        | refine Chain.cons _ (GQ.q rfl (Q.move_ptr rfl)) rfl ?_
        | refine Chain.cons _ (GQ.q rfl (Q.move_nilsl rfl)) rfl ?_
        | refine Chain.cons _ (GQ.q rfl (Q.move_fn rfl)) rfl ?_
        | refine Chain.cons _ (GQ.q rfl (Q.move_tup rfl)) rfl ?_
        | refine Chain.cons _ (GQ.q rfl (Q.move_ep rfl)) rfl ?_
        | refine Chain.cons _ (GQ.q rfl (Q.move_dp rfl)) rfl ?_
        | refine Chain.cons _ (GQ.q rfl (Q.move_dcut rfl)) rfl ?_
        | refine Chain.cons _ (GQ.q rfl (Q.move_aggv rfl)) rfl ?_
        | refine Chain.cons _ (GQ.q rfl (Q.move rfl)) rfl ?_
      first
        | refine Chain.cons _ (GQ.q rfl (Q.move_d rfl)) rfl ?_
        | refine Chain.cons _ (GQ.q rfl (Q.move_vs rfl)) rfl ?_
        | refine Chain.cons _ (GQ.q rfl (Q.move_ptr rfl)) rfl ?_
        | refine Chain.cons _ (GQ.q rfl (Q.move_nilsl rfl)) rfl ?_
        | refine Chain.cons _ (GQ.q rfl (Q.move_fn rfl)) rfl ?_
        | refine Chain.cons _ (GQ.q rfl (Q.move_tup rfl)) rfl ?_
        | refine Chain.cons _ (GQ.q rfl (Q.move_ep rfl)) rfl ?_
        | refine Chain.cons _ (GQ.q rfl (Q.move_dp rfl)) rfl ?_
        | refine Chain.cons _ (GQ.q rfl (Q.move_dcut rfl)) rfl ?_
        | refine Chain.cons _ (GQ.q rfl (Q.move_aggv rfl)) rfl ?_
        | refine Chain.cons _ (GQ.q rfl (Q.move rfl)) rfl ?_
      first
        | refine Chain.cons _ (GQ.q rfl (Q.neq rfl rfl)) rfl ?_
        | refine Chain.cons _ (GQ.q rfl (Q.neq_str rfl rfl)) rfl ?_
      first
        | refine Chain.cons _ (GQ.q rfl (Q.move_d rfl)) rfl ?_
        | refine Chain.cons _ (GQ.q rfl (Q.move_vs rfl)) rfl ?_
        | refine Chain.cons _ (GQ.q rfl (Q.move_ptr rfl)) rfl ?_
        | refine Chain.cons _ (GQ.q rfl (Q.move_nilsl rfl)) rfl ?_
        | refine Chain.cons _ (GQ.q rfl (Q.move_fn rfl)) rfl ?_
        | refine Chain.cons _ (GQ.q rfl (Q.move_tup rfl)) rfl ?_
        | refine Chain.cons _ (GQ.q rfl (Q.move_ep rfl)) rfl ?_
        | refine Chain.cons _ (GQ.q rfl (Q.move_dp rfl)) rfl ?_
        | refine Chain.cons _ (GQ.q rfl (Q.move_dcut rfl)) rfl ?_
        | refine Chain.cons _ (GQ.q rfl (Q.move_aggv rfl)) rfl ?_
        | refine Chain.cons _ (GQ.q rfl (Q.move rfl)) rfl ?_
      first
        | refine Chain.cons _ (GQ.g rfl rfl rfl rfl rfl (fun hg => Q.move_d rfl)) rfl ?_
        | refine Chain.cons _ (GQ.g rfl rfl rfl rfl rfl (fun hg => Q.move_vs rfl)) rfl ?_
        | refine Chain.cons _ (GQ.g rfl rfl rfl rfl rfl (fun hg => Q.move_ptr rfl)) rfl ?_
        | refine Chain.cons _ (GQ.g rfl rfl rfl rfl rfl (fun hg => Q.move_nilsl rfl)) rfl ?_
        | refine Chain.cons _ (GQ.g rfl rfl rfl rfl rfl (fun hg => Q.move_fn rfl)) rfl ?_
        | refine Chain.cons _ (GQ.g rfl rfl rfl rfl rfl (fun hg => Q.move_tup rfl)) rfl ?_
        | refine Chain.cons _ (GQ.g rfl rfl rfl rfl rfl (fun hg => Q.move_ep rfl)) rfl ?_
        | refine Chain.cons _ (GQ.g rfl rfl rfl rfl rfl (fun hg => Q.move_dp rfl)) rfl ?_
        | refine Chain.cons _ (GQ.g rfl rfl rfl rfl rfl (fun hg => Q.move_dcut rfl)) rfl ?_
        | refine Chain.cons _ (GQ.g rfl rfl rfl rfl rfl (fun hg => Q.move_aggv rfl)) rfl ?_
        | refine Chain.cons _ (GQ.g rfl rfl rfl rfl rfl (fun hg => Q.move rfl)) rfl ?_
      first
        | refine Chain.cons _ (GQ.g rfl rfl rfl rfl rfl (fun hg => Q.move_d rfl)) rfl ?_
        | refine Chain.cons _ (GQ.g rfl rfl rfl rfl rfl (fun hg => Q.move_vs rfl)) rfl ?_
        | refine Chain.cons _ (GQ.g rfl rfl rfl rfl rfl (fun hg => Q.move_ptr rfl)) rfl ?_
        | refine Chain.cons _ (GQ.g rfl rfl rfl rfl rfl (fun hg => Q.move_nilsl rfl)) rfl ?_
        | refine Chain.cons _ (GQ.g rfl rfl rfl rfl rfl (fun hg => Q.move_fn rfl)) rfl ?_
        | refine Chain.cons _ (GQ.g rfl rfl rfl rfl rfl (fun hg => Q.move_tup rfl)) rfl ?_
        | refine Chain.cons _ (GQ.g rfl rfl rfl rfl rfl (fun hg => Q.move_ep rfl)) rfl ?_
        | refine Chain.cons _ (GQ.g rfl rfl rfl rfl rfl (fun hg => Q.move_dp rfl)) rfl ?_
        | refine Chain.cons _ (GQ.g rfl rfl rfl rfl rfl (fun hg => Q.move_dcut rfl)) rfl ?_
        | refine Chain.cons _ (GQ.g rfl rfl rfl rfl rfl (fun hg => Q.move_aggv rfl)) rfl ?_
        | refine Chain.cons _ (GQ.g rfl rfl rfl rfl rfl (fun hg => Q.move rfl)) rfl ?_
      first
        | refine Chain.cons _ (GQ.g rfl rfl rfl rfl rfl (fun hg => Q.move_d rfl)) rfl ?_
        | refine Chain.cons _ (GQ.g rfl rfl rfl rfl rfl (fun hg => Q.move_vs rfl)) rfl ?_
        | refine Chain.cons _ (GQ.g rfl rfl rfl rfl rfl (fun hg => Q.move_ptr rfl)) rfl ?_
        | refine Chain.cons _ (GQ.g rfl rfl rfl rfl rfl (fun hg => Q.move_nilsl rfl)) rfl ?_
        | refine Chain.cons _ (GQ.g rfl rfl rfl rfl rfl (fun hg => Q.move_fn rfl)) rfl ?_
        | refine Chain.cons _ (GQ.g rfl rfl rfl rfl rfl (fun hg => Q.move_tup rfl)) rfl ?_
        | refine Chain.cons _ (GQ.g rfl rfl rfl rfl rfl (fun hg => Q.move_ep rfl)) rfl ?_
        | refine Chain.cons _ (GQ.g rfl rfl rfl rfl rfl (fun hg => Q.move_dp rfl)) rfl ?_
        | refine Chain.cons _ (GQ.g rfl rfl rfl rfl rfl (fun hg => Q.move_dcut rfl)) rfl ?_
        | refine Chain.cons _ (GQ.g rfl rfl rfl rfl rfl (fun hg => Q.move_aggv rfl)) rfl ?_
        | refine Chain.cons _ (GQ.g rfl rfl rfl rfl rfl (fun hg => Q.move rfl)) rfl ?_
      first
        | refine Chain.cons _ (GQ.g rfl rfl rfl rfl rfl (fun hg => Q.move_d rfl)) rfl ?_
        | refine Chain.cons _ (GQ.g rfl rfl rfl rfl rfl (fun hg => Q.move_vs rfl)) rfl ?_
        | refine Chain.cons _ (GQ.g rfl rfl rfl rfl rfl (fun hg => Q.move_ptr rfl)) rfl ?_
        | refine Chain.cons _ (GQ.g rfl rfl rfl rfl rfl (fun hg => Q.move_nilsl rfl)) rfl ?_
        | refine Chain.cons _ (GQ.g rfl rfl rfl rfl rfl (fun hg => Q.move_fn rfl)) rfl ?_
        | refine Chain.cons _ (GQ.g rfl rfl rfl rfl rfl (fun hg => Q.move_tup rfl)) rfl ?_
        | refine Chain.cons _ (GQ.g rfl rfl rfl rfl rfl (fun hg => Q.move_ep rfl)) rfl ?_
        | refine Chain.cons _ (GQ.g rfl rfl rfl rfl rfl (fun hg => Q.move_dp rfl)) rfl ?_
        | refine Chain.cons _ (GQ.g rfl rfl rfl rfl rfl (fun hg => Q.move_dcut rfl)) rfl ?_
        | refine Chain.cons _ (GQ.g rfl rfl rfl rfl rfl (fun hg => Q.move_aggv rfl)) rfl ?_
        | refine Chain.cons _ (GQ.g rfl rfl rfl rfl rfl (fun hg => Q.move rfl)) rfl ?_
      first
        | refine Chain.cons _ (GQ.g rfl rfl rfl rfl rfl (fun hg => Quiet.open 41 hg rfl (Quiet.open 42 hg rfl (Q.idx_sl sl23 (by decide) rfl rfl (by first | omega | (simp only [List.length_map]; omega)) (by first | exact map_at (by assumption) | exact map_at0 (by assumption) | assumption))))) rfl ?_
        | refine Chain.cons _ (GQ.g rfl rfl rfl rfl rfl (fun hg => Quiet.open 41 hg rfl (Quiet.open 42 hg rfl (Q.idx_vs (kk := 0) sl23 rfl rfl rfl (by first | omega | (simp at hg; omega)) (by first | omega | (dsimp only; omega)))))) rfl ?_
        | refine Chain.cons _ (GQ.g rfl rfl rfl rfl rfl (fun hg => Quiet.open 41 hg rfl (Quiet.open 42 hg rfl (Q.idx_vs (kk := 1) sl23 rfl rfl rfl (by first | omega | (simp at hg; omega)) (by first | omega | (dsimp only; omega)))))) rfl ?_
        | refine Chain.cons _ (GQ.g rfl rfl rfl rfl rfl (fun hg => Quiet.open 41 hg rfl (Quiet.open 42 hg rfl (Q.idx_vs (kk := 2) sl23 rfl rfl rfl (by first | omega | (simp at hg; omega)) (by first | omega | (dsimp only; omega)))))) rfl ?_
        | refine Chain.cons _ (GQ.g rfl rfl rfl rfl rfl (fun hg => Quiet.open 41 hg rfl (Quiet.open 42 hg rfl (Q.idx_vs (kk := 3) sl23 rfl rfl rfl (by first | omega | (simp at hg; omega)) (by first | omega | (dsimp only; omega)))))) rfl ?_
        | refine Chain.cons _ (GQ.g rfl rfl rfl rfl rfl (fun hg => Quiet.open 41 hg rfl (Quiet.open 42 hg rfl (Q.idx_vs (kk := 4) sl23 rfl rfl rfl (by first | omega | (simp at hg; omega)) (by first | omega | (dsimp only; omega)))))) rfl ?_
        | refine Chain.cons _ (GQ.g rfl rfl rfl rfl rfl (fun hg => Quiet.open 41 hg rfl (Quiet.open 42 hg rfl (Q.idx_vs (kk := 5) sl23 rfl rfl rfl (by first | omega | (simp at hg; omega)) (by first | omega | (dsimp only; omega)))))) rfl ?_
      first
        | refine Chain.cons _ (GQ.g rfl rfl rfl rfl rfl (fun hg => Quiet.open 43 hg rfl (Q.fld_ptr fl26_0 rfl))) rfl ?_
        | refine Chain.cons _ (GQ.g rfl rfl rfl rfl rfl (fun hg => Quiet.open 43 hg rfl (Q.fld_dp fl26_0 rfl))) rfl ?_
        | refine Chain.cons _ (GQ.g rfl rfl rfl rfl rfl (fun hg => Quiet.open 43 hg rfl (Q.fld_ep fl26_0 rfl))) rfl ?_
      first
        | refine Chain.cons _ (GQ.g rfl rfl rfl rfl rfl (fun hg => Quiet.open 44 hg rfl (Q.ld_dp ag3 rfl rfl))) rfl ?_
        | refine Chain.cons _ (GQ.g rfl rfl rfl rfl rfl (fun hg => Quiet.open 44 hg rfl (Q.ld_ptr (k := 0) ag3 rfl rfl rfl))) rfl ?_
        | refine Chain.cons _ (GQ.g rfl rfl rfl rfl rfl (fun hg => Quiet.open 44 hg rfl (Q.ld_ptr (k := 1) ag3 rfl rfl rfl))) rfl ?_
        | refine Chain.cons _ (GQ.g rfl rfl rfl rfl rfl (fun hg => Quiet.open 44 hg rfl (Q.ld_ptr (k := 2) ag3 rfl rfl rfl))) rfl ?_
        | refine Chain.cons _ (GQ.g rfl rfl rfl rfl rfl (fun hg => Quiet.open 44 hg rfl (Q.ld_ptr (k := 3) ag3 rfl rfl rfl))) rfl ?_
        | refine Chain.cons _ (GQ.g rfl rfl rfl rfl rfl (fun hg => Quiet.open 44 hg rfl (Q.ld_ptr (k := 4) ag3 rfl rfl rfl))) rfl ?_
        | refine Chain.cons _ (GQ.g rfl rfl rfl rfl rfl (fun hg => Quiet.open 44 hg rfl (Q.ld_ptr (k := 5) ag3 rfl rfl rfl))) rfl ?_
        | refine Chain.cons _ (GQ.g rfl rfl rfl rfl rfl (fun hg => Quiet.open 44 hg rfl (Q.ld_ep (k := 0) ag3 rfl rfl (by first | exact map_at (by assumption) | exact map_at0 (by assumption) | assumption) rfl))) rfl ?_
        | refine Chain.cons _ (GQ.g rfl rfl rfl rfl rfl (fun hg => Quiet.open 44 hg rfl (Q.ld_ep (k := 1) ag3 rfl rfl (by first | exact map_at (by assumption) | exact map_at0 (by assumption) | assumption) rfl))) rfl ?_
        | refine Chain.cons _ (GQ.g rfl rfl rfl rfl rfl (fun hg => Quiet.open 44 hg rfl (Q.ld_ep (k := 2) ag3 rfl rfl (by first | exact map_at (by assumption) | exact map_at0 (by assumption) | assumption) rfl))) rfl ?_
        | refine Chain.cons _ (GQ.g rfl rfl rfl rfl rfl (fun hg => Quiet.open 44 hg rfl (Q.ld_ep (k := 3) ag3 rfl rfl (by first | exact map_at (by assumption) | exact map_at0 (by assumption) | assumption) rfl))) rfl ?_
        | refine Chain.cons _ (GQ.g rfl rfl rfl rfl rfl (fun hg => Quiet.open 44 hg rfl (Q.ld_ep (k := 4) ag3 rfl rfl (by first | exact map_at (by assumption) | exact map_at0 (by assumption) | assumption) rfl))) rfl ?_
        | refine Chain.cons _ (GQ.g rfl rfl rfl rfl rfl (fun hg => Quiet.open 44 hg rfl (Q.ld_ep (k := 5) ag3 rfl rfl (by first | exact map_at (by assumption) | exact map_at0 (by assumption) | assumption) rfl))) rfl ?_
      first
        | refine Chain.cons _ (GQ.g rfl rfl rfl rfl rfl (fun hg => Quiet.open 39 hg rfl (Quiet.open 40 hg rfl (Q.idx_sl sl46 (by decide) rfl rfl (by first | omega | (simp only [List.length_map]; omega)) (by first | exact map_at (by assumption) | exact map_at0 (by assumption) | assumption))))) rfl ?_
        | refine Chain.cons _ (GQ.g rfl rfl rfl rfl rfl (fun hg => Quiet.open 39 hg rfl (Quiet.open 40 hg rfl (Q.idx_vs (kk := 0) sl46 rfl rfl rfl (by first | omega | (simp at hg; omega)) (by first | omega | (dsimp only; omega)))))) rfl ?_
        | refine Chain.cons _ (GQ.g rfl rfl rfl rfl rfl (fun hg => Quiet.open 39 hg rfl (Quiet.open 40 hg rfl (Q.idx_vs (kk := 1) sl46 rfl rfl rfl (by first | omega | (simp at hg; omega)) (by first | omega | (dsimp only; omega)))))) rfl ?_
        | refine Chain.cons _ (GQ.g rfl rfl rfl rfl rfl (fun hg => Quiet.open 39 hg rfl (Quiet.open 40 hg rfl (Q.idx_vs (kk := 2) sl46 rfl rfl rfl (by first | omega | (simp at hg; omega)) (by first | omega | (dsimp only; omega)))))) rfl ?_
        | refine Chain.cons _ (GQ.g rfl rfl rfl rfl rfl (fun hg => Quiet.open 39 hg rfl (Quiet.open 40 hg rfl (Q.idx_vs (kk := 3) sl46 rfl rfl rfl (by first | omega | (simp at hg; omega)) (by first | omega | (dsimp only; omega)))))) rfl ?_
        | refine Chain.cons _ (GQ.g rfl rfl rfl rfl rfl (fun hg => Quiet.open 39 hg rfl (Quiet.open 40 hg rfl (Q.idx_vs (kk := 4) sl46 rfl rfl rfl (by first | omega | (simp at hg; omega)) (by first | omega | (dsimp only; omega)))))) rfl ?_
        | refine Chain.cons _ (GQ.g rfl rfl rfl rfl rfl (fun hg => Quiet.open 39 hg rfl (Quiet.open 40 hg rfl (Q.idx_vs (kk := 5) sl46 rfl rfl rfl (by first | omega | (simp at hg; omega)) (by first | omega | (dsimp only; omega)))))) rfl ?_
      first
        | refine Chain.cons _ (GQ.g rfl rfl rfl rfl rfl (fun hg => Quiet.open 46 hg rfl (Quiet.open 45 hg rfl (Q.idx_arr ar48 rfl rfl (by first | omega | (simp at hg; omega)) (by first | omega | (simp at hg; omega)))))) rfl ?_
        | refine Chain.cons _ (GQ.g rfl rfl rfl rfl rfl (fun hg => Quiet.open 46 hg rfl (Quiet.open 45 hg rfl (Q.idx_darr ar48 rfl rfl (by first | omega | (simp at hg; omega)) (by first | omega | (simp at hg; omega)))))) rfl ?_
      refine Chain.cons _ (GQ.g rfl rfl rfl rfl rfl (fun hg => Quiet.open 47 hg rfl (Q.ld_dp ag3 rfl hdu))) rfl ?_
      first
        | refine Chain.cons _ (GQ.g rfl rfl rfl rfl rfl (fun hg => Q.move_d rfl)) rfl ?_
        | refine Chain.cons _ (GQ.g rfl rfl rfl rfl rfl (fun hg => Q.move_vs rfl)) rfl ?_
        | refine Chain.cons _ (GQ.g rfl rfl rfl rfl rfl (fun hg => Q.move_ptr rfl)) rfl ?_
        | refine Chain.cons _ (GQ.g rfl rfl rfl rfl rfl (fun hg => Q.move_nilsl rfl)) rfl ?_
        | refine Chain.cons _ (GQ.g rfl rfl rfl rfl rfl (fun hg => Q.move_fn rfl)) rfl ?_
        | refine Chain.cons _ (GQ.g rfl rfl rfl rfl rfl (fun hg => Q.move_tup rfl)) rfl ?_
        | refine Chain.cons _ (GQ.g rfl rfl rfl rfl rfl (fun hg => Q.move_ep rfl)) rfl ?_
        | refine Chain.cons _ (GQ.g rfl rfl rfl rfl rfl (fun hg => Q.move_dp rfl)) rfl ?_
        | refine Chain.cons _ (GQ.g rfl rfl rfl rfl rfl (fun hg => Q.move_dcut rfl)) rfl ?_
        | refine Chain.cons _ (GQ.g rfl rfl rfl rfl rfl (fun hg => Q.move_aggv rfl)) rfl ?_
        | refine Chain.cons _ (GQ.g rfl rfl rfl rfl rfl (fun hg => Q.move rfl)) rfl ?_
      first
        | refine Chain.cons _ (GQ.g rfl rfl rfl rfl rfl (fun hg => Q.move_d rfl)) rfl ?_
        | refine Chain.cons _ (GQ.g rfl rfl rfl rfl rfl (fun hg => Q.move_vs rfl)) rfl ?_
        | refine Chain.cons _ (GQ.g rfl rfl rfl rfl rfl (fun hg => Q.move_ptr rfl)) rfl ?_
        | refine Chain.cons _ (GQ.g rfl rfl rfl rfl rfl (fun hg => Q.move_nilsl rfl)) rfl ?_
        | refine Chain.cons _ (GQ.g rfl rfl rfl rfl rfl (fun hg => Q.move_fn rfl)) rfl ?_
        | refine Chain.cons _ (GQ.g rfl rfl rfl rfl rfl (fun hg => Q.move_tup rfl)) rfl ?_
        | refine Chain.cons _ (GQ.g rfl rfl rfl rfl rfl (fun hg => Q.move_ep rfl)) rfl ?_
        | refine Chain.cons _ (GQ.g rfl rfl rfl rfl rfl (fun hg => Q.move_dp rfl)) rfl ?_
        | refine Chain.cons _ (GQ.g rfl rfl rfl rfl rfl (fun hg => Q.move_dcut rfl)) rfl ?_
        | refine Chain.cons _ (GQ.g rfl rfl rfl rfl rfl (fun hg => Q.move_aggv rfl)) rfl ?_
        | refine Chain.cons _ (GQ.g rfl rfl rfl rfl rfl (fun hg => Q.move rfl)) rfl ?_
      first
        | refine Chain.cons _ (GQ.g rfl rfl rfl rfl rfl (fun hg => Q.move_d rfl)) rfl ?_
        | refine Chain.cons _ (GQ.g rfl rfl rfl rfl rfl (fun hg => Q.move_vs rfl)) rfl ?_
        | refine Chain.cons _ (GQ.g rfl rfl rfl rfl rfl (fun hg => Q.move_ptr rfl)) rfl ?_
        | refine Chain.cons _ (GQ.g rfl rfl rfl rfl rfl (fun hg => Q.move_nilsl rfl)) rfl ?_
        | refine Chain.cons _ (GQ.g rfl rfl rfl rfl rfl (fun hg => Q.move_fn rfl)) rfl ?_
        | refine Chain.cons _ (GQ.g rfl rfl rfl rfl rfl (fun hg => Q.move_tup rfl)) rfl ?_
        | refine Chain.cons _ (GQ.g rfl rfl rfl rfl rfl (fun hg => Q.move_ep rfl)) rfl ?_
        | refine Chain.cons _ (GQ.g rfl rfl rfl rfl rfl (fun hg => Q.move_dp rfl)) rfl ?_
        | refine Chain.cons _ (GQ.g rfl rfl rfl rfl rfl (fun hg => Q.move_dcut rfl)) rfl ?_
        | refine Chain.cons _ (GQ.g rfl rfl rfl rfl rfl (fun hg => Q.move_aggv rfl)) rfl ?_
        | refine Chain.cons _ (GQ.g rfl rfl rfl rfl rfl (fun hg => Q.move rfl)) rfl ?_
      first
        | refine Chain.cons _ (GQ.g rfl rfl rfl rfl rfl (fun hg => Q.move_d rfl)) rfl ?_
        | refine Chain.cons _ (GQ.g rfl rfl rfl rfl rfl (fun hg => Q.move_vs rfl)) rfl ?_
        | refine Chain.cons _ (GQ.g rfl rfl rfl rfl rfl (fun hg => Q.move_ptr rfl)) rfl ?_
        | refine Chain.cons _ (GQ.g rfl rfl rfl rfl rfl (fun hg => Q.move_nilsl rfl)) rfl ?_
        | refine Chain.cons _ (GQ.g rfl rfl rfl rfl rfl (fun hg => Q.move_fn rfl)) rfl ?_
        | refine Chain.cons _ (GQ.g rfl rfl rfl rfl rfl (fun hg => Q.move_tup rfl)) rfl ?_
        | refine Chain.cons _ (GQ.g rfl rfl rfl rfl rfl (fun hg => Q.move_ep rfl)) rfl ?_
        | refine Chain.cons _ (GQ.g rfl rfl rfl rfl rfl (fun hg => Q.move_dp rfl)) rfl ?_
        | refine Chain.cons _ (GQ.g rfl rfl rfl rfl rfl (fun hg => Q.move_dcut rfl)) rfl ?_
        | refine Chain.cons _ (GQ.g rfl rfl rfl rfl rfl (fun hg => Q.move_aggv rfl)) rfl ?_
        | refine Chain.cons _ (GQ.g rfl rfl rfl rfl rfl (fun hg => Q.move rfl)) rfl ?_
      first
        | refine Chain.cons _ (GQ.g rfl rfl rfl rfl rfl (fun hg => Quiet.open 51 hg rfl (Quiet.open 52 hg rfl (Q.idx_sl sl23 (by decide) rfl rfl (by first | omega | (simp only [List.length_map]; omega)) (by first | exact map_at (by assumption) | exact map_at0 (by assumption) | assumption))))) rfl ?_
        | refine Chain.cons _ (GQ.g rfl rfl rfl rfl rfl (fun hg => Quiet.open 51 hg rfl (Quiet.open 52 hg rfl (Q.idx_vs (kk := 0) sl23 rfl rfl rfl (by first | omega | (simp at hg; omega)) (by first | omega | (dsimp only; omega)))))) rfl ?_
        | refine Chain.cons _ (GQ.g rfl rfl rfl rfl rfl (fun hg => Quiet.open 51 hg rfl (Quiet.open 52 hg rfl (Q.idx_vs (kk := 1) sl23 rfl rfl rfl (by first | omega | (simp at hg; omega)) (by first | omega | (dsimp only; omega)))))) rfl ?_
        | refine Chain.cons _ (GQ.g rfl rfl rfl rfl rfl (fun hg => Quiet.open 51 hg rfl (Quiet.open 52 hg rfl (Q.idx_vs (kk := 2) sl23 rfl rfl rfl (by first | omega | (simp at hg; omega)) (by first | omega | (dsimp only; omega)))))) rfl ?_
        | refine Chain.cons _ (GQ.g rfl rfl rfl rfl rfl (fun hg => Quiet.open 51 hg rfl (Quiet.open 52 hg rfl (Q.idx_vs (kk := 3) sl23 rfl rfl rfl (by first | omega | (simp at hg; omega)) (by first | omega | (dsimp only; omega)))))) rfl ?_
        | refine Chain.cons _ (GQ.g rfl rfl rfl rfl rfl (fun hg => Quiet.open 51 hg rfl (Quiet.open 52 hg rfl (Q.idx_vs (kk := 4) sl23 rfl rfl rfl (by first | omega | (simp at hg; omega)) (by first | omega | (dsimp only; omega)))))) rfl ?_
        | refine Chain.cons _ (GQ.g rfl rfl rfl rfl rfl (fun hg => Quiet.open 51 hg rfl (Quiet.open 52 hg rfl (Q.idx_vs (kk := 5) sl23 rfl rfl rfl (by first | omega | (simp at hg; omega)) (by first | omega | (dsimp only; omega)))))) rfl ?_
      first
        | refine Chain.cons _ (GQ.g rfl rfl rfl rfl rfl (fun hg => Quiet.open 53 hg rfl (Q.fld_ptr fl26_0 rfl))) rfl ?_
        | refine Chain.cons _ (GQ.g rfl rfl rfl rfl rfl (fun hg => Quiet.open 53 hg rfl (Q.fld_dp fl26_0 rfl))) rfl ?_
        | refine Chain.cons _ (GQ.g rfl rfl rfl rfl rfl (fun hg => Quiet.open 53 hg rfl (Q.fld_ep fl26_0 rfl))) rfl ?_
      first
        | refine Chain.cons _ (GQ.g rfl rfl rfl rfl rfl (fun hg => Quiet.open 54 hg rfl (Q.ld_dp ag3 rfl rfl))) rfl ?_
        | refine Chain.cons _ (GQ.g rfl rfl rfl rfl rfl (fun hg => Quiet.open 54 hg rfl (Q.ld_ptr (k := 0) ag3 rfl rfl rfl))) rfl ?_
        | refine Chain.cons _ (GQ.g rfl rfl rfl rfl rfl (fun hg => Quiet.open 54 hg rfl (Q.ld_ptr (k := 1) ag3 rfl rfl rfl))) rfl ?_
        | refine Chain.cons _ (GQ.g rfl rfl rfl rfl rfl (fun hg => Quiet.open 54 hg rfl (Q.ld_ptr (k := 2) ag3 rfl rfl rfl))) rfl ?_
        | refine Chain.cons _ (GQ.g rfl rfl rfl rfl rfl (fun hg => Quiet.open 54 hg rfl (Q.ld_ptr (k := 3) ag3 rfl rfl rfl))) rfl ?_
        | refine Chain.cons _ (GQ.g rfl rfl rfl rfl rfl (fun hg => Quiet.open 54 hg rfl (Q.ld_ptr (k := 4) ag3 rfl rfl rfl))) rfl ?_
        | refine Chain.cons _ (GQ.g rfl rfl rfl rfl rfl (fun hg => Quiet.open 54 hg rfl (Q.ld_ptr (k := 5) ag3 rfl rfl rfl))) rfl ?_
        | refine Chain.cons _ (GQ.g rfl rfl rfl rfl rfl (fun hg => Quiet.open 54 hg rfl (Q.ld_ep (k := 0) ag3 rfl rfl (by first | exact map_at (by assumption) | exact map_at0 (by assumption) | assumption) rfl))) rfl ?_
        | refine Chain.cons _ (GQ.g rfl rfl rfl rfl rfl (fun hg => Quiet.open 54 hg rfl (Q.ld_ep (k := 1) ag3 rfl rfl (by first | exact map_at (by assumption) | exact map_at0 (by assumption) | assumption) rfl))) rfl ?_
        | refine Chain.cons _ (GQ.g rfl rfl rfl rfl rfl (fun hg => Quiet.open 54 hg rfl (Q.ld_ep (k := 2) ag3 rfl rfl (by first | exact map_at (by assumption) | exact map_at0 (by assumption) | assumption) rfl))) rfl ?_
        | refine Chain.cons _ (GQ.g rfl rfl rfl rfl rfl (fun hg => Quiet.open 54 hg rfl (Q.ld_ep (k := 3) ag3 rfl rfl (by first | exact map_at (by assumption) | exact map_at0 (by assumption) | assumption) rfl))) rfl ?_
        | refine Chain.cons _ (GQ.g rfl rfl rfl rfl rfl (fun hg => Quiet.open 54 hg rfl (Q.ld_ep (k := 4) ag3 rfl rfl (by first | exact map_at (by assumption) | exact map_at0 (by assumption) | assumption) rfl))) rfl ?_
        | refine Chain.cons _ (GQ.g rfl rfl rfl rfl rfl (fun hg => Quiet.open 54 hg rfl (Q.ld_ep (k := 5) ag3 rfl rfl (by first | exact map_at (by assumption) | exact map_at0 (by assumption) | assumption) rfl))) rfl ?_
      first
        | refine Chain.cons _ (GQ.g rfl rfl rfl rfl rfl (fun hg => Quiet.open 49 hg rfl (Quiet.open 50 hg rfl (Q.idx_sl sl46 (by decide) rfl rfl (by first | omega | (simp only [List.length_map]; omega)) (by first | exact map_at (by assumption) | exact map_at0 (by assumption) | assumption))))) rfl ?_
        | refine Chain.cons _ (GQ.g rfl rfl rfl rfl rfl (fun hg => Quiet.open 49 hg rfl (Quiet.open 50 hg rfl (Q.idx_vs (kk := 0) sl46 rfl rfl rfl (by first | omega | (simp at hg; omega)) (by first | omega | (dsimp only; omega)))))) rfl ?_
        | refine Chain.cons _ (GQ.g rfl rfl rfl rfl rfl (fun hg => Quiet.open 49 hg rfl (Quiet.open 50 hg rfl (Q.idx_vs (kk := 1) sl46 rfl rfl rfl (by first | omega | (simp at hg; omega)) (by first | omega | (dsimp only; omega)))))) rfl ?_
        | refine Chain.cons _ (GQ.g rfl rfl rfl rfl rfl (fun hg => Quiet.open 49 hg rfl (Quiet.open 50 hg rfl (Q.idx_vs (kk := 2) sl46 rfl rfl rfl (by first | omega | (simp at hg; omega)) (by first | omega | (dsimp only; omega)))))) rfl ?_
        | refine Chain.cons _ (GQ.g rfl rfl rfl rfl rfl (fun hg => Quiet.open 49 hg rfl (Quiet.open 50 hg rfl (Q.idx_vs (kk := 3) sl46 rfl rfl rfl (by first | omega | (simp at hg; omega)) (by first | omega | (dsimp only; omega)))))) rfl ?_
        | refine Chain.cons _ (GQ.g rfl rfl rfl rfl rfl (fun hg => Quiet.open 49 hg rfl (Quiet.open 50 hg rfl (Q.idx_vs (kk := 4) sl46 rfl rfl rfl (by first | omega | (simp at hg; omega)) (by first | omega | (dsimp only; omega)))))) rfl ?_
        | refine Chain.cons _ (GQ.g rfl rfl rfl rfl rfl (fun hg => Quiet.open 49 hg rfl (Quiet.open 50 hg rfl (Q.idx_vs (kk := 5) sl46 rfl rfl rfl (by first | omega | (simp at hg; omega)) (by first | omega | (dsimp only; omega)))))) rfl ?_
      first
        | refine Chain.cons _ (GQ.g rfl rfl rfl rfl rfl (fun hg => Quiet.open 56 hg rfl (Quiet.open 55 hg rfl (Q.idx_arr ar48 rfl rfl (by first | omega | (simp at hg; omega)) (by first | omega | (simp at hg; omega)))))) rfl ?_
        | refine Chain.cons _ (GQ.g rfl rfl rfl rfl rfl (fun hg => Quiet.open 56 hg rfl (Quiet.open 55 hg rfl (Q.idx_darr ar48 rfl rfl (by first | omega | (simp at hg; omega)) (by first | omega | (simp at hg; omega)))))) rfl ?_
      refine Chain.cons _ (GQ.g rfl rfl rfl rfl rfl (fun hg => Quiet.open 57 hg rfl (Q.ld_dp ag3 rfl hdw))) rfl ?_
      first
        | refine Chain.cons _ (GQ.g rfl rfl rfl rfl rfl (fun hg => Quiet.open 48 hg rfl (Quiet.open 58 hg rfl (Q.geq rfl rfl)))) rfl ?_
        | refine Chain.cons _ (GQ.g rfl rfl rfl rfl rfl (fun hg => Quiet.open 48 hg rfl (Quiet.open 58 hg rfl (Q.geq_str rfl rfl)))) rfl ?_
      first
        | refine Chain.cons _ (GQ.q rfl (Q.pick_and rfl rfl rfl (fun h => by first | (rw [h]; rfl) | (rw [hg, h]; rfl) | (simp [h, hg]; done)))) rfl ?_
        | refine Chain.cons _ (GQ.q rfl (Q.pick_or rfl rfl rfl (fun h => by first | (rw [h]; rfl) | (rw [hg, h]; rfl) | (simp [h, hg]; done)))) rfl ?_
        | refine Chain.cons _ (GQ.q rfl (Q.pick rfl rfl rfl)) rfl ?_
      refine Chain.nil ?_
      first
        | refine XOps.s rfl rfl rfl (Q.assign_d rfl) ?_
        | refine XOps.s rfl rfl rfl (Q.assign_vs rfl) ?_
        | refine XOps.s rfl rfl rfl (Q.assign_ptr rfl) ?_
        | refine XOps.s rfl rfl rfl (Q.assign_nilsl rfl) ?_
        | refine XOps.s rfl rfl rfl (Q.assign_fn rfl) ?_
        | refine XOps.s rfl rfl rfl (Q.assign_tup rfl) ?_
        | refine XOps.s rfl rfl rfl (Q.assign_ep rfl) ?_
        | refine XOps.s rfl rfl rfl (Q.assign_dp rfl) ?_
        | refine XOps.s rfl rfl rfl (Q.assign_dcut rfl) ?_
        | refine XOps.s rfl rfl rfl (Q.assign_aggv rfl) ?_
        | refine XOps.s rfl rfl rfl (Q.assign rfl) ?_
      first
        | refine XOps.s rfl rfl rfl (Q.assign_d rfl) ?_
        | refine XOps.s rfl rfl rfl (Q.assign_vs rfl) ?_
        | refine XOps.s rfl rfl rfl (Q.assign_ptr rfl) ?_
        | refine XOps.s rfl rfl rfl (Q.assign_nilsl rfl) ?_
        | refine XOps.s rfl rfl rfl (Q.assign_fn rfl) ?_
        | refine XOps.s rfl rfl rfl (Q.assign_tup rfl) ?_
        | refine XOps.s rfl rfl rfl (Q.assign_ep rfl) ?_
        | refine XOps.s rfl rfl rfl (Q.assign_dp rfl) ?_
        | refine XOps.s rfl rfl rfl (Q.assign_dcut rfl) ?_
        | refine XOps.s rfl rfl rfl (Q.assign_aggv rfl) ?_
        | refine XOps.s rfl rfl rfl (Q.assign rfl) ?_
      refine XOps.nil ?_
      refine W.ret ?_
      refine ⟨_, hs, rfl, by repeat (first | exact HLe.refl _ | refine HLe.cons' (by first | rfl | (simp [Ev.enc, nE]; done)) ?_ | refine HLe.pick 1 rfl (by first | rfl | (simp [Ev.enc, nE]; done)) ?_ | refine HLe.pick 2 rfl (by first | rfl | (simp [Ev.enc, nE]; done)) ?_ | refine HLe.pick 3 rfl (by first | rfl | (simp [Ev.enc, nE]; done)) ?_ | refine HLe.pick 4 rfl (by first | rfl | (simp [Ev.enc, nE]; done)) ?_ | refine HLe.pick 5 rfl (by first | rfl | (simp [Ev.enc, nE]; done)) ?_ | refine HLe.skip _ ?_), ?_, rfl⟩
      rw [hbe]
      rfl

set_option maxHeartbeats 1000000 in
set_option maxRecDepth 100000 in
theorem cons_c (l : List Ev) (c : Nat → Int) (hs : Hp) (hc0 : checkS l = 0) : AC P 16 [.d (.sl 3 (l.map Ev.enc)), .d (slN (vl c))] hs (fun r h => r = .tup [.d (.bool (consS l c)), .d (.int .i64 0)] ∧ h = hs) := by
  have hw := WF.of hc0
  have hln := hw.len
  have hvn := vecS_len l
  refine AC.of 57 Try.func16 rfl rfl rfl ?_
  refine W.reg ?_
  first
    | refine XOps.s rfl rfl rfl (Q.assign_d rfl) ?_
    | refine XOps.s rfl rfl rfl (Q.assign_vs rfl) ?_
    | refine XOps.s rfl rfl rfl (Q.assign_ptr rfl) ?_
    | refine XOps.s rfl rfl rfl (Q.assign_nilsl rfl) ?_
    | refine XOps.s rfl rfl rfl (Q.assign_fn rfl) ?_
    | refine XOps.s rfl rfl rfl (Q.assign_tup rfl) ?_
    | refine XOps.s rfl rfl rfl (Q.assign_ep rfl) ?_
    | refine XOps.s rfl rfl rfl (Q.assign_dp rfl) ?_
    | refine XOps.s rfl rfl rfl (Q.assign_dcut rfl) ?_
    | refine XOps.s rfl rfl rfl (Q.assign_aggv rfl) ?_
    | refine XOps.s rfl rfl rfl (Q.assign rfl) ?_
  first
    | refine XOps.s rfl rfl rfl (Q.assign_d rfl) ?_
    | refine XOps.s rfl rfl rfl (Q.assign_vs rfl) ?_
    | refine XOps.s rfl rfl rfl (Q.assign_ptr rfl) ?_
    | refine XOps.s rfl rfl rfl (Q.assign_nilsl rfl) ?_
    | refine XOps.s rfl rfl rfl (Q.assign_fn rfl) ?_
    | refine XOps.s rfl rfl rfl (Q.assign_tup rfl) ?_
    | refine XOps.s rfl rfl rfl (Q.assign_ep rfl) ?_
    | refine XOps.s rfl rfl rfl (Q.assign_dp rfl) ?_
    | refine XOps.s rfl rfl rfl (Q.assign_dcut rfl) ?_
    | refine XOps.s rfl rfl rfl (Q.assign_aggv rfl) ?_
    | refine XOps.s rfl rfl rfl (Q.assign rfl) ?_
  refine XOps.nil ?_
  refine W.seq ?_
  refine W.reg ?_
  first
    | refine XOps.s rfl rfl rfl (Q.move_d rfl) ?_
    | refine XOps.s rfl rfl rfl (Q.move_vs rfl) ?_
    | refine XOps.s rfl rfl rfl (Q.move_ptr rfl) ?_
    | refine XOps.s rfl rfl rfl (Q.move_nilsl rfl) ?_
    | refine XOps.s rfl rfl rfl (Q.move_fn rfl) ?_
    | refine XOps.s rfl rfl rfl (Q.move_tup rfl) ?_
    | refine XOps.s rfl rfl rfl (Q.move_ep rfl) ?_
    | refine XOps.s rfl rfl rfl (Q.move_dp rfl) ?_
    | refine XOps.s rfl rfl rfl (Q.move_dcut rfl) ?_
    | refine XOps.s rfl rfl rfl (Q.move_aggv rfl) ?_
    | refine XOps.s rfl rfl rfl (Q.move rfl) ?_
  refine XOps.s rfl rfl rfl (Q.call rfl Try.func20 go20 rfl (check_c l _ (by omega))) ?_
  first
    | refine XOps.s rfl rfl rfl (Q.assign_d rfl) ?_
    | refine XOps.s rfl rfl rfl (Q.assign_vs rfl) ?_
    | refine XOps.s rfl rfl rfl (Q.assign_ptr rfl) ?_
    | refine XOps.s rfl rfl rfl (Q.assign_nilsl rfl) ?_
    | refine XOps.s rfl rfl rfl (Q.assign_fn rfl) ?_
    | refine XOps.s rfl rfl rfl (Q.assign_tup rfl) ?_
    | refine XOps.s rfl rfl rfl (Q.assign_ep rfl) ?_
    | refine XOps.s rfl rfl rfl (Q.assign_dp rfl) ?_
    | refine XOps.s rfl rfl rfl (Q.assign_dcut rfl) ?_
    | refine XOps.s rfl rfl rfl (Q.assign_aggv rfl) ?_
    | refine XOps.s rfl rfl rfl (Q.assign rfl) ?_
  refine XOps.nil ?_
  refine W.reg ?_
  first
    | refine XOps.s rfl rfl rfl (Q.move_d rfl) ?_
    | refine XOps.s rfl rfl rfl (Q.move_vs rfl) ?_
    | refine XOps.s rfl rfl rfl (Q.move_ptr rfl) ?_
    | refine XOps.s rfl rfl rfl (Q.move_nilsl rfl) ?_
    | refine XOps.s rfl rfl rfl (Q.move_fn rfl) ?_
    | refine XOps.s rfl rfl rfl (Q.move_tup rfl) ?_
    | refine XOps.s rfl rfl rfl (Q.move_ep rfl) ?_
    | refine XOps.s rfl rfl rfl (Q.move_dp rfl) ?_
    | refine XOps.s rfl rfl rfl (Q.move_dcut rfl) ?_
    | refine XOps.s rfl rfl rfl (Q.move_aggv rfl) ?_
    | refine XOps.s rfl rfl rfl (Q.move rfl) ?_
  first
    | refine XOps.s rfl rfl rfl (Q.neq rfl rfl) ?_
    | refine XOps.s rfl rfl rfl (Q.neq_str rfl rfl) ?_
  refine XOps.nil ?_
  refine W.cond rfl (fun hc14 => ?_) (fun hc14 => ?_)
  · try simp only [Bool.or_eq_true, Bool.or_eq_false_iff, Bool.and_eq_true, Bool.and_eq_false_iff, decide_eq_true_eq, decide_eq_false_iff_not, Bool.not_eq_true', Bool.not_eq_false', Int.not_lt, Int.not_le, List.length_map] at hc14
    exact absurd hc0 (by omega)
  · try simp only [Bool.or_eq_true, Bool.or_eq_false_iff, Bool.and_eq_true, Bool.and_eq_false_iff, decide_eq_true_eq, decide_eq_false_iff_not, Bool.not_eq_true', Bool.not_eq_false', Int.not_lt, Int.not_le, List.length_map] at hc14
    refine W.skip ?_
    refine W.seq ?_
    refine W.reg ?_
    first
      | refine XOps.s rfl rfl rfl (Q.move_d rfl) ?_
      | refine XOps.s rfl rfl rfl (Q.move_vs rfl) ?_
      | refine XOps.s rfl rfl rfl (Q.move_ptr rfl) ?_
      | refine XOps.s rfl rfl rfl (Q.move_nilsl rfl) ?_
      | refine XOps.s rfl rfl rfl (Q.move_fn rfl) ?_
      | refine XOps.s rfl rfl rfl (Q.move_tup rfl) ?_
      | refine XOps.s rfl rfl rfl (Q.move_ep rfl) ?_
      | refine XOps.s rfl rfl rfl (Q.move_dp rfl) ?_
      | refine XOps.s rfl rfl rfl (Q.move_dcut rfl) ?_
      | refine XOps.s rfl rfl rfl (Q.move_aggv rfl) ?_
      | refine XOps.s rfl rfl rfl (Q.move rfl) ?_
    first
      | refine XOps.s rfl rfl rfl (Q.len_sl isl22 rfl) ?_
      | refine XOps.s rfl rfl rfl (Q.len_vs isl22 rfl) ?_
      | refine XOps.s rfl rfl rfl (Q.len_nil isl22 rfl) ?_
      | refine XOps.s rfl rfl rfl (Q.len_dcut isl22 rfl) ?_
    first
      | refine XOps.s rfl rfl rfl (Q.neq rfl rfl) ?_
      | refine XOps.s rfl rfl rfl (Q.neq_str rfl rfl) ?_
    refine XOps.nil ?_
    refine W.cond rfl (fun hc18 => ?_) (fun hc18 => ?_)
    · try simp only [Bool.or_eq_true, Bool.or_eq_false_iff, Bool.and_eq_true, Bool.and_eq_false_iff, decide_eq_true_eq, decide_eq_false_iff_not, Bool.not_eq_true', Bool.not_eq_false', Int.not_lt, Int.not_le, List.length_map] at hc18
      exact absurd hc18 (by simp [vl_len])
    · try simp only [Bool.or_eq_true, Bool.or_eq_false_iff, Bool.and_eq_true, Bool.and_eq_false_iff, decide_eq_true_eq, decide_eq_false_iff_not, Bool.not_eq_true', Bool.not_eq_false', Int.not_lt, Int.not_le, List.length_map] at hc18
      refine W.skip ?_
      refine W.seq ?_
      refine W.reg ?_
      first
        | refine XOps.s rfl rfl rfl (Q.move_d rfl) ?_
        | refine XOps.s rfl rfl rfl (Q.move_vs rfl) ?_
        | refine XOps.s rfl rfl rfl (Q.move_ptr rfl) ?_
        | refine XOps.s rfl rfl rfl (Q.move_nilsl rfl) ?_
        | refine XOps.s rfl rfl rfl (Q.move_fn rfl) ?_
        | refine XOps.s rfl rfl rfl (Q.move_tup rfl) ?_
        | refine XOps.s rfl rfl rfl (Q.move_ep rfl) ?_
        | refine XOps.s rfl rfl rfl (Q.move_dp rfl) ?_
        | refine XOps.s rfl rfl rfl (Q.move_dcut rfl) ?_
        | refine XOps.s rfl rfl rfl (Q.move_aggv rfl) ?_
        | refine XOps.s rfl rfl rfl (Q.move rfl) ?_
      refine XOps.s rfl rfl rfl (Q.call rfl Try.func21 go21 rfl (vectors_c l _ hw)) ?_
      first
        | refine XOps.s rfl rfl rfl (Q.len_sl isl46 rfl) ?_
        | refine XOps.s rfl rfl rfl (Q.len_vs isl46 rfl) ?_
        | refine XOps.s rfl rfl rfl (Q.len_nil isl46 rfl) ?_
        | refine XOps.s rfl rfl rfl (Q.len_dcut isl46 rfl) ?_
      first
        | refine XOps.s rfl rfl rfl (Q.move_d rfl) ?_
        | refine XOps.s rfl rfl rfl (Q.move_vs rfl) ?_
        | refine XOps.s rfl rfl rfl (Q.move_ptr rfl) ?_
        | refine XOps.s rfl rfl rfl (Q.move_nilsl rfl) ?_
        | refine XOps.s rfl rfl rfl (Q.move_fn rfl) ?_
        | refine XOps.s rfl rfl rfl (Q.move_tup rfl) ?_
        | refine XOps.s rfl rfl rfl (Q.move_ep rfl) ?_
        | refine XOps.s rfl rfl rfl (Q.move_dp rfl) ?_
        | refine XOps.s rfl rfl rfl (Q.move_dcut rfl) ?_
        | refine XOps.s rfl rfl rfl (Q.move_aggv rfl) ?_
        | refine XOps.s rfl rfl rfl (Q.move rfl) ?_
      refine XOps.nil ?_
      refine W.block ?_
      refine W.loop (ι := Nat) (fun k => [(0, .d (.sl 3 (l.map Ev.enc))), (1, .d (slN (vl c))), (20, .d (.sl 8 ((vecS l).map vD))), (21, .d (.int .i64 (vecS l).length)), (22, .d (.int .i64 (k : Nat)))]) (fun k => hs) (fun k => k ≤ (vecS l).length ∧ ∀ (i : Nat) w x, i < k → (vecS l)[i]? = some w → l[i]? = some x → consAt c w x) (fun k => (vecS l).length - k) 0 ?_ ?_ ?_ ?_
      · exact ⟨Nat.zero_le _, fun i w x h => absurd h (Nat.not_lt_zero _)⟩
      · exact ⟨by first | rfl | exact int_eq (by omega) | exact len_eq (by simp) | exact int_eq (by simp; done), by first | rfl | exact int_eq (by omega) | exact len_eq (by simp) | exact int_eq (by simp; done), by first | rfl | exact int_eq (by omega) | exact len_eq (by simp) | exact int_eq (by simp; done), by first | rfl | exact int_eq (by omega) | exact len_eq (by simp) | exact int_eq (by simp; done), by first | rfl | exact int_eq (by omega) | exact len_eq (by simp) | exact int_eq (by simp; done), trivial⟩
      · exact HLe.refl _
      · rintro k ⟨hk, hI⟩
        try dsimp only
        refine W.reg ?_
        first
          | refine XOps.s rfl rfl rfl (Q.lss rfl rfl) ?_
          | refine XOps.s rfl rfl rfl (Q.lss_str rfl rfl) ?_
        refine XOps.nil ?_
        refine W.seq ?_
        refine W.cond rfl (fun hc23 => ?_) (fun hc23 => ?_)
        · try simp only [Bool.or_eq_true, Bool.or_eq_false_iff, Bool.and_eq_true, Bool.and_eq_false_iff, decide_eq_true_eq, decide_eq_false_iff_not, Bool.not_eq_true', Bool.not_eq_false', Int.not_lt, Int.not_le, List.length_map] at hc23
          obtain ⟨x, hx⟩ : ∃ x, l[k]? = some x := ⟨_, List.getElem?_eq_getElem (by omega)⟩
          obtain ⟨v, hv⟩ : ∃ v, (vecS l)[k]? = some v := ⟨_, List.getElem?_eq_getElem (by omega)⟩
          have hsb := hw.site k x hx
          have hs8 : x.site.toNat < 8 := by omega
          have hcell : (cellsI 8 v)[0 + x.site.toNat * 1]? = some (.d (.int .i64 (v x.site.toNat))) := by rw [show 0 + x.site.toNat * 1 = x.site.toNat by omega]; exact cellsI_at _ hs8
          have hcut : ((vl c).map nE)[x.site.toNat]? = some (nE (c x.site.toNat)) := by rw [List.getElem?_map, vl_at _ hs8]; rfl
          refine W.skip ?_
          refine W.seq ?_
          refine W.block ?_
          refine W.reg ?_
          first
            | refine XOps.s rfl rfl rfl (Q.move_d rfl) ?_
            | refine XOps.s rfl rfl rfl (Q.move_vs rfl) ?_
            | refine XOps.s rfl rfl rfl (Q.move_ptr rfl) ?_
            | refine XOps.s rfl rfl rfl (Q.move_nilsl rfl) ?_
            | refine XOps.s rfl rfl rfl (Q.move_fn rfl) ?_
            | refine XOps.s rfl rfl rfl (Q.move_tup rfl) ?_
            | refine XOps.s rfl rfl rfl (Q.move_ep rfl) ?_
            | refine XOps.s rfl rfl rfl (Q.move_dp rfl) ?_
            | refine XOps.s rfl rfl rfl (Q.move_dcut rfl) ?_
            | refine XOps.s rfl rfl rfl (Q.move_aggv rfl) ?_
            | refine XOps.s rfl rfl rfl (Q.move rfl) ?_
          first
            | refine XOps.s rfl rfl rfl (Q.idx_sl sl46 (by decide) rfl rfl (by first | omega | (simp only [List.length_map]; omega)) (by first | exact map_at (by assumption) | exact map_at0 (by assumption) | assumption)) ?_
            | refine XOps.s rfl rfl rfl (Q.idx_vs (kk := 0) sl46 rfl rfl rfl (by first | omega | (simp at hg; omega)) (by first | omega | (dsimp only; omega))) ?_
            | refine XOps.s rfl rfl rfl (Q.idx_vs (kk := 1) sl46 rfl rfl rfl (by first | omega | (simp at hg; omega)) (by first | omega | (dsimp only; omega))) ?_
            | refine XOps.s rfl rfl rfl (Q.idx_vs (kk := 2) sl46 rfl rfl rfl (by first | omega | (simp at hg; omega)) (by first | omega | (dsimp only; omega))) ?_
            | refine XOps.s rfl rfl rfl (Q.idx_vs (kk := 3) sl46 rfl rfl rfl (by first | omega | (simp at hg; omega)) (by first | omega | (dsimp only; omega))) ?_
            | refine XOps.s rfl rfl rfl (Q.idx_vs (kk := 4) sl46 rfl rfl rfl (by first | omega | (simp at hg; omega)) (by first | omega | (dsimp only; omega))) ?_
            | refine XOps.s rfl rfl rfl (Q.idx_vs (kk := 5) sl46 rfl rfl rfl (by first | omega | (simp at hg; omega)) (by first | omega | (dsimp only; omega))) ?_
          first
            | refine XOps.s rfl rfl rfl (Q.ld_dpn ag48 rfl rfl) ?_
            | refine XOps.s rfl rfl rfl (Q.ld_ptrn (k := 0) ag48 rfl rfl rfl) ?_
            | refine XOps.s rfl rfl rfl (Q.ld_ptrv (k := 0) ag48 rfl rfl rfl) ?_
            | refine XOps.s rfl rfl rfl (Q.ld_ptrn (k := 1) ag48 rfl rfl rfl) ?_
            | refine XOps.s rfl rfl rfl (Q.ld_ptrv (k := 1) ag48 rfl rfl rfl) ?_
            | refine XOps.s rfl rfl rfl (Q.ld_ptrn (k := 2) ag48 rfl rfl rfl) ?_
            | refine XOps.s rfl rfl rfl (Q.ld_ptrv (k := 2) ag48 rfl rfl rfl) ?_
            | refine XOps.s rfl rfl rfl (Q.ld_ptrn (k := 3) ag48 rfl rfl rfl) ?_
            | refine XOps.s rfl rfl rfl (Q.ld_ptrv (k := 3) ag48 rfl rfl rfl) ?_
            | refine XOps.s rfl rfl rfl (Q.ld_ptrn (k := 4) ag48 rfl rfl rfl) ?_
            | refine XOps.s rfl rfl rfl (Q.ld_ptrv (k := 4) ag48 rfl rfl rfl) ?_
            | refine XOps.s rfl rfl rfl (Q.ld_ptrn (k := 5) ag48 rfl rfl rfl) ?_
            | refine XOps.s rfl rfl rfl (Q.ld_ptrv (k := 5) ag48 rfl rfl rfl) ?_
            | refine XOps.s rfl rfl rfl (Q.ld_epn (k := 0) ag48 rfl rfl (by first | exact map_at (by assumption) | exact map_at0 (by assumption) | assumption) rfl) ?_
            | refine XOps.s rfl rfl rfl (Q.ld_epn (k := 1) ag48 rfl rfl (by first | exact map_at (by assumption) | exact map_at0 (by assumption) | assumption) rfl) ?_
            | refine XOps.s rfl rfl rfl (Q.ld_epn (k := 2) ag48 rfl rfl (by first | exact map_at (by assumption) | exact map_at0 (by assumption) | assumption) rfl) ?_
            | refine XOps.s rfl rfl rfl (Q.ld_epn (k := 3) ag48 rfl rfl (by first | exact map_at (by assumption) | exact map_at0 (by assumption) | assumption) rfl) ?_
            | refine XOps.s rfl rfl rfl (Q.ld_epn (k := 4) ag48 rfl rfl (by first | exact map_at (by assumption) | exact map_at0 (by assumption) | assumption) rfl) ?_
            | refine XOps.s rfl rfl rfl (Q.ld_epn (k := 5) ag48 rfl rfl (by first | exact map_at (by assumption) | exact map_at0 (by assumption) | assumption) rfl) ?_
          (refine XOps.loud rfl (L.alloc tz48 rfl rfl) ?_; rintro _ _ ⟨b8, rfl, rfl⟩)
          first
            | refine XOps.s rfl rfl rfl (Q.assign_d rfl) ?_
            | refine XOps.s rfl rfl rfl (Q.assign_vs rfl) ?_
            | refine XOps.s rfl rfl rfl (Q.assign_ptr rfl) ?_
            | refine XOps.s rfl rfl rfl (Q.assign_nilsl rfl) ?_
            | refine XOps.s rfl rfl rfl (Q.assign_fn rfl) ?_
            | refine XOps.s rfl rfl rfl (Q.assign_tup rfl) ?_
            | refine XOps.s rfl rfl rfl (Q.assign_ep rfl) ?_
            | refine XOps.s rfl rfl rfl (Q.assign_dp rfl) ?_
            | refine XOps.s rfl rfl rfl (Q.assign_dcut rfl) ?_
            | refine XOps.s rfl rfl rfl (Q.assign_aggv rfl) ?_
            | refine XOps.s rfl rfl rfl (Q.assign rfl) ?_
          first
            | (refine XOps.loud rfl (L.storen (k := 0) ag48 rfl rfl rfl rfl rfl) ?_; rintro _ _ ⟨rfl, rfl⟩)
            | (refine XOps.loud rfl (L.storev (k := 0) ag48 rfl rfl rfl rfl rfl) ?_; rintro _ _ ⟨rfl, rfl⟩)
            | (refine XOps.loud rfl (L.storen (k := 1) ag48 rfl rfl rfl rfl rfl) ?_; rintro _ _ ⟨rfl, rfl⟩)
            | (refine XOps.loud rfl (L.storev (k := 1) ag48 rfl rfl rfl rfl rfl) ?_; rintro _ _ ⟨rfl, rfl⟩)
            | (refine XOps.loud rfl (L.storen (k := 2) ag48 rfl rfl rfl rfl rfl) ?_; rintro _ _ ⟨rfl, rfl⟩)
            | (refine XOps.loud rfl (L.storev (k := 2) ag48 rfl rfl rfl rfl rfl) ?_; rintro _ _ ⟨rfl, rfl⟩)
            | (refine XOps.loud rfl (L.storen (k := 3) ag48 rfl rfl rfl rfl rfl) ?_; rintro _ _ ⟨rfl, rfl⟩)
            | (refine XOps.loud rfl (L.storev (k := 3) ag48 rfl rfl rfl rfl rfl) ?_; rintro _ _ ⟨rfl, rfl⟩)
            | (refine XOps.loud rfl (L.storen (k := 4) ag48 rfl rfl rfl rfl rfl) ?_; rintro _ _ ⟨rfl, rfl⟩)
            | (refine XOps.loud rfl (L.storev (k := 4) ag48 rfl rfl rfl rfl rfl) ?_; rintro _ _ ⟨rfl, rfl⟩)
            | (refine XOps.loud rfl (L.storen (k := 5) ag48 rfl rfl rfl rfl rfl) ?_; rintro _ _ ⟨rfl, rfl⟩)
            | (refine XOps.loud rfl (L.storev (k := 5) ag48 rfl rfl rfl rfl rfl) ?_; rintro _ _ ⟨rfl, rfl⟩)
            | (refine XOps.loud rfl (L.storen_ep (k := 0) ag48 rfl rfl (by first | exact map_at (by assumption) | exact map_at0 (by assumption) | assumption) rfl rfl rfl) ?_; rintro _ _ ⟨rfl, rfl⟩)
            | (refine XOps.loud rfl (L.storen_ep (k := 1) ag48 rfl rfl (by first | exact map_at (by assumption) | exact map_at0 (by assumption) | assumption) rfl rfl rfl) ?_; rintro _ _ ⟨rfl, rfl⟩)
            | (refine XOps.loud rfl (L.storen_ep (k := 2) ag48 rfl rfl (by first | exact map_at (by assumption) | exact map_at0 (by assumption) | assumption) rfl rfl rfl) ?_; rintro _ _ ⟨rfl, rfl⟩)
            | (refine XOps.loud rfl (L.storen_ep (k := 3) ag48 rfl rfl (by first | exact map_at (by assumption) | exact map_at0 (by assumption) | assumption) rfl rfl rfl) ?_; rintro _ _ ⟨rfl, rfl⟩)
            | (refine XOps.loud rfl (L.storen_ep (k := 4) ag48 rfl rfl (by first | exact map_at (by assumption) | exact map_at0 (by assumption) | assumption) rfl rfl rfl) ?_; rintro _ _ ⟨rfl, rfl⟩)
            | (refine XOps.loud rfl (L.storen_ep (k := 5) ag48 rfl rfl (by first | exact map_at (by assumption) | exact map_at0 (by assumption) | assumption) rfl rfl rfl) ?_; rintro _ _ ⟨rfl, rfl⟩)
          refine XOps.nil ?_
          refine W.heap ((b8, .cells (cellsI 8 v)) :: hs) (HLe.cons' (by rfl) (HLe.refl _)) ?_
          refine W.seq ?_
          refine W.drawreg 16 follows (by kernel_rfl) ?_
          first
            | refine Chain.cons _ (GQ.q rfl (Q.move_d rfl)) rfl ?_
            | refine Chain.cons _ (GQ.q rfl (Q.move_vs rfl)) rfl ?_
            | refine Chain.cons _ (GQ.q rfl (Q.move_ptr rfl)) rfl ?_
            | refine Chain.cons _ (GQ.q rfl (Q.move_nilsl rfl)) rfl ?_
            | refine Chain.cons _ (GQ.q rfl (Q.move_fn rfl)) rfl ?_
            | refine Chain.cons _ (GQ.q rfl (Q.move_tup rfl)) rfl ?_
            | refine Chain.cons _ (GQ.q rfl (Q.move_ep rfl)) rfl ?_
            | refine Chain.cons _ (GQ.q rfl (Q.move_dp rfl)) rfl ?_
            | refine Chain.cons _ (GQ.q rfl (Q.move_dcut rfl)) rfl ?_
            | refine Chain.cons _ (GQ.q rfl (Q.move_aggv rfl)) rfl ?_
            | refine Chain.cons _ (GQ.q rfl (Q.move rfl)) rfl ?_
          first
            | refine Chain.cons _ (GQ.q rfl (Q.move_d rfl)) rfl ?_
            | refine Chain.cons _ (GQ.q rfl (Q.move_vs rfl)) rfl ?_
            | refine Chain.cons _ (GQ.q rfl (Q.move_ptr rfl)) rfl ?_
            | refine Chain.cons _ (GQ.q rfl (Q.move_nilsl rfl)) rfl ?_
            | refine Chain.cons _ (GQ.q rfl (Q.move_fn rfl)) rfl ?_
            | refine Chain.cons _ (GQ.q rfl (Q.move_tup rfl)) rfl ?_
            | refine Chain.cons _ (GQ.q rfl (Q.move_ep rfl)) rfl ?_
            | refine Chain.cons _ (GQ.q rfl (Q.move_dp rfl)) rfl ?_
            | refine Chain.cons _ (GQ.q rfl (Q.move_dcut rfl)) rfl ?_
            | refine Chain.cons _ (GQ.q rfl (Q.move_aggv rfl)) rfl ?_
            | refine Chain.cons _ (GQ.q rfl (Q.move rfl)) rfl ?_
          first
            | refine Chain.cons _ (GQ.q rfl (Q.idx_sl sl23 (by decide) rfl rfl (by first | omega | (simp only [List.length_map]; omega)) (by first | exact map_at (by assumption) | exact map_at0 (by assumption) | assumption))) rfl ?_
            | refine Chain.cons _ (GQ.q rfl (Q.idx_vs (kk := 0) sl23 rfl rfl rfl (by first | omega | (simp at hg; omega)) (by first | omega | (dsimp only; omega)))) rfl ?_
            | refine Chain.cons _ (GQ.q rfl (Q.idx_vs (kk := 1) sl23 rfl rfl rfl (by first | omega | (simp at hg; omega)) (by first | omega | (dsimp only; omega)))) rfl ?_
            | refine Chain.cons _ (GQ.q rfl (Q.idx_vs (kk := 2) sl23 rfl rfl rfl (by first | omega | (simp at hg; omega)) (by first | omega | (dsimp only; omega)))) rfl ?_
            | refine Chain.cons _ (GQ.q rfl (Q.idx_vs (kk := 3) sl23 rfl rfl rfl (by first | omega | (simp at hg; omega)) (by first | omega | (dsimp only; omega)))) rfl ?_
            | refine Chain.cons _ (GQ.q rfl (Q.idx_vs (kk := 4) sl23 rfl rfl rfl (by first | omega | (simp at hg; omega)) (by first | omega | (dsimp only; omega)))) rfl ?_
            | refine Chain.cons _ (GQ.q rfl (Q.idx_vs (kk := 5) sl23 rfl rfl rfl (by first | omega | (simp at hg; omega)) (by first | omega | (dsimp only; omega)))) rfl ?_
          first
            | refine Chain.cons _ (GQ.q rfl (Q.fld_ptr fl26_0 rfl)) rfl ?_
            | refine Chain.cons _ (GQ.q rfl (Q.fld_dp fl26_0 rfl)) rfl ?_
            | refine Chain.cons _ (GQ.q rfl (Q.fld_ep fl26_0 rfl)) rfl ?_
          first
            | refine Chain.cons _ (GQ.q rfl (Q.ld_dp ag3 rfl rfl)) rfl ?_
            | refine Chain.cons _ (GQ.q rfl (Q.ld_ptr (k := 0) ag3 rfl rfl rfl)) rfl ?_
            | refine Chain.cons _ (GQ.q rfl (Q.ld_ptr (k := 1) ag3 rfl rfl rfl)) rfl ?_
            | refine Chain.cons _ (GQ.q rfl (Q.ld_ptr (k := 2) ag3 rfl rfl rfl)) rfl ?_
            | refine Chain.cons _ (GQ.q rfl (Q.ld_ptr (k := 3) ag3 rfl rfl rfl)) rfl ?_
            | refine Chain.cons _ (GQ.q rfl (Q.ld_ptr (k := 4) ag3 rfl rfl rfl)) rfl ?_
            | refine Chain.cons _ (GQ.q rfl (Q.ld_ptr (k := 5) ag3 rfl rfl rfl)) rfl ?_
            | refine Chain.cons _ (GQ.q rfl (Q.ld_ep (k := 0) ag3 rfl rfl (by first | exact map_at (by assumption) | exact map_at0 (by assumption) | assumption) rfl)) rfl ?_
            | refine Chain.cons _ (GQ.q rfl (Q.ld_ep (k := 1) ag3 rfl rfl (by first | exact map_at (by assumption) | exact map_at0 (by assumption) | assumption) rfl)) rfl ?_
            | refine Chain.cons _ (GQ.q rfl (Q.ld_ep (k := 2) ag3 rfl rfl (by first | exact map_at (by assumption) | exact map_at0 (by assumption) | assumption) rfl)) rfl ?_
            | refine Chain.cons _ (GQ.q rfl (Q.ld_ep (k := 3) ag3 rfl rfl (by first | exact map_at (by assumption) | exact map_at0 (by assumption) | assumption) rfl)) rfl ?_
            | refine Chain.cons _ (GQ.q rfl (Q.ld_ep (k := 4) ag3 rfl rfl (by first | exact map_at (by assumption) | exact map_at0 (by assumption) | assumption) rfl)) rfl ?_
            | refine Chain.cons _ (GQ.q rfl (Q.ld_ep (k := 5) ag3 rfl rfl (by first | exact map_at (by assumption) | exact map_at0 (by assumption) | assumption) rfl)) rfl ?_
          first
            | refine Chain.cons _ (GQ.q rfl (Q.idx_arr ar48 rfl rfl (by first | omega | (simp at hg; omega)) (by first | omega | (simp at hg; omega)))) rfl ?_
            | refine Chain.cons _ (GQ.q rfl (Q.idx_darr ar48 rfl rfl (by first | omega | (simp at hg; omega)) (by first | omega | (simp at hg; omega)))) rfl ?_
          refine Chain.cons _ (GQ.q rfl (Q.ld_ptr (k := 0) ag3 rfl rfl hcell)) rfl ?_
          first
            | refine Chain.cons _ (GQ.q rfl (Q.move_d rfl)) rfl ?_
            | refine Chain.cons _ (GQ.q rfl (Q.move_vs rfl)) rfl ?_
            | refine Chain.cons _ (GQ.q rfl (Q.move_ptr rfl)) rfl ?_
            | refine Chain.cons _ (GQ.q rfl (Q.move_nilsl rfl)) rfl ?_
            | refine Chain.cons _ (GQ.q rfl (Q.move_fn rfl)) rfl ?_
            | refine Chain.cons _ (GQ.q rfl (Q.move_tup rfl)) rfl ?_
            | refine Chain.cons _ (GQ.q rfl (Q.move_ep rfl)) rfl ?_
            | refine Chain.cons _ (GQ.q rfl (Q.move_dp rfl)) rfl ?_
            | refine Chain.cons _ (GQ.q rfl (Q.move_dcut rfl)) rfl ?_
            | refine Chain.cons _ (GQ.q rfl (Q.move_aggv rfl)) rfl ?_
            | refine Chain.cons _ (GQ.q rfl (Q.move rfl)) rfl ?_
          first
            | refine Chain.cons _ (GQ.q rfl (Q.move_d rfl)) rfl ?_
            | refine Chain.cons _ (GQ.q rfl (Q.move_vs rfl)) rfl ?_
            | refine Chain.cons _ (GQ.q rfl (Q.move_ptr rfl)) rfl ?_
            | refine Chain.cons _ (GQ.q rfl (Q.move_nilsl rfl)) rfl ?_
            | refine Chain.cons _ (GQ.q rfl (Q.move_fn rfl)) rfl ?_
            | refine Chain.cons _ (GQ.q rfl (Q.move_tup rfl)) rfl ?_
            | refine Chain.cons _ (GQ.q rfl (Q.move_ep rfl)) rfl ?_
            | refine Chain.cons _ (GQ.q rfl (Q.move_dp rfl)) rfl ?_
            | refine Chain.cons _ (GQ.q rfl (Q.move_dcut rfl)) rfl ?_
            | refine Chain.cons _ (GQ.q rfl (Q.move_aggv rfl)) rfl ?_
            | refine Chain.cons _ (GQ.q rfl (Q.move rfl)) rfl ?_
          first
            | refine Chain.cons _ (GQ.q rfl (Q.move_d rfl)) rfl ?_
            | refine Chain.cons _ (GQ.q rfl (Q.move_vs rfl)) rfl ?_
            | refine Chain.cons _ (GQ.q rfl (Q.move_ptr rfl)) rfl ?_
            | refine Chain.cons _ (GQ.q rfl (Q.move_nilsl rfl)) rfl ?_
            | refine Chain.cons _ (GQ.q rfl (Q.move_fn rfl)) rfl ?_
            | refine Chain.cons _ (GQ.q rfl (Q.move_tup rfl)) rfl ?_
            | refine Chain.cons _ (GQ.q rfl (Q.move_ep rfl)) rfl ?_
            | refine Chain.cons _ (GQ.q rfl (Q.move_dp rfl)) rfl ?_
            | refine Chain.cons _ (GQ.q rfl (Q.move_dcut rfl)) rfl ?_
            | refine Chain.cons _ (GQ.q rfl (Q.move_aggv rfl)) rfl ?_
            | refine Chain.cons _ (GQ.q rfl (Q.move rfl)) rfl ?_
          first
            | refine Chain.cons _ (GQ.q rfl (Q.idx_sl sl23 (by decide) rfl rfl (by first | omega | (simp only [List.length_map]; omega)) (by first | exact map_at (by assumption) | exact map_at0 (by assumption) | assumption))) rfl ?_
            | refine Chain.cons _ (GQ.q rfl (Q.idx_vs (kk := 0) sl23 rfl rfl rfl (by first | omega | (simp at hg; omega)) (by first | omega | (dsimp only; omega)))) rfl ?_
            | refine Chain.cons _ (GQ.q rfl (Q.idx_vs (kk := 1) sl23 rfl rfl rfl (by first | omega | (simp at hg; omega)) (by first | omega | (dsimp only; omega)))) rfl ?_
            | refine Chain.cons _ (GQ.q rfl (Q.idx_vs (kk := 2) sl23 rfl rfl rfl (by first | omega | (simp at hg; omega)) (by first | omega | (dsimp only; omega)))) rfl ?_
            | refine Chain.cons _ (GQ.q rfl (Q.idx_vs (kk := 3) sl23 rfl rfl rfl (by first | omega | (simp at hg; omega)) (by first | omega | (dsimp only; omega)))) rfl ?_
            | refine Chain.cons _ (GQ.q rfl (Q.idx_vs (kk := 4) sl23 rfl rfl rfl (by first | omega | (simp at hg; omega)) (by first | omega | (dsimp only; omega)))) rfl ?_
            | refine Chain.cons _ (GQ.q rfl (Q.idx_vs (kk := 5) sl23 rfl rfl rfl (by first | omega | (simp at hg; omega)) (by first | omega | (dsimp only; omega)))) rfl ?_
          first
            | refine Chain.cons _ (GQ.q rfl (Q.fld_ptr fl26_0 rfl)) rfl ?_
            | refine Chain.cons _ (GQ.q rfl (Q.fld_dp fl26_0 rfl)) rfl ?_
            | refine Chain.cons _ (GQ.q rfl (Q.fld_ep fl26_0 rfl)) rfl ?_
          first
            | refine Chain.cons _ (GQ.q rfl (Q.ld_dp ag3 rfl rfl)) rfl ?_
            | refine Chain.cons _ (GQ.q rfl (Q.ld_ptr (k := 0) ag3 rfl rfl rfl)) rfl ?_
            | refine Chain.cons _ (GQ.q rfl (Q.ld_ptr (k := 1) ag3 rfl rfl rfl)) rfl ?_
            | refine Chain.cons _ (GQ.q rfl (Q.ld_ptr (k := 2) ag3 rfl rfl rfl)) rfl ?_
            | refine Chain.cons _ (GQ.q rfl (Q.ld_ptr (k := 3) ag3 rfl rfl rfl)) rfl ?_
            | refine Chain.cons _ (GQ.q rfl (Q.ld_ptr (k := 4) ag3 rfl rfl rfl)) rfl ?_
            | refine Chain.cons _ (GQ.q rfl (Q.ld_ptr (k := 5) ag3 rfl rfl rfl)) rfl ?_
            | refine Chain.cons _ (GQ.q rfl (Q.ld_ep (k := 0) ag3 rfl rfl (by first | exact map_at (by assumption) | exact map_at0 (by assumption) | assumption) rfl)) rfl ?_
            | refine Chain.cons _ (GQ.q rfl (Q.ld_ep (k := 1) ag3 rfl rfl (by first | exact map_at (by assumption) | exact map_at0 (by assumption) | assumption) rfl)) rfl ?_
            | refine Chain.cons _ (GQ.q rfl (Q.ld_ep (k := 2) ag3 rfl rfl (by first | exact map_at (by assumption) | exact map_at0 (by assumption) | assumption) rfl)) rfl ?_
            | refine Chain.cons _ (GQ.q rfl (Q.ld_ep (k := 3) ag3 rfl rfl (by first | exact map_at (by assumption) | exact map_at0 (by assumption) | assumption) rfl)) rfl ?_
            | refine Chain.cons _ (GQ.q rfl (Q.ld_ep (k := 4) ag3 rfl rfl (by first | exact map_at (by assumption) | exact map_at0 (by assumption) | assumption) rfl)) rfl ?_
            | refine Chain.cons _ (GQ.q rfl (Q.ld_ep (k := 5) ag3 rfl rfl (by first | exact map_at (by assumption) | exact map_at0 (by assumption) | assumption) rfl)) rfl ?_
          refine Chain.cons _ (GQ.q rfl (Q.idx_sl sl22 (by decide) rfl rfl (by omega) hcut)) rfl ?_
          first
            | refine Chain.cons _ (GQ.q rfl (Q.ld_dp ag3 rfl rfl)) rfl ?_
            | refine Chain.cons _ (GQ.q rfl (Q.ld_ptr (k := 0) ag3 rfl rfl rfl)) rfl ?_
            | refine Chain.cons _ (GQ.q rfl (Q.ld_ptr (k := 1) ag3 rfl rfl rfl)) rfl ?_
            | refine Chain.cons _ (GQ.q rfl (Q.ld_ptr (k := 2) ag3 rfl rfl rfl)) rfl ?_
            | refine Chain.cons _ (GQ.q rfl (Q.ld_ptr (k := 3) ag3 rfl rfl rfl)) rfl ?_
            | refine Chain.cons _ (GQ.q rfl (Q.ld_ptr (k := 4) ag3 rfl rfl rfl)) rfl ?_
            | refine Chain.cons _ (GQ.q rfl (Q.ld_ptr (k := 5) ag3 rfl rfl rfl)) rfl ?_
            | refine Chain.cons _ (GQ.q rfl (Q.ld_ep (k := 0) ag3 rfl rfl (by first | exact map_at (by assumption) | exact map_at0 (by assumption) | assumption) rfl)) rfl ?_
            | refine Chain.cons _ (GQ.q rfl (Q.ld_ep (k := 1) ag3 rfl rfl (by first | exact map_at (by assumption) | exact map_at0 (by assumption) | assumption) rfl)) rfl ?_
            | refine Chain.cons _ (GQ.q rfl (Q.ld_ep (k := 2) ag3 rfl rfl (by first | exact map_at (by assumption) | exact map_at0 (by assumption) | assumption) rfl)) rfl ?_
            | refine Chain.cons _ (GQ.q rfl (Q.ld_ep (k := 3) ag3 rfl rfl (by first | exact map_at (by assumption) | exact map_at0 (by assumption) | assumption) rfl)) rfl ?_
            | refine Chain.cons _ (GQ.q rfl (Q.ld_ep (k := 4) ag3 rfl rfl (by first | exact map_at (by assumption) | exact map_at0 (by assumption) | assumption) rfl)) rfl ?_
            | refine Chain.cons _ (GQ.q rfl (Q.ld_ep (k := 5) ag3 rfl rfl (by first | exact map_at (by assumption) | exact map_at0 (by assumption) | assumption) rfl)) rfl ?_
          first
            | refine Chain.cons _ (GQ.q rfl (Q.gtr rfl rfl)) rfl ?_
            | refine Chain.cons _ (GQ.q rfl (Q.gtr_str rfl rfl)) rfl ?_
          refine Chain.nil ?_
          refine XOps.nil ?_
          refine W.cond rfl (fun hc42 => ?_) (fun hc42 => ?_)
          · try simp only [Bool.or_eq_true, Bool.or_eq_false_iff, Bool.and_eq_true, Bool.and_eq_false_iff, decide_eq_true_eq, decide_eq_false_iff_not, Bool.not_eq_true', Bool.not_eq_false', Int.not_lt, Int.not_le, List.length_map] at hc42
            have hat : consAt c v x := fun h => absurd h (by omega)
            refine W.exit ?_
            refine W.region ?_
            first
              | refine XOps.s rfl rfl rfl (Q.add rfl rfl (wi64 (by first | omega | (dsimp only; omega) | (simp only [List.length_map]; omega)) (by first | omega | (dsimp only; omega) | (simp only [List.length_map]; omega)))) ?_
              | refine XOps.s rfl rfl rfl (Q.add rfl rfl rfl) ?_
              | refine XOps.s rfl rfl rfl (Q.adds rfl rfl (by first | omega | (simp at hg; omega))) ?_
            first
              | refine XOps.s rfl rfl rfl (Q.move_d rfl) ?_
              | refine XOps.s rfl rfl rfl (Q.move_vs rfl) ?_
              | refine XOps.s rfl rfl rfl (Q.move_ptr rfl) ?_
              | refine XOps.s rfl rfl rfl (Q.move_nilsl rfl) ?_
              | refine XOps.s rfl rfl rfl (Q.move_fn rfl) ?_
              | refine XOps.s rfl rfl rfl (Q.move_tup rfl) ?_
              | refine XOps.s rfl rfl rfl (Q.move_ep rfl) ?_
              | refine XOps.s rfl rfl rfl (Q.move_dp rfl) ?_
              | refine XOps.s rfl rfl rfl (Q.move_dcut rfl) ?_
              | refine XOps.s rfl rfl rfl (Q.move_aggv rfl) ?_
              | refine XOps.s rfl rfl rfl (Q.move rfl) ?_
            refine XOps.nil ?_
            refine ⟨k + 1, ?_, ?_, ?_, ?_⟩
            · refine ⟨by omega, fun i w y hi hwi hy => ?_⟩
              by_cases he : i = k
              · subst he; rw [hv] at hwi; rw [hx] at hy; obtain rfl := Option.some.inj hwi; obtain rfl := Option.some.inj hy; exact hat
              · exact hI i w y (by omega) hwi hy
            · omega
            · exact ⟨by first | rfl | exact int_eq (by omega) | exact len_eq (by simp) | exact int_eq (by simp; done), by first | rfl | exact int_eq (by omega) | exact len_eq (by simp) | exact int_eq (by simp; done), by first | rfl | exact int_eq (by omega) | exact len_eq (by simp) | exact int_eq (by simp; done), by first | rfl | exact int_eq (by omega) | exact len_eq (by simp) | exact int_eq (by simp; done), by first | rfl | exact int_eq (by omega) | exact len_eq (by simp) | exact int_eq (by simp; done), trivial⟩
            · exact HLe.skip _ (HLe.refl _)
          · try simp only [Bool.or_eq_true, Bool.or_eq_false_iff, Bool.and_eq_true, Bool.and_eq_false_iff, decide_eq_true_eq, decide_eq_false_iff_not, Bool.not_eq_true', Bool.not_eq_false', Int.not_lt, Int.not_le, List.length_map] at hc42
            refine W.skip ?_
            refine W.reg ?_
            refine XOps.s rfl rfl rfl (Q.ld_ptrn (k := 0) ag48 rfl rfl (show takeD 8 ((cellsI 8 v).drop 0) = some (vD v) from rfl)) ?_
            first
              | refine XOps.s rfl rfl rfl (Q.move_d rfl) ?_
              | refine XOps.s rfl rfl rfl (Q.move_vs rfl) ?_
              | refine XOps.s rfl rfl rfl (Q.move_ptr rfl) ?_
              | refine XOps.s rfl rfl rfl (Q.move_nilsl rfl) ?_
              | refine XOps.s rfl rfl rfl (Q.move_fn rfl) ?_
              | refine XOps.s rfl rfl rfl (Q.move_tup rfl) ?_
              | refine XOps.s rfl rfl rfl (Q.move_ep rfl) ?_
              | refine XOps.s rfl rfl rfl (Q.move_dp rfl) ?_
              | refine XOps.s rfl rfl rfl (Q.move_dcut rfl) ?_
              | refine XOps.s rfl rfl rfl (Q.move_aggv rfl) ?_
              | refine XOps.s rfl rfl rfl (Q.move rfl) ?_
            refine XOps.nil ?_
            refine W.block ?_
            refine W.loop (ι := Nat) (fun j => [(0, .d (.sl 3 (l.map Ev.enc))), (1, .d (slN (vl c))), (20, .d (.sl 8 ((vecS l).map vD))), (21, .d (.int .i64 (vecS l).length)), (22, .d (.int .i64 (k : Nat))), (43, .d (.agg (vD v))), (44, .d (.int .i64 (j : Nat)))]) (fun j => (b8, .cells (cellsI 8 v)) :: hs) (fun j => j ≤ 8 ∧ ∀ s, s < j → v s ≤ max 0 (c s)) (fun j => 8 - j) 0 ?_ ?_ ?_ ?_
            · exact ⟨Nat.zero_le _, fun s h => absurd h (Nat.not_lt_zero _)⟩
            · exact ⟨by first | rfl | exact int_eq (by omega) | exact len_eq (by simp) | exact int_eq (by simp; done), by first | rfl | exact int_eq (by omega) | exact len_eq (by simp) | exact int_eq (by simp; done), by first | rfl | exact int_eq (by omega) | exact len_eq (by simp) | exact int_eq (by simp; done), by first | rfl | exact int_eq (by omega) | exact len_eq (by simp) | exact int_eq (by simp; done), by first | rfl | exact int_eq (by omega) | exact len_eq (by simp) | exact int_eq (by simp; done), by first | rfl | exact int_eq (by omega) | exact len_eq (by simp) | exact int_eq (by simp; done), by first | rfl | exact int_eq (by omega) | exact len_eq (by simp) | exact int_eq (by simp; done), trivial⟩
            · exact HLe.refl _
            · rintro j ⟨hj, hJ⟩
              try dsimp only
              refine W.reg ?_
              first
                | refine XOps.s rfl rfl rfl (Q.lss rfl rfl) ?_
                | refine XOps.s rfl rfl rfl (Q.lss_str rfl rfl) ?_
              refine XOps.nil ?_
              refine W.seq ?_
              refine W.cond rfl (fun hc45 => ?_) (fun hc45 => ?_)
              · try simp only [Bool.or_eq_true, Bool.or_eq_false_iff, Bool.and_eq_true, Bool.and_eq_false_iff, decide_eq_true_eq, decide_eq_false_iff_not, Bool.not_eq_true', Bool.not_eq_false', Int.not_lt, Int.not_le, List.length_map] at hc45
                have hcutj : ((vl c).map nE)[((j : Nat) : Int).toNat]? = some (nE (c j)) := by rw [Int.toNat_natCast, List.getElem?_map, vl_at _ (by omega)]; rfl
                refine W.skip ?_
                refine W.seq ?_
                refine W.block ?_
                refine W.reg ?_
                first
                  | refine XOps.s rfl rfl rfl (Q.move_d rfl) ?_
                  | refine XOps.s rfl rfl rfl (Q.move_vs rfl) ?_
                  | refine XOps.s rfl rfl rfl (Q.move_ptr rfl) ?_
                  | refine XOps.s rfl rfl rfl (Q.move_nilsl rfl) ?_
                  | refine XOps.s rfl rfl rfl (Q.move_fn rfl) ?_
                  | refine XOps.s rfl rfl rfl (Q.move_tup rfl) ?_
                  | refine XOps.s rfl rfl rfl (Q.move_ep rfl) ?_
                  | refine XOps.s rfl rfl rfl (Q.move_dp rfl) ?_
                  | refine XOps.s rfl rfl rfl (Q.move_dcut rfl) ?_
                  | refine XOps.s rfl rfl rfl (Q.move_aggv rfl) ?_
                  | refine XOps.s rfl rfl rfl (Q.move rfl) ?_
                refine XOps.s rfl rfl rfl (Q.idx_agg1 ar48 are48 rfl rfl (by omega) (by omega) (vD_at _ (by omega))) ?_
                first
                  | refine XOps.s rfl rfl rfl (Q.assign_d rfl) ?_
                  | refine XOps.s rfl rfl rfl (Q.assign_vs rfl) ?_
                  | refine XOps.s rfl rfl rfl (Q.assign_ptr rfl) ?_
                  | refine XOps.s rfl rfl rfl (Q.assign_nilsl rfl) ?_
                  | refine XOps.s rfl rfl rfl (Q.assign_fn rfl) ?_
                  | refine XOps.s rfl rfl rfl (Q.assign_tup rfl) ?_
                  | refine XOps.s rfl rfl rfl (Q.assign_ep rfl) ?_
                  | refine XOps.s rfl rfl rfl (Q.assign_dp rfl) ?_
                  | refine XOps.s rfl rfl rfl (Q.assign_dcut rfl) ?_
                  | refine XOps.s rfl rfl rfl (Q.assign_aggv rfl) ?_
                  | refine XOps.s rfl rfl rfl (Q.assign rfl) ?_
                first
                  | refine XOps.s rfl rfl rfl (Q.assign_d rfl) ?_
                  | refine XOps.s rfl rfl rfl (Q.assign_vs rfl) ?_
                  | refine XOps.s rfl rfl rfl (Q.assign_ptr rfl) ?_
                  | refine XOps.s rfl rfl rfl (Q.assign_nilsl rfl) ?_
                  | refine XOps.s rfl rfl rfl (Q.assign_fn rfl) ?_
                  | refine XOps.s rfl rfl rfl (Q.assign_tup rfl) ?_
                  | refine XOps.s rfl rfl rfl (Q.assign_ep rfl) ?_
                  | refine XOps.s rfl rfl rfl (Q.assign_dp rfl) ?_
                  | refine XOps.s rfl rfl rfl (Q.assign_dcut rfl) ?_
                  | refine XOps.s rfl rfl rfl (Q.assign_aggv rfl) ?_
                  | refine XOps.s rfl rfl rfl (Q.assign rfl) ?_
                refine XOps.nil ?_
                refine W.reg ?_
                first
                  | refine XOps.s rfl rfl rfl (Q.move_d rfl) ?_
                  | refine XOps.s rfl rfl rfl (Q.move_vs rfl) ?_
                  | refine XOps.s rfl rfl rfl (Q.move_ptr rfl) ?_
                  | refine XOps.s rfl rfl rfl (Q.move_nilsl rfl) ?_
                  | refine XOps.s rfl rfl rfl (Q.move_fn rfl) ?_
                  | refine XOps.s rfl rfl rfl (Q.move_tup rfl) ?_
                  | refine XOps.s rfl rfl rfl (Q.move_ep rfl) ?_
                  | refine XOps.s rfl rfl rfl (Q.move_dp rfl) ?_
                  | refine XOps.s rfl rfl rfl (Q.move_dcut rfl) ?_
                  | refine XOps.s rfl rfl rfl (Q.move_aggv rfl) ?_
                  | refine XOps.s rfl rfl rfl (Q.move rfl) ?_
                first
                  | refine XOps.s rfl rfl rfl (Q.move_d rfl) ?_
                  | refine XOps.s rfl rfl rfl (Q.move_vs rfl) ?_
                  | refine XOps.s rfl rfl rfl (Q.move_ptr rfl) ?_
                  | refine XOps.s rfl rfl rfl (Q.move_nilsl rfl) ?_
                  | refine XOps.s rfl rfl rfl (Q.move_fn rfl) ?_
                  | refine XOps.s rfl rfl rfl (Q.move_tup rfl) ?_
                  | refine XOps.s rfl rfl rfl (Q.move_ep rfl) ?_
                  | refine XOps.s rfl rfl rfl (Q.move_dp rfl) ?_
                  | refine XOps.s rfl rfl rfl (Q.move_dcut rfl) ?_
                  | refine XOps.s rfl rfl rfl (Q.move_aggv rfl) ?_
                  | refine XOps.s rfl rfl rfl (Q.move rfl) ?_
                first
                  | refine XOps.s rfl rfl rfl (Q.move_d rfl) ?_
                  | refine XOps.s rfl rfl rfl (Q.move_vs rfl) ?_
                  | refine XOps.s rfl rfl rfl (Q.move_ptr rfl) ?_
                  | refine XOps.s rfl rfl rfl (Q.move_nilsl rfl) ?_
                  | refine XOps.s rfl rfl rfl (Q.move_fn rfl) ?_
                  | refine XOps.s rfl rfl rfl (Q.move_tup rfl) ?_
                  | refine XOps.s rfl rfl rfl (Q.move_ep rfl) ?_
                  | refine XOps.s rfl rfl rfl (Q.move_dp rfl) ?_
                  | refine XOps.s rfl rfl rfl (Q.move_dcut rfl) ?_
                  | refine XOps.s rfl rfl rfl (Q.move_aggv rfl) ?_
                  | refine XOps.s rfl rfl rfl (Q.move rfl) ?_
                refine XOps.s rfl rfl rfl (Q.idx_sl sl22 (by decide) rfl rfl (by omega) hcutj) ?_
                first
                  | refine XOps.s rfl rfl rfl (Q.ld_dp ag3 rfl rfl) ?_
                  | refine XOps.s rfl rfl rfl (Q.ld_ptr (k := 0) ag3 rfl rfl rfl) ?_
                  | refine XOps.s rfl rfl rfl (Q.ld_ptr (k := 1) ag3 rfl rfl rfl) ?_
                  | refine XOps.s rfl rfl rfl (Q.ld_ptr (k := 2) ag3 rfl rfl rfl) ?_
                  | refine XOps.s rfl rfl rfl (Q.ld_ptr (k := 3) ag3 rfl rfl rfl) ?_
                  | refine XOps.s rfl rfl rfl (Q.ld_ptr (k := 4) ag3 rfl rfl rfl) ?_
                  | refine XOps.s rfl rfl rfl (Q.ld_ptr (k := 5) ag3 rfl rfl rfl) ?_
                  | refine XOps.s rfl rfl rfl (Q.ld_ep (k := 0) ag3 rfl rfl (by first | exact map_at (by assumption) | exact map_at0 (by assumption) | assumption) rfl) ?_
                  | refine XOps.s rfl rfl rfl (Q.ld_ep (k := 1) ag3 rfl rfl (by first | exact map_at (by assumption) | exact map_at0 (by assumption) | assumption) rfl) ?_
                  | refine XOps.s rfl rfl rfl (Q.ld_ep (k := 2) ag3 rfl rfl (by first | exact map_at (by assumption) | exact map_at0 (by assumption) | assumption) rfl) ?_
                  | refine XOps.s rfl rfl rfl (Q.ld_ep (k := 3) ag3 rfl rfl (by first | exact map_at (by assumption) | exact map_at0 (by assumption) | assumption) rfl) ?_
                  | refine XOps.s rfl rfl rfl (Q.ld_ep (k := 4) ag3 rfl rfl (by first | exact map_at (by assumption) | exact map_at0 (by assumption) | assumption) rfl) ?_
                  | refine XOps.s rfl rfl rfl (Q.ld_ep (k := 5) ag3 rfl rfl (by first | exact map_at (by assumption) | exact map_at0 (by assumption) | assumption) rfl) ?_
                refine XOps.s rfl rfl rfl (Q.maxi rfl rfl) ?_
                first
                  | refine XOps.s rfl rfl rfl (Q.gtr rfl rfl) ?_
                  | refine XOps.s rfl rfl rfl (Q.gtr_str rfl rfl) ?_
                refine XOps.nil ?_
                refine W.cond rfl (fun hc54 => ?_) (fun hc54 => ?_)
                · try simp only [Bool.or_eq_true, Bool.or_eq_false_iff, Bool.and_eq_true, Bool.and_eq_false_iff, decide_eq_true_eq, decide_eq_false_iff_not, Bool.not_eq_true', Bool.not_eq_false', Int.not_lt, Int.not_le, List.length_map] at hc54
                  have hr : consS l c = false := by
                    classical
                    refine decide_eq_false fun h => ?_
                    have h2 := h k v x hv hx (by omega) j (by omega)
                    have h3 : ((j : Nat) : Int).toNat = j := Int.toNat_natCast j
                    rw [h3] at hc54
                    omega
                  refine W.reg ?_
                  first
                    | refine XOps.s rfl rfl rfl (Q.assign_d rfl) ?_
                    | refine XOps.s rfl rfl rfl (Q.assign_vs rfl) ?_
                    | refine XOps.s rfl rfl rfl (Q.assign_ptr rfl) ?_
                    | refine XOps.s rfl rfl rfl (Q.assign_nilsl rfl) ?_
                    | refine XOps.s rfl rfl rfl (Q.assign_fn rfl) ?_
                    | refine XOps.s rfl rfl rfl (Q.assign_tup rfl) ?_
                    | refine XOps.s rfl rfl rfl (Q.assign_ep rfl) ?_
                    | refine XOps.s rfl rfl rfl (Q.assign_dp rfl) ?_
                    | refine XOps.s rfl rfl rfl (Q.assign_dcut rfl) ?_
                    | refine XOps.s rfl rfl rfl (Q.assign_aggv rfl) ?_
                    | refine XOps.s rfl rfl rfl (Q.assign rfl) ?_
                  first
                    | refine XOps.s rfl rfl rfl (Q.assign_d rfl) ?_
                    | refine XOps.s rfl rfl rfl (Q.assign_vs rfl) ?_
                    | refine XOps.s rfl rfl rfl (Q.assign_ptr rfl) ?_
                    | refine XOps.s rfl rfl rfl (Q.assign_nilsl rfl) ?_
                    | refine XOps.s rfl rfl rfl (Q.assign_fn rfl) ?_
                    | refine XOps.s rfl rfl rfl (Q.assign_tup rfl) ?_
                    | refine XOps.s rfl rfl rfl (Q.assign_ep rfl) ?_
                    | refine XOps.s rfl rfl rfl (Q.assign_dp rfl) ?_
                    | refine XOps.s rfl rfl rfl (Q.assign_dcut rfl) ?_
                    | refine XOps.s rfl rfl rfl (Q.assign_aggv rfl) ?_
                    | refine XOps.s rfl rfl rfl (Q.assign rfl) ?_
                  refine XOps.nil ?_
                  refine W.ret ?_
                  exact ⟨_, hs, rfl, by first | exact HLe.refl _ | exact HLe.skip _ (HLe.refl _), by rw [hr]; rfl, rfl⟩
                · try simp only [Bool.or_eq_true, Bool.or_eq_false_iff, Bool.and_eq_true, Bool.and_eq_false_iff, decide_eq_true_eq, decide_eq_false_iff_not, Bool.not_eq_true', Bool.not_eq_false', Int.not_lt, Int.not_le, List.length_map] at hc54
                  have h3 : ((j : Nat) : Int).toNat = j := Int.toNat_natCast j
                  rw [h3] at hc54
                  refine W.skip ?_
                  refine W.region ?_
                  first
                    | refine XOps.s rfl rfl rfl (Q.add rfl rfl (wi64 (by first | omega | (dsimp only; omega) | (simp only [List.length_map]; omega)) (by first | omega | (dsimp only; omega) | (simp only [List.length_map]; omega)))) ?_
                    | refine XOps.s rfl rfl rfl (Q.add rfl rfl rfl) ?_
                    | refine XOps.s rfl rfl rfl (Q.adds rfl rfl (by first | omega | (simp at hg; omega))) ?_
                  first
                    | refine XOps.s rfl rfl rfl (Q.move_d rfl) ?_
                    | refine XOps.s rfl rfl rfl (Q.move_vs rfl) ?_
                    | refine XOps.s rfl rfl rfl (Q.move_ptr rfl) ?_
                    | refine XOps.s rfl rfl rfl (Q.move_nilsl rfl) ?_
                    | refine XOps.s rfl rfl rfl (Q.move_fn rfl) ?_
                    | refine XOps.s rfl rfl rfl (Q.move_tup rfl) ?_
                    | refine XOps.s rfl rfl rfl (Q.move_ep rfl) ?_
                    | refine XOps.s rfl rfl rfl (Q.move_dp rfl) ?_
                    | refine XOps.s rfl rfl rfl (Q.move_dcut rfl) ?_
                    | refine XOps.s rfl rfl rfl (Q.move_aggv rfl) ?_
                    | refine XOps.s rfl rfl rfl (Q.move rfl) ?_
                  refine XOps.nil ?_
                  refine ⟨j + 1, ?_, ?_, ?_, ?_⟩
                  · refine ⟨by omega, fun s hs => ?_⟩
                    by_cases he : s = j
                    · subst he; omega
                    · exact hJ s (by omega)
                  · omega
                  · exact ⟨by first | rfl | exact int_eq (by omega) | exact len_eq (by simp) | exact int_eq (by simp; done), by first | rfl | exact int_eq (by omega) | exact len_eq (by simp) | exact int_eq (by simp; done), by first | rfl | exact int_eq (by omega) | exact len_eq (by simp) | exact int_eq (by simp; done), by first | rfl | exact int_eq (by omega) | exact len_eq (by simp) | exact int_eq (by simp; done), by first | rfl | exact int_eq (by omega) | exact len_eq (by simp) | exact int_eq (by simp; done), by first | rfl | exact int_eq (by omega) | exact len_eq (by simp) | exact int_eq (by simp; done), by first | rfl | exact int_eq (by omega) | exact len_eq (by simp) | exact int_eq (by simp; done), trivial⟩
                  · exact HLe.refl _
              · try simp only [Bool.or_eq_true, Bool.or_eq_false_iff, Bool.and_eq_true, Bool.and_eq_false_iff, decide_eq_true_eq, decide_eq_false_iff_not, Bool.not_eq_true', Bool.not_eq_false', Int.not_lt, Int.not_le, List.length_map] at hc45
                obtain rfl : j = 8 := by omega
                have hat : consAt c v x := fun _ => hJ
                refine W.exit ?_
                refine W.region ?_
                first
                  | refine XOps.s rfl rfl rfl (Q.add rfl rfl (wi64 (by first | omega | (dsimp only; omega) | (simp only [List.length_map]; omega)) (by first | omega | (dsimp only; omega) | (simp only [List.length_map]; omega)))) ?_
                  | refine XOps.s rfl rfl rfl (Q.add rfl rfl rfl) ?_
                  | refine XOps.s rfl rfl rfl (Q.adds rfl rfl (by first | omega | (simp at hg; omega))) ?_
                first
                  | refine XOps.s rfl rfl rfl (Q.move_d rfl) ?_
                  | refine XOps.s rfl rfl rfl (Q.move_vs rfl) ?_
                  | refine XOps.s rfl rfl rfl (Q.move_ptr rfl) ?_
                  | refine XOps.s rfl rfl rfl (Q.move_nilsl rfl) ?_
                  | refine XOps.s rfl rfl rfl (Q.move_fn rfl) ?_
                  | refine XOps.s rfl rfl rfl (Q.move_tup rfl) ?_
                  | refine XOps.s rfl rfl rfl (Q.move_ep rfl) ?_
                  | refine XOps.s rfl rfl rfl (Q.move_dp rfl) ?_
                  | refine XOps.s rfl rfl rfl (Q.move_dcut rfl) ?_
                  | refine XOps.s rfl rfl rfl (Q.move_aggv rfl) ?_
                  | refine XOps.s rfl rfl rfl (Q.move rfl) ?_
                refine XOps.nil ?_
                refine ⟨k + 1, ?_, ?_, ?_, ?_⟩
                · refine ⟨by omega, fun i w y hi hwi hy => ?_⟩
                  by_cases he : i = k
                  · subst he; rw [hv] at hwi; rw [hx] at hy; obtain rfl := Option.some.inj hwi; obtain rfl := Option.some.inj hy; exact hat
                  · exact hI i w y (by omega) hwi hy
                · omega
                · exact ⟨by first | rfl | exact int_eq (by omega) | exact len_eq (by simp) | exact int_eq (by simp; done), by first | rfl | exact int_eq (by omega) | exact len_eq (by simp) | exact int_eq (by simp; done), by first | rfl | exact int_eq (by omega) | exact len_eq (by simp) | exact int_eq (by simp; done), by first | rfl | exact int_eq (by omega) | exact len_eq (by simp) | exact int_eq (by simp; done), by first | rfl | exact int_eq (by omega) | exact len_eq (by simp) | exact int_eq (by simp; done), trivial⟩
                · exact HLe.skip _ (HLe.refl _)
        · try simp only [Bool.or_eq_true, Bool.or_eq_false_iff, Bool.and_eq_true, Bool.and_eq_false_iff, decide_eq_true_eq, decide_eq_false_iff_not, Bool.not_eq_true', Bool.not_eq_false', Int.not_lt, Int.not_le, List.length_map] at hc23
          obtain rfl : k = (vecS l).length := by omega
          have hr : consS l c = true := by
            classical
            refine decide_eq_true fun i w x hi hx => hI i w x ?_ hi hx
            have := (List.getElem?_eq_some_iff.1 hi).1
            omega
          refine W.exit ?_
          refine W.reg ?_
          first
            | refine XOps.s rfl rfl rfl (Q.assign_d rfl) ?_
            | refine XOps.s rfl rfl rfl (Q.assign_vs rfl) ?_
            | refine XOps.s rfl rfl rfl (Q.assign_ptr rfl) ?_
            | refine XOps.s rfl rfl rfl (Q.assign_nilsl rfl) ?_
            | refine XOps.s rfl rfl rfl (Q.assign_fn rfl) ?_
            | refine XOps.s rfl rfl rfl (Q.assign_tup rfl) ?_
            | refine XOps.s rfl rfl rfl (Q.assign_ep rfl) ?_
            | refine XOps.s rfl rfl rfl (Q.assign_dp rfl) ?_
            | refine XOps.s rfl rfl rfl (Q.assign_dcut rfl) ?_
            | refine XOps.s rfl rfl rfl (Q.assign_aggv rfl) ?_
            | refine XOps.s rfl rfl rfl (Q.assign rfl) ?_
          first
            | refine XOps.s rfl rfl rfl (Q.assign_d rfl) ?_
            | refine XOps.s rfl rfl rfl (Q.assign_vs rfl) ?_
            | refine XOps.s rfl rfl rfl (Q.assign_ptr rfl) ?_
            | refine XOps.s rfl rfl rfl (Q.assign_nilsl rfl) ?_
            | refine XOps.s rfl rfl rfl (Q.assign_fn rfl) ?_
            | refine XOps.s rfl rfl rfl (Q.assign_tup rfl) ?_
            | refine XOps.s rfl rfl rfl (Q.assign_ep rfl) ?_
            | refine XOps.s rfl rfl rfl (Q.assign_dp rfl) ?_
            | refine XOps.s rfl rfl rfl (Q.assign_dcut rfl) ?_
            | refine XOps.s rfl rfl rfl (Q.assign_aggv rfl) ?_
            | refine XOps.s rfl rfl rfl (Q.assign rfl) ?_
          refine XOps.nil ?_
          refine W.ret ?_
          exact ⟨_, hs, rfl, by first | exact HLe.refl _ | exact HLe.skip _ (HLe.refl _), by rw [hr]; rfl, rfl⟩

set_option maxHeartbeats 1000000 in
set_option maxRecDepth 100000 in
theorem fact_c (hs : Hp) : AC P 9 [] hs (fun r h => r = .d (.bool true) ∧ h = hs) := by
  have hf1 : lamE [⟨0, 1, 5⟩, ⟨1, 2, 5⟩] = [1, 2] := by decide +kernel
  have hf2 : checkS [⟨0, 1, 5⟩, ⟨1, 2, 5⟩] = 0 := by decide +kernel
  refine AC.of 17 Try.func9 rfl rfl rfl ?_
  refine W.reg ?_
  first
    | refine XOps.s rfl rfl rfl (Q.assign_d rfl) ?_
    | refine XOps.s rfl rfl rfl (Q.assign_vs rfl) ?_
    | refine XOps.s rfl rfl rfl (Q.assign_ptr rfl) ?_
    | refine XOps.s rfl rfl rfl (Q.assign_nilsl rfl) ?_
    | refine XOps.s rfl rfl rfl (Q.assign_fn rfl) ?_
    | refine XOps.s rfl rfl rfl (Q.assign_tup rfl) ?_
    | refine XOps.s rfl rfl rfl (Q.assign_ep rfl) ?_
    | refine XOps.s rfl rfl rfl (Q.assign_dp rfl) ?_
    | refine XOps.s rfl rfl rfl (Q.assign_dcut rfl) ?_
    | refine XOps.s rfl rfl rfl (Q.assign_aggv rfl) ?_
    | refine XOps.s rfl rfl rfl (Q.assign rfl) ?_
  refine XOps.nil ?_
  refine W.reg ?_
  first
    | refine XOps.s rfl rfl rfl (Q.build pl26 tz26 tzd26 rfl) ?_
    | refine XOps.s rfl rfl rfl (Q.buildS pl26 tz26 rfl rfl) ?_
  first
    | refine XOps.s rfl rfl rfl (Q.build pl26 tz26 tzd26 rfl) ?_
    | refine XOps.s rfl rfl rfl (Q.buildS pl26 tz26 rfl rfl) ?_
  refine XOps.s rfl rfl rfl (Q.bsl sl23 (by decide) zr23 rfl zrd23 (by decide) rfl rfl) ?_
  refine XOps.s rfl rfl rfl (Q.call rfl Try.func12 go12 rfl (lamport_c [⟨0, 1, 5⟩, ⟨1, 2, 5⟩] _ (by decide))) ?_
  first
    | refine XOps.s rfl rfl rfl (Q.move_d rfl) ?_
    | refine XOps.s rfl rfl rfl (Q.move_vs rfl) ?_
    | refine XOps.s rfl rfl rfl (Q.move_ptr rfl) ?_
    | refine XOps.s rfl rfl rfl (Q.move_nilsl rfl) ?_
    | refine XOps.s rfl rfl rfl (Q.move_fn rfl) ?_
    | refine XOps.s rfl rfl rfl (Q.move_tup rfl) ?_
    | refine XOps.s rfl rfl rfl (Q.move_ep rfl) ?_
    | refine XOps.s rfl rfl rfl (Q.move_dp rfl) ?_
    | refine XOps.s rfl rfl rfl (Q.move_dcut rfl) ?_
    | refine XOps.s rfl rfl rfl (Q.move_aggv rfl) ?_
    | refine XOps.s rfl rfl rfl (Q.move rfl) ?_
  refine XOps.s rfl rfl rfl (Q.extract rfl rfl) ?_
  refine XOps.s rfl rfl rfl (Q.extract rfl rfl) ?_
  first
    | refine XOps.s rfl rfl rfl (Q.assign_d rfl) ?_
    | refine XOps.s rfl rfl rfl (Q.assign_vs rfl) ?_
    | refine XOps.s rfl rfl rfl (Q.assign_ptr rfl) ?_
    | refine XOps.s rfl rfl rfl (Q.assign_nilsl rfl) ?_
    | refine XOps.s rfl rfl rfl (Q.assign_fn rfl) ?_
    | refine XOps.s rfl rfl rfl (Q.assign_tup rfl) ?_
    | refine XOps.s rfl rfl rfl (Q.assign_ep rfl) ?_
    | refine XOps.s rfl rfl rfl (Q.assign_dp rfl) ?_
    | refine XOps.s rfl rfl rfl (Q.assign_dcut rfl) ?_
    | refine XOps.s rfl rfl rfl (Q.assign_aggv rfl) ?_
    | refine XOps.s rfl rfl rfl (Q.assign rfl) ?_
  first
    | refine XOps.s rfl rfl rfl (Q.assign_d rfl) ?_
    | refine XOps.s rfl rfl rfl (Q.assign_vs rfl) ?_
    | refine XOps.s rfl rfl rfl (Q.assign_ptr rfl) ?_
    | refine XOps.s rfl rfl rfl (Q.assign_nilsl rfl) ?_
    | refine XOps.s rfl rfl rfl (Q.assign_fn rfl) ?_
    | refine XOps.s rfl rfl rfl (Q.assign_tup rfl) ?_
    | refine XOps.s rfl rfl rfl (Q.assign_ep rfl) ?_
    | refine XOps.s rfl rfl rfl (Q.assign_dp rfl) ?_
    | refine XOps.s rfl rfl rfl (Q.assign_dcut rfl) ?_
    | refine XOps.s rfl rfl rfl (Q.assign_aggv rfl) ?_
    | refine XOps.s rfl rfl rfl (Q.assign rfl) ?_
  refine XOps.nil ?_
  rw [hf1, hf2]
  refine W.reg ?_
  first
    | refine XOps.s rfl rfl rfl (Q.move_d rfl) ?_
    | refine XOps.s rfl rfl rfl (Q.move_vs rfl) ?_
    | refine XOps.s rfl rfl rfl (Q.move_ptr rfl) ?_
    | refine XOps.s rfl rfl rfl (Q.move_nilsl rfl) ?_
    | refine XOps.s rfl rfl rfl (Q.move_fn rfl) ?_
    | refine XOps.s rfl rfl rfl (Q.move_tup rfl) ?_
    | refine XOps.s rfl rfl rfl (Q.move_ep rfl) ?_
    | refine XOps.s rfl rfl rfl (Q.move_dp rfl) ?_
    | refine XOps.s rfl rfl rfl (Q.move_dcut rfl) ?_
    | refine XOps.s rfl rfl rfl (Q.move_aggv rfl) ?_
    | refine XOps.s rfl rfl rfl (Q.move rfl) ?_
  first
    | refine XOps.s rfl rfl rfl (Q.eql rfl rfl) ?_
    | refine XOps.s rfl rfl rfl (Q.eql_str rfl rfl) ?_
  first
    | refine XOps.s rfl rfl rfl (Q.move_d rfl) ?_
    | refine XOps.s rfl rfl rfl (Q.move_vs rfl) ?_
    | refine XOps.s rfl rfl rfl (Q.move_ptr rfl) ?_
    | refine XOps.s rfl rfl rfl (Q.move_nilsl rfl) ?_
    | refine XOps.s rfl rfl rfl (Q.move_fn rfl) ?_
    | refine XOps.s rfl rfl rfl (Q.move_tup rfl) ?_
    | refine XOps.s rfl rfl rfl (Q.move_ep rfl) ?_
    | refine XOps.s rfl rfl rfl (Q.move_dp rfl) ?_
    | refine XOps.s rfl rfl rfl (Q.move_dcut rfl) ?_
    | refine XOps.s rfl rfl rfl (Q.move_aggv rfl) ?_
    | refine XOps.s rfl rfl rfl (Q.move rfl) ?_
  first
    | refine XOps.gs rfl rfl rfl rfl rfl rfl rfl (fun hg => Q.move_d rfl) ?_
    | refine XOps.gs rfl rfl rfl rfl rfl rfl rfl (fun hg => Q.move_vs rfl) ?_
    | refine XOps.gs rfl rfl rfl rfl rfl rfl rfl (fun hg => Q.move_ptr rfl) ?_
    | refine XOps.gs rfl rfl rfl rfl rfl rfl rfl (fun hg => Q.move_nilsl rfl) ?_
    | refine XOps.gs rfl rfl rfl rfl rfl rfl rfl (fun hg => Q.move_fn rfl) ?_
    | refine XOps.gs rfl rfl rfl rfl rfl rfl rfl (fun hg => Q.move_tup rfl) ?_
    | refine XOps.gs rfl rfl rfl rfl rfl rfl rfl (fun hg => Q.move_ep rfl) ?_
    | refine XOps.gs rfl rfl rfl rfl rfl rfl rfl (fun hg => Q.move_dp rfl) ?_
    | refine XOps.gs rfl rfl rfl rfl rfl rfl rfl (fun hg => Q.move_dcut rfl) ?_
    | refine XOps.gs rfl rfl rfl rfl rfl rfl rfl (fun hg => Q.move_aggv rfl) ?_
    | refine XOps.gs rfl rfl rfl rfl rfl rfl rfl (fun hg => Q.move rfl) ?_
  refine XOps.gs rfl rfl rfl rfl rfl rfl rfl (fun hg => Q.bsl sl22 (by decide) zr22 rfl zrd22 (by decide) rfl rfl) ?_
  refine XOps.gs rfl rfl rfl rfl rfl rfl rfl (fun hg => Quiet.open 13 hg rfl (Quiet.open 14 hg rfl (Q.call rfl Try.func13 go13 rfl (equalN_c [1, 2] [1, 2] _ (by decide))))) ?_
  first
    | refine XOps.s rfl rfl rfl (Q.pick_and rfl rfl rfl (fun h => by first | (rw [h]; rfl) | (rw [hg, h]; rfl) | (simp [h, hg]; done))) ?_
    | refine XOps.s rfl rfl rfl (Q.pick_or rfl rfl rfl (fun h => by first | (rw [h]; rfl) | (rw [hg, h]; rfl) | (simp [h, hg]; done))) ?_
    | refine XOps.s rfl rfl rfl (Q.pick rfl rfl rfl) ?_
  first
    | refine XOps.s rfl rfl rfl (Q.assign_d rfl) ?_
    | refine XOps.s rfl rfl rfl (Q.assign_vs rfl) ?_
    | refine XOps.s rfl rfl rfl (Q.assign_ptr rfl) ?_
    | refine XOps.s rfl rfl rfl (Q.assign_nilsl rfl) ?_
    | refine XOps.s rfl rfl rfl (Q.assign_fn rfl) ?_
    | refine XOps.s rfl rfl rfl (Q.assign_tup rfl) ?_
    | refine XOps.s rfl rfl rfl (Q.assign_ep rfl) ?_
    | refine XOps.s rfl rfl rfl (Q.assign_dp rfl) ?_
    | refine XOps.s rfl rfl rfl (Q.assign_dcut rfl) ?_
    | refine XOps.s rfl rfl rfl (Q.assign_aggv rfl) ?_
    | refine XOps.s rfl rfl rfl (Q.assign rfl) ?_
  refine XOps.nil ?_
  refine W.ret ?_
  refine ⟨_, hs, rfl, by repeat (first | exact HLe.refl _ | refine HLe.cons' (by first | rfl | (simp [Ev.enc, nE]; done)) ?_ | refine HLe.pick 1 rfl (by first | rfl | (simp [Ev.enc, nE]; done)) ?_ | refine HLe.pick 2 rfl (by first | rfl | (simp [Ev.enc, nE]; done)) ?_ | refine HLe.pick 3 rfl (by first | rfl | (simp [Ev.enc, nE]; done)) ?_ | refine HLe.pick 4 rfl (by first | rfl | (simp [Ev.enc, nE]; done)) ?_ | refine HLe.pick 5 rfl (by first | rfl | (simp [Ev.enc, nE]; done)) ?_ | refine HLe.skip _ ?_), ?_, rfl⟩
  rfl
end Go.Proofs.YtjmadiegikbjpaaA
