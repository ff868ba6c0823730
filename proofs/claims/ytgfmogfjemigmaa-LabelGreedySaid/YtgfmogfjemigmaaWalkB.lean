/- Package label but Greedy; slices.Clone, slices.Equal; the law LabelShifted. -/
import Derived.Test.YtgfmogfjemigmaaBase
import Derived.Test.YtgfmogfjemigmaaWalkA
set_option linter.unusedVariables false
set_option linter.unusedSimpArgs false
set_option linter.unnecessarySimpa false
namespace Go.Proofs.YtgfmogfjemigmaaA.FWalkB
open Go
theorem ag23 : tAgg P 23 = some ((true, 4)) := by kernel_rfl
theorem ag3 : tAgg P 3 = some ((false, 1)) := by kernel_rfl
theorem ag31 : tAgg P 31 = some ((true, 4)) := by kernel_rfl
theorem ap29 : tApp P 29 = some ((4, 32)) := by kernel_rfl
theorem ap32 : tApp P 32 = some ((1, 8)) := by kernel_rfl
theorem ap45 : tApp P 45 = some ((4, 32)) := by kernel_rfl
theorem fl23_0 : tFld P 23 0 = some (0) := by kernel_rfl
theorem fl23_1 : tFld P 23 1 = some (1) := by kernel_rfl
theorem fl31_0 : tFld P 31 0 = some (0) := by kernel_rfl
theorem fl31_1 : tFld P 31 1 = some (1) := by kernel_rfl
theorem fl31_2 : tFld P 31 2 = some (2) := by kernel_rfl
theorem fl31_3 : tFld P 31 3 = some (3) := by kernel_rfl
theorem go19 : callGo Go.Proofs.Try.f19 = true := by kernel_rfl
theorem go20 : callGo Go.Proofs.Try.f20 = true := by kernel_rfl
theorem go21 : callGo Go.Proofs.Try.f21 = true := by kernel_rfl
theorem go22 : callGo Go.Proofs.Try.f22 = true := by kernel_rfl
theorem go24 : callGo Go.Proofs.Try.f24 = true := by kernel_rfl
theorem go27 : callGo Go.Proofs.Try.f27 = true := by kernel_rfl
theorem go28 : callGo Go.Proofs.Try.f28 = true := by kernel_rfl
theorem go29 : callGo Go.Proofs.Try.f29 = true := by kernel_rfl
theorem go30 : callGo Go.Proofs.Try.f30 = true := by kernel_rfl
theorem go31 : callGo Go.Proofs.Try.f31 = true := by kernel_rfl
theorem go8 : callGo Go.Proofs.Try.f8 = true := by kernel_rfl
theorem isl29 : isSl P 29 = true := by kernel_rfl
theorem isl32 : isSl P 32 = true := by kernel_rfl
theorem isl45 : isSl P 45 = true := by kernel_rfl
theorem pl23 : tPl P 23 = some ([(0, 1), (1, 1), (2, 1), (3, 1)]) := by kernel_rfl
theorem sl29 : tSl P 29 = some (4) := by kernel_rfl
theorem sl32 : tSl P 32 = some (1) := by kernel_rfl
theorem sl45 : tSl P 45 = some (4) := by kernel_rfl
theorem tz23 : tZero P 23 = some ([.int .i64 0, .int .i64 0, .int .i64 0, .int .i64 0]) := by kernel_rfl
theorem tz31 : tZero P 31 = some ([.int .i64 0, .int .i64 0, .int .i64 0, .int .i64 0]) := by kernel_rfl
theorem tzd23 : cellsD [.int .i64 0, .int .i64 0, .int .i64 0, .int .i64 0] = some ([.int .i64 0, .int .i64 0, .int .i64 0, .int .i64 0]) := rfl
theorem zr32 : tZrow P 32 = some ([.int .i64 0]) := by kernel_rfl
theorem zr45 : tZrow P 45 = some ([.int .i64 0, .int .i64 0, .int .i64 0, .int .i64 0]) := by kernel_rfl
theorem zrd32 : cellsD [.int .i64 0] = some ([.int .i64 0]) := rfl
theorem zrd45 : cellsD [.int .i64 0, .int .i64 0, .int .i64 0, .int .i64 0] = some ([.int .i64 0, .int .i64 0, .int .i64 0, .int .i64 0]) := rfl
end Go.Proofs.YtgfmogfjemigmaaA.FWalkB
namespace Go.Proofs.YtgfmogfjemigmaaA
open Go FWalkB
set_option maxHeartbeats 1000000 in
set_option maxRecDepth 100000 in
theorem cloneI_c (l : List LB) (hs : Hp) (hL : l.length * 32 ≤ 140737488355328) : AC P 9 [.d (.sl 4 (l.map LB.enc))] hs (fun r h => ∃ v, r = .vs v 0 l.length 4 ∧ h = (v, .lst 4 (l.map LB.enc)) :: hs) := by
  refine AC.of 8 Try.func9 rfl rfl rfl ?_
  refine W.reg ?_
  refine XOps.s rfl rfl rfl (Q.assign_nilsl rfl) ?_
  refine XOps.nil ?_
  refine W.seq ?_
  refine W.reg ?_
  refine XOps.s rfl rfl rfl (Q.move_d rfl) ?_
  (refine XOps.loud rfl (L.eqnil sl29 (by decide) rfl rfl rfl) ?_; rintro _ _ ⟨bb, hbb, rfl, hh⟩; obtain rfl := hh.symm)
  refine XOps.nil ?_
  refine W.cond rfl (fun hc4 => ?_) (fun hc4 => ?_)
  · try simp only [Bool.or_eq_true, Bool.or_eq_false_iff, Bool.and_eq_true, Bool.and_eq_false_iff, decide_eq_true_eq, decide_eq_false_iff_not, Bool.not_eq_true', Bool.not_eq_false', Int.not_lt, Int.not_le, List.length_map] at hc4
    have hle : l = [] := by simpa using hbb hc4
    subst hle
    refine W.reg ?_
    refine XOps.s rfl rfl rfl (Q.assign_nilsl rfl) ?_
    refine XOps.nil ?_
    refine W.ghost 2 4 (by decide) rfl (by decide) (fun v2 => ?_)
    refine W.ret ?_
    exact ⟨_, (v2, .lst 4 []) :: hs, rfl, by repeat (first | exact HLe.refl _ | refine HLe.cons' (by first | rfl | (simp [LB.enc, nE]; done)) ?_ | refine HLe.pick 1 rfl (by first | rfl | (simp [LB.enc, nE]; done)) ?_ | refine HLe.pick 2 rfl (by first | rfl | (simp [LB.enc, nE]; done)) ?_ | refine HLe.pick 3 rfl (by first | rfl | (simp [LB.enc, nE]; done)) ?_ | refine HLe.pick 4 rfl (by first | rfl | (simp [LB.enc, nE]; done)) ?_ | refine HLe.pick 5 rfl (by first | rfl | (simp [LB.enc, nE]; done)) ?_ | refine HLe.skip _ ?_), v2, rfl, rfl⟩
  · try simp only [Bool.or_eq_true, Bool.or_eq_false_iff, Bool.and_eq_true, Bool.and_eq_false_iff, decide_eq_true_eq, decide_eq_false_iff_not, Bool.not_eq_true', Bool.not_eq_false', Int.not_lt, Int.not_le, List.length_map] at hc4
    refine W.skip ?_
    refine W.reg ?_
    refine XOps.s rfl rfl rfl (Q.bsl0 sl29) ?_
    refine XOps.s rfl rfl rfl (Q.move_d rfl) ?_
    refine XOps.loud rfl (L.app_new ap29 (.inl rfl) (by first | exact .inl rfl | exact .inr (by simp)) rfl (by simp; omega) rfl) ?_
    rintro _ _ ⟨v7, rfl, rfl⟩
    refine XOps.s rfl rfl rfl (Q.assign_vs rfl) ?_
    refine XOps.nil ?_
    refine W.ret ?_
    exact ⟨_, (v7, .lst 4 (l.map LB.enc)) :: hs, rfl, by repeat (first | exact HLe.refl _ | refine HLe.cons' (by first | rfl | (simp [LB.enc, nE]; done)) ?_ | refine HLe.pick 1 rfl (by first | rfl | (simp [LB.enc, nE]; done)) ?_ | refine HLe.pick 2 rfl (by first | rfl | (simp [LB.enc, nE]; done)) ?_ | refine HLe.pick 3 rfl (by first | rfl | (simp [LB.enc, nE]; done)) ?_ | refine HLe.pick 4 rfl (by first | rfl | (simp [LB.enc, nE]; done)) ?_ | refine HLe.pick 5 rfl (by first | rfl | (simp [LB.enc, nE]; done)) ?_ | refine HLe.skip _ ?_), v7, by show AV.vs _ _ _ _ = _; congr 1; simp, rfl⟩

set_option maxHeartbeats 1000000 in
set_option maxRecDepth 100000 in
theorem equalN_c (a b : List Int) (hs : Hp) (hl : a.length ≤ 4611686018427387904) : AC P 12 [.d (.sl 1 (a.map nE)), .d (.sl 1 (b.map nE))] hs (fun r h => r = .d (.bool (decide (a = b))) ∧ h = hs) := by
  refine AC.of 26 Try.func12 rfl rfl rfl ?_
  refine W.reg ?_
  refine XOps.s rfl rfl rfl (Q.assign_d rfl) ?_
  refine XOps.nil ?_
  refine W.seq ?_
  refine W.reg ?_
  refine XOps.s rfl rfl rfl (Q.move_d rfl) ?_
  refine XOps.s rfl rfl rfl (Q.len_sl isl32 rfl) ?_
  refine XOps.s rfl rfl rfl (Q.move_d rfl) ?_
  refine XOps.s rfl rfl rfl (Q.len_sl isl32 rfl) ?_
  refine XOps.s rfl rfl rfl (Q.neq rfl rfl) ?_
  refine XOps.nil ?_
  refine W.cond rfl (fun hc10 => ?_) (fun hc10 => ?_)
  · try simp only [Bool.or_eq_true, Bool.or_eq_false_iff, Bool.and_eq_true, Bool.and_eq_false_iff, decide_eq_true_eq, decide_eq_false_iff_not, Bool.not_eq_true', Bool.not_eq_false', Int.not_lt, Int.not_le, List.length_map] at hc10
    have hr : decide (a = b) = false := decide_eq_false fun h => by subst h; simp at hc10
    refine W.reg ?_
    refine XOps.s rfl rfl rfl (Q.assign_d rfl) ?_
    refine XOps.nil ?_
    refine W.ret ?_
    refine ⟨_, hs, rfl, by repeat (first | exact HLe.refl _ | refine HLe.cons' (by first | rfl | (simp [LB.enc, nE]; done)) ?_ | refine HLe.pick 1 rfl (by first | rfl | (simp [LB.enc, nE]; done)) ?_ | refine HLe.pick 2 rfl (by first | rfl | (simp [LB.enc, nE]; done)) ?_ | refine HLe.pick 3 rfl (by first | rfl | (simp [LB.enc, nE]; done)) ?_ | refine HLe.pick 4 rfl (by first | rfl | (simp [LB.enc, nE]; done)) ?_ | refine HLe.pick 5 rfl (by first | rfl | (simp [LB.enc, nE]; done)) ?_ | refine HLe.skip _ ?_), ?_, rfl⟩
    rw [hr]; rfl
  · try simp only [Bool.or_eq_true, Bool.or_eq_false_iff, Bool.and_eq_true, Bool.and_eq_false_iff, decide_eq_true_eq, decide_eq_false_iff_not, Bool.not_eq_true', Bool.not_eq_false', Int.not_lt, Int.not_le, List.length_map] at hc10
    have hlen : a.length = b.length := by omega
    refine W.skip ?_
    refine W.seq ?_
    refine W.reg ?_
    refine XOps.s rfl rfl rfl (Q.move_d rfl) ?_
    refine XOps.s rfl rfl rfl (Q.len_sl isl32 rfl) ?_
    refine XOps.s rfl rfl rfl (Q.move_d rfl) ?_
    refine XOps.nil ?_
    refine W.block ?_
    refine W.loop (ι := Nat) (fun k => [(0, .d (.sl 1 (a.map nE))), (1, .d (.sl 1 (b.map nE))), (11, .d (.sl 1 (a.map nE))), (12, .d (.int .i64 a.length)), (13, .d (.int .i64 k))]) (fun k => hs) (fun k => k ≤ a.length ∧ ∀ i, i < k → a[i]? = b[i]?) (fun k => a.length - k) 0 ?_ ?_ ?_ ?_
    · exact ⟨Nat.zero_le _, fun i hi => absurd hi (Nat.not_lt_zero _)⟩
    · exact ⟨by first | rfl | exact int_eq (by omega) | exact len_eq (by simp) | exact int_eq (by simp; done), by first | rfl | exact int_eq (by omega) | exact len_eq (by simp) | exact int_eq (by simp; done), by first | rfl | exact int_eq (by omega) | exact len_eq (by simp) | exact int_eq (by simp; done), by first | rfl | exact int_eq (by omega) | exact len_eq (by simp) | exact int_eq (by simp; done), by first | rfl | exact int_eq (by omega) | exact len_eq (by simp) | exact int_eq (by simp; done), trivial⟩
    · repeat (first | exact HLe.refl _ | refine HLe.cons' (by first | rfl | (simp [LB.enc, nE]; done)) ?_ | refine HLe.pick 1 rfl (by first | rfl | (simp [LB.enc, nE]; done)) ?_ | refine HLe.pick 2 rfl (by first | rfl | (simp [LB.enc, nE]; done)) ?_ | refine HLe.pick 3 rfl (by first | rfl | (simp [LB.enc, nE]; done)) ?_ | refine HLe.pick 4 rfl (by first | rfl | (simp [LB.enc, nE]; done)) ?_ | refine HLe.pick 5 rfl (by first | rfl | (simp [LB.enc, nE]; done)) ?_ | refine HLe.skip _ ?_)
    · rintro k ⟨hk, hI⟩
      try dsimp only
      refine W.reg ?_
      refine XOps.s rfl rfl rfl (Q.lss rfl rfl) ?_
      refine XOps.nil ?_
      refine W.seq ?_
      refine W.cond rfl (fun hc14 => ?_) (fun hc14 => ?_)
      · try simp only [Bool.or_eq_true, Bool.or_eq_false_iff, Bool.and_eq_true, Bool.and_eq_false_iff, decide_eq_true_eq, decide_eq_false_iff_not, Bool.not_eq_true', Bool.not_eq_false', Int.not_lt, Int.not_le, List.length_map] at hc14
        obtain ⟨u, hu⟩ : ∃ u, a[k]? = some u := ⟨_, List.getElem?_eq_getElem (by omega)⟩
        obtain ⟨v, hv⟩ : ∃ v, b[k]? = some v := ⟨_, List.getElem?_eq_getElem (by omega)⟩
        refine W.skip ?_
        refine W.seq ?_
        refine W.block ?_
        refine W.reg ?_
        refine XOps.s rfl rfl rfl (Q.move_d rfl) ?_
        refine XOps.s rfl rfl rfl (Q.assign_d rfl) ?_
        refine XOps.nil ?_
        refine W.drawreg 9 follows (by kernel_rfl) ?_
        refine Chain.cons _ (GQ.q rfl (Q.move_d rfl)) rfl ?_
        refine Chain.cons _ (GQ.q rfl (Q.move_d rfl)) rfl ?_
        refine Chain.cons _ (GQ.q rfl (Q.idx_sl sl32 (by decide) rfl rfl (by first | omega | (simp only [List.length_map]; omega)) (by first | exact map_at (by assumption) | exact map_at0 (by assumption) | assumption))) rfl ?_
        refine Chain.cons _ (GQ.q rfl (Q.ld_dp ag3 rfl rfl)) rfl ?_
        refine Chain.cons _ (GQ.q rfl (Q.move_d rfl)) rfl ?_
        refine Chain.cons _ (GQ.q rfl (Q.move_d rfl)) rfl ?_
        refine Chain.cons _ (GQ.q rfl (Q.idx_sl sl32 (by decide) rfl rfl (by first | omega | (simp only [List.length_map]; omega)) (by first | exact map_at (by assumption) | exact map_at0 (by assumption) | assumption))) rfl ?_
        refine Chain.cons _ (GQ.q rfl (Q.ld_dp ag3 rfl rfl)) rfl ?_
        refine Chain.cons _ (GQ.q rfl (Q.neq rfl rfl)) rfl ?_
        refine Chain.nil ?_
        refine XOps.nil ?_
        refine W.cond rfl (fun hc24 => ?_) (fun hc24 => ?_)
        · try simp only [Bool.or_eq_true, Bool.or_eq_false_iff, Bool.and_eq_true, Bool.and_eq_false_iff, decide_eq_true_eq, decide_eq_false_iff_not, Bool.not_eq_true', Bool.not_eq_false', Int.not_lt, Int.not_le, List.length_map] at hc24
          have hr : decide (a = b) = false := decide_eq_false fun h => by subst h; rw [hu] at hv; exact hc24 (Option.some.inj hv)
          refine W.reg ?_
          refine XOps.s rfl rfl rfl (Q.assign_d rfl) ?_
          refine XOps.nil ?_
          refine W.ret ?_
          refine ⟨_, hs, rfl, by repeat (first | exact HLe.refl _ | refine HLe.cons' (by first | rfl | (simp [LB.enc, nE]; done)) ?_ | refine HLe.pick 1 rfl (by first | rfl | (simp [LB.enc, nE]; done)) ?_ | refine HLe.pick 2 rfl (by first | rfl | (simp [LB.enc, nE]; done)) ?_ | refine HLe.pick 3 rfl (by first | rfl | (simp [LB.enc, nE]; done)) ?_ | refine HLe.pick 4 rfl (by first | rfl | (simp [LB.enc, nE]; done)) ?_ | refine HLe.pick 5 rfl (by first | rfl | (simp [LB.enc, nE]; done)) ?_ | refine HLe.skip _ ?_), ?_, rfl⟩
          rw [hr]; rfl
        · try simp only [Bool.or_eq_true, Bool.or_eq_false_iff, Bool.and_eq_true, Bool.and_eq_false_iff, decide_eq_true_eq, decide_eq_false_iff_not, Bool.not_eq_true', Bool.not_eq_false', Int.not_lt, Int.not_le, List.length_map] at hc24
          refine W.skip ?_
          refine W.region ?_
          refine XOps.s rfl rfl rfl (Q.add rfl rfl (wi64 (by first | omega | (dsimp only; omega) | (simp only [List.length_map]; omega)) (by first | omega | (dsimp only; omega) | (simp only [List.length_map]; omega)))) ?_
          refine XOps.s rfl rfl rfl (Q.move_d rfl) ?_
          refine XOps.nil ?_
          refine ⟨k + 1, ?_, ?_, ?_, ?_⟩
          · refine ⟨by omega, fun i hi => ?_⟩
            by_cases h : i = k
            · subst h; rw [hu, hv, hc24]
            · exact hI i (by omega)
          · omega
          · exact ⟨by first | rfl | exact int_eq (by omega) | exact len_eq (by simp) | exact int_eq (by simp; done), by first | rfl | exact int_eq (by omega) | exact len_eq (by simp) | exact int_eq (by simp; done), by first | rfl | exact int_eq (by omega) | exact len_eq (by simp) | exact int_eq (by simp; done), by first | rfl | exact int_eq (by omega) | exact len_eq (by simp) | exact int_eq (by simp; done), by first | rfl | exact int_eq (by omega) | exact len_eq (by simp) | exact int_eq (by simp; done), trivial⟩
          · repeat (first | exact HLe.refl _ | refine HLe.cons' (by first | rfl | (simp [LB.enc, nE]; done)) ?_ | refine HLe.pick 1 rfl (by first | rfl | (simp [LB.enc, nE]; done)) ?_ | refine HLe.pick 2 rfl (by first | rfl | (simp [LB.enc, nE]; done)) ?_ | refine HLe.pick 3 rfl (by first | rfl | (simp [LB.enc, nE]; done)) ?_ | refine HLe.pick 4 rfl (by first | rfl | (simp [LB.enc, nE]; done)) ?_ | refine HLe.pick 5 rfl (by first | rfl | (simp [LB.enc, nE]; done)) ?_ | refine HLe.skip _ ?_)
      · try simp only [Bool.or_eq_true, Bool.or_eq_false_iff, Bool.and_eq_true, Bool.and_eq_false_iff, decide_eq_true_eq, decide_eq_false_iff_not, Bool.not_eq_true', Bool.not_eq_false', Int.not_lt, Int.not_le, List.length_map] at hc14
        have hr : decide (a = b) = true := decide_eq_true (List.ext_getElem? fun i => by
          rcases Nat.lt_or_ge i k with h | h
          · exact hI i h
          · rw [List.getElem?_eq_none (by omega), List.getElem?_eq_none (by omega)])
        refine W.exit ?_
        refine W.reg ?_
        refine XOps.s rfl rfl rfl (Q.assign_d rfl) ?_
        refine XOps.nil ?_
        refine W.ret ?_
        refine ⟨_, hs, rfl, by repeat (first | exact HLe.refl _ | refine HLe.cons' (by first | rfl | (simp [LB.enc, nE]; done)) ?_ | refine HLe.pick 1 rfl (by first | rfl | (simp [LB.enc, nE]; done)) ?_ | refine HLe.pick 2 rfl (by first | rfl | (simp [LB.enc, nE]; done)) ?_ | refine HLe.pick 3 rfl (by first | rfl | (simp [LB.enc, nE]; done)) ?_ | refine HLe.pick 4 rfl (by first | rfl | (simp [LB.enc, nE]; done)) ?_ | refine HLe.pick 5 rfl (by first | rfl | (simp [LB.enc, nE]; done)) ?_ | refine HLe.skip _ ?_), ?_, rfl⟩
        rw [hr]; rfl

set_option maxHeartbeats 1000000 in
set_option maxRecDepth 100000 in
theorem indexI_c {fn : Func} (f : Nat) (caps : List AV) (p : LB → Bool) (l : List LB) (hs : Hp) (hL : l.length ≤ 4611686018427387904) (hf : P.funcs[f]? = some fn) (hg : callGo fn = true) (hp : ∀ x ∈ l, AC P f ([AV.d (.agg (LB.enc x))] ++ caps) hs (fun r h => r = .d (.bool (p x)) ∧ h = hs)) : AC P 30 [.d (.sl 4 (l.map LB.enc)), .fn f caps] hs (fun r h => r = .d (.int .i64 (idxP p l)) ∧ h = hs) := by
  refine AC.of 19 Try.func30 rfl rfl rfl ?_
  refine W.reg ?_
  refine XOps.s rfl rfl rfl (Q.assign_d rfl) ?_
  refine XOps.nil ?_
  refine W.seq ?_
  refine W.reg ?_
  refine XOps.s rfl rfl rfl (Q.move_d rfl) ?_
  refine XOps.s rfl rfl rfl (Q.len_sl isl29 rfl) ?_
  refine XOps.s rfl rfl rfl (Q.move_d rfl) ?_
  refine XOps.nil ?_
  refine W.block ?_
  refine W.loop (ι := Nat) (fun k => [(0, .d (.sl 4 (l.map LB.enc))), (1, .fn f caps), (7, .d (.int .i64 l.length)), (8, .d (.int .i64 k))]) (fun k => hs) (fun k => k ≤ l.length ∧ ∀ i x, i < k → l[i]? = some x → p x = false) (fun k => l.length - k) 0 ?_ ?_ ?_ ?_
  · exact ⟨Nat.zero_le _, fun i x h => absurd h (Nat.not_lt_zero _)⟩
  · exact ⟨by first | rfl | exact int_eq (by omega) | exact len_eq (by simp) | exact int_eq (by simp; done), by first | rfl | exact int_eq (by omega) | exact len_eq (by simp) | exact int_eq (by simp; done), by first | rfl | exact int_eq (by omega) | exact len_eq (by simp) | exact int_eq (by simp; done), by first | rfl | exact int_eq (by omega) | exact len_eq (by simp) | exact int_eq (by simp; done), trivial⟩
  · repeat (first | exact HLe.refl _ | refine HLe.cons' (by first | rfl | (simp [LB.enc, nE]; done)) ?_ | refine HLe.pick 1 rfl (by first | rfl | (simp [LB.enc, nE]; done)) ?_ | refine HLe.pick 2 rfl (by first | rfl | (simp [LB.enc, nE]; done)) ?_ | refine HLe.pick 3 rfl (by first | rfl | (simp [LB.enc, nE]; done)) ?_ | refine HLe.pick 4 rfl (by first | rfl | (simp [LB.enc, nE]; done)) ?_ | refine HLe.pick 5 rfl (by first | rfl | (simp [LB.enc, nE]; done)) ?_ | refine HLe.skip _ ?_)
  · rintro k ⟨hk, hI⟩
    try dsimp only
    refine W.reg ?_
    refine XOps.s rfl rfl rfl (Q.lss rfl rfl) ?_
    refine XOps.nil ?_
    refine W.seq ?_
    refine W.cond rfl (fun hc9 => ?_) (fun hc9 => ?_)
    · try simp only [Bool.or_eq_true, Bool.or_eq_false_iff, Bool.and_eq_true, Bool.and_eq_false_iff, decide_eq_true_eq, decide_eq_false_iff_not, Bool.not_eq_true', Bool.not_eq_false', Int.not_lt, Int.not_le, List.length_map] at hc9
      obtain ⟨x, hx⟩ : ∃ x, l[k]? = some x := ⟨_, List.getElem?_eq_getElem (by omega)⟩
      refine W.skip ?_
      refine W.seq ?_
      refine W.block ?_
      refine W.reg ?_
      refine XOps.s rfl rfl rfl (Q.move_d rfl) ?_
      refine XOps.s rfl rfl rfl (Q.assign_d rfl) ?_
      refine XOps.nil ?_
      refine W.reg ?_
      refine XOps.s rfl rfl rfl (Q.move_fn rfl) ?_
      refine XOps.s rfl rfl rfl (Q.move_d rfl) ?_
      refine XOps.s rfl rfl rfl (Q.move_d rfl) ?_
      refine XOps.s rfl rfl rfl (Q.idx_sl sl29 (by decide) rfl rfl (by first | omega | (simp only [List.length_map]; omega)) (by first | exact map_at (by assumption) | exact map_at0 (by assumption) | assumption)) ?_
      refine XOps.s rfl rfl rfl (Q.ld_dpn ag31 rfl rfl) ?_
      refine XOps.s rfl rfl rfl (Q.call rfl hf hg rfl (hp x (List.mem_of_getElem? hx))) ?_
      refine XOps.nil ?_
      refine W.cond rfl (fun hc16 => ?_) (fun hc16 => ?_)
      · try simp only [Bool.or_eq_true, Bool.or_eq_false_iff, Bool.and_eq_true, Bool.and_eq_false_iff, decide_eq_true_eq, decide_eq_false_iff_not, Bool.not_eq_true', Bool.not_eq_false', Int.not_lt, Int.not_le, List.length_map] at hc16
        have hr := idxP_some hx hc16 hI
        refine W.reg ?_
        refine XOps.s rfl rfl rfl (Q.move_d rfl) ?_
        refine XOps.s rfl rfl rfl (Q.assign_d rfl) ?_
        refine XOps.nil ?_
        refine W.ret ?_
        refine ⟨_, hs, rfl, by repeat (first | exact HLe.refl _ | refine HLe.cons' (by first | rfl | (simp [LB.enc, nE]; done)) ?_ | refine HLe.pick 1 rfl (by first | rfl | (simp [LB.enc, nE]; done)) ?_ | refine HLe.pick 2 rfl (by first | rfl | (simp [LB.enc, nE]; done)) ?_ | refine HLe.pick 3 rfl (by first | rfl | (simp [LB.enc, nE]; done)) ?_ | refine HLe.pick 4 rfl (by first | rfl | (simp [LB.enc, nE]; done)) ?_ | refine HLe.pick 5 rfl (by first | rfl | (simp [LB.enc, nE]; done)) ?_ | refine HLe.skip _ ?_), ?_, rfl⟩
        rw [hr]; rfl
      · try simp only [Bool.or_eq_true, Bool.or_eq_false_iff, Bool.and_eq_true, Bool.and_eq_false_iff, decide_eq_true_eq, decide_eq_false_iff_not, Bool.not_eq_true', Bool.not_eq_false', Int.not_lt, Int.not_le, List.length_map] at hc16
        refine W.skip ?_
        refine W.region ?_
        refine XOps.s rfl rfl rfl (Q.add rfl rfl (wi64 (by first | omega | (dsimp only; omega) | (simp only [List.length_map]; omega)) (by first | omega | (dsimp only; omega) | (simp only [List.length_map]; omega)))) ?_
        refine XOps.s rfl rfl rfl (Q.move_d rfl) ?_
        refine XOps.nil ?_
        refine ⟨k + 1, ?_, ?_, ?_, ?_⟩
        · refine ⟨by omega, fun i y h hy => ?_⟩
          rcases Nat.lt_or_ge i k with h2 | h2
          · exact hI i y h2 hy
          · obtain rfl : i = k := by omega
            rw [hx] at hy; obtain rfl := Option.some.inj hy; exact (by simpa using hc16)
        · omega
        · exact ⟨by first | rfl | exact int_eq (by omega) | exact len_eq (by simp) | exact int_eq (by simp; done), by first | rfl | exact int_eq (by omega) | exact len_eq (by simp) | exact int_eq (by simp; done), by first | rfl | exact int_eq (by omega) | exact len_eq (by simp) | exact int_eq (by simp; done), by first | rfl | exact int_eq (by omega) | exact len_eq (by simp) | exact int_eq (by simp; done), trivial⟩
        · repeat (first | exact HLe.refl _ | refine HLe.cons' (by first | rfl | (simp [LB.enc, nE]; done)) ?_ | refine HLe.pick 1 rfl (by first | rfl | (simp [LB.enc, nE]; done)) ?_ | refine HLe.pick 2 rfl (by first | rfl | (simp [LB.enc, nE]; done)) ?_ | refine HLe.pick 3 rfl (by first | rfl | (simp [LB.enc, nE]; done)) ?_ | refine HLe.pick 4 rfl (by first | rfl | (simp [LB.enc, nE]; done)) ?_ | refine HLe.pick 5 rfl (by first | rfl | (simp [LB.enc, nE]; done)) ?_ | refine HLe.skip _ ?_)
    · try simp only [Bool.or_eq_true, Bool.or_eq_false_iff, Bool.and_eq_true, Bool.and_eq_false_iff, decide_eq_true_eq, decide_eq_false_iff_not, Bool.not_eq_true', Bool.not_eq_false', Int.not_lt, Int.not_le, List.length_map] at hc9
      have hr := idxP_none (p := p) (l := l) fun i x h => hI i x (by have := (List.getElem?_eq_some_iff.1 h).1; omega) h
      refine W.exit ?_
      refine W.reg ?_
      refine XOps.s rfl rfl rfl (Q.assign_d rfl) ?_
      refine XOps.nil ?_
      refine W.ret ?_
      refine ⟨_, hs, rfl, by repeat (first | exact HLe.refl _ | refine HLe.cons' (by first | rfl | (simp [LB.enc, nE]; done)) ?_ | refine HLe.pick 1 rfl (by first | rfl | (simp [LB.enc, nE]; done)) ?_ | refine HLe.pick 2 rfl (by first | rfl | (simp [LB.enc, nE]; done)) ?_ | refine HLe.pick 3 rfl (by first | rfl | (simp [LB.enc, nE]; done)) ?_ | refine HLe.pick 4 rfl (by first | rfl | (simp [LB.enc, nE]; done)) ?_ | refine HLe.pick 5 rfl (by first | rfl | (simp [LB.enc, nE]; done)) ?_ | refine HLe.skip _ ?_), ?_, rfl⟩
      rw [hr]; rfl

set_option maxHeartbeats 1000000 in
set_option maxRecDepth 100000 in
theorem containsI_c {fn : Func} (f : Nat) (caps : List AV) (p : LB → Bool) (l : List LB) (hs : Hp) (hL : l.length ≤ 4611686018427387904) (hf : P.funcs[f]? = some fn) (hg : callGo fn = true) (hp : ∀ x ∈ l, AC P f ([AV.d (.agg (LB.enc x))] ++ caps) hs (fun r h => r = .d (.bool (p x)) ∧ h = hs)) : AC P 24 [.d (.sl 4 (l.map LB.enc)), .fn f caps] hs (fun r h => r = .d (.bool (l.any p)) ∧ h = hs) := by
  refine AC.of 9 Try.func24 rfl rfl rfl ?_
  refine W.reg ?_
  refine XOps.s rfl rfl rfl (Q.assign_d rfl) ?_
  refine XOps.nil ?_
  refine W.reg ?_
  refine XOps.s rfl rfl rfl (Q.move_d rfl) ?_
  refine XOps.s rfl rfl rfl (Q.move_fn rfl) ?_
  refine XOps.s rfl rfl rfl (Q.call rfl Try.func30 go30 rfl (indexI_c f caps p l hs hL hf hg hp)) ?_
  refine XOps.s rfl rfl rfl (Q.geq rfl rfl) ?_
  refine XOps.s rfl rfl rfl (Q.assign_d rfl) ?_
  refine XOps.nil ?_
  refine W.ret ?_
  refine ⟨_, hs, rfl, by repeat (first | exact HLe.refl _ | refine HLe.cons' (by first | rfl | (simp [LB.enc, nE]; done)) ?_ | refine HLe.pick 1 rfl (by first | rfl | (simp [LB.enc, nE]; done)) ?_ | refine HLe.pick 2 rfl (by first | rfl | (simp [LB.enc, nE]; done)) ?_ | refine HLe.pick 3 rfl (by first | rfl | (simp [LB.enc, nE]; done)) ?_ | refine HLe.pick 4 rfl (by first | rfl | (simp [LB.enc, nE]; done)) ?_ | refine HLe.pick 5 rfl (by first | rfl | (simp [LB.enc, nE]; done)) ?_ | refine HLe.skip _ ?_), ?_, rfl⟩
  rw [idxP_any]; rfl

set_option maxHeartbeats 1000000 in
set_option maxRecDepth 100000 in
theorem indexB_c {fn : Func} (f : Nat) (caps : List AV) (p : LB → Bool) (l : List LB) (hs : Hp) (hL : l.length ≤ 4611686018427387904) (hf : P.funcs[f]? = some fn) (hg : callGo fn = true) (hp : ∀ x ∈ l, AC P f ([AV.d (.agg (LB.enc x))] ++ caps) hs (fun r h => r = .d (.bool (p x)) ∧ h = hs)) : AC P 31 [.d (.sl 4 (l.map LB.enc)), .fn f caps] hs (fun r h => r = .d (.int .i64 (idxP p l)) ∧ h = hs) := by
  refine AC.of 19 Try.func31 rfl rfl rfl ?_
  refine W.reg ?_
  refine XOps.s rfl rfl rfl (Q.assign_d rfl) ?_
  refine XOps.nil ?_
  refine W.seq ?_
  refine W.reg ?_
  refine XOps.s rfl rfl rfl (Q.move_d rfl) ?_
  refine XOps.s rfl rfl rfl (Q.len_sl isl45 rfl) ?_
  refine XOps.s rfl rfl rfl (Q.move_d rfl) ?_
  refine XOps.nil ?_
  refine W.block ?_
  refine W.loop (ι := Nat) (fun k => [(0, .d (.sl 4 (l.map LB.enc))), (1, .fn f caps), (7, .d (.int .i64 l.length)), (8, .d (.int .i64 k))]) (fun k => hs) (fun k => k ≤ l.length ∧ ∀ i x, i < k → l[i]? = some x → p x = false) (fun k => l.length - k) 0 ?_ ?_ ?_ ?_
  · exact ⟨Nat.zero_le _, fun i x h => absurd h (Nat.not_lt_zero _)⟩
  · exact ⟨by first | rfl | exact int_eq (by omega) | exact len_eq (by simp) | exact int_eq (by simp; done), by first | rfl | exact int_eq (by omega) | exact len_eq (by simp) | exact int_eq (by simp; done), by first | rfl | exact int_eq (by omega) | exact len_eq (by simp) | exact int_eq (by simp; done), by first | rfl | exact int_eq (by omega) | exact len_eq (by simp) | exact int_eq (by simp; done), trivial⟩
  · repeat (first | exact HLe.refl _ | refine HLe.cons' (by first | rfl | (simp [LB.enc, nE]; done)) ?_ | refine HLe.pick 1 rfl (by first | rfl | (simp [LB.enc, nE]; done)) ?_ | refine HLe.pick 2 rfl (by first | rfl | (simp [LB.enc, nE]; done)) ?_ | refine HLe.pick 3 rfl (by first | rfl | (simp [LB.enc, nE]; done)) ?_ | refine HLe.pick 4 rfl (by first | rfl | (simp [LB.enc, nE]; done)) ?_ | refine HLe.pick 5 rfl (by first | rfl | (simp [LB.enc, nE]; done)) ?_ | refine HLe.skip _ ?_)
  · rintro k ⟨hk, hI⟩
    try dsimp only
    refine W.reg ?_
    refine XOps.s rfl rfl rfl (Q.lss rfl rfl) ?_
    refine XOps.nil ?_
    refine W.seq ?_
    refine W.cond rfl (fun hc9 => ?_) (fun hc9 => ?_)
    · try simp only [Bool.or_eq_true, Bool.or_eq_false_iff, Bool.and_eq_true, Bool.and_eq_false_iff, decide_eq_true_eq, decide_eq_false_iff_not, Bool.not_eq_true', Bool.not_eq_false', Int.not_lt, Int.not_le, List.length_map] at hc9
      obtain ⟨x, hx⟩ : ∃ x, l[k]? = some x := ⟨_, List.getElem?_eq_getElem (by omega)⟩
      refine W.skip ?_
      refine W.seq ?_
      refine W.block ?_
      refine W.reg ?_
      refine XOps.s rfl rfl rfl (Q.move_d rfl) ?_
      refine XOps.s rfl rfl rfl (Q.assign_d rfl) ?_
      refine XOps.nil ?_
      refine W.reg ?_
      refine XOps.s rfl rfl rfl (Q.move_fn rfl) ?_
      refine XOps.s rfl rfl rfl (Q.move_d rfl) ?_
      refine XOps.s rfl rfl rfl (Q.move_d rfl) ?_
      refine XOps.s rfl rfl rfl (Q.idx_sl sl45 (by decide) rfl rfl (by first | omega | (simp only [List.length_map]; omega)) (by first | exact map_at (by assumption) | exact map_at0 (by assumption) | assumption)) ?_
      refine XOps.s rfl rfl rfl (Q.ld_dpn ag23 rfl rfl) ?_
      refine XOps.s rfl rfl rfl (Q.call rfl hf hg rfl (hp x (List.mem_of_getElem? hx))) ?_
      refine XOps.nil ?_
      refine W.cond rfl (fun hc16 => ?_) (fun hc16 => ?_)
      · try simp only [Bool.or_eq_true, Bool.or_eq_false_iff, Bool.and_eq_true, Bool.and_eq_false_iff, decide_eq_true_eq, decide_eq_false_iff_not, Bool.not_eq_true', Bool.not_eq_false', Int.not_lt, Int.not_le, List.length_map] at hc16
        have hr := idxP_some hx hc16 hI
        refine W.reg ?_
        refine XOps.s rfl rfl rfl (Q.move_d rfl) ?_
        refine XOps.s rfl rfl rfl (Q.assign_d rfl) ?_
        refine XOps.nil ?_
        refine W.ret ?_
        refine ⟨_, hs, rfl, by repeat (first | exact HLe.refl _ | refine HLe.cons' (by first | rfl | (simp [LB.enc, nE]; done)) ?_ | refine HLe.pick 1 rfl (by first | rfl | (simp [LB.enc, nE]; done)) ?_ | refine HLe.pick 2 rfl (by first | rfl | (simp [LB.enc, nE]; done)) ?_ | refine HLe.pick 3 rfl (by first | rfl | (simp [LB.enc, nE]; done)) ?_ | refine HLe.pick 4 rfl (by first | rfl | (simp [LB.enc, nE]; done)) ?_ | refine HLe.pick 5 rfl (by first | rfl | (simp [LB.enc, nE]; done)) ?_ | refine HLe.skip _ ?_), ?_, rfl⟩
        rw [hr]; rfl
      · try simp only [Bool.or_eq_true, Bool.or_eq_false_iff, Bool.and_eq_true, Bool.and_eq_false_iff, decide_eq_true_eq, decide_eq_false_iff_not, Bool.not_eq_true', Bool.not_eq_false', Int.not_lt, Int.not_le, List.length_map] at hc16
        refine W.skip ?_
        refine W.region ?_
        refine XOps.s rfl rfl rfl (Q.add rfl rfl (wi64 (by first | omega | (dsimp only; omega) | (simp only [List.length_map]; omega)) (by first | omega | (dsimp only; omega) | (simp only [List.length_map]; omega)))) ?_
        refine XOps.s rfl rfl rfl (Q.move_d rfl) ?_
        refine XOps.nil ?_
        refine ⟨k + 1, ?_, ?_, ?_, ?_⟩
        · refine ⟨by omega, fun i y h hy => ?_⟩
          rcases Nat.lt_or_ge i k with h2 | h2
          · exact hI i y h2 hy
          · obtain rfl : i = k := by omega
            rw [hx] at hy; obtain rfl := Option.some.inj hy; exact (by simpa using hc16)
        · omega
        · exact ⟨by first | rfl | exact int_eq (by omega) | exact len_eq (by simp) | exact int_eq (by simp; done), by first | rfl | exact int_eq (by omega) | exact len_eq (by simp) | exact int_eq (by simp; done), by first | rfl | exact int_eq (by omega) | exact len_eq (by simp) | exact int_eq (by simp; done), by first | rfl | exact int_eq (by omega) | exact len_eq (by simp) | exact int_eq (by simp; done), trivial⟩
        · repeat (first | exact HLe.refl _ | refine HLe.cons' (by first | rfl | (simp [LB.enc, nE]; done)) ?_ | refine HLe.pick 1 rfl (by first | rfl | (simp [LB.enc, nE]; done)) ?_ | refine HLe.pick 2 rfl (by first | rfl | (simp [LB.enc, nE]; done)) ?_ | refine HLe.pick 3 rfl (by first | rfl | (simp [LB.enc, nE]; done)) ?_ | refine HLe.pick 4 rfl (by first | rfl | (simp [LB.enc, nE]; done)) ?_ | refine HLe.pick 5 rfl (by first | rfl | (simp [LB.enc, nE]; done)) ?_ | refine HLe.skip _ ?_)
    · try simp only [Bool.or_eq_true, Bool.or_eq_false_iff, Bool.and_eq_true, Bool.and_eq_false_iff, decide_eq_true_eq, decide_eq_false_iff_not, Bool.not_eq_true', Bool.not_eq_false', Int.not_lt, Int.not_le, List.length_map] at hc9
      have hr := idxP_none (p := p) (l := l) fun i x h => hI i x (by have := (List.getElem?_eq_some_iff.1 h).1; omega) h
      refine W.exit ?_
      refine W.reg ?_
      refine XOps.s rfl rfl rfl (Q.assign_d rfl) ?_
      refine XOps.nil ?_
      refine W.ret ?_
      refine ⟨_, hs, rfl, by repeat (first | exact HLe.refl _ | refine HLe.cons' (by first | rfl | (simp [LB.enc, nE]; done)) ?_ | refine HLe.pick 1 rfl (by first | rfl | (simp [LB.enc, nE]; done)) ?_ | refine HLe.pick 2 rfl (by first | rfl | (simp [LB.enc, nE]; done)) ?_ | refine HLe.pick 3 rfl (by first | rfl | (simp [LB.enc, nE]; done)) ?_ | refine HLe.pick 4 rfl (by first | rfl | (simp [LB.enc, nE]; done)) ?_ | refine HLe.pick 5 rfl (by first | rfl | (simp [LB.enc, nE]; done)) ?_ | refine HLe.skip _ ?_), ?_, rfl⟩
      rw [hr]; rfl

set_option maxHeartbeats 1000000 in
set_option maxRecDepth 100000 in
theorem containsB_c {fn : Func} (f : Nat) (caps : List AV) (p : LB → Bool) (l : List LB) (hs : Hp) (hL : l.length ≤ 4611686018427387904) (hf : P.funcs[f]? = some fn) (hg : callGo fn = true) (hp : ∀ x ∈ l, AC P f ([AV.d (.agg (LB.enc x))] ++ caps) hs (fun r h => r = .d (.bool (p x)) ∧ h = hs)) : AC P 28 [.d (.sl 4 (l.map LB.enc)), .fn f caps] hs (fun r h => r = .d (.bool (l.any p)) ∧ h = hs) := by
  refine AC.of 9 Try.func28 rfl rfl rfl ?_
  refine W.reg ?_
  refine XOps.s rfl rfl rfl (Q.assign_d rfl) ?_
  refine XOps.nil ?_
  refine W.reg ?_
  refine XOps.s rfl rfl rfl (Q.move_d rfl) ?_
  refine XOps.s rfl rfl rfl (Q.move_fn rfl) ?_
  refine XOps.s rfl rfl rfl (Q.call rfl Try.func31 go31 rfl (indexB_c f caps p l hs hL hf hg hp)) ?_
  refine XOps.s rfl rfl rfl (Q.geq rfl rfl) ?_
  refine XOps.s rfl rfl rfl (Q.assign_d rfl) ?_
  refine XOps.nil ?_
  refine W.ret ?_
  refine ⟨_, hs, rfl, by repeat (first | exact HLe.refl _ | refine HLe.cons' (by first | rfl | (simp [LB.enc, nE]; done)) ?_ | refine HLe.pick 1 rfl (by first | rfl | (simp [LB.enc, nE]; done)) ?_ | refine HLe.pick 2 rfl (by first | rfl | (simp [LB.enc, nE]; done)) ?_ | refine HLe.pick 3 rfl (by first | rfl | (simp [LB.enc, nE]; done)) ?_ | refine HLe.pick 4 rfl (by first | rfl | (simp [LB.enc, nE]; done)) ?_ | refine HLe.pick 5 rfl (by first | rfl | (simp [LB.enc, nE]; done)) ?_ | refine HLe.skip _ ?_), ?_, rfl⟩
  rw [idxP_any]; rfl

theorem c4 {a b c d a2 b2 c2 d2 : Int} (h1 : a = a2) (h2 : b = b2) (h3 : c = c2) (h4 : d = d2) : HO.cells [.d (.int .i64 a), .d (.int .i64 b), .d (.int .i64 c), .d (.int .i64 d)] = HO.cells [.d (.int .i64 a2), .d (.int .i64 b2), .d (.int .i64 c2), .d (.int .i64 d2)] := by rw [h1, h2, h3, h4]

set_option maxHeartbeats 1000000 in
set_option maxRecDepth 100000 in
theorem box_c (x : LB) (s : Int) (hs : Hp) (hx : x.it) : AC P 20 [.d (.agg x.enc), .d (.int .i64 s)] hs (fun r h => r = .d (.agg (boxS x s).enc) ∧ h = hs) := by
  unfold LB.it at hx
  refine AC.ofc 60 Try.func20 rfl rfl rfl ?_
  refine W.reg ?_
  refine XOps.loud rfl (L.boxn rfl rfl) ?_
  rintro _ _ ⟨b2, rfl, rfl⟩
  (refine XOps.loud rfl (L.alloc tz23 rfl rfl) ?_; rintro _ _ ⟨b4, rfl, rfl⟩)
  refine XOps.nil ?_
  refine W.reg ?_
  refine XOps.s rfl rfl rfl (Q.fld_ptr fl31_0 rfl) ?_
  refine XOps.s rfl rfl rfl (Q.ld_ptr (k := 1) ag3 rfl rfl rfl) ?_
  refine XOps.s rfl rfl rfl (Q.add rfl rfl (wi64 (by first | omega | (dsimp only; omega) | (simp only [List.length_map]; omega)) (by first | omega | (dsimp only; omega) | (simp only [List.length_map]; omega)))) ?_
  refine XOps.s rfl rfl rfl (Q.fld_ptr fl31_1 rfl) ?_
  refine XOps.s rfl rfl rfl (Q.ld_ptr (k := 1) ag3 rfl rfl rfl) ?_
  refine XOps.s rfl rfl rfl (Q.add rfl rfl (wi64 (by first | omega | (dsimp only; omega) | (simp only [List.length_map]; omega)) (by first | omega | (dsimp only; omega) | (simp only [List.length_map]; omega)))) ?_
  refine XOps.s rfl rfl rfl (Q.fld_ptr fl31_2 rfl) ?_
  refine XOps.s rfl rfl rfl (Q.ld_ptr (k := 1) ag3 rfl rfl rfl) ?_
  refine XOps.s rfl rfl rfl (Q.fld_ptr fl31_3 rfl) ?_
  refine XOps.s rfl rfl rfl (Q.ld_ptr (k := 1) ag3 rfl rfl rfl) ?_
  refine XOps.s rfl rfl rfl (Q.build pl23 tz23 tzd23 rfl) ?_
  (refine XOps.loud rfl (L.alloc tz23 rfl rfl) ?_; rintro _ _ ⟨b5, rfl, rfl⟩)
  refine XOps.loud rfl (L.storen (k := 0) ag23 rfl rfl rfl rfl rfl) ?_
  rintro _ _ ⟨rfl, rfl⟩
  refine XOps.nil ?_
  refine W.seq_mid (fun σ₁ hs₁ => ∃ u : Unit, (True) ∧ ELe [(1, .d (.int .i64 s)), (2, .ptr b2 0), (4, .ptr b4 0), (5, .ptr b5 0)] σ₁ ∧ HLe ((b5, .cells [.d (.int .i64 (boxX x s)), .d (.int .i64 (x.y + 1)), .d (.int .i64 x.w), .d (.int .i64 x.h)]) :: (b4, .cells [.d (.int .i64 0), .d (.int .i64 0), .d (.int .i64 0), .d (.int .i64 0)]) :: (b2, .cells [.d (.int .i64 x.x), .d (.int .i64 x.y), .d (.int .i64 x.w), .d (.int .i64 x.h)]) :: hs) hs₁) ?_ ?_
  ·
    refine W.reg ?_
    refine XOps.s rfl rfl rfl (Q.move_d rfl) ?_
    refine XOps.nil ?_
    refine W.block ?_
    refine W.seq ?_
    refine W.reg ?_
    refine XOps.s rfl rfl rfl (Q.eql rfl rfl) ?_
    refine XOps.s rfl rfl rfl (Q.assign_d rfl) ?_
    refine XOps.nil ?_
    refine W.cond rfl (fun hc18 => ?_) (fun hc18 => ?_)
    · try simp only [Bool.or_eq_true, Bool.or_eq_false_iff, Bool.and_eq_true, Bool.and_eq_false_iff, decide_eq_true_eq, decide_eq_false_iff_not, Bool.not_eq_true', Bool.not_eq_false', Int.not_lt, Int.not_le, List.length_map] at hc18
      refine W.skip ?_
      refine W.cond rfl (fun hc18 => ?_) (fun hc18 => ?_)
      · try simp only [Bool.or_eq_true, Bool.or_eq_false_iff, Bool.and_eq_true, Bool.and_eq_false_iff, decide_eq_true_eq, decide_eq_false_iff_not, Bool.not_eq_true', Bool.not_eq_false', Int.not_lt, Int.not_le, List.length_map] at hc18
        refine W.region ?_
        refine XOps.s rfl rfl rfl (Q.fld_ptr fl31_0 rfl) ?_
        refine XOps.s rfl rfl rfl (Q.ld_ptr (k := 2) ag3 rfl rfl rfl) ?_
        refine XOps.s rfl rfl rfl (Q.fld_ptr fl31_2 rfl) ?_
        refine XOps.s rfl rfl rfl (Q.ld_ptr (k := 2) ag3 rfl rfl rfl) ?_
        refine XOps.s rfl rfl rfl (Q.sub rfl rfl (wi64 (by first | omega | (dsimp only; omega) | (simp only [List.length_map]; omega)) (by first | omega | (dsimp only; omega) | (simp only [List.length_map]; omega)))) ?_
        refine XOps.s rfl rfl rfl (Q.fld_ptr fl23_0 rfl) ?_
        refine XOps.loud rfl (L.store (k := 0) ag3 rfl rfl rfl rfl rfl) ?_
        rintro _ _ ⟨rfl, rfl⟩
        refine XOps.nil ?_
        refine ⟨(), trivial, ⟨by first | rfl | exact int_eq (by omega) | exact len_eq (by simp) | exact int_eq (by simp; done), by first | rfl | exact int_eq (by omega) | exact len_eq (by simp) | exact int_eq (by simp; done), by first | rfl | exact int_eq (by omega) | exact len_eq (by simp) | exact int_eq (by simp; done), by first | rfl | exact int_eq (by omega) | exact len_eq (by simp) | exact int_eq (by simp; done), trivial⟩, by first | exact HLe.cons' (c4 (by first | rfl | omega | (unfold boxX; (repeat (first | rw [if_pos (by omega)] | rw [if_neg (by omega)])); done) | (unfold boxX; (repeat (first | rw [if_pos (by omega)] | rw [if_neg (by omega)])); rfl)) (by first | rfl | omega | (unfold boxX; (repeat (first | rw [if_pos (by omega)] | rw [if_neg (by omega)])); done) | (unfold boxX; (repeat (first | rw [if_pos (by omega)] | rw [if_neg (by omega)])); rfl)) (by first | rfl | omega | (unfold boxX; (repeat (first | rw [if_pos (by omega)] | rw [if_neg (by omega)])); done) | (unfold boxX; (repeat (first | rw [if_pos (by omega)] | rw [if_neg (by omega)])); rfl)) (by first | rfl | omega | (unfold boxX; (repeat (first | rw [if_pos (by omega)] | rw [if_neg (by omega)])); done) | (unfold boxX; (repeat (first | rw [if_pos (by omega)] | rw [if_neg (by omega)])); rfl))) (HLe.refl _) | exact HLe.skip _ (HLe.skip _ (HLe.skip _ (HLe.refl _)))⟩
      · try simp only [Bool.or_eq_true, Bool.or_eq_false_iff, Bool.and_eq_true, Bool.and_eq_false_iff, decide_eq_true_eq, decide_eq_false_iff_not, Bool.not_eq_true', Bool.not_eq_false', Int.not_lt, Int.not_le, List.length_map] at hc18
        refine W.seq ?_
        refine W.reg ?_
        refine XOps.s rfl rfl rfl (Q.eql rfl rfl) ?_
        refine XOps.s rfl rfl rfl (Q.assign_d rfl) ?_
        refine XOps.nil ?_
        refine W.cond rfl (fun hc28 => ?_) (fun hc28 => ?_)
        · try simp only [Bool.or_eq_true, Bool.or_eq_false_iff, Bool.and_eq_true, Bool.and_eq_false_iff, decide_eq_true_eq, decide_eq_false_iff_not, Bool.not_eq_true', Bool.not_eq_false', Int.not_lt, Int.not_le, List.length_map] at hc28
          refine W.skip ?_
          refine W.cond rfl (fun hc28 => ?_) (fun hc28 => ?_)
          · try simp only [Bool.or_eq_true, Bool.or_eq_false_iff, Bool.and_eq_true, Bool.and_eq_false_iff, decide_eq_true_eq, decide_eq_false_iff_not, Bool.not_eq_true', Bool.not_eq_false', Int.not_lt, Int.not_le, List.length_map] at hc28
            refine W.region ?_
            refine XOps.s rfl rfl rfl (Q.fld_ptr fl31_0 rfl) ?_
            refine XOps.s rfl rfl rfl (Q.ld_ptr (k := 2) ag3 rfl rfl rfl) ?_
            refine XOps.s rfl rfl rfl (Q.fld_ptr fl31_2 rfl) ?_
            refine XOps.s rfl rfl rfl (Q.ld_ptr (k := 2) ag3 rfl rfl rfl) ?_
            refine XOps.s rfl rfl rfl (Q.quo rfl rfl (by omega) (wquo (by omega) (by omega) (by omega))) ?_
            refine XOps.s rfl rfl rfl (Q.sub rfl rfl (wi64 (by first | omega | (dsimp only; omega) | (simp only [List.length_map]; omega)) (by first | omega | (dsimp only; omega) | (simp only [List.length_map]; omega)))) ?_
            refine XOps.s rfl rfl rfl (Q.fld_ptr fl23_0 rfl) ?_
            refine XOps.loud rfl (L.store (k := 0) ag3 rfl rfl rfl rfl rfl) ?_
            rintro _ _ ⟨rfl, rfl⟩
            refine XOps.nil ?_
            refine ⟨(), trivial, ⟨by first | rfl | exact int_eq (by omega) | exact len_eq (by simp) | exact int_eq (by simp; done), by first | rfl | exact int_eq (by omega) | exact len_eq (by simp) | exact int_eq (by simp; done), by first | rfl | exact int_eq (by omega) | exact len_eq (by simp) | exact int_eq (by simp; done), by first | rfl | exact int_eq (by omega) | exact len_eq (by simp) | exact int_eq (by simp; done), trivial⟩, by first | exact HLe.cons' (c4 (by first | rfl | omega | (unfold boxX; (repeat (first | rw [if_pos (by omega)] | rw [if_neg (by omega)])); done) | (unfold boxX; (repeat (first | rw [if_pos (by omega)] | rw [if_neg (by omega)])); rfl)) (by first | rfl | omega | (unfold boxX; (repeat (first | rw [if_pos (by omega)] | rw [if_neg (by omega)])); done) | (unfold boxX; (repeat (first | rw [if_pos (by omega)] | rw [if_neg (by omega)])); rfl)) (by first | rfl | omega | (unfold boxX; (repeat (first | rw [if_pos (by omega)] | rw [if_neg (by omega)])); done) | (unfold boxX; (repeat (first | rw [if_pos (by omega)] | rw [if_neg (by omega)])); rfl)) (by first | rfl | omega | (unfold boxX; (repeat (first | rw [if_pos (by omega)] | rw [if_neg (by omega)])); done) | (unfold boxX; (repeat (first | rw [if_pos (by omega)] | rw [if_neg (by omega)])); rfl))) (HLe.refl _) | exact HLe.skip _ (HLe.skip _ (HLe.skip _ (HLe.refl _)))⟩
          · try simp only [Bool.or_eq_true, Bool.or_eq_false_iff, Bool.and_eq_true, Bool.and_eq_false_iff, decide_eq_true_eq, decide_eq_false_iff_not, Bool.not_eq_true', Bool.not_eq_false', Int.not_lt, Int.not_le, List.length_map] at hc28
            refine W.skip ?_
            refine ⟨(), trivial, ⟨by first | rfl | exact int_eq (by omega) | exact len_eq (by simp) | exact int_eq (by simp; done), by first | rfl | exact int_eq (by omega) | exact len_eq (by simp) | exact int_eq (by simp; done), by first | rfl | exact int_eq (by omega) | exact len_eq (by simp) | exact int_eq (by simp; done), by first | rfl | exact int_eq (by omega) | exact len_eq (by simp) | exact int_eq (by simp; done), trivial⟩, by first | exact HLe.cons' (c4 (by first | rfl | omega | (unfold boxX; (repeat (first | rw [if_pos (by omega)] | rw [if_neg (by omega)])); done) | (unfold boxX; (repeat (first | rw [if_pos (by omega)] | rw [if_neg (by omega)])); rfl)) (by first | rfl | omega | (unfold boxX; (repeat (first | rw [if_pos (by omega)] | rw [if_neg (by omega)])); done) | (unfold boxX; (repeat (first | rw [if_pos (by omega)] | rw [if_neg (by omega)])); rfl)) (by first | rfl | omega | (unfold boxX; (repeat (first | rw [if_pos (by omega)] | rw [if_neg (by omega)])); done) | (unfold boxX; (repeat (first | rw [if_pos (by omega)] | rw [if_neg (by omega)])); rfl)) (by first | rfl | omega | (unfold boxX; (repeat (first | rw [if_pos (by omega)] | rw [if_neg (by omega)])); done) | (unfold boxX; (repeat (first | rw [if_pos (by omega)] | rw [if_neg (by omega)])); rfl))) (HLe.refl _) | exact HLe.skip _ (HLe.skip _ (HLe.skip _ (HLe.refl _)))⟩
        · try simp only [Bool.or_eq_true, Bool.or_eq_false_iff, Bool.and_eq_true, Bool.and_eq_false_iff, decide_eq_true_eq, decide_eq_false_iff_not, Bool.not_eq_true', Bool.not_eq_false', Int.not_lt, Int.not_le, List.length_map] at hc28
          refine W.region ?_
          refine XOps.s rfl rfl rfl (Q.eql rfl rfl) ?_
          refine XOps.s rfl rfl rfl (Q.assign_d rfl) ?_
          refine XOps.nil ?_
          refine W.cond rfl (fun hc28 => ?_) (fun hc28 => ?_)
          · try simp only [Bool.or_eq_true, Bool.or_eq_false_iff, Bool.and_eq_true, Bool.and_eq_false_iff, decide_eq_true_eq, decide_eq_false_iff_not, Bool.not_eq_true', Bool.not_eq_false', Int.not_lt, Int.not_le, List.length_map] at hc28
            refine W.region ?_
            refine XOps.s rfl rfl rfl (Q.fld_ptr fl31_0 rfl) ?_
            refine XOps.s rfl rfl rfl (Q.ld_ptr (k := 2) ag3 rfl rfl rfl) ?_
            refine XOps.s rfl rfl rfl (Q.fld_ptr fl31_2 rfl) ?_
            refine XOps.s rfl rfl rfl (Q.ld_ptr (k := 2) ag3 rfl rfl rfl) ?_
            refine XOps.s rfl rfl rfl (Q.quo rfl rfl (by omega) (wquo (by omega) (by omega) (by omega))) ?_
            refine XOps.s rfl rfl rfl (Q.sub rfl rfl (wi64 (by first | omega | (dsimp only; omega) | (simp only [List.length_map]; omega)) (by first | omega | (dsimp only; omega) | (simp only [List.length_map]; omega)))) ?_
            refine XOps.s rfl rfl rfl (Q.fld_ptr fl23_0 rfl) ?_
            refine XOps.loud rfl (L.store (k := 0) ag3 rfl rfl rfl rfl rfl) ?_
            rintro _ _ ⟨rfl, rfl⟩
            refine XOps.nil ?_
            refine ⟨(), trivial, ⟨by first | rfl | exact int_eq (by omega) | exact len_eq (by simp) | exact int_eq (by simp; done), by first | rfl | exact int_eq (by omega) | exact len_eq (by simp) | exact int_eq (by simp; done), by first | rfl | exact int_eq (by omega) | exact len_eq (by simp) | exact int_eq (by simp; done), by first | rfl | exact int_eq (by omega) | exact len_eq (by simp) | exact int_eq (by simp; done), trivial⟩, by first | exact HLe.cons' (c4 (by first | rfl | omega | (unfold boxX; (repeat (first | rw [if_pos (by omega)] | rw [if_neg (by omega)])); done) | (unfold boxX; (repeat (first | rw [if_pos (by omega)] | rw [if_neg (by omega)])); rfl)) (by first | rfl | omega | (unfold boxX; (repeat (first | rw [if_pos (by omega)] | rw [if_neg (by omega)])); done) | (unfold boxX; (repeat (first | rw [if_pos (by omega)] | rw [if_neg (by omega)])); rfl)) (by first | rfl | omega | (unfold boxX; (repeat (first | rw [if_pos (by omega)] | rw [if_neg (by omega)])); done) | (unfold boxX; (repeat (first | rw [if_pos (by omega)] | rw [if_neg (by omega)])); rfl)) (by first | rfl | omega | (unfold boxX; (repeat (first | rw [if_pos (by omega)] | rw [if_neg (by omega)])); done) | (unfold boxX; (repeat (first | rw [if_pos (by omega)] | rw [if_neg (by omega)])); rfl))) (HLe.refl _) | exact HLe.skip _ (HLe.skip _ (HLe.skip _ (HLe.refl _)))⟩
          · try simp only [Bool.or_eq_true, Bool.or_eq_false_iff, Bool.and_eq_true, Bool.and_eq_false_iff, decide_eq_true_eq, decide_eq_false_iff_not, Bool.not_eq_true', Bool.not_eq_false', Int.not_lt, Int.not_le, List.length_map] at hc28
            refine W.skip ?_
            refine ⟨(), trivial, ⟨by first | rfl | exact int_eq (by omega) | exact len_eq (by simp) | exact int_eq (by simp; done), by first | rfl | exact int_eq (by omega) | exact len_eq (by simp) | exact int_eq (by simp; done), by first | rfl | exact int_eq (by omega) | exact len_eq (by simp) | exact int_eq (by simp; done), by first | rfl | exact int_eq (by omega) | exact len_eq (by simp) | exact int_eq (by simp; done), trivial⟩, by first | exact HLe.cons' (c4 (by first | rfl | omega | (unfold boxX; (repeat (first | rw [if_pos (by omega)] | rw [if_neg (by omega)])); done) | (unfold boxX; (repeat (first | rw [if_pos (by omega)] | rw [if_neg (by omega)])); rfl)) (by first | rfl | omega | (unfold boxX; (repeat (first | rw [if_pos (by omega)] | rw [if_neg (by omega)])); done) | (unfold boxX; (repeat (first | rw [if_pos (by omega)] | rw [if_neg (by omega)])); rfl)) (by first | rfl | omega | (unfold boxX; (repeat (first | rw [if_pos (by omega)] | rw [if_neg (by omega)])); done) | (unfold boxX; (repeat (first | rw [if_pos (by omega)] | rw [if_neg (by omega)])); rfl)) (by first | rfl | omega | (unfold boxX; (repeat (first | rw [if_pos (by omega)] | rw [if_neg (by omega)])); done) | (unfold boxX; (repeat (first | rw [if_pos (by omega)] | rw [if_neg (by omega)])); rfl))) (HLe.refl _) | exact HLe.skip _ (HLe.skip _ (HLe.skip _ (HLe.refl _)))⟩
    · try simp only [Bool.or_eq_true, Bool.or_eq_false_iff, Bool.and_eq_true, Bool.and_eq_false_iff, decide_eq_true_eq, decide_eq_false_iff_not, Bool.not_eq_true', Bool.not_eq_false', Int.not_lt, Int.not_le, List.length_map] at hc18
      refine W.reg ?_
      refine XOps.s rfl rfl rfl (Q.eql rfl rfl) ?_
      refine XOps.s rfl rfl rfl (Q.assign_d rfl) ?_
      refine XOps.nil ?_
      refine W.cond rfl (fun hc18 => ?_) (fun hc18 => ?_)
      · try simp only [Bool.or_eq_true, Bool.or_eq_false_iff, Bool.and_eq_true, Bool.and_eq_false_iff, decide_eq_true_eq, decide_eq_false_iff_not, Bool.not_eq_true', Bool.not_eq_false', Int.not_lt, Int.not_le, List.length_map] at hc18
        refine W.skip ?_
        refine W.cond rfl (fun hc18 => ?_) (fun hc18 => ?_)
        · try simp only [Bool.or_eq_true, Bool.or_eq_false_iff, Bool.and_eq_true, Bool.and_eq_false_iff, decide_eq_true_eq, decide_eq_false_iff_not, Bool.not_eq_true', Bool.not_eq_false', Int.not_lt, Int.not_le, List.length_map] at hc18
          refine W.region ?_
          refine XOps.s rfl rfl rfl (Q.fld_ptr fl31_0 rfl) ?_
          refine XOps.s rfl rfl rfl (Q.ld_ptr (k := 2) ag3 rfl rfl rfl) ?_
          refine XOps.s rfl rfl rfl (Q.fld_ptr fl31_2 rfl) ?_
          refine XOps.s rfl rfl rfl (Q.ld_ptr (k := 2) ag3 rfl rfl rfl) ?_
          refine XOps.s rfl rfl rfl (Q.sub rfl rfl (wi64 (by first | omega | (dsimp only; omega) | (simp only [List.length_map]; omega)) (by first | omega | (dsimp only; omega) | (simp only [List.length_map]; omega)))) ?_
          refine XOps.s rfl rfl rfl (Q.fld_ptr fl23_0 rfl) ?_
          refine XOps.loud rfl (L.store (k := 0) ag3 rfl rfl rfl rfl rfl) ?_
          rintro _ _ ⟨rfl, rfl⟩
          refine XOps.nil ?_
          refine ⟨(), trivial, ⟨by first | rfl | exact int_eq (by omega) | exact len_eq (by simp) | exact int_eq (by simp; done), by first | rfl | exact int_eq (by omega) | exact len_eq (by simp) | exact int_eq (by simp; done), by first | rfl | exact int_eq (by omega) | exact len_eq (by simp) | exact int_eq (by simp; done), by first | rfl | exact int_eq (by omega) | exact len_eq (by simp) | exact int_eq (by simp; done), trivial⟩, by first | exact HLe.cons' (c4 (by first | rfl | omega | (unfold boxX; (repeat (first | rw [if_pos (by omega)] | rw [if_neg (by omega)])); done) | (unfold boxX; (repeat (first | rw [if_pos (by omega)] | rw [if_neg (by omega)])); rfl)) (by first | rfl | omega | (unfold boxX; (repeat (first | rw [if_pos (by omega)] | rw [if_neg (by omega)])); done) | (unfold boxX; (repeat (first | rw [if_pos (by omega)] | rw [if_neg (by omega)])); rfl)) (by first | rfl | omega | (unfold boxX; (repeat (first | rw [if_pos (by omega)] | rw [if_neg (by omega)])); done) | (unfold boxX; (repeat (first | rw [if_pos (by omega)] | rw [if_neg (by omega)])); rfl)) (by first | rfl | omega | (unfold boxX; (repeat (first | rw [if_pos (by omega)] | rw [if_neg (by omega)])); done) | (unfold boxX; (repeat (first | rw [if_pos (by omega)] | rw [if_neg (by omega)])); rfl))) (HLe.refl _) | exact HLe.skip _ (HLe.skip _ (HLe.skip _ (HLe.refl _)))⟩
        · try simp only [Bool.or_eq_true, Bool.or_eq_false_iff, Bool.and_eq_true, Bool.and_eq_false_iff, decide_eq_true_eq, decide_eq_false_iff_not, Bool.not_eq_true', Bool.not_eq_false', Int.not_lt, Int.not_le, List.length_map] at hc18
          refine W.seq ?_
          refine W.reg ?_
          refine XOps.s rfl rfl rfl (Q.eql rfl rfl) ?_
          refine XOps.s rfl rfl rfl (Q.assign_d rfl) ?_
          refine XOps.nil ?_
          refine W.cond rfl (fun hc28 => ?_) (fun hc28 => ?_)
          · try simp only [Bool.or_eq_true, Bool.or_eq_false_iff, Bool.and_eq_true, Bool.and_eq_false_iff, decide_eq_true_eq, decide_eq_false_iff_not, Bool.not_eq_true', Bool.not_eq_false', Int.not_lt, Int.not_le, List.length_map] at hc28
            refine W.skip ?_
            refine W.cond rfl (fun hc28 => ?_) (fun hc28 => ?_)
            · try simp only [Bool.or_eq_true, Bool.or_eq_false_iff, Bool.and_eq_true, Bool.and_eq_false_iff, decide_eq_true_eq, decide_eq_false_iff_not, Bool.not_eq_true', Bool.not_eq_false', Int.not_lt, Int.not_le, List.length_map] at hc28
              refine W.region ?_
              refine XOps.s rfl rfl rfl (Q.fld_ptr fl31_0 rfl) ?_
              refine XOps.s rfl rfl rfl (Q.ld_ptr (k := 2) ag3 rfl rfl rfl) ?_
              refine XOps.s rfl rfl rfl (Q.fld_ptr fl31_2 rfl) ?_
              refine XOps.s rfl rfl rfl (Q.ld_ptr (k := 2) ag3 rfl rfl rfl) ?_
              refine XOps.s rfl rfl rfl (Q.quo rfl rfl (by omega) (wquo (by omega) (by omega) (by omega))) ?_
              refine XOps.s rfl rfl rfl (Q.sub rfl rfl (wi64 (by first | omega | (dsimp only; omega) | (simp only [List.length_map]; omega)) (by first | omega | (dsimp only; omega) | (simp only [List.length_map]; omega)))) ?_
              refine XOps.s rfl rfl rfl (Q.fld_ptr fl23_0 rfl) ?_
              refine XOps.loud rfl (L.store (k := 0) ag3 rfl rfl rfl rfl rfl) ?_
              rintro _ _ ⟨rfl, rfl⟩
              refine XOps.nil ?_
              refine ⟨(), trivial, ⟨by first | rfl | exact int_eq (by omega) | exact len_eq (by simp) | exact int_eq (by simp; done), by first | rfl | exact int_eq (by omega) | exact len_eq (by simp) | exact int_eq (by simp; done), by first | rfl | exact int_eq (by omega) | exact len_eq (by simp) | exact int_eq (by simp; done), by first | rfl | exact int_eq (by omega) | exact len_eq (by simp) | exact int_eq (by simp; done), trivial⟩, by first | exact HLe.cons' (c4 (by first | rfl | omega | (unfold boxX; (repeat (first | rw [if_pos (by omega)] | rw [if_neg (by omega)])); done) | (unfold boxX; (repeat (first | rw [if_pos (by omega)] | rw [if_neg (by omega)])); rfl)) (by first | rfl | omega | (unfold boxX; (repeat (first | rw [if_pos (by omega)] | rw [if_neg (by omega)])); done) | (unfold boxX; (repeat (first | rw [if_pos (by omega)] | rw [if_neg (by omega)])); rfl)) (by first | rfl | omega | (unfold boxX; (repeat (first | rw [if_pos (by omega)] | rw [if_neg (by omega)])); done) | (unfold boxX; (repeat (first | rw [if_pos (by omega)] | rw [if_neg (by omega)])); rfl)) (by first | rfl | omega | (unfold boxX; (repeat (first | rw [if_pos (by omega)] | rw [if_neg (by omega)])); done) | (unfold boxX; (repeat (first | rw [if_pos (by omega)] | rw [if_neg (by omega)])); rfl))) (HLe.refl _) | exact HLe.skip _ (HLe.skip _ (HLe.skip _ (HLe.refl _)))⟩
            · try simp only [Bool.or_eq_true, Bool.or_eq_false_iff, Bool.and_eq_true, Bool.and_eq_false_iff, decide_eq_true_eq, decide_eq_false_iff_not, Bool.not_eq_true', Bool.not_eq_false', Int.not_lt, Int.not_le, List.length_map] at hc28
              refine W.skip ?_
              refine ⟨(), trivial, ⟨by first | rfl | exact int_eq (by omega) | exact len_eq (by simp) | exact int_eq (by simp; done), by first | rfl | exact int_eq (by omega) | exact len_eq (by simp) | exact int_eq (by simp; done), by first | rfl | exact int_eq (by omega) | exact len_eq (by simp) | exact int_eq (by simp; done), by first | rfl | exact int_eq (by omega) | exact len_eq (by simp) | exact int_eq (by simp; done), trivial⟩, by first | exact HLe.cons' (c4 (by first | rfl | omega | (unfold boxX; (repeat (first | rw [if_pos (by omega)] | rw [if_neg (by omega)])); done) | (unfold boxX; (repeat (first | rw [if_pos (by omega)] | rw [if_neg (by omega)])); rfl)) (by first | rfl | omega | (unfold boxX; (repeat (first | rw [if_pos (by omega)] | rw [if_neg (by omega)])); done) | (unfold boxX; (repeat (first | rw [if_pos (by omega)] | rw [if_neg (by omega)])); rfl)) (by first | rfl | omega | (unfold boxX; (repeat (first | rw [if_pos (by omega)] | rw [if_neg (by omega)])); done) | (unfold boxX; (repeat (first | rw [if_pos (by omega)] | rw [if_neg (by omega)])); rfl)) (by first | rfl | omega | (unfold boxX; (repeat (first | rw [if_pos (by omega)] | rw [if_neg (by omega)])); done) | (unfold boxX; (repeat (first | rw [if_pos (by omega)] | rw [if_neg (by omega)])); rfl))) (HLe.refl _) | exact HLe.skip _ (HLe.skip _ (HLe.skip _ (HLe.refl _)))⟩
          · try simp only [Bool.or_eq_true, Bool.or_eq_false_iff, Bool.and_eq_true, Bool.and_eq_false_iff, decide_eq_true_eq, decide_eq_false_iff_not, Bool.not_eq_true', Bool.not_eq_false', Int.not_lt, Int.not_le, List.length_map] at hc28
            refine W.region ?_
            refine XOps.s rfl rfl rfl (Q.eql rfl rfl) ?_
            refine XOps.s rfl rfl rfl (Q.assign_d rfl) ?_
            refine XOps.nil ?_
            refine W.cond rfl (fun hc28 => ?_) (fun hc28 => ?_)
            · try simp only [Bool.or_eq_true, Bool.or_eq_false_iff, Bool.and_eq_true, Bool.and_eq_false_iff, decide_eq_true_eq, decide_eq_false_iff_not, Bool.not_eq_true', Bool.not_eq_false', Int.not_lt, Int.not_le, List.length_map] at hc28
              refine W.region ?_
              refine XOps.s rfl rfl rfl (Q.fld_ptr fl31_0 rfl) ?_
              refine XOps.s rfl rfl rfl (Q.ld_ptr (k := 2) ag3 rfl rfl rfl) ?_
              refine XOps.s rfl rfl rfl (Q.fld_ptr fl31_2 rfl) ?_
              refine XOps.s rfl rfl rfl (Q.ld_ptr (k := 2) ag3 rfl rfl rfl) ?_
              refine XOps.s rfl rfl rfl (Q.quo rfl rfl (by omega) (wquo (by omega) (by omega) (by omega))) ?_
              refine XOps.s rfl rfl rfl (Q.sub rfl rfl (wi64 (by first | omega | (dsimp only; omega) | (simp only [List.length_map]; omega)) (by first | omega | (dsimp only; omega) | (simp only [List.length_map]; omega)))) ?_
              refine XOps.s rfl rfl rfl (Q.fld_ptr fl23_0 rfl) ?_
              refine XOps.loud rfl (L.store (k := 0) ag3 rfl rfl rfl rfl rfl) ?_
              rintro _ _ ⟨rfl, rfl⟩
              refine XOps.nil ?_
              refine ⟨(), trivial, ⟨by first | rfl | exact int_eq (by omega) | exact len_eq (by simp) | exact int_eq (by simp; done), by first | rfl | exact int_eq (by omega) | exact len_eq (by simp) | exact int_eq (by simp; done), by first | rfl | exact int_eq (by omega) | exact len_eq (by simp) | exact int_eq (by simp; done), by first | rfl | exact int_eq (by omega) | exact len_eq (by simp) | exact int_eq (by simp; done), trivial⟩, by first | exact HLe.cons' (c4 (by first | rfl | omega | (unfold boxX; (repeat (first | rw [if_pos (by omega)] | rw [if_neg (by omega)])); done) | (unfold boxX; (repeat (first | rw [if_pos (by omega)] | rw [if_neg (by omega)])); rfl)) (by first | rfl | omega | (unfold boxX; (repeat (first | rw [if_pos (by omega)] | rw [if_neg (by omega)])); done) | (unfold boxX; (repeat (first | rw [if_pos (by omega)] | rw [if_neg (by omega)])); rfl)) (by first | rfl | omega | (unfold boxX; (repeat (first | rw [if_pos (by omega)] | rw [if_neg (by omega)])); done) | (unfold boxX; (repeat (first | rw [if_pos (by omega)] | rw [if_neg (by omega)])); rfl)) (by first | rfl | omega | (unfold boxX; (repeat (first | rw [if_pos (by omega)] | rw [if_neg (by omega)])); done) | (unfold boxX; (repeat (first | rw [if_pos (by omega)] | rw [if_neg (by omega)])); rfl))) (HLe.refl _) | exact HLe.skip _ (HLe.skip _ (HLe.skip _ (HLe.refl _)))⟩
            · try simp only [Bool.or_eq_true, Bool.or_eq_false_iff, Bool.and_eq_true, Bool.and_eq_false_iff, decide_eq_true_eq, decide_eq_false_iff_not, Bool.not_eq_true', Bool.not_eq_false', Int.not_lt, Int.not_le, List.length_map] at hc28
              refine W.skip ?_
              refine ⟨(), trivial, ⟨by first | rfl | exact int_eq (by omega) | exact len_eq (by simp) | exact int_eq (by simp; done), by first | rfl | exact int_eq (by omega) | exact len_eq (by simp) | exact int_eq (by simp; done), by first | rfl | exact int_eq (by omega) | exact len_eq (by simp) | exact int_eq (by simp; done), by first | rfl | exact int_eq (by omega) | exact len_eq (by simp) | exact int_eq (by simp; done), trivial⟩, by first | exact HLe.cons' (c4 (by first | rfl | omega | (unfold boxX; (repeat (first | rw [if_pos (by omega)] | rw [if_neg (by omega)])); done) | (unfold boxX; (repeat (first | rw [if_pos (by omega)] | rw [if_neg (by omega)])); rfl)) (by first | rfl | omega | (unfold boxX; (repeat (first | rw [if_pos (by omega)] | rw [if_neg (by omega)])); done) | (unfold boxX; (repeat (first | rw [if_pos (by omega)] | rw [if_neg (by omega)])); rfl)) (by first | rfl | omega | (unfold boxX; (repeat (first | rw [if_pos (by omega)] | rw [if_neg (by omega)])); done) | (unfold boxX; (repeat (first | rw [if_pos (by omega)] | rw [if_neg (by omega)])); rfl)) (by first | rfl | omega | (unfold boxX; (repeat (first | rw [if_pos (by omega)] | rw [if_neg (by omega)])); done) | (unfold boxX; (repeat (first | rw [if_pos (by omega)] | rw [if_neg (by omega)])); rfl))) (HLe.refl _) | exact HLe.skip _ (HLe.skip _ (HLe.skip _ (HLe.refl _)))⟩
      · try simp only [Bool.or_eq_true, Bool.or_eq_false_iff, Bool.and_eq_true, Bool.and_eq_false_iff, decide_eq_true_eq, decide_eq_false_iff_not, Bool.not_eq_true', Bool.not_eq_false', Int.not_lt, Int.not_le, List.length_map] at hc18
        refine W.region ?_
        refine XOps.s rfl rfl rfl (Q.eql rfl rfl) ?_
        refine XOps.s rfl rfl rfl (Q.assign_d rfl) ?_
        refine XOps.nil ?_
        refine W.cond rfl (fun hc18 => ?_) (fun hc18 => ?_)
        · try simp only [Bool.or_eq_true, Bool.or_eq_false_iff, Bool.and_eq_true, Bool.and_eq_false_iff, decide_eq_true_eq, decide_eq_false_iff_not, Bool.not_eq_true', Bool.not_eq_false', Int.not_lt, Int.not_le, List.length_map] at hc18
          refine W.region ?_
          refine XOps.s rfl rfl rfl (Q.fld_ptr fl31_0 rfl) ?_
          refine XOps.s rfl rfl rfl (Q.ld_ptr (k := 2) ag3 rfl rfl rfl) ?_
          refine XOps.s rfl rfl rfl (Q.fld_ptr fl31_2 rfl) ?_
          refine XOps.s rfl rfl rfl (Q.ld_ptr (k := 2) ag3 rfl rfl rfl) ?_
          refine XOps.s rfl rfl rfl (Q.sub rfl rfl (wi64 (by first | omega | (dsimp only; omega) | (simp only [List.length_map]; omega)) (by first | omega | (dsimp only; omega) | (simp only [List.length_map]; omega)))) ?_
          refine XOps.s rfl rfl rfl (Q.fld_ptr fl23_0 rfl) ?_
          refine XOps.loud rfl (L.store (k := 0) ag3 rfl rfl rfl rfl rfl) ?_
          rintro _ _ ⟨rfl, rfl⟩
          refine XOps.nil ?_
          refine ⟨(), trivial, ⟨by first | rfl | exact int_eq (by omega) | exact len_eq (by simp) | exact int_eq (by simp; done), by first | rfl | exact int_eq (by omega) | exact len_eq (by simp) | exact int_eq (by simp; done), by first | rfl | exact int_eq (by omega) | exact len_eq (by simp) | exact int_eq (by simp; done), by first | rfl | exact int_eq (by omega) | exact len_eq (by simp) | exact int_eq (by simp; done), trivial⟩, by first | exact HLe.cons' (c4 (by first | rfl | omega | (unfold boxX; (repeat (first | rw [if_pos (by omega)] | rw [if_neg (by omega)])); done) | (unfold boxX; (repeat (first | rw [if_pos (by omega)] | rw [if_neg (by omega)])); rfl)) (by first | rfl | omega | (unfold boxX; (repeat (first | rw [if_pos (by omega)] | rw [if_neg (by omega)])); done) | (unfold boxX; (repeat (first | rw [if_pos (by omega)] | rw [if_neg (by omega)])); rfl)) (by first | rfl | omega | (unfold boxX; (repeat (first | rw [if_pos (by omega)] | rw [if_neg (by omega)])); done) | (unfold boxX; (repeat (first | rw [if_pos (by omega)] | rw [if_neg (by omega)])); rfl)) (by first | rfl | omega | (unfold boxX; (repeat (first | rw [if_pos (by omega)] | rw [if_neg (by omega)])); done) | (unfold boxX; (repeat (first | rw [if_pos (by omega)] | rw [if_neg (by omega)])); rfl))) (HLe.refl _) | exact HLe.skip _ (HLe.skip _ (HLe.skip _ (HLe.refl _)))⟩
        · try simp only [Bool.or_eq_true, Bool.or_eq_false_iff, Bool.and_eq_true, Bool.and_eq_false_iff, decide_eq_true_eq, decide_eq_false_iff_not, Bool.not_eq_true', Bool.not_eq_false', Int.not_lt, Int.not_le, List.length_map] at hc18
          refine W.seq ?_
          refine W.reg ?_
          refine XOps.s rfl rfl rfl (Q.eql rfl rfl) ?_
          refine XOps.s rfl rfl rfl (Q.assign_d rfl) ?_
          refine XOps.nil ?_
          refine W.cond rfl (fun hc28 => ?_) (fun hc28 => ?_)
          · try simp only [Bool.or_eq_true, Bool.or_eq_false_iff, Bool.and_eq_true, Bool.and_eq_false_iff, decide_eq_true_eq, decide_eq_false_iff_not, Bool.not_eq_true', Bool.not_eq_false', Int.not_lt, Int.not_le, List.length_map] at hc28
            refine W.skip ?_
            refine W.cond rfl (fun hc28 => ?_) (fun hc28 => ?_)
            · try simp only [Bool.or_eq_true, Bool.or_eq_false_iff, Bool.and_eq_true, Bool.and_eq_false_iff, decide_eq_true_eq, decide_eq_false_iff_not, Bool.not_eq_true', Bool.not_eq_false', Int.not_lt, Int.not_le, List.length_map] at hc28
              refine W.region ?_
              refine XOps.s rfl rfl rfl (Q.fld_ptr fl31_0 rfl) ?_
              refine XOps.s rfl rfl rfl (Q.ld_ptr (k := 2) ag3 rfl rfl rfl) ?_
              refine XOps.s rfl rfl rfl (Q.fld_ptr fl31_2 rfl) ?_
              refine XOps.s rfl rfl rfl (Q.ld_ptr (k := 2) ag3 rfl rfl rfl) ?_
              refine XOps.s rfl rfl rfl (Q.quo rfl rfl (by omega) (wquo (by omega) (by omega) (by omega))) ?_
              refine XOps.s rfl rfl rfl (Q.sub rfl rfl (wi64 (by first | omega | (dsimp only; omega) | (simp only [List.length_map]; omega)) (by first | omega | (dsimp only; omega) | (simp only [List.length_map]; omega)))) ?_
              refine XOps.s rfl rfl rfl (Q.fld_ptr fl23_0 rfl) ?_
              refine XOps.loud rfl (L.store (k := 0) ag3 rfl rfl rfl rfl rfl) ?_
              rintro _ _ ⟨rfl, rfl⟩
              refine XOps.nil ?_
              refine ⟨(), trivial, ⟨by first | rfl | exact int_eq (by omega) | exact len_eq (by simp) | exact int_eq (by simp; done), by first | rfl | exact int_eq (by omega) | exact len_eq (by simp) | exact int_eq (by simp; done), by first | rfl | exact int_eq (by omega) | exact len_eq (by simp) | exact int_eq (by simp; done), by first | rfl | exact int_eq (by omega) | exact len_eq (by simp) | exact int_eq (by simp; done), trivial⟩, by first | exact HLe.cons' (c4 (by first | rfl | omega | (unfold boxX; (repeat (first | rw [if_pos (by omega)] | rw [if_neg (by omega)])); done) | (unfold boxX; (repeat (first | rw [if_pos (by omega)] | rw [if_neg (by omega)])); rfl)) (by first | rfl | omega | (unfold boxX; (repeat (first | rw [if_pos (by omega)] | rw [if_neg (by omega)])); done) | (unfold boxX; (repeat (first | rw [if_pos (by omega)] | rw [if_neg (by omega)])); rfl)) (by first | rfl | omega | (unfold boxX; (repeat (first | rw [if_pos (by omega)] | rw [if_neg (by omega)])); done) | (unfold boxX; (repeat (first | rw [if_pos (by omega)] | rw [if_neg (by omega)])); rfl)) (by first | rfl | omega | (unfold boxX; (repeat (first | rw [if_pos (by omega)] | rw [if_neg (by omega)])); done) | (unfold boxX; (repeat (first | rw [if_pos (by omega)] | rw [if_neg (by omega)])); rfl))) (HLe.refl _) | exact HLe.skip _ (HLe.skip _ (HLe.skip _ (HLe.refl _)))⟩
            · try simp only [Bool.or_eq_true, Bool.or_eq_false_iff, Bool.and_eq_true, Bool.and_eq_false_iff, decide_eq_true_eq, decide_eq_false_iff_not, Bool.not_eq_true', Bool.not_eq_false', Int.not_lt, Int.not_le, List.length_map] at hc28
              refine W.skip ?_
              refine ⟨(), trivial, ⟨by first | rfl | exact int_eq (by omega) | exact len_eq (by simp) | exact int_eq (by simp; done), by first | rfl | exact int_eq (by omega) | exact len_eq (by simp) | exact int_eq (by simp; done), by first | rfl | exact int_eq (by omega) | exact len_eq (by simp) | exact int_eq (by simp; done), by first | rfl | exact int_eq (by omega) | exact len_eq (by simp) | exact int_eq (by simp; done), trivial⟩, by first | exact HLe.cons' (c4 (by first | rfl | omega | (unfold boxX; (repeat (first | rw [if_pos (by omega)] | rw [if_neg (by omega)])); done) | (unfold boxX; (repeat (first | rw [if_pos (by omega)] | rw [if_neg (by omega)])); rfl)) (by first | rfl | omega | (unfold boxX; (repeat (first | rw [if_pos (by omega)] | rw [if_neg (by omega)])); done) | (unfold boxX; (repeat (first | rw [if_pos (by omega)] | rw [if_neg (by omega)])); rfl)) (by first | rfl | omega | (unfold boxX; (repeat (first | rw [if_pos (by omega)] | rw [if_neg (by omega)])); done) | (unfold boxX; (repeat (first | rw [if_pos (by omega)] | rw [if_neg (by omega)])); rfl)) (by first | rfl | omega | (unfold boxX; (repeat (first | rw [if_pos (by omega)] | rw [if_neg (by omega)])); done) | (unfold boxX; (repeat (first | rw [if_pos (by omega)] | rw [if_neg (by omega)])); rfl))) (HLe.refl _) | exact HLe.skip _ (HLe.skip _ (HLe.skip _ (HLe.refl _)))⟩
          · try simp only [Bool.or_eq_true, Bool.or_eq_false_iff, Bool.and_eq_true, Bool.and_eq_false_iff, decide_eq_true_eq, decide_eq_false_iff_not, Bool.not_eq_true', Bool.not_eq_false', Int.not_lt, Int.not_le, List.length_map] at hc28
            refine W.region ?_
            refine XOps.s rfl rfl rfl (Q.eql rfl rfl) ?_
            refine XOps.s rfl rfl rfl (Q.assign_d rfl) ?_
            refine XOps.nil ?_
            refine W.cond rfl (fun hc28 => ?_) (fun hc28 => ?_)
            · try simp only [Bool.or_eq_true, Bool.or_eq_false_iff, Bool.and_eq_true, Bool.and_eq_false_iff, decide_eq_true_eq, decide_eq_false_iff_not, Bool.not_eq_true', Bool.not_eq_false', Int.not_lt, Int.not_le, List.length_map] at hc28
              refine W.region ?_
              refine XOps.s rfl rfl rfl (Q.fld_ptr fl31_0 rfl) ?_
              refine XOps.s rfl rfl rfl (Q.ld_ptr (k := 2) ag3 rfl rfl rfl) ?_
              refine XOps.s rfl rfl rfl (Q.fld_ptr fl31_2 rfl) ?_
              refine XOps.s rfl rfl rfl (Q.ld_ptr (k := 2) ag3 rfl rfl rfl) ?_
              refine XOps.s rfl rfl rfl (Q.quo rfl rfl (by omega) (wquo (by omega) (by omega) (by omega))) ?_
              refine XOps.s rfl rfl rfl (Q.sub rfl rfl (wi64 (by first | omega | (dsimp only; omega) | (simp only [List.length_map]; omega)) (by first | omega | (dsimp only; omega) | (simp only [List.length_map]; omega)))) ?_
              refine XOps.s rfl rfl rfl (Q.fld_ptr fl23_0 rfl) ?_
              refine XOps.loud rfl (L.store (k := 0) ag3 rfl rfl rfl rfl rfl) ?_
              rintro _ _ ⟨rfl, rfl⟩
              refine XOps.nil ?_
              refine ⟨(), trivial, ⟨by first | rfl | exact int_eq (by omega) | exact len_eq (by simp) | exact int_eq (by simp; done), by first | rfl | exact int_eq (by omega) | exact len_eq (by simp) | exact int_eq (by simp; done), by first | rfl | exact int_eq (by omega) | exact len_eq (by simp) | exact int_eq (by simp; done), by first | rfl | exact int_eq (by omega) | exact len_eq (by simp) | exact int_eq (by simp; done), trivial⟩, by first | exact HLe.cons' (c4 (by first | rfl | omega | (unfold boxX; (repeat (first | rw [if_pos (by omega)] | rw [if_neg (by omega)])); done) | (unfold boxX; (repeat (first | rw [if_pos (by omega)] | rw [if_neg (by omega)])); rfl)) (by first | rfl | omega | (unfold boxX; (repeat (first | rw [if_pos (by omega)] | rw [if_neg (by omega)])); done) | (unfold boxX; (repeat (first | rw [if_pos (by omega)] | rw [if_neg (by omega)])); rfl)) (by first | rfl | omega | (unfold boxX; (repeat (first | rw [if_pos (by omega)] | rw [if_neg (by omega)])); done) | (unfold boxX; (repeat (first | rw [if_pos (by omega)] | rw [if_neg (by omega)])); rfl)) (by first | rfl | omega | (unfold boxX; (repeat (first | rw [if_pos (by omega)] | rw [if_neg (by omega)])); done) | (unfold boxX; (repeat (first | rw [if_pos (by omega)] | rw [if_neg (by omega)])); rfl))) (HLe.refl _) | exact HLe.skip _ (HLe.skip _ (HLe.skip _ (HLe.refl _)))⟩
            · try simp only [Bool.or_eq_true, Bool.or_eq_false_iff, Bool.and_eq_true, Bool.and_eq_false_iff, decide_eq_true_eq, decide_eq_false_iff_not, Bool.not_eq_true', Bool.not_eq_false', Int.not_lt, Int.not_le, List.length_map] at hc28
              refine W.skip ?_
              refine ⟨(), trivial, ⟨by first | rfl | exact int_eq (by omega) | exact len_eq (by simp) | exact int_eq (by simp; done), by first | rfl | exact int_eq (by omega) | exact len_eq (by simp) | exact int_eq (by simp; done), by first | rfl | exact int_eq (by omega) | exact len_eq (by simp) | exact int_eq (by simp; done), by first | rfl | exact int_eq (by omega) | exact len_eq (by simp) | exact int_eq (by simp; done), trivial⟩, by first | exact HLe.cons' (c4 (by first | rfl | omega | (unfold boxX; (repeat (first | rw [if_pos (by omega)] | rw [if_neg (by omega)])); done) | (unfold boxX; (repeat (first | rw [if_pos (by omega)] | rw [if_neg (by omega)])); rfl)) (by first | rfl | omega | (unfold boxX; (repeat (first | rw [if_pos (by omega)] | rw [if_neg (by omega)])); done) | (unfold boxX; (repeat (first | rw [if_pos (by omega)] | rw [if_neg (by omega)])); rfl)) (by first | rfl | omega | (unfold boxX; (repeat (first | rw [if_pos (by omega)] | rw [if_neg (by omega)])); done) | (unfold boxX; (repeat (first | rw [if_pos (by omega)] | rw [if_neg (by omega)])); rfl)) (by first | rfl | omega | (unfold boxX; (repeat (first | rw [if_pos (by omega)] | rw [if_neg (by omega)])); done) | (unfold boxX; (repeat (first | rw [if_pos (by omega)] | rw [if_neg (by omega)])); rfl))) (HLe.refl _) | exact HLe.skip _ (HLe.skip _ (HLe.skip _ (HLe.refl _)))⟩
  · rintro σ₁ hs₁ ⟨_, _, he, hh⟩
    refine W.le _ _ he hh ?_
    clear he hh
    refine W.seq ?_
    refine W.reg ?_
    refine XOps.s rfl rfl rfl (Q.move_d rfl) ?_
    refine XOps.nil ?_
    refine W.block ?_
    refine W.seq ?_
    refine W.reg ?_
    refine XOps.s rfl rfl rfl (Q.eql rfl rfl) ?_
    refine XOps.s rfl rfl rfl (Q.assign_d rfl) ?_
    refine XOps.nil ?_
    refine W.cond rfl (fun hc39 => ?_) (fun hc39 => ?_)
    · try simp only [Bool.or_eq_true, Bool.or_eq_false_iff, Bool.and_eq_true, Bool.and_eq_false_iff, decide_eq_true_eq, decide_eq_false_iff_not, Bool.not_eq_true', Bool.not_eq_false', Int.not_lt, Int.not_le, List.length_map] at hc39
      refine W.skip ?_
      refine W.cond rfl (fun hc39 => ?_) (fun hc39 => ?_)
      · try simp only [Bool.or_eq_true, Bool.or_eq_false_iff, Bool.and_eq_true, Bool.and_eq_false_iff, decide_eq_true_eq, decide_eq_false_iff_not, Bool.not_eq_true', Bool.not_eq_false', Int.not_lt, Int.not_le, List.length_map] at hc39
        refine W.region ?_
        refine XOps.s rfl rfl rfl (Q.fld_ptr fl31_1 rfl) ?_
        refine XOps.s rfl rfl rfl (Q.ld_ptr (k := 2) ag3 rfl rfl rfl) ?_
        refine XOps.s rfl rfl rfl (Q.fld_ptr fl31_3 rfl) ?_
        refine XOps.s rfl rfl rfl (Q.ld_ptr (k := 2) ag3 rfl rfl rfl) ?_
        refine XOps.s rfl rfl rfl (Q.sub rfl rfl (wi64 (by first | omega | (dsimp only; omega) | (simp only [List.length_map]; omega)) (by first | omega | (dsimp only; omega) | (simp only [List.length_map]; omega)))) ?_
        refine XOps.s rfl rfl rfl (Q.fld_ptr fl23_1 rfl) ?_
        refine XOps.loud rfl (L.store (k := 0) ag3 rfl rfl rfl rfl rfl) ?_
        rintro _ _ ⟨rfl, rfl⟩
        refine XOps.nil ?_
        refine W.reg ?_
        refine XOps.s rfl rfl rfl (Q.ld_ptrn (k := 0) ag23 rfl rfl rfl) ?_
        refine XOps.loud rfl (L.storen (k := 1) ag23 rfl rfl rfl rfl rfl) ?_
        rintro _ _ ⟨rfl, rfl⟩
        refine XOps.nil ?_
        refine W.ret ?_
        refine ⟨_, hs, (.cons (by first | exact .celln 0 ag23 rfl rfl rfl | exact .cell1 0 ag23 rfl rfl rfl | exact .celln 1 ag23 rfl rfl rfl | exact .cell1 1 ag23 rfl rfl rfl | exact .celln 2 ag23 rfl rfl rfl | exact .cell1 2 ag23 rfl rfl rfl | exact .celln 3 ag23 rfl rfl rfl | exact .cell1 3 ag23 rfl rfl rfl) .nil), by first | exact HLe.cons' (c4 (by first | rfl | omega | (unfold boxX; (repeat (first | rw [if_pos (by omega)] | rw [if_neg (by omega)])); done) | (unfold boxX; (repeat (first | rw [if_pos (by omega)] | rw [if_neg (by omega)])); rfl)) (by first | rfl | omega | (unfold boxX; (repeat (first | rw [if_pos (by omega)] | rw [if_neg (by omega)])); done) | (unfold boxX; (repeat (first | rw [if_pos (by omega)] | rw [if_neg (by omega)])); rfl)) (by first | rfl | omega | (unfold boxX; (repeat (first | rw [if_pos (by omega)] | rw [if_neg (by omega)])); done) | (unfold boxX; (repeat (first | rw [if_pos (by omega)] | rw [if_neg (by omega)])); rfl)) (by first | rfl | omega | (unfold boxX; (repeat (first | rw [if_pos (by omega)] | rw [if_neg (by omega)])); done) | (unfold boxX; (repeat (first | rw [if_pos (by omega)] | rw [if_neg (by omega)])); rfl))) (HLe.refl _) | exact HLe.skip _ (HLe.skip _ (HLe.skip _ (HLe.refl _))), ?_, rfl⟩
        unfold boxS LB.enc
        dsimp only
        repeat (first | rw [if_pos (by omega)] | rw [if_neg (by omega)])
        first | rfl | (exfalso; omega)
      · try simp only [Bool.or_eq_true, Bool.or_eq_false_iff, Bool.and_eq_true, Bool.and_eq_false_iff, decide_eq_true_eq, decide_eq_false_iff_not, Bool.not_eq_true', Bool.not_eq_false', Int.not_lt, Int.not_le, List.length_map] at hc39
        refine W.seq ?_
        refine W.reg ?_
        refine XOps.s rfl rfl rfl (Q.eql rfl rfl) ?_
        refine XOps.s rfl rfl rfl (Q.assign_d rfl) ?_
        refine XOps.nil ?_
        refine W.cond rfl (fun hc49 => ?_) (fun hc49 => ?_)
        · try simp only [Bool.or_eq_true, Bool.or_eq_false_iff, Bool.and_eq_true, Bool.and_eq_false_iff, decide_eq_true_eq, decide_eq_false_iff_not, Bool.not_eq_true', Bool.not_eq_false', Int.not_lt, Int.not_le, List.length_map] at hc49
          refine W.skip ?_
          refine W.cond rfl (fun hc49 => ?_) (fun hc49 => ?_)
          · try simp only [Bool.or_eq_true, Bool.or_eq_false_iff, Bool.and_eq_true, Bool.and_eq_false_iff, decide_eq_true_eq, decide_eq_false_iff_not, Bool.not_eq_true', Bool.not_eq_false', Int.not_lt, Int.not_le, List.length_map] at hc49
            refine W.region ?_
            refine XOps.s rfl rfl rfl (Q.fld_ptr fl31_1 rfl) ?_
            refine XOps.s rfl rfl rfl (Q.ld_ptr (k := 2) ag3 rfl rfl rfl) ?_
            refine XOps.s rfl rfl rfl (Q.fld_ptr fl31_3 rfl) ?_
            refine XOps.s rfl rfl rfl (Q.ld_ptr (k := 2) ag3 rfl rfl rfl) ?_
            refine XOps.s rfl rfl rfl (Q.quo rfl rfl (by omega) (wquo (by omega) (by omega) (by omega))) ?_
            refine XOps.s rfl rfl rfl (Q.sub rfl rfl (wi64 (by first | omega | (dsimp only; omega) | (simp only [List.length_map]; omega)) (by first | omega | (dsimp only; omega) | (simp only [List.length_map]; omega)))) ?_
            refine XOps.s rfl rfl rfl (Q.fld_ptr fl23_1 rfl) ?_
            refine XOps.loud rfl (L.store (k := 0) ag3 rfl rfl rfl rfl rfl) ?_
            rintro _ _ ⟨rfl, rfl⟩
            refine XOps.nil ?_
            refine W.reg ?_
            refine XOps.s rfl rfl rfl (Q.ld_ptrn (k := 0) ag23 rfl rfl rfl) ?_
            refine XOps.loud rfl (L.storen (k := 1) ag23 rfl rfl rfl rfl rfl) ?_
            rintro _ _ ⟨rfl, rfl⟩
            refine XOps.nil ?_
            refine W.ret ?_
            refine ⟨_, hs, (.cons (by first | exact .celln 0 ag23 rfl rfl rfl | exact .cell1 0 ag23 rfl rfl rfl | exact .celln 1 ag23 rfl rfl rfl | exact .cell1 1 ag23 rfl rfl rfl | exact .celln 2 ag23 rfl rfl rfl | exact .cell1 2 ag23 rfl rfl rfl | exact .celln 3 ag23 rfl rfl rfl | exact .cell1 3 ag23 rfl rfl rfl) .nil), by first | exact HLe.cons' (c4 (by first | rfl | omega | (unfold boxX; (repeat (first | rw [if_pos (by omega)] | rw [if_neg (by omega)])); done) | (unfold boxX; (repeat (first | rw [if_pos (by omega)] | rw [if_neg (by omega)])); rfl)) (by first | rfl | omega | (unfold boxX; (repeat (first | rw [if_pos (by omega)] | rw [if_neg (by omega)])); done) | (unfold boxX; (repeat (first | rw [if_pos (by omega)] | rw [if_neg (by omega)])); rfl)) (by first | rfl | omega | (unfold boxX; (repeat (first | rw [if_pos (by omega)] | rw [if_neg (by omega)])); done) | (unfold boxX; (repeat (first | rw [if_pos (by omega)] | rw [if_neg (by omega)])); rfl)) (by first | rfl | omega | (unfold boxX; (repeat (first | rw [if_pos (by omega)] | rw [if_neg (by omega)])); done) | (unfold boxX; (repeat (first | rw [if_pos (by omega)] | rw [if_neg (by omega)])); rfl))) (HLe.refl _) | exact HLe.skip _ (HLe.skip _ (HLe.skip _ (HLe.refl _))), ?_, rfl⟩
            unfold boxS LB.enc
            dsimp only
            repeat (first | rw [if_pos (by omega)] | rw [if_neg (by omega)])
            first | rfl | (exfalso; omega)
          · try simp only [Bool.or_eq_true, Bool.or_eq_false_iff, Bool.and_eq_true, Bool.and_eq_false_iff, decide_eq_true_eq, decide_eq_false_iff_not, Bool.not_eq_true', Bool.not_eq_false', Int.not_lt, Int.not_le, List.length_map] at hc49
            refine W.skip ?_
            refine W.reg ?_
            refine XOps.s rfl rfl rfl (Q.ld_ptrn (k := 0) ag23 rfl rfl rfl) ?_
            refine XOps.loud rfl (L.storen (k := 1) ag23 rfl rfl rfl rfl rfl) ?_
            rintro _ _ ⟨rfl, rfl⟩
            refine XOps.nil ?_
            refine W.ret ?_
            refine ⟨_, hs, (.cons (by first | exact .celln 0 ag23 rfl rfl rfl | exact .cell1 0 ag23 rfl rfl rfl | exact .celln 1 ag23 rfl rfl rfl | exact .cell1 1 ag23 rfl rfl rfl | exact .celln 2 ag23 rfl rfl rfl | exact .cell1 2 ag23 rfl rfl rfl | exact .celln 3 ag23 rfl rfl rfl | exact .cell1 3 ag23 rfl rfl rfl) .nil), by first | exact HLe.cons' (c4 (by first | rfl | omega | (unfold boxX; (repeat (first | rw [if_pos (by omega)] | rw [if_neg (by omega)])); done) | (unfold boxX; (repeat (first | rw [if_pos (by omega)] | rw [if_neg (by omega)])); rfl)) (by first | rfl | omega | (unfold boxX; (repeat (first | rw [if_pos (by omega)] | rw [if_neg (by omega)])); done) | (unfold boxX; (repeat (first | rw [if_pos (by omega)] | rw [if_neg (by omega)])); rfl)) (by first | rfl | omega | (unfold boxX; (repeat (first | rw [if_pos (by omega)] | rw [if_neg (by omega)])); done) | (unfold boxX; (repeat (first | rw [if_pos (by omega)] | rw [if_neg (by omega)])); rfl)) (by first | rfl | omega | (unfold boxX; (repeat (first | rw [if_pos (by omega)] | rw [if_neg (by omega)])); done) | (unfold boxX; (repeat (first | rw [if_pos (by omega)] | rw [if_neg (by omega)])); rfl))) (HLe.refl _) | exact HLe.skip _ (HLe.skip _ (HLe.skip _ (HLe.refl _))), ?_, rfl⟩
            unfold boxS LB.enc
            dsimp only
            repeat (first | rw [if_pos (by omega)] | rw [if_neg (by omega)])
            first | rfl | (exfalso; omega)
        · try simp only [Bool.or_eq_true, Bool.or_eq_false_iff, Bool.and_eq_true, Bool.and_eq_false_iff, decide_eq_true_eq, decide_eq_false_iff_not, Bool.not_eq_true', Bool.not_eq_false', Int.not_lt, Int.not_le, List.length_map] at hc49
          refine W.region ?_
          refine XOps.s rfl rfl rfl (Q.eql rfl rfl) ?_
          refine XOps.s rfl rfl rfl (Q.assign_d rfl) ?_
          refine XOps.nil ?_
          refine W.cond rfl (fun hc49 => ?_) (fun hc49 => ?_)
          · try simp only [Bool.or_eq_true, Bool.or_eq_false_iff, Bool.and_eq_true, Bool.and_eq_false_iff, decide_eq_true_eq, decide_eq_false_iff_not, Bool.not_eq_true', Bool.not_eq_false', Int.not_lt, Int.not_le, List.length_map] at hc49
            refine W.region ?_
            refine XOps.s rfl rfl rfl (Q.fld_ptr fl31_1 rfl) ?_
            refine XOps.s rfl rfl rfl (Q.ld_ptr (k := 2) ag3 rfl rfl rfl) ?_
            refine XOps.s rfl rfl rfl (Q.fld_ptr fl31_3 rfl) ?_
            refine XOps.s rfl rfl rfl (Q.ld_ptr (k := 2) ag3 rfl rfl rfl) ?_
            refine XOps.s rfl rfl rfl (Q.quo rfl rfl (by omega) (wquo (by omega) (by omega) (by omega))) ?_
            refine XOps.s rfl rfl rfl (Q.sub rfl rfl (wi64 (by first | omega | (dsimp only; omega) | (simp only [List.length_map]; omega)) (by first | omega | (dsimp only; omega) | (simp only [List.length_map]; omega)))) ?_
            refine XOps.s rfl rfl rfl (Q.fld_ptr fl23_1 rfl) ?_
            refine XOps.loud rfl (L.store (k := 0) ag3 rfl rfl rfl rfl rfl) ?_
            rintro _ _ ⟨rfl, rfl⟩
            refine XOps.nil ?_
            refine W.reg ?_
            refine XOps.s rfl rfl rfl (Q.ld_ptrn (k := 0) ag23 rfl rfl rfl) ?_
            refine XOps.loud rfl (L.storen (k := 1) ag23 rfl rfl rfl rfl rfl) ?_
            rintro _ _ ⟨rfl, rfl⟩
            refine XOps.nil ?_
            refine W.ret ?_
            refine ⟨_, hs, (.cons (by first | exact .celln 0 ag23 rfl rfl rfl | exact .cell1 0 ag23 rfl rfl rfl | exact .celln 1 ag23 rfl rfl rfl | exact .cell1 1 ag23 rfl rfl rfl | exact .celln 2 ag23 rfl rfl rfl | exact .cell1 2 ag23 rfl rfl rfl | exact .celln 3 ag23 rfl rfl rfl | exact .cell1 3 ag23 rfl rfl rfl) .nil), by first | exact HLe.cons' (c4 (by first | rfl | omega | (unfold boxX; (repeat (first | rw [if_pos (by omega)] | rw [if_neg (by omega)])); done) | (unfold boxX; (repeat (first | rw [if_pos (by omega)] | rw [if_neg (by omega)])); rfl)) (by first | rfl | omega | (unfold boxX; (repeat (first | rw [if_pos (by omega)] | rw [if_neg (by omega)])); done) | (unfold boxX; (repeat (first | rw [if_pos (by omega)] | rw [if_neg (by omega)])); rfl)) (by first | rfl | omega | (unfold boxX; (repeat (first | rw [if_pos (by omega)] | rw [if_neg (by omega)])); done) | (unfold boxX; (repeat (first | rw [if_pos (by omega)] | rw [if_neg (by omega)])); rfl)) (by first | rfl | omega | (unfold boxX; (repeat (first | rw [if_pos (by omega)] | rw [if_neg (by omega)])); done) | (unfold boxX; (repeat (first | rw [if_pos (by omega)] | rw [if_neg (by omega)])); rfl))) (HLe.refl _) | exact HLe.skip _ (HLe.skip _ (HLe.skip _ (HLe.refl _))), ?_, rfl⟩
            unfold boxS LB.enc
            dsimp only
            repeat (first | rw [if_pos (by omega)] | rw [if_neg (by omega)])
            first | rfl | (exfalso; omega)
          · try simp only [Bool.or_eq_true, Bool.or_eq_false_iff, Bool.and_eq_true, Bool.and_eq_false_iff, decide_eq_true_eq, decide_eq_false_iff_not, Bool.not_eq_true', Bool.not_eq_false', Int.not_lt, Int.not_le, List.length_map] at hc49
            refine W.skip ?_
            refine W.reg ?_
            refine XOps.s rfl rfl rfl (Q.ld_ptrn (k := 0) ag23 rfl rfl rfl) ?_
            refine XOps.loud rfl (L.storen (k := 1) ag23 rfl rfl rfl rfl rfl) ?_
            rintro _ _ ⟨rfl, rfl⟩
            refine XOps.nil ?_
            refine W.ret ?_
            refine ⟨_, hs, (.cons (by first | exact .celln 0 ag23 rfl rfl rfl | exact .cell1 0 ag23 rfl rfl rfl | exact .celln 1 ag23 rfl rfl rfl | exact .cell1 1 ag23 rfl rfl rfl | exact .celln 2 ag23 rfl rfl rfl | exact .cell1 2 ag23 rfl rfl rfl | exact .celln 3 ag23 rfl rfl rfl | exact .cell1 3 ag23 rfl rfl rfl) .nil), by first | exact HLe.cons' (c4 (by first | rfl | omega | (unfold boxX; (repeat (first | rw [if_pos (by omega)] | rw [if_neg (by omega)])); done) | (unfold boxX; (repeat (first | rw [if_pos (by omega)] | rw [if_neg (by omega)])); rfl)) (by first | rfl | omega | (unfold boxX; (repeat (first | rw [if_pos (by omega)] | rw [if_neg (by omega)])); done) | (unfold boxX; (repeat (first | rw [if_pos (by omega)] | rw [if_neg (by omega)])); rfl)) (by first | rfl | omega | (unfold boxX; (repeat (first | rw [if_pos (by omega)] | rw [if_neg (by omega)])); done) | (unfold boxX; (repeat (first | rw [if_pos (by omega)] | rw [if_neg (by omega)])); rfl)) (by first | rfl | omega | (unfold boxX; (repeat (first | rw [if_pos (by omega)] | rw [if_neg (by omega)])); done) | (unfold boxX; (repeat (first | rw [if_pos (by omega)] | rw [if_neg (by omega)])); rfl))) (HLe.refl _) | exact HLe.skip _ (HLe.skip _ (HLe.skip _ (HLe.refl _))), ?_, rfl⟩
            unfold boxS LB.enc
            dsimp only
            repeat (first | rw [if_pos (by omega)] | rw [if_neg (by omega)])
            first | rfl | (exfalso; omega)
    · try simp only [Bool.or_eq_true, Bool.or_eq_false_iff, Bool.and_eq_true, Bool.and_eq_false_iff, decide_eq_true_eq, decide_eq_false_iff_not, Bool.not_eq_true', Bool.not_eq_false', Int.not_lt, Int.not_le, List.length_map] at hc39
      refine W.reg ?_
      refine XOps.s rfl rfl rfl (Q.eql rfl rfl) ?_
      refine XOps.s rfl rfl rfl (Q.assign_d rfl) ?_
      refine XOps.nil ?_
      refine W.cond rfl (fun hc39 => ?_) (fun hc39 => ?_)
      · try simp only [Bool.or_eq_true, Bool.or_eq_false_iff, Bool.and_eq_true, Bool.and_eq_false_iff, decide_eq_true_eq, decide_eq_false_iff_not, Bool.not_eq_true', Bool.not_eq_false', Int.not_lt, Int.not_le, List.length_map] at hc39
        refine W.skip ?_
        refine W.cond rfl (fun hc39 => ?_) (fun hc39 => ?_)
        · try simp only [Bool.or_eq_true, Bool.or_eq_false_iff, Bool.and_eq_true, Bool.and_eq_false_iff, decide_eq_true_eq, decide_eq_false_iff_not, Bool.not_eq_true', Bool.not_eq_false', Int.not_lt, Int.not_le, List.length_map] at hc39
          refine W.region ?_
          refine XOps.s rfl rfl rfl (Q.fld_ptr fl31_1 rfl) ?_
          refine XOps.s rfl rfl rfl (Q.ld_ptr (k := 2) ag3 rfl rfl rfl) ?_
          refine XOps.s rfl rfl rfl (Q.fld_ptr fl31_3 rfl) ?_
          refine XOps.s rfl rfl rfl (Q.ld_ptr (k := 2) ag3 rfl rfl rfl) ?_
          refine XOps.s rfl rfl rfl (Q.sub rfl rfl (wi64 (by first | omega | (dsimp only; omega) | (simp only [List.length_map]; omega)) (by first | omega | (dsimp only; omega) | (simp only [List.length_map]; omega)))) ?_
          refine XOps.s rfl rfl rfl (Q.fld_ptr fl23_1 rfl) ?_
          refine XOps.loud rfl (L.store (k := 0) ag3 rfl rfl rfl rfl rfl) ?_
          rintro _ _ ⟨rfl, rfl⟩
          refine XOps.nil ?_
          refine W.reg ?_
          refine XOps.s rfl rfl rfl (Q.ld_ptrn (k := 0) ag23 rfl rfl rfl) ?_
          refine XOps.loud rfl (L.storen (k := 1) ag23 rfl rfl rfl rfl rfl) ?_
          rintro _ _ ⟨rfl, rfl⟩
          refine XOps.nil ?_
          refine W.ret ?_
          refine ⟨_, hs, (.cons (by first | exact .celln 0 ag23 rfl rfl rfl | exact .cell1 0 ag23 rfl rfl rfl | exact .celln 1 ag23 rfl rfl rfl | exact .cell1 1 ag23 rfl rfl rfl | exact .celln 2 ag23 rfl rfl rfl | exact .cell1 2 ag23 rfl rfl rfl | exact .celln 3 ag23 rfl rfl rfl | exact .cell1 3 ag23 rfl rfl rfl) .nil), by first | exact HLe.cons' (c4 (by first | rfl | omega | (unfold boxX; (repeat (first | rw [if_pos (by omega)] | rw [if_neg (by omega)])); done) | (unfold boxX; (repeat (first | rw [if_pos (by omega)] | rw [if_neg (by omega)])); rfl)) (by first | rfl | omega | (unfold boxX; (repeat (first | rw [if_pos (by omega)] | rw [if_neg (by omega)])); done) | (unfold boxX; (repeat (first | rw [if_pos (by omega)] | rw [if_neg (by omega)])); rfl)) (by first | rfl | omega | (unfold boxX; (repeat (first | rw [if_pos (by omega)] | rw [if_neg (by omega)])); done) | (unfold boxX; (repeat (first | rw [if_pos (by omega)] | rw [if_neg (by omega)])); rfl)) (by first | rfl | omega | (unfold boxX; (repeat (first | rw [if_pos (by omega)] | rw [if_neg (by omega)])); done) | (unfold boxX; (repeat (first | rw [if_pos (by omega)] | rw [if_neg (by omega)])); rfl))) (HLe.refl _) | exact HLe.skip _ (HLe.skip _ (HLe.skip _ (HLe.refl _))), ?_, rfl⟩
          unfold boxS LB.enc
          dsimp only
          repeat (first | rw [if_pos (by omega)] | rw [if_neg (by omega)])
          first | rfl | (exfalso; omega)
        · try simp only [Bool.or_eq_true, Bool.or_eq_false_iff, Bool.and_eq_true, Bool.and_eq_false_iff, decide_eq_true_eq, decide_eq_false_iff_not, Bool.not_eq_true', Bool.not_eq_false', Int.not_lt, Int.not_le, List.length_map] at hc39
          refine W.seq ?_
          refine W.reg ?_
          refine XOps.s rfl rfl rfl (Q.eql rfl rfl) ?_
          refine XOps.s rfl rfl rfl (Q.assign_d rfl) ?_
          refine XOps.nil ?_
          refine W.cond rfl (fun hc49 => ?_) (fun hc49 => ?_)
          · try simp only [Bool.or_eq_true, Bool.or_eq_false_iff, Bool.and_eq_true, Bool.and_eq_false_iff, decide_eq_true_eq, decide_eq_false_iff_not, Bool.not_eq_true', Bool.not_eq_false', Int.not_lt, Int.not_le, List.length_map] at hc49
            refine W.skip ?_
            refine W.cond rfl (fun hc49 => ?_) (fun hc49 => ?_)
            · try simp only [Bool.or_eq_true, Bool.or_eq_false_iff, Bool.and_eq_true, Bool.and_eq_false_iff, decide_eq_true_eq, decide_eq_false_iff_not, Bool.not_eq_true', Bool.not_eq_false', Int.not_lt, Int.not_le, List.length_map] at hc49
              refine W.region ?_
              refine XOps.s rfl rfl rfl (Q.fld_ptr fl31_1 rfl) ?_
              refine XOps.s rfl rfl rfl (Q.ld_ptr (k := 2) ag3 rfl rfl rfl) ?_
              refine XOps.s rfl rfl rfl (Q.fld_ptr fl31_3 rfl) ?_
              refine XOps.s rfl rfl rfl (Q.ld_ptr (k := 2) ag3 rfl rfl rfl) ?_
              refine XOps.s rfl rfl rfl (Q.quo rfl rfl (by omega) (wquo (by omega) (by omega) (by omega))) ?_
              refine XOps.s rfl rfl rfl (Q.sub rfl rfl (wi64 (by first | omega | (dsimp only; omega) | (simp only [List.length_map]; omega)) (by first | omega | (dsimp only; omega) | (simp only [List.length_map]; omega)))) ?_
              refine XOps.s rfl rfl rfl (Q.fld_ptr fl23_1 rfl) ?_
              refine XOps.loud rfl (L.store (k := 0) ag3 rfl rfl rfl rfl rfl) ?_
              rintro _ _ ⟨rfl, rfl⟩
              refine XOps.nil ?_
              refine W.reg ?_
              refine XOps.s rfl rfl rfl (Q.ld_ptrn (k := 0) ag23 rfl rfl rfl) ?_
              refine XOps.loud rfl (L.storen (k := 1) ag23 rfl rfl rfl rfl rfl) ?_
              rintro _ _ ⟨rfl, rfl⟩
              refine XOps.nil ?_
              refine W.ret ?_
              refine ⟨_, hs, (.cons (by first | exact .celln 0 ag23 rfl rfl rfl | exact .cell1 0 ag23 rfl rfl rfl | exact .celln 1 ag23 rfl rfl rfl | exact .cell1 1 ag23 rfl rfl rfl | exact .celln 2 ag23 rfl rfl rfl | exact .cell1 2 ag23 rfl rfl rfl | exact .celln 3 ag23 rfl rfl rfl | exact .cell1 3 ag23 rfl rfl rfl) .nil), by first | exact HLe.cons' (c4 (by first | rfl | omega | (unfold boxX; (repeat (first | rw [if_pos (by omega)] | rw [if_neg (by omega)])); done) | (unfold boxX; (repeat (first | rw [if_pos (by omega)] | rw [if_neg (by omega)])); rfl)) (by first | rfl | omega | (unfold boxX; (repeat (first | rw [if_pos (by omega)] | rw [if_neg (by omega)])); done) | (unfold boxX; (repeat (first | rw [if_pos (by omega)] | rw [if_neg (by omega)])); rfl)) (by first | rfl | omega | (unfold boxX; (repeat (first | rw [if_pos (by omega)] | rw [if_neg (by omega)])); done) | (unfold boxX; (repeat (first | rw [if_pos (by omega)] | rw [if_neg (by omega)])); rfl)) (by first | rfl | omega | (unfold boxX; (repeat (first | rw [if_pos (by omega)] | rw [if_neg (by omega)])); done) | (unfold boxX; (repeat (first | rw [if_pos (by omega)] | rw [if_neg (by omega)])); rfl))) (HLe.refl _) | exact HLe.skip _ (HLe.skip _ (HLe.skip _ (HLe.refl _))), ?_, rfl⟩
              unfold boxS LB.enc
              dsimp only
              repeat (first | rw [if_pos (by omega)] | rw [if_neg (by omega)])
              first | rfl | (exfalso; omega)
            · try simp only [Bool.or_eq_true, Bool.or_eq_false_iff, Bool.and_eq_true, Bool.and_eq_false_iff, decide_eq_true_eq, decide_eq_false_iff_not, Bool.not_eq_true', Bool.not_eq_false', Int.not_lt, Int.not_le, List.length_map] at hc49
              refine W.skip ?_
              refine W.reg ?_
              refine XOps.s rfl rfl rfl (Q.ld_ptrn (k := 0) ag23 rfl rfl rfl) ?_
              refine XOps.loud rfl (L.storen (k := 1) ag23 rfl rfl rfl rfl rfl) ?_
              rintro _ _ ⟨rfl, rfl⟩
              refine XOps.nil ?_
              refine W.ret ?_
              refine ⟨_, hs, (.cons (by first | exact .celln 0 ag23 rfl rfl rfl | exact .cell1 0 ag23 rfl rfl rfl | exact .celln 1 ag23 rfl rfl rfl | exact .cell1 1 ag23 rfl rfl rfl | exact .celln 2 ag23 rfl rfl rfl | exact .cell1 2 ag23 rfl rfl rfl | exact .celln 3 ag23 rfl rfl rfl | exact .cell1 3 ag23 rfl rfl rfl) .nil), by first | exact HLe.cons' (c4 (by first | rfl | omega | (unfold boxX; (repeat (first | rw [if_pos (by omega)] | rw [if_neg (by omega)])); done) | (unfold boxX; (repeat (first | rw [if_pos (by omega)] | rw [if_neg (by omega)])); rfl)) (by first | rfl | omega | (unfold boxX; (repeat (first | rw [if_pos (by omega)] | rw [if_neg (by omega)])); done) | (unfold boxX; (repeat (first | rw [if_pos (by omega)] | rw [if_neg (by omega)])); rfl)) (by first | rfl | omega | (unfold boxX; (repeat (first | rw [if_pos (by omega)] | rw [if_neg (by omega)])); done) | (unfold boxX; (repeat (first | rw [if_pos (by omega)] | rw [if_neg (by omega)])); rfl)) (by first | rfl | omega | (unfold boxX; (repeat (first | rw [if_pos (by omega)] | rw [if_neg (by omega)])); done) | (unfold boxX; (repeat (first | rw [if_pos (by omega)] | rw [if_neg (by omega)])); rfl))) (HLe.refl _) | exact HLe.skip _ (HLe.skip _ (HLe.skip _ (HLe.refl _))), ?_, rfl⟩
              unfold boxS LB.enc
              dsimp only
              repeat (first | rw [if_pos (by omega)] | rw [if_neg (by omega)])
              first | rfl | (exfalso; omega)
          · try simp only [Bool.or_eq_true, Bool.or_eq_false_iff, Bool.and_eq_true, Bool.and_eq_false_iff, decide_eq_true_eq, decide_eq_false_iff_not, Bool.not_eq_true', Bool.not_eq_false', Int.not_lt, Int.not_le, List.length_map] at hc49
            refine W.region ?_
            refine XOps.s rfl rfl rfl (Q.eql rfl rfl) ?_
            refine XOps.s rfl rfl rfl (Q.assign_d rfl) ?_
            refine XOps.nil ?_
            refine W.cond rfl (fun hc49 => ?_) (fun hc49 => ?_)
            · try simp only [Bool.or_eq_true, Bool.or_eq_false_iff, Bool.and_eq_true, Bool.and_eq_false_iff, decide_eq_true_eq, decide_eq_false_iff_not, Bool.not_eq_true', Bool.not_eq_false', Int.not_lt, Int.not_le, List.length_map] at hc49
              refine W.region ?_
              refine XOps.s rfl rfl rfl (Q.fld_ptr fl31_1 rfl) ?_
              refine XOps.s rfl rfl rfl (Q.ld_ptr (k := 2) ag3 rfl rfl rfl) ?_
              refine XOps.s rfl rfl rfl (Q.fld_ptr fl31_3 rfl) ?_
              refine XOps.s rfl rfl rfl (Q.ld_ptr (k := 2) ag3 rfl rfl rfl) ?_
              refine XOps.s rfl rfl rfl (Q.quo rfl rfl (by omega) (wquo (by omega) (by omega) (by omega))) ?_
              refine XOps.s rfl rfl rfl (Q.sub rfl rfl (wi64 (by first | omega | (dsimp only; omega) | (simp only [List.length_map]; omega)) (by first | omega | (dsimp only; omega) | (simp only [List.length_map]; omega)))) ?_
              refine XOps.s rfl rfl rfl (Q.fld_ptr fl23_1 rfl) ?_
              refine XOps.loud rfl (L.store (k := 0) ag3 rfl rfl rfl rfl rfl) ?_
              rintro _ _ ⟨rfl, rfl⟩
              refine XOps.nil ?_
              refine W.reg ?_
              refine XOps.s rfl rfl rfl (Q.ld_ptrn (k := 0) ag23 rfl rfl rfl) ?_
              refine XOps.loud rfl (L.storen (k := 1) ag23 rfl rfl rfl rfl rfl) ?_
              rintro _ _ ⟨rfl, rfl⟩
              refine XOps.nil ?_
              refine W.ret ?_
              refine ⟨_, hs, (.cons (by first | exact .celln 0 ag23 rfl rfl rfl | exact .cell1 0 ag23 rfl rfl rfl | exact .celln 1 ag23 rfl rfl rfl | exact .cell1 1 ag23 rfl rfl rfl | exact .celln 2 ag23 rfl rfl rfl | exact .cell1 2 ag23 rfl rfl rfl | exact .celln 3 ag23 rfl rfl rfl | exact .cell1 3 ag23 rfl rfl rfl) .nil), by first | exact HLe.cons' (c4 (by first | rfl | omega | (unfold boxX; (repeat (first | rw [if_pos (by omega)] | rw [if_neg (by omega)])); done) | (unfold boxX; (repeat (first | rw [if_pos (by omega)] | rw [if_neg (by omega)])); rfl)) (by first | rfl | omega | (unfold boxX; (repeat (first | rw [if_pos (by omega)] | rw [if_neg (by omega)])); done) | (unfold boxX; (repeat (first | rw [if_pos (by omega)] | rw [if_neg (by omega)])); rfl)) (by first | rfl | omega | (unfold boxX; (repeat (first | rw [if_pos (by omega)] | rw [if_neg (by omega)])); done) | (unfold boxX; (repeat (first | rw [if_pos (by omega)] | rw [if_neg (by omega)])); rfl)) (by first | rfl | omega | (unfold boxX; (repeat (first | rw [if_pos (by omega)] | rw [if_neg (by omega)])); done) | (unfold boxX; (repeat (first | rw [if_pos (by omega)] | rw [if_neg (by omega)])); rfl))) (HLe.refl _) | exact HLe.skip _ (HLe.skip _ (HLe.skip _ (HLe.refl _))), ?_, rfl⟩
              unfold boxS LB.enc
              dsimp only
              repeat (first | rw [if_pos (by omega)] | rw [if_neg (by omega)])
              first | rfl | (exfalso; omega)
            · try simp only [Bool.or_eq_true, Bool.or_eq_false_iff, Bool.and_eq_true, Bool.and_eq_false_iff, decide_eq_true_eq, decide_eq_false_iff_not, Bool.not_eq_true', Bool.not_eq_false', Int.not_lt, Int.not_le, List.length_map] at hc49
              refine W.skip ?_
              refine W.reg ?_
              refine XOps.s rfl rfl rfl (Q.ld_ptrn (k := 0) ag23 rfl rfl rfl) ?_
              refine XOps.loud rfl (L.storen (k := 1) ag23 rfl rfl rfl rfl rfl) ?_
              rintro _ _ ⟨rfl, rfl⟩
              refine XOps.nil ?_
              refine W.ret ?_
              refine ⟨_, hs, (.cons (by first | exact .celln 0 ag23 rfl rfl rfl | exact .cell1 0 ag23 rfl rfl rfl | exact .celln 1 ag23 rfl rfl rfl | exact .cell1 1 ag23 rfl rfl rfl | exact .celln 2 ag23 rfl rfl rfl | exact .cell1 2 ag23 rfl rfl rfl | exact .celln 3 ag23 rfl rfl rfl | exact .cell1 3 ag23 rfl rfl rfl) .nil), by first | exact HLe.cons' (c4 (by first | rfl | omega | (unfold boxX; (repeat (first | rw [if_pos (by omega)] | rw [if_neg (by omega)])); done) | (unfold boxX; (repeat (first | rw [if_pos (by omega)] | rw [if_neg (by omega)])); rfl)) (by first | rfl | omega | (unfold boxX; (repeat (first | rw [if_pos (by omega)] | rw [if_neg (by omega)])); done) | (unfold boxX; (repeat (first | rw [if_pos (by omega)] | rw [if_neg (by omega)])); rfl)) (by first | rfl | omega | (unfold boxX; (repeat (first | rw [if_pos (by omega)] | rw [if_neg (by omega)])); done) | (unfold boxX; (repeat (first | rw [if_pos (by omega)] | rw [if_neg (by omega)])); rfl)) (by first | rfl | omega | (unfold boxX; (repeat (first | rw [if_pos (by omega)] | rw [if_neg (by omega)])); done) | (unfold boxX; (repeat (first | rw [if_pos (by omega)] | rw [if_neg (by omega)])); rfl))) (HLe.refl _) | exact HLe.skip _ (HLe.skip _ (HLe.skip _ (HLe.refl _))), ?_, rfl⟩
              unfold boxS LB.enc
              dsimp only
              repeat (first | rw [if_pos (by omega)] | rw [if_neg (by omega)])
              first | rfl | (exfalso; omega)
      · try simp only [Bool.or_eq_true, Bool.or_eq_false_iff, Bool.and_eq_true, Bool.and_eq_false_iff, decide_eq_true_eq, decide_eq_false_iff_not, Bool.not_eq_true', Bool.not_eq_false', Int.not_lt, Int.not_le, List.length_map] at hc39
        refine W.region ?_
        refine XOps.s rfl rfl rfl (Q.eql rfl rfl) ?_
        refine XOps.s rfl rfl rfl (Q.assign_d rfl) ?_
        refine XOps.nil ?_
        refine W.cond rfl (fun hc39 => ?_) (fun hc39 => ?_)
        · try simp only [Bool.or_eq_true, Bool.or_eq_false_iff, Bool.and_eq_true, Bool.and_eq_false_iff, decide_eq_true_eq, decide_eq_false_iff_not, Bool.not_eq_true', Bool.not_eq_false', Int.not_lt, Int.not_le, List.length_map] at hc39
          refine W.region ?_
          refine XOps.s rfl rfl rfl (Q.fld_ptr fl31_1 rfl) ?_
          refine XOps.s rfl rfl rfl (Q.ld_ptr (k := 2) ag3 rfl rfl rfl) ?_
          refine XOps.s rfl rfl rfl (Q.fld_ptr fl31_3 rfl) ?_
          refine XOps.s rfl rfl rfl (Q.ld_ptr (k := 2) ag3 rfl rfl rfl) ?_
          refine XOps.s rfl rfl rfl (Q.sub rfl rfl (wi64 (by first | omega | (dsimp only; omega) | (simp only [List.length_map]; omega)) (by first | omega | (dsimp only; omega) | (simp only [List.length_map]; omega)))) ?_
          refine XOps.s rfl rfl rfl (Q.fld_ptr fl23_1 rfl) ?_
          refine XOps.loud rfl (L.store (k := 0) ag3 rfl rfl rfl rfl rfl) ?_
          rintro _ _ ⟨rfl, rfl⟩
          refine XOps.nil ?_
          refine W.reg ?_
          refine XOps.s rfl rfl rfl (Q.ld_ptrn (k := 0) ag23 rfl rfl rfl) ?_
          refine XOps.loud rfl (L.storen (k := 1) ag23 rfl rfl rfl rfl rfl) ?_
          rintro _ _ ⟨rfl, rfl⟩
          refine XOps.nil ?_
          refine W.ret ?_
          refine ⟨_, hs, (.cons (by first | exact .celln 0 ag23 rfl rfl rfl | exact .cell1 0 ag23 rfl rfl rfl | exact .celln 1 ag23 rfl rfl rfl | exact .cell1 1 ag23 rfl rfl rfl | exact .celln 2 ag23 rfl rfl rfl | exact .cell1 2 ag23 rfl rfl rfl | exact .celln 3 ag23 rfl rfl rfl | exact .cell1 3 ag23 rfl rfl rfl) .nil), by first | exact HLe.cons' (c4 (by first | rfl | omega | (unfold boxX; (repeat (first | rw [if_pos (by omega)] | rw [if_neg (by omega)])); done) | (unfold boxX; (repeat (first | rw [if_pos (by omega)] | rw [if_neg (by omega)])); rfl)) (by first | rfl | omega | (unfold boxX; (repeat (first | rw [if_pos (by omega)] | rw [if_neg (by omega)])); done) | (unfold boxX; (repeat (first | rw [if_pos (by omega)] | rw [if_neg (by omega)])); rfl)) (by first | rfl | omega | (unfold boxX; (repeat (first | rw [if_pos (by omega)] | rw [if_neg (by omega)])); done) | (unfold boxX; (repeat (first | rw [if_pos (by omega)] | rw [if_neg (by omega)])); rfl)) (by first | rfl | omega | (unfold boxX; (repeat (first | rw [if_pos (by omega)] | rw [if_neg (by omega)])); done) | (unfold boxX; (repeat (first | rw [if_pos (by omega)] | rw [if_neg (by omega)])); rfl))) (HLe.refl _) | exact HLe.skip _ (HLe.skip _ (HLe.skip _ (HLe.refl _))), ?_, rfl⟩
          unfold boxS LB.enc
          dsimp only
          repeat (first | rw [if_pos (by omega)] | rw [if_neg (by omega)])
          first | rfl | (exfalso; omega)
        · try simp only [Bool.or_eq_true, Bool.or_eq_false_iff, Bool.and_eq_true, Bool.and_eq_false_iff, decide_eq_true_eq, decide_eq_false_iff_not, Bool.not_eq_true', Bool.not_eq_false', Int.not_lt, Int.not_le, List.length_map] at hc39
          refine W.seq ?_
          refine W.reg ?_
          refine XOps.s rfl rfl rfl (Q.eql rfl rfl) ?_
          refine XOps.s rfl rfl rfl (Q.assign_d rfl) ?_
          refine XOps.nil ?_
          refine W.cond rfl (fun hc49 => ?_) (fun hc49 => ?_)
          · try simp only [Bool.or_eq_true, Bool.or_eq_false_iff, Bool.and_eq_true, Bool.and_eq_false_iff, decide_eq_true_eq, decide_eq_false_iff_not, Bool.not_eq_true', Bool.not_eq_false', Int.not_lt, Int.not_le, List.length_map] at hc49
            refine W.skip ?_
            refine W.cond rfl (fun hc49 => ?_) (fun hc49 => ?_)
            · try simp only [Bool.or_eq_true, Bool.or_eq_false_iff, Bool.and_eq_true, Bool.and_eq_false_iff, decide_eq_true_eq, decide_eq_false_iff_not, Bool.not_eq_true', Bool.not_eq_false', Int.not_lt, Int.not_le, List.length_map] at hc49
              refine W.region ?_
              refine XOps.s rfl rfl rfl (Q.fld_ptr fl31_1 rfl) ?_
              refine XOps.s rfl rfl rfl (Q.ld_ptr (k := 2) ag3 rfl rfl rfl) ?_
              refine XOps.s rfl rfl rfl (Q.fld_ptr fl31_3 rfl) ?_
              refine XOps.s rfl rfl rfl (Q.ld_ptr (k := 2) ag3 rfl rfl rfl) ?_
              refine XOps.s rfl rfl rfl (Q.quo rfl rfl (by omega) (wquo (by omega) (by omega) (by omega))) ?_
              refine XOps.s rfl rfl rfl (Q.sub rfl rfl (wi64 (by first | omega | (dsimp only; omega) | (simp only [List.length_map]; omega)) (by first | omega | (dsimp only; omega) | (simp only [List.length_map]; omega)))) ?_
              refine XOps.s rfl rfl rfl (Q.fld_ptr fl23_1 rfl) ?_
              refine XOps.loud rfl (L.store (k := 0) ag3 rfl rfl rfl rfl rfl) ?_
              rintro _ _ ⟨rfl, rfl⟩
              refine XOps.nil ?_
              refine W.reg ?_
              refine XOps.s rfl rfl rfl (Q.ld_ptrn (k := 0) ag23 rfl rfl rfl) ?_
              refine XOps.loud rfl (L.storen (k := 1) ag23 rfl rfl rfl rfl rfl) ?_
              rintro _ _ ⟨rfl, rfl⟩
              refine XOps.nil ?_
              refine W.ret ?_
              refine ⟨_, hs, (.cons (by first | exact .celln 0 ag23 rfl rfl rfl | exact .cell1 0 ag23 rfl rfl rfl | exact .celln 1 ag23 rfl rfl rfl | exact .cell1 1 ag23 rfl rfl rfl | exact .celln 2 ag23 rfl rfl rfl | exact .cell1 2 ag23 rfl rfl rfl | exact .celln 3 ag23 rfl rfl rfl | exact .cell1 3 ag23 rfl rfl rfl) .nil), by first | exact HLe.cons' (c4 (by first | rfl | omega | (unfold boxX; (repeat (first | rw [if_pos (by omega)] | rw [if_neg (by omega)])); done) | (unfold boxX; (repeat (first | rw [if_pos (by omega)] | rw [if_neg (by omega)])); rfl)) (by first | rfl | omega | (unfold boxX; (repeat (first | rw [if_pos (by omega)] | rw [if_neg (by omega)])); done) | (unfold boxX; (repeat (first | rw [if_pos (by omega)] | rw [if_neg (by omega)])); rfl)) (by first | rfl | omega | (unfold boxX; (repeat (first | rw [if_pos (by omega)] | rw [if_neg (by omega)])); done) | (unfold boxX; (repeat (first | rw [if_pos (by omega)] | rw [if_neg (by omega)])); rfl)) (by first | rfl | omega | (unfold boxX; (repeat (first | rw [if_pos (by omega)] | rw [if_neg (by omega)])); done) | (unfold boxX; (repeat (first | rw [if_pos (by omega)] | rw [if_neg (by omega)])); rfl))) (HLe.refl _) | exact HLe.skip _ (HLe.skip _ (HLe.skip _ (HLe.refl _))), ?_, rfl⟩
              unfold boxS LB.enc
              dsimp only
              repeat (first | rw [if_pos (by omega)] | rw [if_neg (by omega)])
              first | rfl | (exfalso; omega)
            · try simp only [Bool.or_eq_true, Bool.or_eq_false_iff, Bool.and_eq_true, Bool.and_eq_false_iff, decide_eq_true_eq, decide_eq_false_iff_not, Bool.not_eq_true', Bool.not_eq_false', Int.not_lt, Int.not_le, List.length_map] at hc49
              refine W.skip ?_
              refine W.reg ?_
              refine XOps.s rfl rfl rfl (Q.ld_ptrn (k := 0) ag23 rfl rfl rfl) ?_
              refine XOps.loud rfl (L.storen (k := 1) ag23 rfl rfl rfl rfl rfl) ?_
              rintro _ _ ⟨rfl, rfl⟩
              refine XOps.nil ?_
              refine W.ret ?_
              refine ⟨_, hs, (.cons (by first | exact .celln 0 ag23 rfl rfl rfl | exact .cell1 0 ag23 rfl rfl rfl | exact .celln 1 ag23 rfl rfl rfl | exact .cell1 1 ag23 rfl rfl rfl | exact .celln 2 ag23 rfl rfl rfl | exact .cell1 2 ag23 rfl rfl rfl | exact .celln 3 ag23 rfl rfl rfl | exact .cell1 3 ag23 rfl rfl rfl) .nil), by first | exact HLe.cons' (c4 (by first | rfl | omega | (unfold boxX; (repeat (first | rw [if_pos (by omega)] | rw [if_neg (by omega)])); done) | (unfold boxX; (repeat (first | rw [if_pos (by omega)] | rw [if_neg (by omega)])); rfl)) (by first | rfl | omega | (unfold boxX; (repeat (first | rw [if_pos (by omega)] | rw [if_neg (by omega)])); done) | (unfold boxX; (repeat (first | rw [if_pos (by omega)] | rw [if_neg (by omega)])); rfl)) (by first | rfl | omega | (unfold boxX; (repeat (first | rw [if_pos (by omega)] | rw [if_neg (by omega)])); done) | (unfold boxX; (repeat (first | rw [if_pos (by omega)] | rw [if_neg (by omega)])); rfl)) (by first | rfl | omega | (unfold boxX; (repeat (first | rw [if_pos (by omega)] | rw [if_neg (by omega)])); done) | (unfold boxX; (repeat (first | rw [if_pos (by omega)] | rw [if_neg (by omega)])); rfl))) (HLe.refl _) | exact HLe.skip _ (HLe.skip _ (HLe.skip _ (HLe.refl _))), ?_, rfl⟩
              unfold boxS LB.enc
              dsimp only
              repeat (first | rw [if_pos (by omega)] | rw [if_neg (by omega)])
              first | rfl | (exfalso; omega)
          · try simp only [Bool.or_eq_true, Bool.or_eq_false_iff, Bool.and_eq_true, Bool.and_eq_false_iff, decide_eq_true_eq, decide_eq_false_iff_not, Bool.not_eq_true', Bool.not_eq_false', Int.not_lt, Int.not_le, List.length_map] at hc49
            refine W.region ?_
            refine XOps.s rfl rfl rfl (Q.eql rfl rfl) ?_
            refine XOps.s rfl rfl rfl (Q.assign_d rfl) ?_
            refine XOps.nil ?_
            refine W.cond rfl (fun hc49 => ?_) (fun hc49 => ?_)
            · try simp only [Bool.or_eq_true, Bool.or_eq_false_iff, Bool.and_eq_true, Bool.and_eq_false_iff, decide_eq_true_eq, decide_eq_false_iff_not, Bool.not_eq_true', Bool.not_eq_false', Int.not_lt, Int.not_le, List.length_map] at hc49
              refine W.region ?_
              refine XOps.s rfl rfl rfl (Q.fld_ptr fl31_1 rfl) ?_
              refine XOps.s rfl rfl rfl (Q.ld_ptr (k := 2) ag3 rfl rfl rfl) ?_
              refine XOps.s rfl rfl rfl (Q.fld_ptr fl31_3 rfl) ?_
              refine XOps.s rfl rfl rfl (Q.ld_ptr (k := 2) ag3 rfl rfl rfl) ?_
              refine XOps.s rfl rfl rfl (Q.quo rfl rfl (by omega) (wquo (by omega) (by omega) (by omega))) ?_
              refine XOps.s rfl rfl rfl (Q.sub rfl rfl (wi64 (by first | omega | (dsimp only; omega) | (simp only [List.length_map]; omega)) (by first | omega | (dsimp only; omega) | (simp only [List.length_map]; omega)))) ?_
              refine XOps.s rfl rfl rfl (Q.fld_ptr fl23_1 rfl) ?_
              refine XOps.loud rfl (L.store (k := 0) ag3 rfl rfl rfl rfl rfl) ?_
              rintro _ _ ⟨rfl, rfl⟩
              refine XOps.nil ?_
              refine W.reg ?_
              refine XOps.s rfl rfl rfl (Q.ld_ptrn (k := 0) ag23 rfl rfl rfl) ?_
              refine XOps.loud rfl (L.storen (k := 1) ag23 rfl rfl rfl rfl rfl) ?_
              rintro _ _ ⟨rfl, rfl⟩
              refine XOps.nil ?_
              refine W.ret ?_
              refine ⟨_, hs, (.cons (by first | exact .celln 0 ag23 rfl rfl rfl | exact .cell1 0 ag23 rfl rfl rfl | exact .celln 1 ag23 rfl rfl rfl | exact .cell1 1 ag23 rfl rfl rfl | exact .celln 2 ag23 rfl rfl rfl | exact .cell1 2 ag23 rfl rfl rfl | exact .celln 3 ag23 rfl rfl rfl | exact .cell1 3 ag23 rfl rfl rfl) .nil), by first | exact HLe.cons' (c4 (by first | rfl | omega | (unfold boxX; (repeat (first | rw [if_pos (by omega)] | rw [if_neg (by omega)])); done) | (unfold boxX; (repeat (first | rw [if_pos (by omega)] | rw [if_neg (by omega)])); rfl)) (by first | rfl | omega | (unfold boxX; (repeat (first | rw [if_pos (by omega)] | rw [if_neg (by omega)])); done) | (unfold boxX; (repeat (first | rw [if_pos (by omega)] | rw [if_neg (by omega)])); rfl)) (by first | rfl | omega | (unfold boxX; (repeat (first | rw [if_pos (by omega)] | rw [if_neg (by omega)])); done) | (unfold boxX; (repeat (first | rw [if_pos (by omega)] | rw [if_neg (by omega)])); rfl)) (by first | rfl | omega | (unfold boxX; (repeat (first | rw [if_pos (by omega)] | rw [if_neg (by omega)])); done) | (unfold boxX; (repeat (first | rw [if_pos (by omega)] | rw [if_neg (by omega)])); rfl))) (HLe.refl _) | exact HLe.skip _ (HLe.skip _ (HLe.skip _ (HLe.refl _))), ?_, rfl⟩
              unfold boxS LB.enc
              dsimp only
              repeat (first | rw [if_pos (by omega)] | rw [if_neg (by omega)])
              first | rfl | (exfalso; omega)
            · try simp only [Bool.or_eq_true, Bool.or_eq_false_iff, Bool.and_eq_true, Bool.and_eq_false_iff, decide_eq_true_eq, decide_eq_false_iff_not, Bool.not_eq_true', Bool.not_eq_false', Int.not_lt, Int.not_le, List.length_map] at hc49
              refine W.skip ?_
              refine W.reg ?_
              refine XOps.s rfl rfl rfl (Q.ld_ptrn (k := 0) ag23 rfl rfl rfl) ?_
              refine XOps.loud rfl (L.storen (k := 1) ag23 rfl rfl rfl rfl rfl) ?_
              rintro _ _ ⟨rfl, rfl⟩
              refine XOps.nil ?_
              refine W.ret ?_
              refine ⟨_, hs, (.cons (by first | exact .celln 0 ag23 rfl rfl rfl | exact .cell1 0 ag23 rfl rfl rfl | exact .celln 1 ag23 rfl rfl rfl | exact .cell1 1 ag23 rfl rfl rfl | exact .celln 2 ag23 rfl rfl rfl | exact .cell1 2 ag23 rfl rfl rfl | exact .celln 3 ag23 rfl rfl rfl | exact .cell1 3 ag23 rfl rfl rfl) .nil), by first | exact HLe.cons' (c4 (by first | rfl | omega | (unfold boxX; (repeat (first | rw [if_pos (by omega)] | rw [if_neg (by omega)])); done) | (unfold boxX; (repeat (first | rw [if_pos (by omega)] | rw [if_neg (by omega)])); rfl)) (by first | rfl | omega | (unfold boxX; (repeat (first | rw [if_pos (by omega)] | rw [if_neg (by omega)])); done) | (unfold boxX; (repeat (first | rw [if_pos (by omega)] | rw [if_neg (by omega)])); rfl)) (by first | rfl | omega | (unfold boxX; (repeat (first | rw [if_pos (by omega)] | rw [if_neg (by omega)])); done) | (unfold boxX; (repeat (first | rw [if_pos (by omega)] | rw [if_neg (by omega)])); rfl)) (by first | rfl | omega | (unfold boxX; (repeat (first | rw [if_pos (by omega)] | rw [if_neg (by omega)])); done) | (unfold boxX; (repeat (first | rw [if_pos (by omega)] | rw [if_neg (by omega)])); rfl))) (HLe.refl _) | exact HLe.skip _ (HLe.skip _ (HLe.skip _ (HLe.refl _))), ?_, rfl⟩
              unfold boxS LB.enc
              dsimp only
              repeat (first | rw [if_pos (by omega)] | rw [if_neg (by omega)])
              first | rfl | (exfalso; omega)

set_option maxHeartbeats 1000000 in
set_option maxRecDepth 100000 in
theorem cov1_c (b x : LB) (c : Nat) (hs : Hp) (hb : b.ok) (hx : x.it) : AC P 27 [.d (.agg x.enc), .ptr c 0] ((c, .cells (b.enc.map .d)) :: hs) (fun r h => r = .d (.bool (meetS b (cell1 x))) ∧ h = (c, .cells (b.enc.map .d)) :: hs) := by
  refine AC.of 11 Try.func27 rfl rfl rfl ?_
  refine W.reg ?_
  refine XOps.loud rfl (L.boxn rfl rfl) ?_
  rintro _ _ ⟨b2, rfl, rfl⟩
  refine XOps.s rfl rfl rfl (Q.assign_d rfl) ?_
  refine XOps.nil ?_
  refine W.reg ?_
  refine XOps.s rfl rfl rfl (Q.ld_ptrn (k := 1) ag23 rfl rfl rfl) ?_
  refine XOps.s rfl rfl rfl (Q.fld_ptr fl31_0 rfl) ?_
  refine XOps.s rfl rfl rfl (Q.ld_ptr (k := 0) ag3 rfl rfl rfl) ?_
  refine XOps.s rfl rfl rfl (Q.fld_ptr fl31_1 rfl) ?_
  refine XOps.s rfl rfl rfl (Q.ld_ptr (k := 0) ag3 rfl rfl rfl) ?_
  refine XOps.s rfl rfl rfl (Q.build pl23 tz23 tzd23 rfl) ?_
  refine XOps.s rfl rfl rfl (Q.call rfl Try.func8 go8 rfl (meet_c b (cell1 x) _ hb (by unfold LB.it at hx; unfold LB.ok cell1; dsimp only; omega))) ?_
  refine XOps.s rfl rfl rfl (Q.assign_d rfl) ?_
  refine XOps.nil ?_
  refine W.ret ?_
  exact ⟨_, (c, .cells (b.enc.map .d)) :: hs, rfl, HLe.skip _ (HLe.refl _), rfl, rfl⟩

set_option maxHeartbeats 1000000 in
set_option maxRecDepth 100000 in
theorem free1_c (b x : LB) (c : Nat) (hs : Hp) (hb : b.ok) (hx : x.ok) : AC P 29 [.d (.agg x.enc), .ptr c 0] ((c, .cells (b.enc.map .d)) :: hs) (fun r h => r = .d (.bool (meetS b x)) ∧ h = (c, .cells (b.enc.map .d)) :: hs) := by
  refine AC.of 7 Try.func29 rfl rfl rfl ?_
  refine W.reg ?_
  refine XOps.loud rfl (L.boxn rfl rfl) ?_
  rintro _ _ ⟨b2, rfl, rfl⟩
  refine XOps.s rfl rfl rfl (Q.assign_d rfl) ?_
  refine XOps.nil ?_
  refine W.reg ?_
  refine XOps.s rfl rfl rfl (Q.ld_ptrn (k := 1) ag23 rfl rfl rfl) ?_
  refine XOps.s rfl rfl rfl (Q.ld_ptrn (k := 0) ag23 rfl rfl rfl) ?_
  refine XOps.s rfl rfl rfl (Q.call rfl Try.func8 go8 rfl (meet_c b x _ hb hx)) ?_
  refine XOps.s rfl rfl rfl (Q.assign_d rfl) ?_
  refine XOps.nil ?_
  refine W.ret ?_
  exact ⟨_, (c, .cells (b.enc.map .d)) :: hs, rfl, HLe.skip _ (HLe.refl _), rfl, rfl⟩

set_option maxHeartbeats 1000000 in
set_option maxRecDepth 100000 in
theorem covers_c (b : LB) (l : List LB) (hs : Hp) (hb : b.ok) (hl : ∀ x ∈ l, x.it) (hn : l.length ≤ 1000) : AC P 21 [.d (.agg b.enc), .d (.sl 4 (l.map LB.enc))] hs (fun r h => r = .d (.bool (coversS b l)) ∧ h = hs) := by
  refine AC.of 8 Try.func21 rfl rfl rfl ?_
  refine W.reg ?_
  refine XOps.loud rfl (L.boxn rfl rfl) ?_
  rintro _ _ ⟨b2, rfl, rfl⟩
  refine XOps.s rfl rfl rfl (Q.assign_d rfl) ?_
  refine XOps.nil ?_
  refine W.reg ?_
  refine XOps.s rfl rfl rfl (Q.move_d rfl) ?_
  refine XOps.s rfl rfl rfl (Q.mkfn rfl) ?_
  refine XOps.s rfl rfl rfl (Q.call rfl Try.func24 go24 rfl (containsI_c 27 [.ptr b2 0] (fun x => meetS b (cell1 x)) l _ (by omega) Try.func27 go27 (fun x hx => cov1_c b x b2 hs hb (hl x hx)))) ?_
  refine XOps.s rfl rfl rfl (Q.assign_d rfl) ?_
  refine XOps.nil ?_
  refine W.ret ?_
  refine ⟨_, hs, rfl, by repeat (first | exact HLe.refl _ | refine HLe.cons' (by first | rfl | (simp [LB.enc, nE]; done)) ?_ | refine HLe.pick 1 rfl (by first | rfl | (simp [LB.enc, nE]; done)) ?_ | refine HLe.pick 2 rfl (by first | rfl | (simp [LB.enc, nE]; done)) ?_ | refine HLe.pick 3 rfl (by first | rfl | (simp [LB.enc, nE]; done)) ?_ | refine HLe.pick 4 rfl (by first | rfl | (simp [LB.enc, nE]; done)) ?_ | refine HLe.pick 5 rfl (by first | rfl | (simp [LB.enc, nE]; done)) ?_ | refine HLe.skip _ ?_), ?_, rfl⟩
  rfl

set_option maxHeartbeats 1000000 in
set_option maxRecDepth 100000 in
theorem free_c (b : LB) (l : List LB) (hs : Hp) (hb : b.ok) (hl : ∀ x ∈ l, x.ok) (hn : l.length ≤ 1000) : AC P 22 [.d (.agg b.enc), .d (.sl 4 (l.map LB.enc))] hs (fun r h => r = .d (.bool (freeS b l)) ∧ h = hs) := by
  refine AC.of 9 Try.func22 rfl rfl rfl ?_
  refine W.reg ?_
  refine XOps.loud rfl (L.boxn rfl rfl) ?_
  rintro _ _ ⟨b2, rfl, rfl⟩
  refine XOps.s rfl rfl rfl (Q.assign_d rfl) ?_
  refine XOps.nil ?_
  refine W.reg ?_
  refine XOps.s rfl rfl rfl (Q.move_d rfl) ?_
  refine XOps.s rfl rfl rfl (Q.mkfn rfl) ?_
  refine XOps.s rfl rfl rfl (Q.call rfl Try.func28 go28 rfl (containsB_c 29 [.ptr b2 0] (fun x => meetS b x) l _ (by omega) Try.func29 go29 (fun x hx => free1_c b x b2 hs hb (hl x hx)))) ?_
  refine XOps.s rfl rfl rfl (Q.not rfl) ?_
  refine XOps.s rfl rfl rfl (Q.assign_d rfl) ?_
  refine XOps.nil ?_
  refine W.ret ?_
  refine ⟨_, hs, rfl, by repeat (first | exact HLe.refl _ | refine HLe.cons' (by first | rfl | (simp [LB.enc, nE]; done)) ?_ | refine HLe.pick 1 rfl (by first | rfl | (simp [LB.enc, nE]; done)) ?_ | refine HLe.pick 2 rfl (by first | rfl | (simp [LB.enc, nE]; done)) ?_ | refine HLe.pick 3 rfl (by first | rfl | (simp [LB.enc, nE]; done)) ?_ | refine HLe.pick 4 rfl (by first | rfl | (simp [LB.enc, nE]; done)) ?_ | refine HLe.pick 5 rfl (by first | rfl | (simp [LB.enc, nE]; done)) ?_ | refine HLe.skip _ ?_), ?_, rfl⟩
  rfl

set_option maxHeartbeats 1000000 in
set_option maxRecDepth 100000 in
theorem check_c (l : List LB) (hs : Hp) : AC P 18 [.d (.sl 4 (l.map LB.enc))] hs (fun r h => r = .d (.int .i64 (checkL l)) ∧ h = hs) := by
  refine AC.of 53 Try.func18 rfl rfl rfl ?_
  refine W.reg ?_
  refine XOps.s rfl rfl rfl (Q.assign_d rfl) ?_
  refine XOps.nil ?_
  refine W.seq ?_
  refine W.reg ?_
  refine XOps.s rfl rfl rfl (Q.move_d rfl) ?_
  refine XOps.s rfl rfl rfl (Q.len_sl isl29 rfl) ?_
  refine XOps.s rfl rfl rfl (Q.gtr rfl rfl) ?_
  refine XOps.nil ?_
  refine W.cond rfl (fun hc7 => ?_) (fun hc7 => ?_)
  · try simp only [Bool.or_eq_true, Bool.or_eq_false_iff, Bool.and_eq_true, Bool.and_eq_false_iff, decide_eq_true_eq, decide_eq_false_iff_not, Bool.not_eq_true', Bool.not_eq_false', Int.not_lt, Int.not_le, List.length_map] at hc7
    have hr : checkL l = 2 := by unfold checkL; rw [if_pos (by omega)]
    refine W.reg ?_
    refine XOps.s rfl rfl rfl (Q.assign_d rfl) ?_
    refine XOps.nil ?_
    refine W.ret ?_
    refine ⟨_, hs, rfl, by repeat (first | exact HLe.refl _ | refine HLe.cons' (by first | rfl | (simp [LB.enc, nE]; done)) ?_ | refine HLe.pick 1 rfl (by first | rfl | (simp [LB.enc, nE]; done)) ?_ | refine HLe.pick 2 rfl (by first | rfl | (simp [LB.enc, nE]; done)) ?_ | refine HLe.pick 3 rfl (by first | rfl | (simp [LB.enc, nE]; done)) ?_ | refine HLe.pick 4 rfl (by first | rfl | (simp [LB.enc, nE]; done)) ?_ | refine HLe.pick 5 rfl (by first | rfl | (simp [LB.enc, nE]; done)) ?_ | refine HLe.skip _ ?_), ?_, rfl⟩
    rw [hr]; rfl
  · try simp only [Bool.or_eq_true, Bool.or_eq_false_iff, Bool.and_eq_true, Bool.and_eq_false_iff, decide_eq_true_eq, decide_eq_false_iff_not, Bool.not_eq_true', Bool.not_eq_false', Int.not_lt, Int.not_le, List.length_map] at hc7
    refine W.skip ?_
    refine W.seq ?_
    refine W.reg ?_
    refine XOps.s rfl rfl rfl (Q.move_d rfl) ?_
    refine XOps.s rfl rfl rfl (Q.len_sl isl29 rfl) ?_
    refine XOps.s rfl rfl rfl (Q.move_d rfl) ?_
    refine XOps.nil ?_
    refine W.block ?_
    refine W.loop (ι := Nat) (fun k => [(8, .d (.sl 4 (l.map LB.enc))), (9, .d (.int .i64 l.length)), (10, .d (.int .i64 (k : Nat)))]) (fun k => hs) (fun k => k ≤ l.length ∧ ∀ i x, i < k → l[i]? = some x → x.it) (fun k => l.length - k) 0 ?_ ?_ ?_ ?_
    · exact ⟨Nat.zero_le _, fun i x h => absurd h (Nat.not_lt_zero _)⟩
    · exact ⟨by first | rfl | exact int_eq (by omega) | exact len_eq (by simp) | exact int_eq (by simp; done), by first | rfl | exact int_eq (by omega) | exact len_eq (by simp) | exact int_eq (by simp; done), by first | rfl | exact int_eq (by omega) | exact len_eq (by simp) | exact int_eq (by simp; done), trivial⟩
    · repeat (first | exact HLe.refl _ | refine HLe.cons' (by first | rfl | (simp [LB.enc, nE]; done)) ?_ | refine HLe.pick 1 rfl (by first | rfl | (simp [LB.enc, nE]; done)) ?_ | refine HLe.pick 2 rfl (by first | rfl | (simp [LB.enc, nE]; done)) ?_ | refine HLe.pick 3 rfl (by first | rfl | (simp [LB.enc, nE]; done)) ?_ | refine HLe.pick 4 rfl (by first | rfl | (simp [LB.enc, nE]; done)) ?_ | refine HLe.pick 5 rfl (by first | rfl | (simp [LB.enc, nE]; done)) ?_ | refine HLe.skip _ ?_)
    · rintro k ⟨hk, hI⟩
      try dsimp only
      refine W.reg ?_
      refine XOps.s rfl rfl rfl (Q.lss rfl rfl) ?_
      refine XOps.nil ?_
      refine W.seq ?_
      refine W.cond rfl (fun hc11 => ?_) (fun hc11 => ?_)
      · try simp only [Bool.or_eq_true, Bool.or_eq_false_iff, Bool.and_eq_true, Bool.and_eq_false_iff, decide_eq_true_eq, decide_eq_false_iff_not, Bool.not_eq_true', Bool.not_eq_false', Int.not_lt, Int.not_le, List.length_map] at hc11
        obtain ⟨x, hx⟩ : ∃ x, l[k]? = some x := ⟨_, List.getElem?_eq_getElem (by omega)⟩
        refine W.skip ?_
        refine W.seq ?_
        refine W.block ?_
        refine W.reg ?_
        refine XOps.s rfl rfl rfl (Q.idx_sl sl29 (by decide) rfl rfl (by first | omega | (simp only [List.length_map]; omega)) (by first | exact map_at (by assumption) | exact map_at0 (by assumption) | assumption)) ?_
        refine XOps.s rfl rfl rfl (Q.ld_dpn ag31 rfl rfl) ?_
        (refine XOps.loud rfl (L.alloc tz31 rfl rfl) ?_; rintro _ _ ⟨b4, rfl, rfl⟩)
        refine XOps.loud rfl (L.storen (k := 0) ag31 rfl rfl rfl rfl rfl) ?_
        rintro _ _ ⟨rfl, rfl⟩
        refine XOps.nil ?_
        refine W.reg ?_
        refine XOps.s rfl rfl rfl (Q.fld_ptr fl31_0 rfl) ?_
        refine XOps.s rfl rfl rfl (Q.ld_ptr (k := 0) ag3 rfl rfl rfl) ?_
        refine XOps.s rfl rfl rfl (Q.lss rfl rfl) ?_
        refine XOps.s rfl rfl rfl (Q.move_d rfl) ?_
        refine XOps.gs rfl rfl rfl rfl rfl rfl rfl (fun hg => Q.fld_ptr fl31_0 rfl) ?_
        refine XOps.gs rfl rfl rfl rfl rfl rfl rfl (fun hg => Quiet.open 18 hg rfl (Q.ld_ptr (k := 0) ag3 rfl rfl rfl)) ?_
        refine XOps.gs rfl rfl rfl rfl rfl rfl rfl (fun hg => Quiet.open 19 hg rfl (Q.gtr rfl rfl)) ?_
        refine XOps.s rfl rfl rfl (Q.pick_or rfl rfl rfl (fun h => by first | (rw [h]; rfl) | (rw [hg, h]; rfl) | (simp [h, hg]; done))) ?_
        refine XOps.s rfl rfl rfl (Q.move_d rfl) ?_
        refine XOps.gs rfl rfl rfl rfl rfl rfl rfl (fun hg => Q.fld_ptr fl31_1 rfl) ?_
        refine XOps.gs rfl rfl rfl rfl rfl rfl rfl (fun hg => Quiet.open 23 hg rfl (Q.ld_ptr (k := 0) ag3 rfl rfl rfl)) ?_
        refine XOps.gs rfl rfl rfl rfl rfl rfl rfl (fun hg => Quiet.open 24 hg rfl (Q.lss rfl rfl)) ?_
        refine XOps.s rfl rfl rfl (Q.pick_or rfl rfl rfl (fun h => by first | (rw [h]; rfl) | (rw [hg, h]; rfl) | (simp [h, hg]; done))) ?_
        refine XOps.s rfl rfl rfl (Q.move_d rfl) ?_
        refine XOps.gs rfl rfl rfl rfl rfl rfl rfl (fun hg => Q.fld_ptr fl31_1 rfl) ?_
        refine XOps.gs rfl rfl rfl rfl rfl rfl rfl (fun hg => Quiet.open 28 hg rfl (Q.ld_ptr (k := 0) ag3 rfl rfl rfl)) ?_
        refine XOps.gs rfl rfl rfl rfl rfl rfl rfl (fun hg => Quiet.open 29 hg rfl (Q.gtr rfl rfl)) ?_
        refine XOps.s rfl rfl rfl (Q.pick_or rfl rfl rfl (fun h => by first | (rw [h]; rfl) | (rw [hg, h]; rfl) | (simp [h, hg]; done))) ?_
        refine XOps.s rfl rfl rfl (Q.move_d rfl) ?_
        refine XOps.gs rfl rfl rfl rfl rfl rfl rfl (fun hg => Q.fld_ptr fl31_2 rfl) ?_
        refine XOps.gs rfl rfl rfl rfl rfl rfl rfl (fun hg => Quiet.open 33 hg rfl (Q.ld_ptr (k := 0) ag3 rfl rfl rfl)) ?_
        refine XOps.gs rfl rfl rfl rfl rfl rfl rfl (fun hg => Quiet.open 34 hg rfl (Q.lss rfl rfl)) ?_
        refine XOps.s rfl rfl rfl (Q.pick_or rfl rfl rfl (fun h => by first | (rw [h]; rfl) | (rw [hg, h]; rfl) | (simp [h, hg]; done))) ?_
        refine XOps.s rfl rfl rfl (Q.move_d rfl) ?_
        refine XOps.gs rfl rfl rfl rfl rfl rfl rfl (fun hg => Q.fld_ptr fl31_2 rfl) ?_
        refine XOps.gs rfl rfl rfl rfl rfl rfl rfl (fun hg => Quiet.open 38 hg rfl (Q.ld_ptr (k := 0) ag3 rfl rfl rfl)) ?_
        refine XOps.gs rfl rfl rfl rfl rfl rfl rfl (fun hg => Quiet.open 39 hg rfl (Q.gtr rfl rfl)) ?_
        refine XOps.s rfl rfl rfl (Q.pick_or rfl rfl rfl (fun h => by first | (rw [h]; rfl) | (rw [hg, h]; rfl) | (simp [h, hg]; done))) ?_
        refine XOps.s rfl rfl rfl (Q.move_d rfl) ?_
        refine XOps.gs rfl rfl rfl rfl rfl rfl rfl (fun hg => Q.fld_ptr fl31_3 rfl) ?_
        refine XOps.gs rfl rfl rfl rfl rfl rfl rfl (fun hg => Quiet.open 43 hg rfl (Q.ld_ptr (k := 0) ag3 rfl rfl rfl)) ?_
        refine XOps.gs rfl rfl rfl rfl rfl rfl rfl (fun hg => Quiet.open 44 hg rfl (Q.lss rfl rfl)) ?_
        refine XOps.s rfl rfl rfl (Q.pick_or rfl rfl rfl (fun h => by first | (rw [h]; rfl) | (rw [hg, h]; rfl) | (simp [h, hg]; done))) ?_
        refine XOps.s rfl rfl rfl (Q.move_d rfl) ?_
        refine XOps.gs rfl rfl rfl rfl rfl rfl rfl (fun hg => Q.fld_ptr fl31_3 rfl) ?_
        refine XOps.gs rfl rfl rfl rfl rfl rfl rfl (fun hg => Quiet.open 48 hg rfl (Q.ld_ptr (k := 0) ag3 rfl rfl rfl)) ?_
        refine XOps.gs rfl rfl rfl rfl rfl rfl rfl (fun hg => Quiet.open 49 hg rfl (Q.gtr rfl rfl)) ?_
        refine XOps.s rfl rfl rfl (Q.pick_or rfl rfl rfl (fun h => by first | (rw [h]; rfl) | (rw [hg, h]; rfl) | (simp [h, hg]; done))) ?_
        refine XOps.nil ?_
        refine W.cond rfl (fun hc51 => ?_) (fun hc51 => ?_)
        · try simp only [Bool.or_eq_true, Bool.or_eq_false_iff, Bool.and_eq_true, Bool.and_eq_false_iff, decide_eq_true_eq, decide_eq_false_iff_not, Bool.not_eq_true', Bool.not_eq_false', Int.not_lt, Int.not_le, List.length_map] at hc51
          have hr : checkL l = 4 := by
            unfold checkL
            rw [if_neg (by omega), if_neg]
            intro h
            have h3 := h x (List.mem_of_getElem? hx)
            unfold LB.it at h3
            omega
          refine W.reg ?_
          refine XOps.s rfl rfl rfl (Q.assign_d rfl) ?_
          refine XOps.nil ?_
          refine W.ret ?_
          refine ⟨_, hs, rfl, by repeat (first | exact HLe.refl _ | refine HLe.cons' (by first | rfl | (simp [LB.enc, nE]; done)) ?_ | refine HLe.pick 1 rfl (by first | rfl | (simp [LB.enc, nE]; done)) ?_ | refine HLe.pick 2 rfl (by first | rfl | (simp [LB.enc, nE]; done)) ?_ | refine HLe.pick 3 rfl (by first | rfl | (simp [LB.enc, nE]; done)) ?_ | refine HLe.pick 4 rfl (by first | rfl | (simp [LB.enc, nE]; done)) ?_ | refine HLe.pick 5 rfl (by first | rfl | (simp [LB.enc, nE]; done)) ?_ | refine HLe.skip _ ?_), ?_, rfl⟩
          rw [hr]; rfl
        · try simp only [Bool.or_eq_true, Bool.or_eq_false_iff, Bool.and_eq_true, Bool.and_eq_false_iff, decide_eq_true_eq, decide_eq_false_iff_not, Bool.not_eq_true', Bool.not_eq_false', Int.not_lt, Int.not_le, List.length_map] at hc51
          refine W.skip ?_
          refine W.region ?_
          refine XOps.s rfl rfl rfl (Q.add rfl rfl (wi64 (by first | omega | (dsimp only; omega) | (simp only [List.length_map]; omega)) (by first | omega | (dsimp only; omega) | (simp only [List.length_map]; omega)))) ?_
          refine XOps.s rfl rfl rfl (Q.move_d rfl) ?_
          refine XOps.nil ?_
          refine ⟨k + 1, ?_, ?_, ?_, ?_⟩
          · refine ⟨by omega, fun i y hi hy => ?_⟩
            by_cases h : i = k
            · subst h; rw [hx] at hy; obtain rfl := Option.some.inj hy; unfold LB.it; omega
            · exact hI i y (by omega) hy
          · omega
          · exact ⟨by first | rfl | exact int_eq (by omega) | exact len_eq (by simp) | exact int_eq (by simp; done), by first | rfl | exact int_eq (by omega) | exact len_eq (by simp) | exact int_eq (by simp; done), by first | rfl | exact int_eq (by omega) | exact len_eq (by simp) | exact int_eq (by simp; done), trivial⟩
          · repeat (first | exact HLe.refl _ | refine HLe.cons' (by first | rfl | (simp [LB.enc, nE]; done)) ?_ | refine HLe.pick 1 rfl (by first | rfl | (simp [LB.enc, nE]; done)) ?_ | refine HLe.pick 2 rfl (by first | rfl | (simp [LB.enc, nE]; done)) ?_ | refine HLe.pick 3 rfl (by first | rfl | (simp [LB.enc, nE]; done)) ?_ | refine HLe.pick 4 rfl (by first | rfl | (simp [LB.enc, nE]; done)) ?_ | refine HLe.pick 5 rfl (by first | rfl | (simp [LB.enc, nE]; done)) ?_ | refine HLe.skip _ ?_)
      · try simp only [Bool.or_eq_true, Bool.or_eq_false_iff, Bool.and_eq_true, Bool.and_eq_false_iff, decide_eq_true_eq, decide_eq_false_iff_not, Bool.not_eq_true', Bool.not_eq_false', Int.not_lt, Int.not_le, List.length_map] at hc11
        have hr : checkL l = 0 := by unfold checkL; rw [if_neg (by omega), if_pos]; exact fun x hx => by obtain ⟨i, hi⟩ := List.getElem?_of_mem hx; exact hI i x (by have := (List.getElem?_eq_some_iff.1 hi).1; omega) hi
        refine W.exit ?_
        refine W.reg ?_
        refine XOps.s rfl rfl rfl (Q.assign_d rfl) ?_
        refine XOps.nil ?_
        refine W.ret ?_
        refine ⟨_, hs, rfl, by repeat (first | exact HLe.refl _ | refine HLe.cons' (by first | rfl | (simp [LB.enc, nE]; done)) ?_ | refine HLe.pick 1 rfl (by first | rfl | (simp [LB.enc, nE]; done)) ?_ | refine HLe.pick 2 rfl (by first | rfl | (simp [LB.enc, nE]; done)) ?_ | refine HLe.pick 3 rfl (by first | rfl | (simp [LB.enc, nE]; done)) ?_ | refine HLe.pick 4 rfl (by first | rfl | (simp [LB.enc, nE]; done)) ?_ | refine HLe.pick 5 rfl (by first | rfl | (simp [LB.enc, nE]; done)) ?_ | refine HLe.skip _ ?_), ?_, rfl⟩
        rw [hr]; rfl

set_option maxHeartbeats 1000000 in
set_option maxRecDepth 100000 in
theorem search_c (l : List LB) (hl : ∀ x ∈ l, x.it) (hn : l.length ≤ 32) : ∀ (n : Nat) (o : List Int) (pl : List LB) (hs : Hp), o.length + n = l.length → pl.length = o.length → (∀ x ∈ pl, x.ok) →
    AC P 19 [.d (.sl 4 (l.map LB.enc)), .d (.sl 1 (o.map nE)), .d (.sl 4 (pl.map LB.enc))] hs (fun r h => r = resO 1 ((srchL l n o pl).map (fun r => r.map nE)) ∧ h = hs) := by
  intro n
  induction n using Nat.strongRecOn
  rename_i n ih
  intro o pl hs hlen hpl hpo
  refine AC.of 56 Try.func19 rfl rfl rfl ?_
  refine W.reg ?_
  refine XOps.s rfl rfl rfl (Q.assign_nilsl rfl) ?_
  refine XOps.nil ?_
  refine W.reg ?_
  refine XOps.s rfl rfl rfl (Q.move_d rfl) ?_
  refine XOps.s rfl rfl rfl (Q.len_sl isl32 rfl) ?_
  refine XOps.s rfl rfl rfl (Q.assign_d rfl) ?_
  refine XOps.nil ?_
  refine W.seq ?_
  refine W.reg ?_
  refine XOps.s rfl rfl rfl (Q.move_d rfl) ?_
  refine XOps.s rfl rfl rfl (Q.move_d rfl) ?_
  refine XOps.s rfl rfl rfl (Q.len_sl isl29 rfl) ?_
  refine XOps.s rfl rfl rfl (Q.eql rfl rfl) ?_
  refine XOps.nil ?_
  refine W.cond rfl (fun hc16 => ?_) (fun hc16 => ?_)
  · try simp only [Bool.or_eq_true, Bool.or_eq_false_iff, Bool.and_eq_true, Bool.and_eq_false_iff, decide_eq_true_eq, decide_eq_false_iff_not, Bool.not_eq_true', Bool.not_eq_false', Int.not_lt, Int.not_le, List.length_map] at hc16
    obtain rfl : n = 0 := by omega
    have hres : srchL l 0 o pl = some o := rfl
    refine W.reg ?_
    refine XOps.s rfl rfl rfl (Q.move_d rfl) ?_
    refine XOps.s rfl rfl rfl (Q.assign_d rfl) ?_
    refine XOps.nil ?_
    refine W.ret ?_
    refine ⟨_, hs, rfl, by repeat (first | exact HLe.refl _ | refine HLe.cons' (by first | rfl | (simp [LB.enc, nE]; done)) ?_ | refine HLe.pick 1 rfl (by first | rfl | (simp [LB.enc, nE]; done)) ?_ | refine HLe.pick 2 rfl (by first | rfl | (simp [LB.enc, nE]; done)) ?_ | refine HLe.pick 3 rfl (by first | rfl | (simp [LB.enc, nE]; done)) ?_ | refine HLe.pick 4 rfl (by first | rfl | (simp [LB.enc, nE]; done)) ?_ | refine HLe.pick 5 rfl (by first | rfl | (simp [LB.enc, nE]; done)) ?_ | refine HLe.skip _ ?_), ?_, rfl⟩
    first | (show _ = resO _ _; rw [hres]; done) | (rw [hres]; rfl)
  · try simp only [Bool.or_eq_true, Bool.or_eq_false_iff, Bool.and_eq_true, Bool.and_eq_false_iff, decide_eq_true_eq, decide_eq_false_iff_not, Bool.not_eq_true', Bool.not_eq_false', Int.not_lt, Int.not_le, List.length_map] at hc16
    obtain ⟨m, rfl⟩ : ∃ m, n = m + 1 := ⟨n - 1, by omega⟩
    obtain ⟨x, hx⟩ : ∃ x, l[o.length]? = some x := ⟨_, List.getElem?_eq_getElem (by omega)⟩
    have hxd : l.getD o.length ⟨0, 0, 0, 0⟩ = x := by simp [List.getD_eq_getElem?_getD, hx]
    have hxi := hl x (List.mem_of_getElem? hx)
    refine W.skip ?_
    refine W.seq ?_
    refine W.reg ?_
    refine XOps.s rfl rfl rfl (Q.move_d rfl) ?_
    refine XOps.nil ?_
    refine W.block ?_
    refine W.loop (ι := Nat) (fun i => [(0, .d (.sl 4 (l.map LB.enc))), (1, .d (.sl 1 (o.map nE))), (2, .d (.sl 4 (pl.map LB.enc))), (7, .d (.int .i64 o.length)), (18, .d (.int .i64 (i : Nat)))]) (fun i => hs) (fun i => i ≤ 8 ∧ ∀ j, j < i → stepL l (srchL l m) o pl j = none) (fun i => 8 - i) 0 ?_ ?_ ?_ ?_
    · exact ⟨Nat.zero_le _, fun j hj => absurd hj (Nat.not_lt_zero _)⟩
    · exact ⟨by first | rfl | exact int_eq (by omega) | exact len_eq (by simp) | exact int_eq (by simp; done), by first | rfl | exact int_eq (by omega) | exact len_eq (by simp) | exact int_eq (by simp; done), by first | rfl | exact int_eq (by omega) | exact len_eq (by simp) | exact int_eq (by simp; done), by exact len_eq (by simp), by first | rfl | exact int_eq (by omega) | exact len_eq (by simp) | exact int_eq (by simp; done), trivial⟩
    · repeat (first | exact HLe.refl _ | refine HLe.cons' (by first | rfl | (simp [LB.enc, nE]; done)) ?_ | refine HLe.pick 1 rfl (by first | rfl | (simp [LB.enc, nE]; done)) ?_ | refine HLe.pick 2 rfl (by first | rfl | (simp [LB.enc, nE]; done)) ?_ | refine HLe.pick 3 rfl (by first | rfl | (simp [LB.enc, nE]; done)) ?_ | refine HLe.pick 4 rfl (by first | rfl | (simp [LB.enc, nE]; done)) ?_ | refine HLe.pick 5 rfl (by first | rfl | (simp [LB.enc, nE]; done)) ?_ | refine HLe.skip _ ?_)
    · rintro i ⟨hi, hI⟩
      try dsimp only
      refine W.reg ?_
      refine XOps.s rfl rfl rfl (Q.lss rfl rfl) ?_
      refine XOps.nil ?_
      refine W.seq ?_
      refine W.cond rfl (fun hc19 => ?_) (fun hc19 => ?_)
      · try simp only [Bool.or_eq_true, Bool.or_eq_false_iff, Bool.and_eq_true, Bool.and_eq_false_iff, decide_eq_true_eq, decide_eq_false_iff_not, Bool.not_eq_true', Bool.not_eq_false', Int.not_lt, Int.not_le, List.length_map] at hc19
        have hbo := boxS_ok hxi (i : Int)
        refine W.skip ?_
        refine W.seq ?_
        refine W.block ?_
        refine W.reg ?_
        refine XOps.s rfl rfl rfl (Q.move_d rfl) ?_
        refine XOps.s rfl rfl rfl (Q.assign_d rfl) ?_
        refine XOps.nil ?_
        refine W.reg ?_
        refine XOps.s rfl rfl rfl (Q.move_d rfl) ?_
        refine XOps.s rfl rfl rfl (Q.move_d rfl) ?_
        refine XOps.s rfl rfl rfl (Q.idx_sl sl29 (by decide) rfl rfl (by first | omega | (simp only [List.length_map]; omega)) (by first | exact map_at hx | exact map_at0 hx)) ?_
        refine XOps.s rfl rfl rfl (Q.ld_dpn ag31 rfl rfl) ?_
        refine XOps.s rfl rfl rfl (Q.move_d rfl) ?_
        refine XOps.s rfl rfl rfl (Q.call rfl Try.func20 go20 rfl (box_c x (i : Int) _ hxi)) ?_
        (refine XOps.loud rfl (L.alloc tz23 rfl rfl) ?_; rintro _ _ ⟨b9, rfl, rfl⟩)
        refine XOps.loud rfl (L.storen (k := 0) ag23 rfl rfl rfl rfl rfl) ?_
        rintro _ _ ⟨rfl, rfl⟩
        refine XOps.nil ?_
        refine W.seq ?_
        refine W.reg ?_
        refine XOps.s rfl rfl rfl (Q.ld_ptrn (k := 0) ag23 rfl rfl rfl) ?_
        refine XOps.s rfl rfl rfl (Q.move_d rfl) ?_
        refine XOps.s rfl rfl rfl (Q.call rfl Try.func21 go21 rfl (covers_c (boxS x (i : Int)) l _ hbo hl (by omega))) ?_
        refine XOps.s rfl rfl rfl (Q.move_d rfl) ?_
        refine XOps.gs rfl rfl rfl rfl rfl rfl rfl (fun hg => Q.ld_ptrn (k := 0) ag23 rfl rfl rfl) ?_
        refine XOps.gs rfl rfl rfl rfl rfl rfl rfl (fun hg => Q.move_d rfl) ?_
        refine XOps.gs rfl rfl rfl rfl rfl rfl rfl (fun hg => Quiet.open 31 hg rfl (Quiet.open 32 hg rfl (Q.call rfl Try.func22 go22 rfl (free_c (boxS x (i : Int)) pl _ hbo hpo (by omega))))) ?_
        refine XOps.gs rfl rfl rfl rfl rfl rfl rfl (fun hg => Quiet.open 33 hg rfl (Q.not rfl)) ?_
        refine XOps.s rfl rfl rfl (Q.pick_or rfl rfl rfl (fun h => by first | (rw [h]; rfl) | (rw [hg, h]; rfl) | (simp [h, hg]; done))) ?_
        refine XOps.nil ?_
        refine W.cond rfl (fun hc35 => ?_) (fun hc35 => ?_)
        · try simp only [Bool.or_eq_true, Bool.or_eq_false_iff, Bool.and_eq_true, Bool.and_eq_false_iff, decide_eq_true_eq, decide_eq_false_iff_not, Bool.not_eq_true', Bool.not_eq_false', Int.not_lt, Int.not_le, List.length_map] at hc35
          have hstep : stepL l (srchL l m) o pl i = none := by unfold stepL; rw [hxd, if_pos (by simpa using hc35)]
          refine W.exit ?_
          refine W.region ?_
          refine XOps.s rfl rfl rfl (Q.add rfl rfl (wi64 (by first | omega | (dsimp only; omega) | (simp only [List.length_map]; omega)) (by first | omega | (dsimp only; omega) | (simp only [List.length_map]; omega)))) ?_
          refine XOps.s rfl rfl rfl (Q.move_d rfl) ?_
          refine XOps.nil ?_
          refine ⟨i + 1, ?_, ?_, ?_, ?_⟩
          · refine ⟨by omega, fun j hj => ?_⟩
            by_cases h : j = i
            · subst h; exact hstep
            · exact hI j (by omega)
          · omega
          · exact ⟨by first | rfl | exact int_eq (by omega) | exact len_eq (by simp) | exact int_eq (by simp; done), by first | rfl | exact int_eq (by omega) | exact len_eq (by simp) | exact int_eq (by simp; done), by first | rfl | exact int_eq (by omega) | exact len_eq (by simp) | exact int_eq (by simp; done), by first | rfl | exact int_eq (by omega) | exact len_eq (by simp) | exact int_eq (by simp; done), by first | rfl | exact int_eq (by omega) | exact len_eq (by simp) | exact int_eq (by simp; done), trivial⟩
          · repeat (first | exact HLe.refl _ | refine HLe.cons' (by first | rfl | (simp [LB.enc, nE]; done)) ?_ | refine HLe.pick 1 rfl (by first | rfl | (simp [LB.enc, nE]; done)) ?_ | refine HLe.pick 2 rfl (by first | rfl | (simp [LB.enc, nE]; done)) ?_ | refine HLe.pick 3 rfl (by first | rfl | (simp [LB.enc, nE]; done)) ?_ | refine HLe.pick 4 rfl (by first | rfl | (simp [LB.enc, nE]; done)) ?_ | refine HLe.pick 5 rfl (by first | rfl | (simp [LB.enc, nE]; done)) ?_ | refine HLe.skip _ ?_)
        · try simp only [Bool.or_eq_true, Bool.or_eq_false_iff, Bool.and_eq_true, Bool.and_eq_false_iff, decide_eq_true_eq, decide_eq_false_iff_not, Bool.not_eq_true', Bool.not_eq_false', Int.not_lt, Int.not_le, List.length_map] at hc35
          have hstep0 : stepL l (srchL l m) o pl i = srchL l m (o ++ [(i : Int)]) (pl ++ [(boxS x (i : Int))]) := by unfold stepL; rw [hxd, if_neg (by simpa using hc35)]
          have hne : ∀ r, ((srchL l m (o ++ [(i : Int)]) (pl ++ [(boxS x (i : Int))])).map (fun r => r.map nE)) = some r → r ≠ [] := fun r hr he => by
            subst he
            obtain ⟨r, h1, h2⟩ := Option.map_eq_some_iff.1 hr
            have := srchL_len _ _ _ _ h1
            simp at h2 this
            subst h2
            simp at this
          refine W.skip ?_
          refine W.drawreg 16 follows (by kernel_rfl) ?_
          refine Chain.cons _ (GQ.q rfl (Q.move_d rfl)) rfl ?_
          refine Chain.cons _ (GQ.q rfl (Q.move_d rfl)) rfl ?_
          refine Chain.cons _ (GQ.q rfl (Q.move_d rfl)) rfl ?_
          refine Chain.cons _ (GQ.q rfl (Q.move_d rfl)) rfl ?_
          refine Chain.cons _ (GQ.q rfl (Q.cut3_full sl32 rfl rfl rfl (by simp))) rfl ?_
          refine Chain.cons _ (GQ.q rfl (Q.move_d rfl)) rfl ?_
          refine Chain.cons _ (GQ.q rfl (Q.bsl1 sl32 zr32 rfl zrd32 rfl rfl)) rfl ?_
          refine Chain.cons _ (GQ.q rfl (Q.app1 (f := nE) (z := (i : Int)) ap32 rfl rfl (by omega))) rfl ?_
          refine Chain.cons _ (GQ.q rfl (Q.move_d rfl)) rfl ?_
          refine Chain.cons _ (GQ.q rfl (Q.move_d rfl)) rfl ?_
          refine Chain.cons _ (GQ.q rfl (Q.move_d rfl)) rfl ?_
          refine Chain.cons _ (GQ.q rfl (Q.cut3_full sl45 rfl rfl rfl (by simp [hpl]))) rfl ?_
          refine Chain.cons _ (GQ.q rfl (Q.ld_ptrn (k := 0) ag23 rfl rfl rfl)) rfl ?_
          refine Chain.cons _ (GQ.q rfl (Q.bsl1n sl45 (by decide) zr45 rfl zrd45 rfl rfl (by decide))) rfl ?_
          refine Chain.cons _ (GQ.q rfl (Q.app1 (f := LB.enc) (z := (boxS x (i : Int))) ap45 rfl rfl (by omega))) rfl ?_
          refine Chain.cons _ (GQ.q rfl (Q.call rfl Try.func19 go19 rfl (ih m (by omega) (o ++ [(i : Int)]) (pl ++ [(boxS x (i : Int))]) _ (by simp; omega) (by simp [hpl]) (by intro y hy; rcases List.mem_append.1 hy with h | h; exact hpo y h; rw [List.mem_singleton.1 h]; exact hbo)))) rfl ?_
          refine Chain.nil ?_
          refine XOps.s rfl rfl rfl (Q.assign rfl) ?_
          refine XOps.nil ?_
          refine W.reg ?_
          refine XOps.s rfl rfl rfl (Q.move rfl) ?_
          refine XOps.s rfl rfl rfl (Q.neqnil_opt sl32 (by decide) rfl rfl hne) ?_
          refine XOps.nil ?_
          refine W.cond rfl (fun hc53 => ?_) (fun hc53 => ?_)
          · try simp only [Bool.or_eq_true, Bool.or_eq_false_iff, Bool.and_eq_true, Bool.and_eq_false_iff, decide_eq_true_eq, decide_eq_false_iff_not, Bool.not_eq_true', Bool.not_eq_false', Int.not_lt, Int.not_le, List.length_map] at hc53
            obtain ⟨r, hr⟩ : ∃ r, srchL l m (o ++ [(i : Int)]) (pl ++ [(boxS x (i : Int))]) = some r := Option.isSome_iff_exists.1 (by simpa using hc53)
            have hres : srchL l (m + 1) o pl = srchL l m (o ++ [(i : Int)]) (pl ++ [(boxS x (i : Int))]) := by
              rw [hr, srchL]
              exact first_some _ i r (by omega) hI (hstep0.trans hr)
            refine W.reg ?_
            refine XOps.s rfl rfl rfl (Q.move rfl) ?_
            refine XOps.s rfl rfl rfl (Q.assign rfl) ?_
            refine XOps.nil ?_
            refine W.ret ?_
            refine ⟨_, hs, rfl, by repeat (first | exact HLe.refl _ | refine HLe.cons' (by first | rfl | (simp [LB.enc, nE]; done)) ?_ | refine HLe.pick 1 rfl (by first | rfl | (simp [LB.enc, nE]; done)) ?_ | refine HLe.pick 2 rfl (by first | rfl | (simp [LB.enc, nE]; done)) ?_ | refine HLe.pick 3 rfl (by first | rfl | (simp [LB.enc, nE]; done)) ?_ | refine HLe.pick 4 rfl (by first | rfl | (simp [LB.enc, nE]; done)) ?_ | refine HLe.pick 5 rfl (by first | rfl | (simp [LB.enc, nE]; done)) ?_ | refine HLe.skip _ ?_), ?_, rfl⟩
            first | (show _ = resO _ _; rw [hres]; done) | (rw [hres]; rfl)
          · try simp only [Bool.or_eq_true, Bool.or_eq_false_iff, Bool.and_eq_true, Bool.and_eq_false_iff, decide_eq_true_eq, decide_eq_false_iff_not, Bool.not_eq_true', Bool.not_eq_false', Int.not_lt, Int.not_le, List.length_map] at hc53
            have hstep : stepL l (srchL l m) o pl i = none := by rw [hstep0]; simpa using hc53
            refine W.skip ?_
            refine W.region ?_
            refine XOps.s rfl rfl rfl (Q.add rfl rfl (wi64 (by first | omega | (dsimp only; omega) | (simp only [List.length_map]; omega)) (by first | omega | (dsimp only; omega) | (simp only [List.length_map]; omega)))) ?_
            refine XOps.s rfl rfl rfl (Q.move_d rfl) ?_
            refine XOps.nil ?_
            refine ⟨i + 1, ?_, ?_, ?_, ?_⟩
            · refine ⟨by omega, fun j hj => ?_⟩
              by_cases h : j = i
              · subst h; exact hstep
              · exact hI j (by omega)
            · omega
            · exact ⟨by first | rfl | exact int_eq (by omega) | exact len_eq (by simp) | exact int_eq (by simp; done), by first | rfl | exact int_eq (by omega) | exact len_eq (by simp) | exact int_eq (by simp; done), by first | rfl | exact int_eq (by omega) | exact len_eq (by simp) | exact int_eq (by simp; done), by first | rfl | exact int_eq (by omega) | exact len_eq (by simp) | exact int_eq (by simp; done), by first | rfl | exact int_eq (by omega) | exact len_eq (by simp) | exact int_eq (by simp; done), trivial⟩
            · repeat (first | exact HLe.refl _ | refine HLe.cons' (by first | rfl | (simp [LB.enc, nE]; done)) ?_ | refine HLe.pick 1 rfl (by first | rfl | (simp [LB.enc, nE]; done)) ?_ | refine HLe.pick 2 rfl (by first | rfl | (simp [LB.enc, nE]; done)) ?_ | refine HLe.pick 3 rfl (by first | rfl | (simp [LB.enc, nE]; done)) ?_ | refine HLe.pick 4 rfl (by first | rfl | (simp [LB.enc, nE]; done)) ?_ | refine HLe.pick 5 rfl (by first | rfl | (simp [LB.enc, nE]; done)) ?_ | refine HLe.skip _ ?_)
      · try simp only [Bool.or_eq_true, Bool.or_eq_false_iff, Bool.and_eq_true, Bool.and_eq_false_iff, decide_eq_true_eq, decide_eq_false_iff_not, Bool.not_eq_true', Bool.not_eq_false', Int.not_lt, Int.not_le, List.length_map] at hc19
        obtain rfl : i = 8 := by omega
        have hres : srchL l (m + 1) o pl = none := by
          rw [srchL, List.findSome?_eq_none_iff]
          exact fun j hj => hI j (by have := List.mem_range.1 hj; omega)
        refine W.exit ?_
        refine W.reg ?_
        refine XOps.s rfl rfl rfl (Q.assign_nilsl rfl) ?_
        refine XOps.nil ?_
        refine W.ret ?_
        refine ⟨_, hs, rfl, by repeat (first | exact HLe.refl _ | refine HLe.cons' (by first | rfl | (simp [LB.enc, nE]; done)) ?_ | refine HLe.pick 1 rfl (by first | rfl | (simp [LB.enc, nE]; done)) ?_ | refine HLe.pick 2 rfl (by first | rfl | (simp [LB.enc, nE]; done)) ?_ | refine HLe.pick 3 rfl (by first | rfl | (simp [LB.enc, nE]; done)) ?_ | refine HLe.pick 4 rfl (by first | rfl | (simp [LB.enc, nE]; done)) ?_ | refine HLe.pick 5 rfl (by first | rfl | (simp [LB.enc, nE]; done)) ?_ | refine HLe.skip _ ?_), ?_, rfl⟩
        first | (show _ = resO _ _; rw [hres]; done) | (rw [hres]; rfl)
end Go.Proofs.YtgfmogfjemigmaaA
