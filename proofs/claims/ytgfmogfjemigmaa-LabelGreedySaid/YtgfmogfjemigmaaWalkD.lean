/- R.LabelBox, R.LabelsFit, label.Greedy, the law LabelGreedy. -/
import Derived.Test.YtgfmogfjemigmaaBase
import Derived.Test.YtgfmogfjemigmaaSpec2
import Derived.Test.YtgfmogfjemigmaaWalkC
import Derived.Test.YtgfmogfjemigmaaAbs22
set_option linter.unusedVariables false
set_option linter.unusedSimpArgs false
set_option linter.unnecessarySimpa false
namespace Go.Proofs.YtgfmogfjemigmaaA.FWalkD
open Go
theorem ag23 : tAgg P 23 = some ((true, 4)) := by kernel_rfl
theorem ag3 : tAgg P 3 = some ((false, 1)) := by kernel_rfl
theorem ag31 : tAgg P 31 = some ((true, 4)) := by kernel_rfl
theorem ag54 : tAgg P 54 = some ((true, 2)) := by kernel_rfl
theorem ap32 : tApp P 32 = some ((1, 8)) := by kernel_rfl
theorem ap45 : tApp P 45 = some ((4, 32)) := by kernel_rfl
theorem ar54 : tArr P 54 = some ((2, 1)) := by kernel_rfl
theorem ar55 : tArr P 55 = some ((8, 2)) := by kernel_rfl
theorem are55 : tEl P 55 = some ((true, 2)) := by kernel_rfl
theorem fl23_0 : tFld P 23 0 = some (0) := by kernel_rfl
theorem fl23_1 : tFld P 23 1 = some (1) := by kernel_rfl
theorem fl23_2 : tFld P 23 2 = some (2) := by kernel_rfl
theorem fl23_3 : tFld P 23 3 = some (3) := by kernel_rfl
theorem fl31_0 : tFld P 31 0 = some (0) := by kernel_rfl
theorem fl31_1 : tFld P 31 1 = some (1) := by kernel_rfl
theorem fl31_2 : tFld P 31 2 = some (2) := by kernel_rfl
theorem fl31_3 : tFld P 31 3 = some (3) := by kernel_rfl
theorem go10 : callGo Go.Proofs.Try.f10 = true := by kernel_rfl
theorem go11 : callGo Go.Proofs.Try.f11 = true := by kernel_rfl
theorem go12 : callGo Go.Proofs.Try.f12 = true := by kernel_rfl
theorem go13 : callGo Go.Proofs.Try.f13 = true := by kernel_rfl
theorem go14 : callGo Go.Proofs.Try.f14 = true := by kernel_rfl
theorem go15 : callGo Go.Proofs.Try.f15 = true := by kernel_rfl
theorem go16 : callGo Go.Proofs.Try.f16 = true := by kernel_rfl
theorem go17 : callGo Go.Proofs.Try.f17 = true := by kernel_rfl
theorem go18 : callGo Go.Proofs.Try.f18 = true := by kernel_rfl
theorem go20 : callGo Go.Proofs.Try.f20 = true := by kernel_rfl
theorem go21 : callGo Go.Proofs.Try.f21 = true := by kernel_rfl
theorem go22 : callGo Go.Proofs.Try.f22 = true := by kernel_rfl
theorem go23 : callGo Go.Proofs.Try.f23 = true := by kernel_rfl
theorem go24 : callGo Go.Proofs.Try.f24 = true := by kernel_rfl
theorem go25 : callGo Go.Proofs.Try.f25 = true := by kernel_rfl
theorem go26 : callGo Go.Proofs.Try.f26 = true := by kernel_rfl
theorem go7 : callGo Go.Proofs.Try.f7 = true := by kernel_rfl
theorem isl29 : isSl P 29 = true := by kernel_rfl
theorem isl32 : isSl P 32 = true := by kernel_rfl
theorem pl23 : tPl P 23 = some ([(0, 1), (1, 1), (2, 1), (3, 1)]) := by kernel_rfl
theorem sl29 : tSl P 29 = some (4) := by kernel_rfl
theorem sl32 : tSl P 32 = some (1) := by kernel_rfl
theorem sl45 : tSl P 45 = some (4) := by kernel_rfl
theorem tz23 : tZero P 23 = some ([.int .i64 0, .int .i64 0, .int .i64 0, .int .i64 0]) := by kernel_rfl
theorem tz31 : tZero P 31 = some ([.int .i64 0, .int .i64 0, .int .i64 0, .int .i64 0]) := by kernel_rfl
theorem tz54 : tZero P 54 = some ([.int .i64 0, .int .i64 0]) := by kernel_rfl
theorem tz55 : tZero P 55 = some ([.int .i64 0, .int .i64 0, .int .i64 0, .int .i64 0, .int .i64 0, .int .i64 0, .int .i64 0, .int .i64 0, .int .i64 0, .int .i64 0, .int .i64 0, .int .i64 0, .int .i64 0, .int .i64 0, .int .i64 0, .int .i64 0]) := by kernel_rfl
theorem tzd23 : cellsD [.int .i64 0, .int .i64 0, .int .i64 0, .int .i64 0] = some ([.int .i64 0, .int .i64 0, .int .i64 0, .int .i64 0]) := rfl
theorem tzd54 : cellsD [.int .i64 0, .int .i64 0] = some ([.int .i64 0, .int .i64 0]) := rfl
theorem tzd55 : cellsD [.int .i64 0, .int .i64 0, .int .i64 0, .int .i64 0, .int .i64 0, .int .i64 0, .int .i64 0, .int .i64 0, .int .i64 0, .int .i64 0, .int .i64 0, .int .i64 0, .int .i64 0, .int .i64 0, .int .i64 0, .int .i64 0] = some ([.int .i64 0, .int .i64 0, .int .i64 0, .int .i64 0, .int .i64 0, .int .i64 0, .int .i64 0, .int .i64 0, .int .i64 0, .int .i64 0, .int .i64 0, .int .i64 0, .int .i64 0, .int .i64 0, .int .i64 0, .int .i64 0]) := rfl
theorem zr32 : tZrow P 32 = some ([.int .i64 0]) := by kernel_rfl
theorem zr45 : tZrow P 45 = some ([.int .i64 0, .int .i64 0, .int .i64 0, .int .i64 0]) := by kernel_rfl
theorem zrd32 : cellsD [.int .i64 0] = some ([.int .i64 0]) := rfl
theorem zrd45 : cellsD [.int .i64 0, .int .i64 0, .int .i64 0, .int .i64 0] = some ([.int .i64 0, .int .i64 0, .int .i64 0, .int .i64 0]) := rfl
end Go.Proofs.YtgfmogfjemigmaaA.FWalkD
namespace Go.Proofs.YtgfmogfjemigmaaA
open Go FWalkD
set_option maxHeartbeats 1000000 in
set_option maxRecDepth 100000 in
theorem indexN_c (l : List Int) (v : Int) (hs : Hp) (hL : l.length ≤ 4611686018427387904) : AC P 26 [.d (slN l), .d (.int .i64 v)] hs (fun r h => r = .d (.int .i64 (idxP (fun n => decide (v = n)) l)) ∧ h = hs) := by
  refine AC.of 19 Try.func26 rfl rfl rfl ?_
  refine W.reg ?_
  refine XOps.s rfl rfl rfl (Q.assign_d rfl) ?_
  refine XOps.nil ?_
  refine W.seq ?_
  refine W.reg ?_
  refine XOps.s rfl rfl rfl (Q.move_d rfl) ?_
  refine XOps.s rfl rfl rfl (Q.len_sl isl32 rfl) ?_
  refine XOps.s rfl rfl rfl (Q.move_d rfl) ?_
  refine XOps.nil ?_
  refine W.block ?_
  refine W.loop (ι := Nat) (fun k => [(0, .d (slN l)), (1, .d (.int .i64 v)), (7, .d (.int .i64 l.length)), (8, .d (.int .i64 (k : Nat)))]) (fun k => hs) (fun k => k ≤ l.length ∧ ∀ (i : Nat) x, i < k → l[i]? = some x → decide (v = x) = false) (fun k => l.length - k) 0 ?_ ?_ ?_ ?_
  · exact ⟨Nat.zero_le _, fun i x h => absurd h (Nat.not_lt_zero _)⟩
  · exact ⟨by first | rfl | exact int_eq (by omega) | exact len_eq (by simp) | exact int_eq (by simp; done), by first | rfl | exact int_eq (by omega) | exact len_eq (by simp) | exact int_eq (by simp; done), by first | rfl | exact int_eq (by omega) | exact len_eq (by simp) | exact int_eq (by simp; done), by first | rfl | exact int_eq (by omega) | exact len_eq (by simp) | exact int_eq (by simp; done), trivial⟩
  · repeat (first | exact HLe.refl _ | refine HLe.cons' (by first | rfl | (simp [LB.enc, nE]; done)) ?_ | refine HLe.pick 1 rfl (by first | rfl | (simp [LB.enc, nE]; done)) ?_ | refine HLe.pick 2 rfl (by first | rfl | (simp [LB.enc, nE]; done)) ?_ | refine HLe.pick 3 rfl (by first | rfl | (simp [LB.enc, nE]; done)) ?_ | refine HLe.pick 4 rfl (by first | rfl | (simp [LB.enc, nE]; done)) ?_ | refine HLe.pick 5 rfl (by first | rfl | (simp [LB.enc, nE]; done)) ?_ | refine HLe.skip _ ?_)
  · rintro k ⟨hk, hI⟩
    try dsimp only
    refine W.reg ?_
    refine XOps.s rfl rfl rfl (Q.lss rfl rfl) ?_
    refine XOps.nil ?_
    refine W.seq ?_
    refine W.cond rfl (fun hc9 => ?_) (fun hc9 => ?_)
    · try simp only [Bool.or_eq_true, Bool.or_eq_false_iff, Bool.and_eq_true, Bool.and_eq_false_iff, decide_eq_true_eq, decide_eq_false_iff_not, Bool.not_eq_true', Bool.not_eq_false', Int.not_lt, Int.not_le, List.length_map] at hc9
      obtain ⟨x, hx⟩ : ∃ x, l[k]? = some x := ⟨_, List.getElem?_eq_getElem (by omega)⟩
      refine W.skip ?_
      refine W.seq ?_
      refine W.block ?_
      refine W.reg ?_
      refine XOps.s rfl rfl rfl (Q.move_d rfl) ?_
      refine XOps.s rfl rfl rfl (Q.assign_d rfl) ?_
      refine XOps.nil ?_
      refine W.reg ?_
      refine XOps.s rfl rfl rfl (Q.move_d rfl) ?_
      refine XOps.s rfl rfl rfl (Q.move_d rfl) ?_
      refine XOps.s rfl rfl rfl (Q.move_d rfl) ?_
      refine XOps.s rfl rfl rfl (Q.idx_sl sl32 (by decide) rfl rfl (by first | omega | (simp only [List.length_map]; omega)) (by first | exact map_at (by assumption) | exact map_at0 (by assumption) | assumption)) ?_
      refine XOps.s rfl rfl rfl (Q.ld_dp ag3 rfl rfl) ?_
      refine XOps.s rfl rfl rfl (Q.eql rfl rfl) ?_
      refine XOps.nil ?_
      refine W.cond rfl (fun hc16 => ?_) (fun hc16 => ?_)
      · try simp only [Bool.or_eq_true, Bool.or_eq_false_iff, Bool.and_eq_true, Bool.and_eq_false_iff, decide_eq_true_eq, decide_eq_false_iff_not, Bool.not_eq_true', Bool.not_eq_false', Int.not_lt, Int.not_le, List.length_map] at hc16
        have hr := idxP_some (p := fun n => decide (v = n)) hx (decide_eq_true hc16) hI
        refine W.reg ?_
        refine XOps.s rfl rfl rfl (Q.move_d rfl) ?_
        refine XOps.s rfl rfl rfl (Q.assign_d rfl) ?_
        refine XOps.nil ?_
        refine W.ret ?_
        refine ⟨_, hs, rfl, by repeat (first | exact HLe.refl _ | refine HLe.cons' (by first | rfl | (simp [LB.enc, nE]; done)) ?_ | refine HLe.pick 1 rfl (by first | rfl | (simp [LB.enc, nE]; done)) ?_ | refine HLe.pick 2 rfl (by first | rfl | (simp [LB.enc, nE]; done)) ?_ | refine HLe.pick 3 rfl (by first | rfl | (simp [LB.enc, nE]; done)) ?_ | refine HLe.pick 4 rfl (by first | rfl | (simp [LB.enc, nE]; done)) ?_ | refine HLe.pick 5 rfl (by first | rfl | (simp [LB.enc, nE]; done)) ?_ | refine HLe.skip _ ?_), ?_, rfl⟩
        rw [hr]; rfl
      · try simp only [Bool.or_eq_true, Bool.or_eq_false_iff, Bool.and_eq_true, Bool.and_eq_false_iff, decide_eq_true_eq, decide_eq_false_iff_not, Bool.not_eq_true', Bool.not_eq_false', Int.not_lt, Int.not_le, List.length_map] at hc16
        refine W.skip ?_
        refine W.region ?_
        refine XOps.s rfl rfl rfl (Q.add rfl rfl (wi64 (by first | omega | (dsimp only; omega) | (simp only [List.length_map]; omega)) (by first | omega | (dsimp only; omega) | (simp only [List.length_map]; omega)))) ?_
        refine XOps.s rfl rfl rfl (Q.move_d rfl) ?_
        refine XOps.nil ?_
        refine ⟨k + 1, ?_, ?_, ?_, ?_⟩
        · refine ⟨by omega, fun i y h hy => ?_⟩
          rcases Nat.lt_or_ge i k with h2 | h2
          · exact hI i y h2 hy
          · obtain rfl : i = k := by omega
            rw [hx] at hy; obtain rfl := Option.some.inj hy; exact decide_eq_false hc16
        · omega
        · exact ⟨by first | rfl | exact int_eq (by omega) | exact len_eq (by simp) | exact int_eq (by simp; done), by first | rfl | exact int_eq (by omega) | exact len_eq (by simp) | exact int_eq (by simp; done), by first | rfl | exact int_eq (by omega) | exact len_eq (by simp) | exact int_eq (by simp; done), by first | rfl | exact int_eq (by omega) | exact len_eq (by simp) | exact int_eq (by simp; done), trivial⟩
        · repeat (first | exact HLe.refl _ | refine HLe.cons' (by first | rfl | (simp [LB.enc, nE]; done)) ?_ | refine HLe.pick 1 rfl (by first | rfl | (simp [LB.enc, nE]; done)) ?_ | refine HLe.pick 2 rfl (by first | rfl | (simp [LB.enc, nE]; done)) ?_ | refine HLe.pick 3 rfl (by first | rfl | (simp [LB.enc, nE]; done)) ?_ | refine HLe.pick 4 rfl (by first | rfl | (simp [LB.enc, nE]; done)) ?_ | refine HLe.pick 5 rfl (by first | rfl | (simp [LB.enc, nE]; done)) ?_ | refine HLe.skip _ ?_)
    · try simp only [Bool.or_eq_true, Bool.or_eq_false_iff, Bool.and_eq_true, Bool.and_eq_false_iff, decide_eq_true_eq, decide_eq_false_iff_not, Bool.not_eq_true', Bool.not_eq_false', Int.not_lt, Int.not_le, List.length_map] at hc9
      have hr := idxP_none (p := fun n => decide (v = n)) (l := l) fun i x h => hI i x (by have := (List.getElem?_eq_some_iff.1 h).1; omega) h
      refine W.exit ?_
      refine W.reg ?_
      refine XOps.s rfl rfl rfl (Q.assign_d rfl) ?_
      refine XOps.nil ?_
      refine W.ret ?_
      refine ⟨_, hs, rfl, by repeat (first | exact HLe.refl _ | refine HLe.cons' (by first | rfl | (simp [LB.enc, nE]; done)) ?_ | refine HLe.pick 1 rfl (by first | rfl | (simp [LB.enc, nE]; done)) ?_ | refine HLe.pick 2 rfl (by first | rfl | (simp [LB.enc, nE]; done)) ?_ | refine HLe.pick 3 rfl (by first | rfl | (simp [LB.enc, nE]; done)) ?_ | refine HLe.pick 4 rfl (by first | rfl | (simp [LB.enc, nE]; done)) ?_ | refine HLe.pick 5 rfl (by first | rfl | (simp [LB.enc, nE]; done)) ?_ | refine HLe.skip _ ?_), ?_, rfl⟩
      rw [hr]; rfl

set_option maxHeartbeats 1000000 in
set_option maxRecDepth 100000 in
theorem containsN_c (l : List Int) (v : Int) (hs : Hp) (hL : l.length ≤ 4611686018427387904) : AC P 17 [.d (slN l), .d (.int .i64 v)] hs (fun r h => r = .d (.bool (l.any fun n => decide (v = n))) ∧ h = hs) := by
  refine AC.of 9 Try.func17 rfl rfl rfl ?_
  refine W.reg ?_
  refine XOps.s rfl rfl rfl (Q.assign_d rfl) ?_
  refine XOps.nil ?_
  refine W.reg ?_
  refine XOps.s rfl rfl rfl (Q.move_d rfl) ?_
  refine XOps.s rfl rfl rfl (Q.move_d rfl) ?_
  refine XOps.s rfl rfl rfl (Q.call rfl Try.func26 go26 rfl (indexN_c l v _ hL)) ?_
  refine XOps.s rfl rfl rfl (Q.geq rfl rfl) ?_
  refine XOps.s rfl rfl rfl (Q.assign_d rfl) ?_
  refine XOps.nil ?_
  refine W.ret ?_
  refine ⟨_, hs, rfl, by repeat (first | exact HLe.refl _ | refine HLe.cons' (by first | rfl | (simp [LB.enc, nE]; done)) ?_ | refine HLe.pick 1 rfl (by first | rfl | (simp [LB.enc, nE]; done)) ?_ | refine HLe.pick 2 rfl (by first | rfl | (simp [LB.enc, nE]; done)) ?_ | refine HLe.pick 3 rfl (by first | rfl | (simp [LB.enc, nE]; done)) ?_ | refine HLe.pick 4 rfl (by first | rfl | (simp [LB.enc, nE]; done)) ?_ | refine HLe.pick 5 rfl (by first | rfl | (simp [LB.enc, nE]; done)) ?_ | refine HLe.skip _ ?_), ?_, rfl⟩
  rw [← idxP_any]; rfl

set_option maxHeartbeats 1000000 in
set_option maxRecDepth 100000 in
theorem cloneN_c (l : List Int) (hs : Hp) (hL : l.length * 8 ≤ 140737488355328) : AC P 15 [.d (.sl 1 (l.map nE))] hs (fun r h => ∃ v, r = .vs v 0 l.length 1 ∧ h = (v, .lst 1 (l.map nE)) :: hs) := by
  refine AC.of 8 Try.func15 rfl rfl rfl ?_
  refine W.reg ?_
  refine XOps.s rfl rfl rfl (Q.assign_nilsl rfl) ?_
  refine XOps.nil ?_
  refine W.seq ?_
  refine W.reg ?_
  refine XOps.s rfl rfl rfl (Q.move_d rfl) ?_
  (refine XOps.loud rfl (L.eqnil sl32 (by decide) rfl rfl rfl) ?_; rintro _ _ ⟨bb, hbb, rfl, hh⟩; obtain rfl := hh.symm)
  refine XOps.nil ?_
  refine W.cond rfl (fun hc4 => ?_) (fun hc4 => ?_)
  · try simp only [Bool.or_eq_true, Bool.or_eq_false_iff, Bool.and_eq_true, Bool.and_eq_false_iff, decide_eq_true_eq, decide_eq_false_iff_not, Bool.not_eq_true', Bool.not_eq_false', Int.not_lt, Int.not_le, List.length_map] at hc4
    have hle : l = [] := by simpa using hbb hc4
    subst hle
    refine W.reg ?_
    refine XOps.s rfl rfl rfl (Q.assign_nilsl rfl) ?_
    refine XOps.nil ?_
    refine W.ghost 2 1 (by decide) rfl (by decide) (fun v2 => ?_)
    refine W.ret ?_
    exact ⟨_, (v2, .lst 1 []) :: hs, rfl, by repeat (first | exact HLe.refl _ | refine HLe.cons' (by first | rfl | (simp [LB.enc, nE]; done)) ?_ | refine HLe.pick 1 rfl (by first | rfl | (simp [LB.enc, nE]; done)) ?_ | refine HLe.pick 2 rfl (by first | rfl | (simp [LB.enc, nE]; done)) ?_ | refine HLe.pick 3 rfl (by first | rfl | (simp [LB.enc, nE]; done)) ?_ | refine HLe.pick 4 rfl (by first | rfl | (simp [LB.enc, nE]; done)) ?_ | refine HLe.pick 5 rfl (by first | rfl | (simp [LB.enc, nE]; done)) ?_ | refine HLe.skip _ ?_), v2, rfl, rfl⟩
  · try simp only [Bool.or_eq_true, Bool.or_eq_false_iff, Bool.and_eq_true, Bool.and_eq_false_iff, decide_eq_true_eq, decide_eq_false_iff_not, Bool.not_eq_true', Bool.not_eq_false', Int.not_lt, Int.not_le, List.length_map] at hc4
    refine W.skip ?_
    refine W.reg ?_
    refine XOps.s rfl rfl rfl (Q.bsl0 sl32) ?_
    refine XOps.s rfl rfl rfl (Q.move_d rfl) ?_
    refine XOps.loud rfl (L.app_new ap32 (.inl rfl) (by first | exact .inl rfl | exact .inr (by simp)) rfl (by simp; omega) rfl) ?_
    rintro _ _ ⟨v7, rfl, rfl⟩
    refine XOps.s rfl rfl rfl (Q.assign_vs rfl) ?_
    refine XOps.nil ?_
    refine W.ret ?_
    exact ⟨_, (v7, .lst 1 (l.map nE)) :: hs, rfl, by repeat (first | exact HLe.refl _ | refine HLe.cons' (by first | rfl | (simp [LB.enc, nE]; done)) ?_ | refine HLe.pick 1 rfl (by first | rfl | (simp [LB.enc, nE]; done)) ?_ | refine HLe.pick 2 rfl (by first | rfl | (simp [LB.enc, nE]; done)) ?_ | refine HLe.pick 3 rfl (by first | rfl | (simp [LB.enc, nE]; done)) ?_ | refine HLe.pick 4 rfl (by first | rfl | (simp [LB.enc, nE]; done)) ?_ | refine HLe.pick 5 rfl (by first | rfl | (simp [LB.enc, nE]; done)) ?_ | refine HLe.skip _ ?_), v7, by show AV.vs _ _ _ _ = _; congr 1; simp, rfl⟩

set_option maxHeartbeats 1000000 in
set_option maxRecDepth 100000 in
theorem lbox_c (x : LB) (s : Int) (hs : Hp) (hx : x.it) (h0 : 0 ≤ s) (h7 : s ≤ 7) : AC P 23 [.d (.agg x.enc), .d (.int .i64 s)] hs (fun r h => r = .d (.agg (boxS x s).enc) ∧ h = hs) := by
  unfold LB.it at hx
  have hs8 : s = 0 ∨ s = 1 ∨ s = 2 ∨ s = 3 ∨ s = 4 ∨ s = 5 ∨ s = 6 ∨ s = 7 := by omega
  refine AC.ofc 76 Try.func23 rfl rfl rfl ?_
  refine W.reg ?_
  refine XOps.loud rfl (L.boxn rfl rfl) ?_
  rintro _ _ ⟨b2, rfl, rfl⟩
  (refine XOps.loud rfl (L.alloc tz23 rfl rfl) ?_; rintro _ _ ⟨b4, rfl, rfl⟩)
  refine XOps.nil ?_
  refine W.drawreg 16 follows (by kernel_rfl) ?_
  refine Chain.cons _ (GQ.q rfl (Q.fld_ptr fl31_0 rfl)) rfl ?_
  refine Chain.cons _ (GQ.q rfl (Q.ld_ptr (k := 1) ag3 rfl rfl rfl)) rfl ?_
  refine Chain.cons _ (GQ.q rfl (Q.add rfl rfl (wi64 (by first | omega | (dsimp only; omega) | (simp only [List.length_map]; omega)) (by first | omega | (dsimp only; omega) | (simp only [List.length_map]; omega))))) rfl ?_
  refine Chain.cons _ (GQ.q rfl (Q.fld_ptr fl31_0 rfl)) rfl ?_
  refine Chain.cons _ (GQ.q rfl (Q.ld_ptr (k := 1) ag3 rfl rfl rfl)) rfl ?_
  refine Chain.cons _ (GQ.q rfl (Q.fld_ptr fl31_2 rfl)) rfl ?_
  refine Chain.cons _ (GQ.q rfl (Q.ld_ptr (k := 1) ag3 rfl rfl rfl)) rfl ?_
  refine Chain.cons _ (GQ.q rfl (Q.sub rfl rfl (wi64 (by first | omega | (dsimp only; omega) | (simp only [List.length_map]; omega)) (by first | omega | (dsimp only; omega) | (simp only [List.length_map]; omega))))) rfl ?_
  refine Chain.cons _ (GQ.q rfl (Q.fld_ptr fl31_0 rfl)) rfl ?_
  refine Chain.cons _ (GQ.q rfl (Q.ld_ptr (k := 1) ag3 rfl rfl rfl)) rfl ?_
  refine Chain.cons _ (GQ.q rfl (Q.fld_ptr fl31_2 rfl)) rfl ?_
  refine Chain.cons _ (GQ.q rfl (Q.ld_ptr (k := 1) ag3 rfl rfl rfl)) rfl ?_
  refine Chain.cons _ (GQ.q rfl (Q.quo rfl rfl (by omega) (wquo (by omega) (by omega) (by omega)))) rfl ?_
  refine Chain.cons _ (GQ.q rfl (Q.sub rfl rfl (wi64 (by first | omega | (dsimp only; omega) | (simp only [List.length_map]; omega)) (by first | omega | (dsimp only; omega) | (simp only [List.length_map]; omega))))) rfl ?_
  refine Chain.cons _ (GQ.q rfl (Q.assign_d rfl)) rfl ?_
  refine Chain.cons _ (GQ.q rfl (Q.assign_d rfl)) rfl ?_
  refine Chain.nil ?_
  refine XOps.s rfl rfl rfl (Q.assign_d rfl) ?_
  refine XOps.nil ?_
  refine W.drawreg 16 follows (by kernel_rfl) ?_
  refine Chain.cons _ (GQ.q rfl (Q.fld_ptr fl31_1 rfl)) rfl ?_
  refine Chain.cons _ (GQ.q rfl (Q.ld_ptr (k := 1) ag3 rfl rfl rfl)) rfl ?_
  refine Chain.cons _ (GQ.q rfl (Q.add rfl rfl (wi64 (by first | omega | (dsimp only; omega) | (simp only [List.length_map]; omega)) (by first | omega | (dsimp only; omega) | (simp only [List.length_map]; omega))))) rfl ?_
  refine Chain.cons _ (GQ.q rfl (Q.fld_ptr fl31_1 rfl)) rfl ?_
  refine Chain.cons _ (GQ.q rfl (Q.ld_ptr (k := 1) ag3 rfl rfl rfl)) rfl ?_
  refine Chain.cons _ (GQ.q rfl (Q.fld_ptr fl31_3 rfl)) rfl ?_
  refine Chain.cons _ (GQ.q rfl (Q.ld_ptr (k := 1) ag3 rfl rfl rfl)) rfl ?_
  refine Chain.cons _ (GQ.q rfl (Q.sub rfl rfl (wi64 (by first | omega | (dsimp only; omega) | (simp only [List.length_map]; omega)) (by first | omega | (dsimp only; omega) | (simp only [List.length_map]; omega))))) rfl ?_
  refine Chain.cons _ (GQ.q rfl (Q.fld_ptr fl31_1 rfl)) rfl ?_
  refine Chain.cons _ (GQ.q rfl (Q.ld_ptr (k := 1) ag3 rfl rfl rfl)) rfl ?_
  refine Chain.cons _ (GQ.q rfl (Q.fld_ptr fl31_3 rfl)) rfl ?_
  refine Chain.cons _ (GQ.q rfl (Q.ld_ptr (k := 1) ag3 rfl rfl rfl)) rfl ?_
  refine Chain.cons _ (GQ.q rfl (Q.quo rfl rfl (by omega) (wquo (by omega) (by omega) (by omega)))) rfl ?_
  refine Chain.cons _ (GQ.q rfl (Q.sub rfl rfl (wi64 (by first | omega | (dsimp only; omega) | (simp only [List.length_map]; omega)) (by first | omega | (dsimp only; omega) | (simp only [List.length_map]; omega))))) rfl ?_
  refine Chain.cons _ (GQ.q rfl (Q.assign_d rfl)) rfl ?_
  refine Chain.cons _ (GQ.q rfl (Q.assign_d rfl)) rfl ?_
  refine Chain.nil ?_
  refine XOps.s rfl rfl rfl (Q.assign_d rfl) ?_
  refine XOps.nil ?_
  refine W.reg ?_
  refine XOps.s rfl rfl rfl (Q.move_d rfl) ?_
  refine XOps.s rfl rfl rfl (Q.move_d rfl) ?_
  refine XOps.s rfl rfl rfl (Q.buildArr (l := [.int .i64 (x.x + 1), .int .i64 (x.y + 1)]) ar54 tz54 tzd54 rfl) ?_
  refine XOps.s rfl rfl rfl (Q.move_d rfl) ?_
  refine XOps.s rfl rfl rfl (Q.move_d rfl) ?_
  refine XOps.s rfl rfl rfl (Q.buildArr (l := [.int .i64 (x.x - x.w), .int .i64 (x.y + 1)]) ar54 tz54 tzd54 rfl) ?_
  refine XOps.s rfl rfl rfl (Q.move_d rfl) ?_
  refine XOps.s rfl rfl rfl (Q.move_d rfl) ?_
  refine XOps.s rfl rfl rfl (Q.buildArr (l := [.int .i64 (x.x - x.w), .int .i64 (x.y - x.h)]) ar54 tz54 tzd54 rfl) ?_
  refine XOps.s rfl rfl rfl (Q.move_d rfl) ?_
  refine XOps.s rfl rfl rfl (Q.move_d rfl) ?_
  refine XOps.s rfl rfl rfl (Q.buildArr (l := [.int .i64 (x.x + 1), .int .i64 (x.y - x.h)]) ar54 tz54 tzd54 rfl) ?_
  refine XOps.s rfl rfl rfl (Q.move_d rfl) ?_
  refine XOps.s rfl rfl rfl (Q.move_d rfl) ?_
  refine XOps.s rfl rfl rfl (Q.buildArr (l := [.int .i64 (x.x + 1), .int .i64 (x.y - x.h / 2)]) ar54 tz54 tzd54 rfl) ?_
  refine XOps.s rfl rfl rfl (Q.move_d rfl) ?_
  refine XOps.s rfl rfl rfl (Q.move_d rfl) ?_
  refine XOps.s rfl rfl rfl (Q.buildArr (l := [.int .i64 (x.x - x.w), .int .i64 (x.y - x.h / 2)]) ar54 tz54 tzd54 rfl) ?_
  refine XOps.s rfl rfl rfl (Q.move_d rfl) ?_
  refine XOps.s rfl rfl rfl (Q.move_d rfl) ?_
  refine XOps.s rfl rfl rfl (Q.buildArr (l := [.int .i64 (x.x - x.w / 2), .int .i64 (x.y + 1)]) ar54 tz54 tzd54 rfl) ?_
  refine XOps.s rfl rfl rfl (Q.move_d rfl) ?_
  refine XOps.s rfl rfl rfl (Q.move_d rfl) ?_
  refine XOps.s rfl rfl rfl (Q.buildArr (l := [.int .i64 (x.x - x.w / 2), .int .i64 (x.y - x.h)]) ar54 tz54 tzd54 rfl) ?_
  refine XOps.s rfl rfl rfl (Q.buildArr (l := [D.int .i64 (x.x + 1), .int .i64 (x.y + 1), D.int .i64 (x.x - x.w), .int .i64 (x.y + 1), D.int .i64 (x.x - x.w), .int .i64 (x.y - x.h), D.int .i64 (x.x + 1), .int .i64 (x.y - x.h), D.int .i64 (x.x + 1), .int .i64 (x.y - x.h / 2), D.int .i64 (x.x - x.w), .int .i64 (x.y - x.h / 2), D.int .i64 (x.x - x.w / 2), .int .i64 (x.y + 1), D.int .i64 (x.x - x.w / 2), .int .i64 (x.y - x.h)]) ar55 tz55 tzd55 rfl) ?_
  refine XOps.s rfl rfl rfl (Q.move_d rfl) ?_
  refine XOps.s rfl rfl rfl (Q.idx_aggn ar55 are55 rfl rfl (by omega) (by omega) (show _ = [.int .i64 (boxS x s).x, .int .i64 (boxS x s).y] by rcases hs8 with rfl | rfl | rfl | rfl | rfl | rfl | rfl | rfl <;> rfl)) ?_
  (refine XOps.loud rfl (L.alloc tz54 rfl rfl) ?_; rintro _ _ ⟨b11, rfl, rfl⟩)
  refine XOps.loud rfl (L.storen (k := 0) ag54 rfl rfl rfl rfl rfl) ?_
  rintro _ _ ⟨rfl, rfl⟩
  refine XOps.nil ?_
  refine W.reg ?_
  refine XOps.s rfl rfl rfl (Q.idx_arr ar54 rfl rfl (by omega) (by omega)) ?_
  refine XOps.s rfl rfl rfl (Q.ld_ptr (k := 0) ag3 rfl rfl rfl) ?_
  refine XOps.s rfl rfl rfl (Q.idx_arr ar54 rfl rfl (by omega) (by omega)) ?_
  refine XOps.s rfl rfl rfl (Q.ld_ptr (k := 0) ag3 rfl rfl rfl) ?_
  refine XOps.s rfl rfl rfl (Q.fld_ptr fl31_2 rfl) ?_
  refine XOps.s rfl rfl rfl (Q.ld_ptr (k := 2) ag3 rfl rfl rfl) ?_
  refine XOps.s rfl rfl rfl (Q.fld_ptr fl31_3 rfl) ?_
  refine XOps.s rfl rfl rfl (Q.ld_ptr (k := 2) ag3 rfl rfl rfl) ?_
  refine XOps.s rfl rfl rfl (Q.build pl23 tz23 tzd23 rfl) ?_
  refine XOps.loud rfl (L.storen (k := 1) ag23 rfl rfl rfl rfl rfl) ?_
  rintro _ _ ⟨rfl, rfl⟩
  refine XOps.nil ?_
  refine W.ret ?_
  exact ⟨_, hs, (.cons (by first | exact .celln 0 ag23 rfl rfl rfl | exact .cell1 0 ag23 rfl rfl rfl | exact .celln 1 ag23 rfl rfl rfl | exact .cell1 1 ag23 rfl rfl rfl | exact .celln 2 ag23 rfl rfl rfl | exact .cell1 2 ag23 rfl rfl rfl | exact .celln 3 ag23 rfl rfl rfl | exact .cell1 3 ag23 rfl rfl rfl | exact .celln 4 ag23 rfl rfl rfl | exact .cell1 4 ag23 rfl rfl rfl | exact .celln 5 ag23 rfl rfl rfl | exact .cell1 5 ag23 rfl rfl rfl) .nil), by repeat (first | exact HLe.refl _ | refine HLe.cons' (by first | rfl | (simp [LB.enc, nE]; done)) ?_ | refine HLe.pick 1 rfl (by first | rfl | (simp [LB.enc, nE]; done)) ?_ | refine HLe.pick 2 rfl (by first | rfl | (simp [LB.enc, nE]; done)) ?_ | refine HLe.pick 3 rfl (by first | rfl | (simp [LB.enc, nE]; done)) ?_ | refine HLe.pick 4 rfl (by first | rfl | (simp [LB.enc, nE]; done)) ?_ | refine HLe.pick 5 rfl (by first | rfl | (simp [LB.enc, nE]; done)) ?_ | refine HLe.skip _ ?_), rfl, rfl⟩

set_option maxHeartbeats 1000000 in
set_option maxRecDepth 100000 in
theorem out1_c (b y : LB) (c : Nat) (hs : Hp) (hb : b.ok) : AC P 25 [.d (.agg y.enc), .ptr c 0] ((c, .cells (b.enc.map .d)) :: hs) (fun r h => r = .d (.bool (insideS b y.x y.y)) ∧ h = (c, .cells (b.enc.map .d)) :: hs) := by
  refine AC.of 10 Try.func25 rfl rfl rfl ?_
  refine W.reg ?_
  refine XOps.loud rfl (L.boxn rfl rfl) ?_
  rintro _ _ ⟨b2, rfl, rfl⟩
  refine XOps.s rfl rfl rfl (Q.assign_d rfl) ?_
  refine XOps.nil ?_
  refine W.reg ?_
  refine XOps.s rfl rfl rfl (Q.ld_ptrn (k := 1) ag23 rfl rfl rfl) ?_
  refine XOps.s rfl rfl rfl (Q.fld_ptr fl31_0 rfl) ?_
  refine XOps.s rfl rfl rfl (Q.ld_ptr (k := 0) ag3 rfl rfl rfl) ?_
  refine XOps.s rfl rfl rfl (Q.fld_ptr fl31_1 rfl) ?_
  refine XOps.s rfl rfl rfl (Q.ld_ptr (k := 0) ag3 rfl rfl rfl) ?_
  refine XOps.s rfl rfl rfl (Q.call rfl Try.func7 go7 rfl (inside_c b y.x y.y _ hb)) ?_
  refine XOps.s rfl rfl rfl (Q.assign_d rfl) ?_
  refine XOps.nil ?_
  refine W.ret ?_
  exact ⟨_, (c, .cells (b.enc.map .d)) :: hs, rfl, HLe.skip _ (HLe.refl _), rfl, rfl⟩

set_option maxHeartbeats 1000000 in
set_option maxRecDepth 100000 in
theorem outside_c (l : List LB) (x : LB) (k : Nat) (s : Int) (hs : Hp) (hx : l[k]? = some x) (hxi : x.it) (hn : l.length ≤ 1000) (h0 : 0 ≤ s) (h7 : s ≤ 7) : AC P 16 [.d (.sl 4 (l.map LB.enc)), .d (.int .i64 (k : Int)), .d (.int .i64 s)] hs (fun r h => r = .d (.bool (outS l x s)) ∧ h = hs) := by
  refine AC.of 18 Try.func16 rfl rfl rfl ?_
  refine W.reg ?_
  refine XOps.s rfl rfl rfl (Q.assign_d rfl) ?_
  refine XOps.nil ?_
  refine W.reg ?_
  refine XOps.s rfl rfl rfl (Q.move_d rfl) ?_
  refine XOps.s rfl rfl rfl (Q.move_d rfl) ?_
  refine XOps.s rfl rfl rfl (Q.idx_sl sl29 (by decide) rfl rfl (by first | omega | (simp only [List.length_map]; omega)) (by first | exact map_at (by assumption) | exact map_at0 (by assumption) | assumption)) ?_
  refine XOps.s rfl rfl rfl (Q.ld_dpn ag31 rfl rfl) ?_
  refine XOps.s rfl rfl rfl (Q.move_d rfl) ?_
  refine XOps.s rfl rfl rfl (Q.call rfl Try.func23 go23 rfl (lbox_c x s _ hxi h0 h7)) ?_
  (refine XOps.loud rfl (L.alloc tz23 rfl rfl) ?_; rintro _ _ ⟨b7, rfl, rfl⟩)
  refine XOps.loud rfl (L.storen (k := 0) ag23 rfl rfl rfl rfl rfl) ?_
  rintro _ _ ⟨rfl, rfl⟩
  refine XOps.nil ?_
  refine W.reg ?_
  refine XOps.s rfl rfl rfl (Q.move_d rfl) ?_
  refine XOps.s rfl rfl rfl (Q.mkfn rfl) ?_
  refine XOps.s rfl rfl rfl (Q.call rfl Try.func24 go24 rfl (containsI_c 25 [.ptr b7 0] (fun y => insideS (boxS x s) y.x y.y) l _ (by omega) Try.func25 go25 (fun y hy => out1_c (boxS x s) y b7 hs (boxS_ok hxi s)))) ?_
  refine XOps.s rfl rfl rfl (Q.not rfl) ?_
  refine XOps.s rfl rfl rfl (Q.assign_d rfl) ?_
  refine XOps.nil ?_
  refine W.ret ?_
  refine ⟨_, hs, rfl, by repeat (first | exact HLe.refl _ | refine HLe.cons' (by first | rfl | (simp [LB.enc, nE]; done)) ?_ | refine HLe.pick 1 rfl (by first | rfl | (simp [LB.enc, nE]; done)) ?_ | refine HLe.pick 2 rfl (by first | rfl | (simp [LB.enc, nE]; done)) ?_ | refine HLe.pick 3 rfl (by first | rfl | (simp [LB.enc, nE]; done)) ?_ | refine HLe.pick 4 rfl (by first | rfl | (simp [LB.enc, nE]; done)) ?_ | refine HLe.pick 5 rfl (by first | rfl | (simp [LB.enc, nE]; done)) ?_ | refine HLe.skip _ ?_), ?_, rfl⟩
  rfl

set_option maxHeartbeats 1000000 in
set_option maxRecDepth 100000 in
theorem fits_c (l : List LB) (g : List Int) (hs : Hp) (hl : ∀ x ∈ l, x.it) (hg : l.length ≤ g.length) (hr7 : ∀ n ∈ g, n ≤ 7) (hn : l.length ≤ 1000) : AC P 14 [.d (.sl 4 (l.map LB.enc)), .d (slN g)] hs (fun r h => r = .d (.bool (fitsS l g)) ∧ h = hs) := by
  refine AC.of 94 Try.func14 rfl rfl rfl ?_
  refine W.reg ?_
  refine XOps.s rfl rfl rfl (Q.assign_d rfl) ?_
  refine XOps.nil ?_
  refine W.seq ?_
  refine W.reg ?_
  refine XOps.s rfl rfl rfl (Q.move_d rfl) ?_
  refine XOps.s rfl rfl rfl (Q.len_sl isl29 rfl) ?_
  refine XOps.s rfl rfl rfl (Q.move_d rfl) ?_
  refine XOps.nil ?_
  refine W.block ?_
  refine W.loop (ι := Nat) (fun i => [(0, .d (.sl 4 (l.map LB.enc))), (1, .d (slN g)), (15, .d (.sl 4 (l.map LB.enc))), (16, .d (.int .i64 l.length)), (17, .d (.int .i64 (i : Nat)))]) (fun i => hs) (fun i => i ≤ l.length ∧ ∀ (j : Nat) x, j < i → l[j]? = some x → fitAt l g j x) (fun i => l.length - i) 0 ?_ ?_ ?_ ?_
  · exact ⟨Nat.zero_le _, fun j x h => absurd h (Nat.not_lt_zero _)⟩
  · exact ⟨by first | rfl | exact int_eq (by omega) | exact len_eq (by simp) | exact int_eq (by simp; done), by first | rfl | exact int_eq (by omega) | exact len_eq (by simp) | exact int_eq (by simp; done), by first | rfl | exact int_eq (by omega) | exact len_eq (by simp) | exact int_eq (by simp; done), by first | rfl | exact int_eq (by omega) | exact len_eq (by simp) | exact int_eq (by simp; done), by first | rfl | exact int_eq (by omega) | exact len_eq (by simp) | exact int_eq (by simp; done), trivial⟩
  · repeat (first | exact HLe.refl _ | refine HLe.cons' (by first | rfl | (simp [LB.enc, nE]; done)) ?_ | refine HLe.pick 1 rfl (by first | rfl | (simp [LB.enc, nE]; done)) ?_ | refine HLe.pick 2 rfl (by first | rfl | (simp [LB.enc, nE]; done)) ?_ | refine HLe.pick 3 rfl (by first | rfl | (simp [LB.enc, nE]; done)) ?_ | refine HLe.pick 4 rfl (by first | rfl | (simp [LB.enc, nE]; done)) ?_ | refine HLe.pick 5 rfl (by first | rfl | (simp [LB.enc, nE]; done)) ?_ | refine HLe.skip _ ?_)
  · rintro i ⟨hi, hI⟩
    try dsimp only
    refine W.reg ?_
    refine XOps.s rfl rfl rfl (Q.lss rfl rfl) ?_
    refine XOps.nil ?_
    refine W.seq ?_
    refine W.cond rfl (fun hc18 => ?_) (fun hc18 => ?_)
    · try simp only [Bool.or_eq_true, Bool.or_eq_false_iff, Bool.and_eq_true, Bool.and_eq_false_iff, decide_eq_true_eq, decide_eq_false_iff_not, Bool.not_eq_true', Bool.not_eq_false', Int.not_lt, Int.not_le, List.length_map] at hc18
      obtain ⟨x, hx⟩ : ∃ x, l[i]? = some x := ⟨_, List.getElem?_eq_getElem (by omega)⟩
      obtain ⟨n, hgn⟩ : ∃ n, g[i]? = some n := ⟨_, List.getElem?_eq_getElem (by omega)⟩
      have hgd : g.getD i 0 = n := getD_some' hgn
      have hxi := hl x (List.mem_of_getElem? hx)
      have hn7 := hr7 n (List.mem_of_getElem? hgn)
      refine W.skip ?_
      refine W.seq ?_
      refine W.block ?_
      refine W.reg ?_
      refine XOps.s rfl rfl rfl (Q.move_d rfl) ?_
      refine XOps.s rfl rfl rfl (Q.idx_sl sl29 (by decide) rfl rfl (by first | omega | (simp only [List.length_map]; omega)) (by first | exact map_at (by assumption) | exact map_at0 (by assumption) | assumption)) ?_
      refine XOps.s rfl rfl rfl (Q.ld_dpn ag31 rfl rfl) ?_
      (refine XOps.loud rfl (L.alloc tz31 rfl rfl) ?_; rintro _ _ ⟨b6, rfl, rfl⟩)
      refine XOps.s rfl rfl rfl (Q.assign_d rfl) ?_
      refine XOps.loud rfl (L.storen (k := 0) ag31 rfl rfl rfl rfl rfl) ?_
      rintro _ _ ⟨rfl, rfl⟩
      refine XOps.nil ?_
      refine W.seq ?_
      refine W.reg ?_
      refine XOps.s rfl rfl rfl (Q.move_d rfl) ?_
      refine XOps.s rfl rfl rfl (Q.move_d rfl) ?_
      refine XOps.s rfl rfl rfl (Q.idx_sl sl32 (by decide) rfl rfl (by first | omega | (simp only [List.length_map]; omega)) (by first | exact map_at (by assumption) | exact map_at0 (by assumption) | assumption)) ?_
      refine XOps.s rfl rfl rfl (Q.ld_dp ag3 rfl rfl) ?_
      refine XOps.s rfl rfl rfl (Q.lss rfl rfl) ?_
      refine XOps.nil ?_
      refine W.cond rfl (fun hc26 => ?_) (fun hc26 => ?_)
      · try simp only [Bool.or_eq_true, Bool.or_eq_false_iff, Bool.and_eq_true, Bool.and_eq_false_iff, decide_eq_true_eq, decide_eq_false_iff_not, Bool.not_eq_true', Bool.not_eq_false', Int.not_lt, Int.not_le, List.length_map] at hc26
        have hat : fitAt l g i x := .inl (by rw [hgd]; omega)
        refine W.exit ?_
        refine W.region ?_
        refine XOps.s rfl rfl rfl (Q.add rfl rfl (wi64 (by first | omega | (dsimp only; omega) | (simp only [List.length_map]; omega)) (by first | omega | (dsimp only; omega) | (simp only [List.length_map]; omega)))) ?_
        refine XOps.s rfl rfl rfl (Q.move_d rfl) ?_
        refine XOps.nil ?_
        refine ⟨i + 1, ?_, ?_, ?_, ?_⟩
        · refine ⟨by omega, fun j z hj hz => ?_⟩
          rcases Nat.lt_or_ge j i with h | h
          · exact hI j z h hz
          · obtain rfl : j = i := by omega
            rw [hx] at hz; obtain rfl := Option.some.inj hz; exact hat
        · omega
        · exact ⟨by first | rfl | exact int_eq (by omega) | exact len_eq (by simp) | exact int_eq (by simp; done), by first | rfl | exact int_eq (by omega) | exact len_eq (by simp) | exact int_eq (by simp; done), by first | rfl | exact int_eq (by omega) | exact len_eq (by simp) | exact int_eq (by simp; done), by first | rfl | exact int_eq (by omega) | exact len_eq (by simp) | exact int_eq (by simp; done), by first | rfl | exact int_eq (by omega) | exact len_eq (by simp) | exact int_eq (by simp; done), trivial⟩
        · repeat (first | exact HLe.refl _ | refine HLe.cons' (by first | rfl | (simp [LB.enc, nE]; done)) ?_ | refine HLe.pick 1 rfl (by first | rfl | (simp [LB.enc, nE]; done)) ?_ | refine HLe.pick 2 rfl (by first | rfl | (simp [LB.enc, nE]; done)) ?_ | refine HLe.pick 3 rfl (by first | rfl | (simp [LB.enc, nE]; done)) ?_ | refine HLe.pick 4 rfl (by first | rfl | (simp [LB.enc, nE]; done)) ?_ | refine HLe.pick 5 rfl (by first | rfl | (simp [LB.enc, nE]; done)) ?_ | refine HLe.skip _ ?_)
      · try simp only [Bool.or_eq_true, Bool.or_eq_false_iff, Bool.and_eq_true, Bool.and_eq_false_iff, decide_eq_true_eq, decide_eq_false_iff_not, Bool.not_eq_true', Bool.not_eq_false', Int.not_lt, Int.not_le, List.length_map] at hc26
        have hB := boxS_ok hxi n
        have hB2 := hB
        unfold LB.ok at hB2
        refine W.skip ?_
        refine W.drawTreg 7 [6] follows (by kernel_rfl) (by decide) ?_
        apply DT.moreE [.new, .new, .new, .new, .new, .new, .now] (by kernel_rfl)
        refine PC.new _ rfl (GQ.q rfl (Q.ld_ptrn (k := 0) ag31 rfl rfl rfl)) rfl ?_
        refine PC.new _ rfl (GQ.q rfl (Q.move_d rfl)) rfl ?_
        refine PC.new _ rfl (GQ.q rfl (Q.move_d rfl)) rfl ?_
        refine PC.new _ rfl (GQ.q rfl (Q.idx_sl sl32 (by decide) rfl rfl (by first | omega | (simp only [List.length_map]; omega)) (by first | exact map_at (by assumption) | exact map_at0 (by assumption) | assumption))) rfl ?_
        refine PC.new _ rfl (GQ.q rfl (Q.ld_dp ag3 rfl rfl)) rfl ?_
        refine PC.new _ rfl (GQ.q rfl (Q.call rfl Try.func23 go23 rfl (lbox_c x n _ hxi (by omega) (by omega)))) rfl ?_
        refine PC.now rfl rfl (fun τ => Loud.to (L.alloc tz23 rfl rfl) (fun _ _ ⟨v, h1, h2⟩ => ⟨_, h1, v, rfl, h2⟩)) ?_
        refine PC.nil ?_
        rintro _ _ ⟨b7, rfl, rfl⟩
        refine DT.last [.old, .old, .old, .old, .old, .old, .did] (by kernel_rfl) ?_
        refine PC.old rfl (GQ.q rfl (Q.ld_ptrn (k := 1) ag31 rfl rfl rfl)) rfl ?_
        refine PC.old rfl (GQ.q rfl (Q.move_d rfl)) rfl ?_
        refine PC.old rfl (GQ.q rfl (Q.move_d rfl)) rfl ?_
        refine PC.old rfl (GQ.q rfl (Q.idx_sl sl32 (by decide) rfl rfl (by first | omega | (simp only [List.length_map]; omega)) (by first | exact map_at (by assumption) | exact map_at0 (by assumption) | assumption))) rfl ?_
        refine PC.old rfl (GQ.q rfl (Q.ld_dp ag3 rfl rfl)) rfl ?_
        refine PC.old rfl (GQ.q rfl (Q.call rfl Try.func23 go23 rfl (lbox_c x n _ hxi (by omega) (by omega)))) rfl ?_
        refine PC.did rfl ?_
        refine PC.nil ?_
        refine XOps.loud rfl (L.storen (k := 0) ag23 rfl rfl rfl rfl rfl) ?_
        rintro _ _ ⟨rfl, rfl⟩
        refine XOps.nil ?_
        refine W.seq ?_
        refine W.reg ?_
        refine XOps.s rfl rfl rfl (Q.move_d rfl) ?_
        refine XOps.s rfl rfl rfl (Q.len_sl isl29 rfl) ?_
        refine XOps.s rfl rfl rfl (Q.move_d rfl) ?_
        refine XOps.nil ?_
        refine W.block ?_
        refine W.loop (ι := Nat) (fun j => [(0, .d (.sl 4 (l.map LB.enc))), (1, .d (slN g)), (15, .d (.sl 4 (l.map LB.enc))), (16, .d (.int .i64 l.length)), (17, .d (.int .i64 (i : Nat))), (5, .d (.int .i64 (i : Nat))), (6, .ptr b6 0), (7, .ptr b7 0), (33, .d (.sl 4 (l.map LB.enc))), (34, .d (.int .i64 l.length)), (35, .d (.int .i64 (j : Nat)))]) (fun j => (b7, .cells ((boxS x n).enc.map .d)) :: (b6, .cells (x.enc.map .d)) :: hs) (fun j => j ≤ l.length ∧ ∀ (q : Nat) y, q < j → l[q]? = some y → insideS (boxS x n) y.x y.y = false) (fun j => l.length - j) 0 ?_ ?_ ?_ ?_
        · exact ⟨Nat.zero_le _, fun j x h => absurd h (Nat.not_lt_zero _)⟩
        · exact ⟨by first | rfl | exact int_eq (by omega) | exact len_eq (by simp) | exact int_eq (by simp; done), by first | rfl | exact int_eq (by omega) | exact len_eq (by simp) | exact int_eq (by simp; done), by first | rfl | exact int_eq (by omega) | exact len_eq (by simp) | exact int_eq (by simp; done), by first | rfl | exact int_eq (by omega) | exact len_eq (by simp) | exact int_eq (by simp; done), by first | rfl | exact int_eq (by omega) | exact len_eq (by simp) | exact int_eq (by simp; done), by first | rfl | exact int_eq (by omega) | exact len_eq (by simp) | exact int_eq (by simp; done), by first | rfl | exact int_eq (by omega) | exact len_eq (by simp) | exact int_eq (by simp; done), by first | rfl | exact int_eq (by omega) | exact len_eq (by simp) | exact int_eq (by simp; done), by first | rfl | exact int_eq (by omega) | exact len_eq (by simp) | exact int_eq (by simp; done), by first | rfl | exact int_eq (by omega) | exact len_eq (by simp) | exact int_eq (by simp; done), by first | rfl | exact int_eq (by omega) | exact len_eq (by simp) | exact int_eq (by simp; done), trivial⟩
        · repeat (first | exact HLe.refl _ | refine HLe.cons' (by first | rfl | (simp [LB.enc, nE]; done)) ?_ | refine HLe.pick 1 rfl (by first | rfl | (simp [LB.enc, nE]; done)) ?_ | refine HLe.pick 2 rfl (by first | rfl | (simp [LB.enc, nE]; done)) ?_ | refine HLe.pick 3 rfl (by first | rfl | (simp [LB.enc, nE]; done)) ?_ | refine HLe.pick 4 rfl (by first | rfl | (simp [LB.enc, nE]; done)) ?_ | refine HLe.pick 5 rfl (by first | rfl | (simp [LB.enc, nE]; done)) ?_ | refine HLe.skip _ ?_)
        · rintro j ⟨hj, hJ⟩
          try dsimp only
          refine W.reg ?_
          refine XOps.s rfl rfl rfl (Q.lss rfl rfl) ?_
          refine XOps.nil ?_
          refine W.seq ?_
          refine W.cond rfl (fun hc36 => ?_) (fun hc36 => ?_)
          · try simp only [Bool.or_eq_true, Bool.or_eq_false_iff, Bool.and_eq_true, Bool.and_eq_false_iff, decide_eq_true_eq, decide_eq_false_iff_not, Bool.not_eq_true', Bool.not_eq_false', Int.not_lt, Int.not_le, List.length_map] at hc36
            obtain ⟨y, hy⟩ : ∃ y, l[j]? = some y := ⟨_, List.getElem?_eq_getElem (by omega)⟩
            refine W.skip ?_
            refine W.seq ?_
            refine W.block ?_
            refine W.reg ?_
            refine XOps.s rfl rfl rfl (Q.idx_sl sl29 (by decide) rfl rfl (by first | omega | (simp only [List.length_map]; omega)) (by first | exact map_at (by assumption) | exact map_at0 (by assumption) | assumption)) ?_
            refine XOps.s rfl rfl rfl (Q.ld_dpn ag31 rfl rfl) ?_
            (refine XOps.loud rfl (L.alloc tz31 rfl rfl) ?_; rintro _ _ ⟨b9, rfl, rfl⟩)
            refine XOps.loud rfl (L.storen (k := 0) ag31 rfl rfl rfl rfl rfl) ?_
            rintro _ _ ⟨rfl, rfl⟩
            refine XOps.nil ?_
            refine W.reg ?_
            refine XOps.s rfl rfl rfl (Q.ld_ptrn (k := 1) ag23 rfl rfl rfl) ?_
            refine XOps.s rfl rfl rfl (Q.fld_ptr fl31_0 rfl) ?_
            refine XOps.s rfl rfl rfl (Q.ld_ptr (k := 0) ag3 rfl rfl rfl) ?_
            refine XOps.s rfl rfl rfl (Q.fld_ptr fl31_1 rfl) ?_
            refine XOps.s rfl rfl rfl (Q.ld_ptr (k := 0) ag3 rfl rfl rfl) ?_
            refine XOps.s rfl rfl rfl (Q.call rfl Try.func7 go7 rfl (inside_c (boxS x n) y.x y.y _ hB)) ?_
            refine XOps.nil ?_
            refine W.cond rfl (fun hc44 => ?_) (fun hc44 => ?_)
            · try simp only [Bool.or_eq_true, Bool.or_eq_false_iff, Bool.and_eq_true, Bool.and_eq_false_iff, decide_eq_true_eq, decide_eq_false_iff_not, Bool.not_eq_true', Bool.not_eq_false', Int.not_lt, Int.not_le, List.length_map] at hc44
              have hr : fitsS l g = false := by
                classical
                refine decide_eq_false fun h => ?_
                have h2 := h i x hx
                unfold fitAt at h2
                rw [hgd] at h2
                rcases h2 with h2 | ⟨h2, h3⟩
                · omega
                · rw [h2 y (List.mem_of_getElem? hy)] at hc44; cases hc44
              refine W.reg ?_
              refine XOps.s rfl rfl rfl (Q.assign_d rfl) ?_
              refine XOps.nil ?_
              refine W.ret ?_
              refine ⟨_, hs, rfl, by repeat (first | exact HLe.refl _ | refine HLe.cons' (by first | rfl | (simp [LB.enc, nE]; done)) ?_ | refine HLe.pick 1 rfl (by first | rfl | (simp [LB.enc, nE]; done)) ?_ | refine HLe.pick 2 rfl (by first | rfl | (simp [LB.enc, nE]; done)) ?_ | refine HLe.pick 3 rfl (by first | rfl | (simp [LB.enc, nE]; done)) ?_ | refine HLe.pick 4 rfl (by first | rfl | (simp [LB.enc, nE]; done)) ?_ | refine HLe.pick 5 rfl (by first | rfl | (simp [LB.enc, nE]; done)) ?_ | refine HLe.skip _ ?_), ?_, rfl⟩
              rw [hr]; rfl
            · try simp only [Bool.or_eq_true, Bool.or_eq_false_iff, Bool.and_eq_true, Bool.and_eq_false_iff, decide_eq_true_eq, decide_eq_false_iff_not, Bool.not_eq_true', Bool.not_eq_false', Int.not_lt, Int.not_le, List.length_map] at hc44
              refine W.skip ?_
              refine W.region ?_
              refine XOps.s rfl rfl rfl (Q.add rfl rfl (wi64 (by first | omega | (dsimp only; omega) | (simp only [List.length_map]; omega)) (by first | omega | (dsimp only; omega) | (simp only [List.length_map]; omega)))) ?_
              refine XOps.s rfl rfl rfl (Q.move_d rfl) ?_
              refine XOps.nil ?_
              refine ⟨j + 1, ?_, ?_, ?_, ?_⟩
              · refine ⟨by omega, fun q z hq hz => ?_⟩
                rcases Nat.lt_or_ge q j with h | h
                · exact hJ q z h hz
                · obtain rfl : q = j := by omega
                  rw [hy] at hz; obtain rfl := Option.some.inj hz; exact eq_false_of_ne_true (by simpa using hc44)
              · omega
              · exact ⟨by first | rfl | exact int_eq (by omega) | exact len_eq (by simp) | exact int_eq (by simp; done), by first | rfl | exact int_eq (by omega) | exact len_eq (by simp) | exact int_eq (by simp; done), by first | rfl | exact int_eq (by omega) | exact len_eq (by simp) | exact int_eq (by simp; done), by first | rfl | exact int_eq (by omega) | exact len_eq (by simp) | exact int_eq (by simp; done), by first | rfl | exact int_eq (by omega) | exact len_eq (by simp) | exact int_eq (by simp; done), by first | rfl | exact int_eq (by omega) | exact len_eq (by simp) | exact int_eq (by simp; done), by first | rfl | exact int_eq (by omega) | exact len_eq (by simp) | exact int_eq (by simp; done), by first | rfl | exact int_eq (by omega) | exact len_eq (by simp) | exact int_eq (by simp; done), by first | rfl | exact int_eq (by omega) | exact len_eq (by simp) | exact int_eq (by simp; done), by first | rfl | exact int_eq (by omega) | exact len_eq (by simp) | exact int_eq (by simp; done), by first | rfl | exact int_eq (by omega) | exact len_eq (by simp) | exact int_eq (by simp; done), trivial⟩
              · repeat (first | exact HLe.refl _ | refine HLe.cons' (by first | rfl | (simp [LB.enc, nE]; done)) ?_ | refine HLe.pick 1 rfl (by first | rfl | (simp [LB.enc, nE]; done)) ?_ | refine HLe.pick 2 rfl (by first | rfl | (simp [LB.enc, nE]; done)) ?_ | refine HLe.pick 3 rfl (by first | rfl | (simp [LB.enc, nE]; done)) ?_ | refine HLe.pick 4 rfl (by first | rfl | (simp [LB.enc, nE]; done)) ?_ | refine HLe.pick 5 rfl (by first | rfl | (simp [LB.enc, nE]; done)) ?_ | refine HLe.skip _ ?_)
          · try simp only [Bool.or_eq_true, Bool.or_eq_false_iff, Bool.and_eq_true, Bool.and_eq_false_iff, decide_eq_true_eq, decide_eq_false_iff_not, Bool.not_eq_true', Bool.not_eq_false', Int.not_lt, Int.not_le, List.length_map] at hc36
            have hpts : ∀ y ∈ l, insideS (boxS x n) y.x y.y = false := fun y hy => by
              obtain ⟨q, hq⟩ := List.getElem?_of_mem hy
              exact hJ q y (by have := (List.getElem?_eq_some_iff.1 hq).1; omega) hq
            refine W.exit ?_
            refine W.reg ?_
            refine XOps.s rfl rfl rfl (Q.move_d rfl) ?_
            refine XOps.s rfl rfl rfl (Q.move_d rfl) ?_
            refine XOps.s rfl rfl rfl (Q.cut_slm sl29 rfl rfl rfl (by first | omega | (simp only [List.length_map]; omega)) (by first | omega | (simp only [List.length_map]; omega)) (by first | omega | (simp only [List.length_map]; omega))) ?_
            refine XOps.s rfl rfl rfl (Q.len_sl isl29 rfl) ?_
            refine XOps.s rfl rfl rfl (Q.move_d rfl) ?_
            refine XOps.nil ?_
            rw [show ((l.take ((i : Nat) : Int).toNat).drop (0 : Int).toNat) = l.take i from by simp]
            refine W.block ?_
            refine W.loop (ι := Nat) (fun k => [(0, .d (.sl 4 (l.map LB.enc))), (1, .d (slN g)), (15, .d (.sl 4 (l.map LB.enc))), (16, .d (.int .i64 l.length)), (17, .d (.int .i64 (i : Nat))), (5, .d (.int .i64 (i : Nat))), (6, .ptr b6 0), (7, .ptr b7 0), (48, .d (.sl 4 ((l.take i).map LB.enc))), (49, .d (.int .i64 (i : Nat))), (50, .d (.int .i64 (k : Nat)))]) (fun k => (b7, .cells ((boxS x n).enc.map .d)) :: (b6, .cells (x.enc.map .d)) :: hs) (fun k => k ≤ i ∧ ∀ (q : Nat) y, q < k → l[q]? = some y → g.getD q 0 < 0 ∨ meetS (boxS x n) (boxS y (g.getD q 0)) = false) (fun k => i - k) 0 ?_ ?_ ?_ ?_
            · exact ⟨Nat.zero_le _, fun j x h => absurd h (Nat.not_lt_zero _)⟩
            · exact ⟨by first | rfl | exact int_eq (by omega) | exact len_eq (by simp) | exact int_eq (by simp; done), by first | rfl | exact int_eq (by omega) | exact len_eq (by simp) | exact int_eq (by simp; done), by first | rfl | exact int_eq (by omega) | exact len_eq (by simp) | exact int_eq (by simp; done), by first | rfl | exact int_eq (by omega) | exact len_eq (by simp) | exact int_eq (by simp; done), by first | rfl | exact int_eq (by omega) | exact len_eq (by simp) | exact int_eq (by simp; done), by first | rfl | exact int_eq (by omega) | exact len_eq (by simp) | exact int_eq (by simp; done), by first | rfl | exact int_eq (by omega) | exact len_eq (by simp) | exact int_eq (by simp; done), by first | rfl | exact int_eq (by omega) | exact len_eq (by simp) | exact int_eq (by simp; done), by first | rfl | exact int_eq (by omega) | exact len_eq (by simp) | exact int_eq (by simp; done), by exact len_eq (by simp; omega), by first | rfl | exact int_eq (by omega) | exact len_eq (by simp) | exact int_eq (by simp; done), trivial⟩
            · repeat (first | exact HLe.refl _ | refine HLe.cons' (by first | rfl | (simp [LB.enc, nE]; done)) ?_ | refine HLe.pick 1 rfl (by first | rfl | (simp [LB.enc, nE]; done)) ?_ | refine HLe.pick 2 rfl (by first | rfl | (simp [LB.enc, nE]; done)) ?_ | refine HLe.pick 3 rfl (by first | rfl | (simp [LB.enc, nE]; done)) ?_ | refine HLe.pick 4 rfl (by first | rfl | (simp [LB.enc, nE]; done)) ?_ | refine HLe.pick 5 rfl (by first | rfl | (simp [LB.enc, nE]; done)) ?_ | refine HLe.skip _ ?_)
            · rintro k ⟨hk, hK⟩
              try dsimp only
              refine W.reg ?_
              refine XOps.s rfl rfl rfl (Q.lss rfl rfl) ?_
              refine XOps.nil ?_
              refine W.seq ?_
              refine W.cond rfl (fun hc51 => ?_) (fun hc51 => ?_)
              · try simp only [Bool.or_eq_true, Bool.or_eq_false_iff, Bool.and_eq_true, Bool.and_eq_false_iff, decide_eq_true_eq, decide_eq_false_iff_not, Bool.not_eq_true', Bool.not_eq_false', Int.not_lt, Int.not_le, List.length_map] at hc51
                obtain ⟨y, hy⟩ : ∃ y, l[k]? = some y := ⟨_, List.getElem?_eq_getElem (by omega)⟩
                have hyt : (l.take i)[k]? = some y := by rw [List.getElem?_take, if_pos (by omega)]; exact hy
                obtain ⟨m, hgm⟩ : ∃ m, g[k]? = some m := ⟨_, List.getElem?_eq_getElem (by omega)⟩
                have hgmd : g.getD k 0 = m := getD_some' hgm
                have hyi := hl y (List.mem_of_getElem? hy)
                have hm7 := hr7 m (List.mem_of_getElem? hgm)
                refine W.skip ?_
                refine W.seq ?_
                refine W.block ?_
                refine W.reg ?_
                refine XOps.s rfl rfl rfl (Q.move_d rfl) ?_
                refine XOps.s rfl rfl rfl (Q.idx_sl sl29 (by decide) rfl rfl (by first | omega | (simp only [List.length_map]; omega)) (by first | exact map_at (by assumption) | exact map_at0 (by assumption) | assumption)) ?_
                refine XOps.s rfl rfl rfl (Q.ld_dpn ag31 rfl rfl) ?_
                (refine XOps.loud rfl (L.alloc tz31 rfl rfl) ?_; rintro _ _ ⟨b11, rfl, rfl⟩)
                refine XOps.s rfl rfl rfl (Q.assign_d rfl) ?_
                refine XOps.loud rfl (L.storen (k := 0) ag31 rfl rfl rfl rfl rfl) ?_
                rintro _ _ ⟨rfl, rfl⟩
                refine XOps.nil ?_
                refine W.seq ?_
                refine W.reg ?_
                refine XOps.s rfl rfl rfl (Q.move_d rfl) ?_
                refine XOps.s rfl rfl rfl (Q.move_d rfl) ?_
                refine XOps.s rfl rfl rfl (Q.idx_sl sl32 (by decide) rfl rfl (by first | omega | (simp only [List.length_map]; omega)) (by first | exact map_at (by assumption) | exact map_at0 (by assumption) | assumption)) ?_
                refine XOps.s rfl rfl rfl (Q.ld_dp ag3 rfl rfl) ?_
                refine XOps.s rfl rfl rfl (Q.lss rfl rfl) ?_
                refine XOps.nil ?_
                refine W.cond rfl (fun hc59 => ?_) (fun hc59 => ?_)
                · try simp only [Bool.or_eq_true, Bool.or_eq_false_iff, Bool.and_eq_true, Bool.and_eq_false_iff, decide_eq_true_eq, decide_eq_false_iff_not, Bool.not_eq_true', Bool.not_eq_false', Int.not_lt, Int.not_le, List.length_map] at hc59
                  have hmt : g.getD k 0 < 0 ∨ meetS (boxS x n) (boxS y (g.getD k 0)) = false := .inl (by rw [hgmd]; omega)
                  refine W.exit ?_
                  refine W.region ?_
                  refine XOps.s rfl rfl rfl (Q.add rfl rfl (wi64 (by first | omega | (dsimp only; omega) | (simp only [List.length_map]; omega)) (by first | omega | (dsimp only; omega) | (simp only [List.length_map]; omega)))) ?_
                  refine XOps.s rfl rfl rfl (Q.move_d rfl) ?_
                  refine XOps.nil ?_
                  refine ⟨k + 1, ?_, ?_, ?_, ?_⟩
                  · refine ⟨by omega, fun q z hq hz => ?_⟩
                    rcases Nat.lt_or_ge q k with h | h
                    · exact hK q z h hz
                    · obtain rfl : q = k := by omega
                      rw [hy] at hz; obtain rfl := Option.some.inj hz; exact hmt
                  · omega
                  · exact ⟨by first | rfl | exact int_eq (by omega) | exact len_eq (by simp) | exact int_eq (by simp; done), by first | rfl | exact int_eq (by omega) | exact len_eq (by simp) | exact int_eq (by simp; done), by first | rfl | exact int_eq (by omega) | exact len_eq (by simp) | exact int_eq (by simp; done), by first | rfl | exact int_eq (by omega) | exact len_eq (by simp) | exact int_eq (by simp; done), by first | rfl | exact int_eq (by omega) | exact len_eq (by simp) | exact int_eq (by simp; done), by first | rfl | exact int_eq (by omega) | exact len_eq (by simp) | exact int_eq (by simp; done), by first | rfl | exact int_eq (by omega) | exact len_eq (by simp) | exact int_eq (by simp; done), by first | rfl | exact int_eq (by omega) | exact len_eq (by simp) | exact int_eq (by simp; done), by first | rfl | exact int_eq (by omega) | exact len_eq (by simp) | exact int_eq (by simp; done), by first | rfl | exact int_eq (by omega) | exact len_eq (by simp) | exact int_eq (by simp; done), by first | rfl | exact int_eq (by omega) | exact len_eq (by simp) | exact int_eq (by simp; done), trivial⟩
                  · repeat (first | exact HLe.refl _ | refine HLe.cons' (by first | rfl | (simp [LB.enc, nE]; done)) ?_ | refine HLe.pick 1 rfl (by first | rfl | (simp [LB.enc, nE]; done)) ?_ | refine HLe.pick 2 rfl (by first | rfl | (simp [LB.enc, nE]; done)) ?_ | refine HLe.pick 3 rfl (by first | rfl | (simp [LB.enc, nE]; done)) ?_ | refine HLe.pick 4 rfl (by first | rfl | (simp [LB.enc, nE]; done)) ?_ | refine HLe.pick 5 rfl (by first | rfl | (simp [LB.enc, nE]; done)) ?_ | refine HLe.skip _ ?_)
                · try simp only [Bool.or_eq_true, Bool.or_eq_false_iff, Bool.and_eq_true, Bool.and_eq_false_iff, decide_eq_true_eq, decide_eq_false_iff_not, Bool.not_eq_true', Bool.not_eq_false', Int.not_lt, Int.not_le, List.length_map] at hc59
                  have hC := boxS_ok hyi m
                  have hC2 := hC
                  unfold LB.ok at hC2
                  refine W.skip ?_
                  refine W.drawTreg 7 [6] follows (by kernel_rfl) (by decide) ?_
                  apply DT.moreE [.new, .new, .new, .new, .new, .new, .now] (by kernel_rfl)
                  refine PC.new _ rfl (GQ.q rfl (Q.ld_ptrn (k := 0) ag31 rfl rfl rfl)) rfl ?_
                  refine PC.new _ rfl (GQ.q rfl (Q.move_d rfl)) rfl ?_
                  refine PC.new _ rfl (GQ.q rfl (Q.move_d rfl)) rfl ?_
                  refine PC.new _ rfl (GQ.q rfl (Q.idx_sl sl32 (by decide) rfl rfl (by first | omega | (simp only [List.length_map]; omega)) (by first | exact map_at (by assumption) | exact map_at0 (by assumption) | assumption))) rfl ?_
                  refine PC.new _ rfl (GQ.q rfl (Q.ld_dp ag3 rfl rfl)) rfl ?_
                  refine PC.new _ rfl (GQ.q rfl (Q.call rfl Try.func23 go23 rfl (lbox_c y m _ hyi (by omega) (by omega)))) rfl ?_
                  refine PC.now rfl rfl (fun τ => Loud.to (L.alloc tz23 rfl rfl) (fun _ _ ⟨v, h1, h2⟩ => ⟨_, h1, v, rfl, h2⟩)) ?_
                  refine PC.nil ?_
                  rintro _ _ ⟨b12, rfl, rfl⟩
                  refine DT.last [.old, .old, .old, .old, .old, .old, .did] (by kernel_rfl) ?_
                  refine PC.old rfl (GQ.q rfl (Q.ld_ptrn (k := 1) ag31 rfl rfl rfl)) rfl ?_
                  refine PC.old rfl (GQ.q rfl (Q.move_d rfl)) rfl ?_
                  refine PC.old rfl (GQ.q rfl (Q.move_d rfl)) rfl ?_
                  refine PC.old rfl (GQ.q rfl (Q.idx_sl sl32 (by decide) rfl rfl (by first | omega | (simp only [List.length_map]; omega)) (by first | exact map_at (by assumption) | exact map_at0 (by assumption) | assumption))) rfl ?_
                  refine PC.old rfl (GQ.q rfl (Q.ld_dp ag3 rfl rfl)) rfl ?_
                  refine PC.old rfl (GQ.q rfl (Q.call rfl Try.func23 go23 rfl (lbox_c y m _ hyi (by omega) (by omega)))) rfl ?_
                  refine PC.did rfl ?_
                  refine PC.nil ?_
                  refine XOps.loud rfl (L.storen (k := 0) ag23 rfl rfl rfl rfl rfl) ?_
                  rintro _ _ ⟨rfl, rfl⟩
                  refine XOps.nil ?_
                  refine W.reg ?_
                  refine XOps.s rfl rfl rfl (Q.fld_ptr fl23_1 rfl) ?_
                  refine XOps.s rfl rfl rfl (Q.ld_ptr (k := 2) ag3 rfl rfl rfl) ?_
                  refine XOps.s rfl rfl rfl (Q.assign_d rfl) ?_
                  refine XOps.nil ?_
                  refine W.block ?_
                  refine W.loop (ι := Nat) (fun r => [(0, .d (.sl 4 (l.map LB.enc))), (1, .d (slN g)), (15, .d (.sl 4 (l.map LB.enc))), (16, .d (.int .i64 l.length)), (17, .d (.int .i64 (i : Nat))), (5, .d (.int .i64 (i : Nat))), (6, .ptr b6 0), (7, .ptr b7 0), (48, .d (.sl 4 ((l.take i).map LB.enc))), (49, .d (.int .i64 (i : Nat))), (50, .d (.int .i64 (k : Nat))), (12, .ptr b12 0), (13, .d (.int .i64 ((boxS x n).y + (r : Nat))))]) (fun r => (b12, .cells ((boxS y m).enc.map .d)) :: (b11, .cells (y.enc.map .d)) :: (b7, .cells ((boxS x n).enc.map .d)) :: (b6, .cells (x.enc.map .d)) :: hs) (fun r => r ≤ (boxS x n).h.toNat ∧ boxAny (boxS y m) (boxS x n).x (boxS x n).y (boxS x n).w.toNat r = false) (fun r => (boxS x n).h.toNat - r) 0 ?_ ?_ ?_ ?_
                  · exact ⟨Nat.zero_le _, rfl⟩
                  · exact ⟨by first | rfl | exact int_eq (by omega) | exact len_eq (by simp) | exact int_eq (by simp; done), by first | rfl | exact int_eq (by omega) | exact len_eq (by simp) | exact int_eq (by simp; done), by first | rfl | exact int_eq (by omega) | exact len_eq (by simp) | exact int_eq (by simp; done), by first | rfl | exact int_eq (by omega) | exact len_eq (by simp) | exact int_eq (by simp; done), by first | rfl | exact int_eq (by omega) | exact len_eq (by simp) | exact int_eq (by simp; done), by first | rfl | exact int_eq (by omega) | exact len_eq (by simp) | exact int_eq (by simp; done), by first | rfl | exact int_eq (by omega) | exact len_eq (by simp) | exact int_eq (by simp; done), by first | rfl | exact int_eq (by omega) | exact len_eq (by simp) | exact int_eq (by simp; done), by first | rfl | exact int_eq (by omega) | exact len_eq (by simp) | exact int_eq (by simp; done), by first | rfl | exact int_eq (by omega) | exact len_eq (by simp) | exact int_eq (by simp; done), by first | rfl | exact int_eq (by omega) | exact len_eq (by simp) | exact int_eq (by simp; done), by first | rfl | exact int_eq (by omega) | exact len_eq (by simp) | exact int_eq (by simp; done), by first | rfl | exact int_eq (by omega) | exact len_eq (by simp) | exact int_eq (by simp; done), trivial⟩
                  · repeat (first | exact HLe.refl _ | refine HLe.cons' (by first | rfl | (simp [LB.enc, nE]; done)) ?_ | refine HLe.pick 1 rfl (by first | rfl | (simp [LB.enc, nE]; done)) ?_ | refine HLe.pick 2 rfl (by first | rfl | (simp [LB.enc, nE]; done)) ?_ | refine HLe.pick 3 rfl (by first | rfl | (simp [LB.enc, nE]; done)) ?_ | refine HLe.pick 4 rfl (by first | rfl | (simp [LB.enc, nE]; done)) ?_ | refine HLe.pick 5 rfl (by first | rfl | (simp [LB.enc, nE]; done)) ?_ | refine HLe.skip _ ?_)
                  · rintro r ⟨hrb, hR⟩
                    try dsimp only
                    refine W.seq ?_
                    refine W.reg ?_
                    refine XOps.s rfl rfl rfl (Q.move_d rfl) ?_
                    refine XOps.s rfl rfl rfl (Q.fld_ptr fl23_1 rfl) ?_
                    refine XOps.s rfl rfl rfl (Q.ld_ptr (k := 2) ag3 rfl rfl rfl) ?_
                    refine XOps.s rfl rfl rfl (Q.fld_ptr fl23_3 rfl) ?_
                    refine XOps.s rfl rfl rfl (Q.ld_ptr (k := 2) ag3 rfl rfl rfl) ?_
                    refine XOps.s rfl rfl rfl (Q.add rfl rfl (wi64 (by first | omega | (dsimp only; omega) | (simp only [List.length_map]; omega)) (by first | omega | (dsimp only; omega) | (simp only [List.length_map]; omega)))) ?_
                    refine XOps.s rfl rfl rfl (Q.lss rfl rfl) ?_
                    refine XOps.nil ?_
                    refine W.cond rfl (fun hc74 => ?_) (fun hc74 => ?_)
                    · try simp only [Bool.or_eq_true, Bool.or_eq_false_iff, Bool.and_eq_true, Bool.and_eq_false_iff, decide_eq_true_eq, decide_eq_false_iff_not, Bool.not_eq_true', Bool.not_eq_false', Int.not_lt, Int.not_le, List.length_map] at hc74
                      refine W.skip ?_
                      refine W.seq ?_
                      refine W.block ?_
                      refine W.reg ?_
                      refine XOps.s rfl rfl rfl (Q.fld_ptr fl23_0 rfl) ?_
                      refine XOps.s rfl rfl rfl (Q.ld_ptr (k := 2) ag3 rfl rfl rfl) ?_
                      refine XOps.s rfl rfl rfl (Q.assign_d rfl) ?_
                      refine XOps.nil ?_
                      refine W.block ?_
                      refine W.loop (ι := Nat) (fun c => [(0, .d (.sl 4 (l.map LB.enc))), (1, .d (slN g)), (15, .d (.sl 4 (l.map LB.enc))), (16, .d (.int .i64 l.length)), (17, .d (.int .i64 (i : Nat))), (5, .d (.int .i64 (i : Nat))), (6, .ptr b6 0), (7, .ptr b7 0), (48, .d (.sl 4 ((l.take i).map LB.enc))), (49, .d (.int .i64 (i : Nat))), (50, .d (.int .i64 (k : Nat))), (12, .ptr b12 0), (13, .d (.int .i64 ((boxS x n).y + (r : Nat)))), (14, .d (.int .i64 ((boxS x n).x + (c : Nat))))]) (fun c => (b12, .cells ((boxS y m).enc.map .d)) :: (b11, .cells (y.enc.map .d)) :: (b7, .cells ((boxS x n).enc.map .d)) :: (b6, .cells (x.enc.map .d)) :: hs) (fun c => c ≤ (boxS x n).w.toNat ∧ rowAny (boxS y m) (boxS x n).x ((boxS x n).y + (r : Nat)) c = false) (fun c => (boxS x n).w.toNat - c) 0 ?_ ?_ ?_ ?_
                      · exact ⟨Nat.zero_le _, rfl⟩
                      · exact ⟨by first | rfl | exact int_eq (by omega) | exact len_eq (by simp) | exact int_eq (by simp; done), by first | rfl | exact int_eq (by omega) | exact len_eq (by simp) | exact int_eq (by simp; done), by first | rfl | exact int_eq (by omega) | exact len_eq (by simp) | exact int_eq (by simp; done), by first | rfl | exact int_eq (by omega) | exact len_eq (by simp) | exact int_eq (by simp; done), by first | rfl | exact int_eq (by omega) | exact len_eq (by simp) | exact int_eq (by simp; done), by first | rfl | exact int_eq (by omega) | exact len_eq (by simp) | exact int_eq (by simp; done), by first | rfl | exact int_eq (by omega) | exact len_eq (by simp) | exact int_eq (by simp; done), by first | rfl | exact int_eq (by omega) | exact len_eq (by simp) | exact int_eq (by simp; done), by first | rfl | exact int_eq (by omega) | exact len_eq (by simp) | exact int_eq (by simp; done), by first | rfl | exact int_eq (by omega) | exact len_eq (by simp) | exact int_eq (by simp; done), by first | rfl | exact int_eq (by omega) | exact len_eq (by simp) | exact int_eq (by simp; done), by first | rfl | exact int_eq (by omega) | exact len_eq (by simp) | exact int_eq (by simp; done), by first | rfl | exact int_eq (by omega) | exact len_eq (by simp) | exact int_eq (by simp; done), by first | rfl | exact int_eq (by omega) | exact len_eq (by simp) | exact int_eq (by simp; done), trivial⟩
                      · repeat (first | exact HLe.refl _ | refine HLe.cons' (by first | rfl | (simp [LB.enc, nE]; done)) ?_ | refine HLe.pick 1 rfl (by first | rfl | (simp [LB.enc, nE]; done)) ?_ | refine HLe.pick 2 rfl (by first | rfl | (simp [LB.enc, nE]; done)) ?_ | refine HLe.pick 3 rfl (by first | rfl | (simp [LB.enc, nE]; done)) ?_ | refine HLe.pick 4 rfl (by first | rfl | (simp [LB.enc, nE]; done)) ?_ | refine HLe.pick 5 rfl (by first | rfl | (simp [LB.enc, nE]; done)) ?_ | refine HLe.skip _ ?_)
                      · rintro c ⟨hcb, hCc⟩
                        try dsimp only
                        refine W.seq ?_
                        refine W.reg ?_
                        refine XOps.s rfl rfl rfl (Q.move_d rfl) ?_
                        refine XOps.s rfl rfl rfl (Q.fld_ptr fl23_0 rfl) ?_
                        refine XOps.s rfl rfl rfl (Q.ld_ptr (k := 2) ag3 rfl rfl rfl) ?_
                        refine XOps.s rfl rfl rfl (Q.fld_ptr fl23_2 rfl) ?_
                        refine XOps.s rfl rfl rfl (Q.ld_ptr (k := 2) ag3 rfl rfl rfl) ?_
                        refine XOps.s rfl rfl rfl (Q.add rfl rfl (wi64 (by first | omega | (dsimp only; omega) | (simp only [List.length_map]; omega)) (by first | omega | (dsimp only; omega) | (simp only [List.length_map]; omega)))) ?_
                        refine XOps.s rfl rfl rfl (Q.lss rfl rfl) ?_
                        refine XOps.nil ?_
                        refine W.cond rfl (fun hc85 => ?_) (fun hc85 => ?_)
                        · try simp only [Bool.or_eq_true, Bool.or_eq_false_iff, Bool.and_eq_true, Bool.and_eq_false_iff, decide_eq_true_eq, decide_eq_false_iff_not, Bool.not_eq_true', Bool.not_eq_false', Int.not_lt, Int.not_le, List.length_map] at hc85
                          refine W.skip ?_
                          refine W.seq ?_
                          refine W.block ?_
                          refine W.reg ?_
                          refine XOps.s rfl rfl rfl (Q.ld_ptrn (k := 0) ag23 rfl rfl rfl) ?_
                          refine XOps.s rfl rfl rfl (Q.move_d rfl) ?_
                          refine XOps.s rfl rfl rfl (Q.move_d rfl) ?_
                          refine XOps.s rfl rfl rfl (Q.call rfl Try.func7 go7 rfl (inside_c (boxS y m) ((boxS x n).x + (c : Nat)) ((boxS x n).y + (r : Nat)) _ hC)) ?_
                          refine XOps.nil ?_
                          refine W.cond rfl (fun hc91 => ?_) (fun hc91 => ?_)
                          · try simp only [Bool.or_eq_true, Bool.or_eq_false_iff, Bool.and_eq_true, Bool.and_eq_false_iff, decide_eq_true_eq, decide_eq_false_iff_not, Bool.not_eq_true', Bool.not_eq_false', Int.not_lt, Int.not_le, List.length_map] at hc91
                            have hr : fitsS l g = false := by
                              classical
                              refine decide_eq_false fun h => ?_
                              have h2 := h i x hx
                              unfold fitAt at h2
                              rw [hgd] at h2
                              rcases h2 with h2 | ⟨h2, h3⟩
                              · omega
                              · rcases h3 k y (by omega) hy with h4 | h4
                                · omega
                                · rw [hgmd] at h4
                                  have h5 := (insideS_iff _ _ _).1 hc91
                                  have h6 : meetS (boxS x n) (boxS y m) = true := by
                                    unfold meetS; simp only [Bool.and_eq_true, decide_eq_true_eq]; omega
                                  rw [h4] at h6; cases h6
                            refine W.reg ?_
                            refine XOps.s rfl rfl rfl (Q.assign_d rfl) ?_
                            refine XOps.nil ?_
                            refine W.ret ?_
                            refine ⟨_, hs, rfl, by repeat (first | exact HLe.refl _ | refine HLe.cons' (by first | rfl | (simp [LB.enc, nE]; done)) ?_ | refine HLe.pick 1 rfl (by first | rfl | (simp [LB.enc, nE]; done)) ?_ | refine HLe.pick 2 rfl (by first | rfl | (simp [LB.enc, nE]; done)) ?_ | refine HLe.pick 3 rfl (by first | rfl | (simp [LB.enc, nE]; done)) ?_ | refine HLe.pick 4 rfl (by first | rfl | (simp [LB.enc, nE]; done)) ?_ | refine HLe.pick 5 rfl (by first | rfl | (simp [LB.enc, nE]; done)) ?_ | refine HLe.skip _ ?_), ?_, rfl⟩
                            rw [hr]; rfl
                          · try simp only [Bool.or_eq_true, Bool.or_eq_false_iff, Bool.and_eq_true, Bool.and_eq_false_iff, decide_eq_true_eq, decide_eq_false_iff_not, Bool.not_eq_true', Bool.not_eq_false', Int.not_lt, Int.not_le, List.length_map] at hc91
                            refine W.skip ?_
                            refine W.region ?_
                            refine XOps.s rfl rfl rfl (Q.move_d rfl) ?_
                            refine XOps.s rfl rfl rfl (Q.add rfl rfl (wi64 (by first | omega | (dsimp only; omega) | (simp only [List.length_map]; omega)) (by first | omega | (dsimp only; omega) | (simp only [List.length_map]; omega)))) ?_
                            refine XOps.s rfl rfl rfl (Q.assign_d rfl) ?_
                            refine XOps.nil ?_
                            refine ⟨c + 1, ?_, ?_, ?_, ?_⟩
                            · refine ⟨by omega, ?_⟩
                              rw [rowAny_succ, hCc, eq_false_of_ne_true (by simpa using hc91 : ¬ insideS _ _ _ = true)]; rfl
                            · omega
                            · exact ⟨by first | rfl | exact int_eq (by omega) | exact len_eq (by simp) | exact int_eq (by simp; done), by first | rfl | exact int_eq (by omega) | exact len_eq (by simp) | exact int_eq (by simp; done), by first | rfl | exact int_eq (by omega) | exact len_eq (by simp) | exact int_eq (by simp; done), by first | rfl | exact int_eq (by omega) | exact len_eq (by simp) | exact int_eq (by simp; done), by first | rfl | exact int_eq (by omega) | exact len_eq (by simp) | exact int_eq (by simp; done), by first | rfl | exact int_eq (by omega) | exact len_eq (by simp) | exact int_eq (by simp; done), by first | rfl | exact int_eq (by omega) | exact len_eq (by simp) | exact int_eq (by simp; done), by first | rfl | exact int_eq (by omega) | exact len_eq (by simp) | exact int_eq (by simp; done), by first | rfl | exact int_eq (by omega) | exact len_eq (by simp) | exact int_eq (by simp; done), by first | rfl | exact int_eq (by omega) | exact len_eq (by simp) | exact int_eq (by simp; done), by first | rfl | exact int_eq (by omega) | exact len_eq (by simp) | exact int_eq (by simp; done), by first | rfl | exact int_eq (by omega) | exact len_eq (by simp) | exact int_eq (by simp; done), by first | rfl | exact int_eq (by omega) | exact len_eq (by simp) | exact int_eq (by simp; done), by first | rfl | exact int_eq (by omega) | exact len_eq (by simp) | exact int_eq (by simp; done), trivial⟩
                            · repeat (first | exact HLe.refl _ | refine HLe.cons' (by first | rfl | (simp [LB.enc, nE]; done)) ?_ | refine HLe.pick 1 rfl (by first | rfl | (simp [LB.enc, nE]; done)) ?_ | refine HLe.pick 2 rfl (by first | rfl | (simp [LB.enc, nE]; done)) ?_ | refine HLe.pick 3 rfl (by first | rfl | (simp [LB.enc, nE]; done)) ?_ | refine HLe.pick 4 rfl (by first | rfl | (simp [LB.enc, nE]; done)) ?_ | refine HLe.pick 5 rfl (by first | rfl | (simp [LB.enc, nE]; done)) ?_ | refine HLe.skip _ ?_)
                        · try simp only [Bool.or_eq_true, Bool.or_eq_false_iff, Bool.and_eq_true, Bool.and_eq_false_iff, decide_eq_true_eq, decide_eq_false_iff_not, Bool.not_eq_true', Bool.not_eq_false', Int.not_lt, Int.not_le, List.length_map] at hc85
                          obtain rfl : c = (boxS x n).w.toNat := by omega
                          refine W.exit ?_
                          refine W.region ?_
                          refine XOps.s rfl rfl rfl (Q.move_d rfl) ?_
                          refine XOps.s rfl rfl rfl (Q.add rfl rfl (wi64 (by first | omega | (dsimp only; omega) | (simp only [List.length_map]; omega)) (by first | omega | (dsimp only; omega) | (simp only [List.length_map]; omega)))) ?_
                          refine XOps.s rfl rfl rfl (Q.assign_d rfl) ?_
                          refine XOps.nil ?_
                          refine ⟨r + 1, ?_, ?_, ?_, ?_⟩
                          · refine ⟨by omega, ?_⟩
                            rw [boxAny_succ, hR, hCc]; rfl
                          · omega
                          · exact ⟨by first | rfl | exact int_eq (by omega) | exact len_eq (by simp) | exact int_eq (by simp; done), by first | rfl | exact int_eq (by omega) | exact len_eq (by simp) | exact int_eq (by simp; done), by first | rfl | exact int_eq (by omega) | exact len_eq (by simp) | exact int_eq (by simp; done), by first | rfl | exact int_eq (by omega) | exact len_eq (by simp) | exact int_eq (by simp; done), by first | rfl | exact int_eq (by omega) | exact len_eq (by simp) | exact int_eq (by simp; done), by first | rfl | exact int_eq (by omega) | exact len_eq (by simp) | exact int_eq (by simp; done), by first | rfl | exact int_eq (by omega) | exact len_eq (by simp) | exact int_eq (by simp; done), by first | rfl | exact int_eq (by omega) | exact len_eq (by simp) | exact int_eq (by simp; done), by first | rfl | exact int_eq (by omega) | exact len_eq (by simp) | exact int_eq (by simp; done), by first | rfl | exact int_eq (by omega) | exact len_eq (by simp) | exact int_eq (by simp; done), by first | rfl | exact int_eq (by omega) | exact len_eq (by simp) | exact int_eq (by simp; done), by first | rfl | exact int_eq (by omega) | exact len_eq (by simp) | exact int_eq (by simp; done), by first | rfl | exact int_eq (by omega) | exact len_eq (by simp) | exact int_eq (by simp; done), trivial⟩
                          · repeat (first | exact HLe.refl _ | refine HLe.cons' (by first | rfl | (simp [LB.enc, nE]; done)) ?_ | refine HLe.pick 1 rfl (by first | rfl | (simp [LB.enc, nE]; done)) ?_ | refine HLe.pick 2 rfl (by first | rfl | (simp [LB.enc, nE]; done)) ?_ | refine HLe.pick 3 rfl (by first | rfl | (simp [LB.enc, nE]; done)) ?_ | refine HLe.pick 4 rfl (by first | rfl | (simp [LB.enc, nE]; done)) ?_ | refine HLe.pick 5 rfl (by first | rfl | (simp [LB.enc, nE]; done)) ?_ | refine HLe.skip _ ?_)
                    · try simp only [Bool.or_eq_true, Bool.or_eq_false_iff, Bool.and_eq_true, Bool.and_eq_false_iff, decide_eq_true_eq, decide_eq_false_iff_not, Bool.not_eq_true', Bool.not_eq_false', Int.not_lt, Int.not_le, List.length_map] at hc74
                      obtain rfl : r = (boxS x n).h.toNat := by omega
                      have hmt : g.getD k 0 < 0 ∨ meetS (boxS x n) (boxS y (g.getD k 0)) = false := .inr (by rw [hgmd, ← boxAny_meet hB hC]; exact hR)
                      refine W.exit ?_
                      refine W.region ?_
                      refine XOps.s rfl rfl rfl (Q.add rfl rfl (wi64 (by first | omega | (dsimp only; omega) | (simp only [List.length_map]; omega)) (by first | omega | (dsimp only; omega) | (simp only [List.length_map]; omega)))) ?_
                      refine XOps.s rfl rfl rfl (Q.move_d rfl) ?_
                      refine XOps.nil ?_
                      refine ⟨k + 1, ?_, ?_, ?_, ?_⟩
                      · refine ⟨by omega, fun q z hq hz => ?_⟩
                        rcases Nat.lt_or_ge q k with h | h
                        · exact hK q z h hz
                        · obtain rfl : q = k := by omega
                          rw [hy] at hz; obtain rfl := Option.some.inj hz; exact hmt
                      · omega
                      · exact ⟨by first | rfl | exact int_eq (by omega) | exact len_eq (by simp) | exact int_eq (by simp; done), by first | rfl | exact int_eq (by omega) | exact len_eq (by simp) | exact int_eq (by simp; done), by first | rfl | exact int_eq (by omega) | exact len_eq (by simp) | exact int_eq (by simp; done), by first | rfl | exact int_eq (by omega) | exact len_eq (by simp) | exact int_eq (by simp; done), by first | rfl | exact int_eq (by omega) | exact len_eq (by simp) | exact int_eq (by simp; done), by first | rfl | exact int_eq (by omega) | exact len_eq (by simp) | exact int_eq (by simp; done), by first | rfl | exact int_eq (by omega) | exact len_eq (by simp) | exact int_eq (by simp; done), by first | rfl | exact int_eq (by omega) | exact len_eq (by simp) | exact int_eq (by simp; done), by first | rfl | exact int_eq (by omega) | exact len_eq (by simp) | exact int_eq (by simp; done), by first | rfl | exact int_eq (by omega) | exact len_eq (by simp) | exact int_eq (by simp; done), by first | rfl | exact int_eq (by omega) | exact len_eq (by simp) | exact int_eq (by simp; done), trivial⟩
                      · repeat (first | exact HLe.refl _ | refine HLe.cons' (by first | rfl | (simp [LB.enc, nE]; done)) ?_ | refine HLe.pick 1 rfl (by first | rfl | (simp [LB.enc, nE]; done)) ?_ | refine HLe.pick 2 rfl (by first | rfl | (simp [LB.enc, nE]; done)) ?_ | refine HLe.pick 3 rfl (by first | rfl | (simp [LB.enc, nE]; done)) ?_ | refine HLe.pick 4 rfl (by first | rfl | (simp [LB.enc, nE]; done)) ?_ | refine HLe.pick 5 rfl (by first | rfl | (simp [LB.enc, nE]; done)) ?_ | refine HLe.skip _ ?_)
              · try simp only [Bool.or_eq_true, Bool.or_eq_false_iff, Bool.and_eq_true, Bool.and_eq_false_iff, decide_eq_true_eq, decide_eq_false_iff_not, Bool.not_eq_true', Bool.not_eq_false', Int.not_lt, Int.not_le, List.length_map] at hc51
                obtain rfl : i = k := by omega
                have hat : fitAt l g i x := .inr ⟨by rw [hgd]; exact hpts, fun q y hq hy => by rw [hgd]; exact hK q y hq hy⟩
                refine W.exit ?_
                refine W.region ?_
                refine XOps.s rfl rfl rfl (Q.add rfl rfl (wi64 (by first | omega | (dsimp only; omega) | (simp only [List.length_map]; omega)) (by first | omega | (dsimp only; omega) | (simp only [List.length_map]; omega)))) ?_
                refine XOps.s rfl rfl rfl (Q.move_d rfl) ?_
                refine XOps.nil ?_
                refine ⟨i + 1, ?_, ?_, ?_, ?_⟩
                · refine ⟨by omega, fun j z hj hz => ?_⟩
                  rcases Nat.lt_or_ge j i with h | h
                  · exact hI j z h hz
                  · obtain rfl : j = i := by omega
                    rw [hx] at hz; obtain rfl := Option.some.inj hz; exact hat
                · omega
                · exact ⟨by first | rfl | exact int_eq (by omega) | exact len_eq (by simp) | exact int_eq (by simp; done), by first | rfl | exact int_eq (by omega) | exact len_eq (by simp) | exact int_eq (by simp; done), by first | rfl | exact int_eq (by omega) | exact len_eq (by simp) | exact int_eq (by simp; done), by first | rfl | exact int_eq (by omega) | exact len_eq (by simp) | exact int_eq (by simp; done), by first | rfl | exact int_eq (by omega) | exact len_eq (by simp) | exact int_eq (by simp; done), trivial⟩
                · repeat (first | exact HLe.refl _ | refine HLe.cons' (by first | rfl | (simp [LB.enc, nE]; done)) ?_ | refine HLe.pick 1 rfl (by first | rfl | (simp [LB.enc, nE]; done)) ?_ | refine HLe.pick 2 rfl (by first | rfl | (simp [LB.enc, nE]; done)) ?_ | refine HLe.pick 3 rfl (by first | rfl | (simp [LB.enc, nE]; done)) ?_ | refine HLe.pick 4 rfl (by first | rfl | (simp [LB.enc, nE]; done)) ?_ | refine HLe.pick 5 rfl (by first | rfl | (simp [LB.enc, nE]; done)) ?_ | refine HLe.skip _ ?_)
    · try simp only [Bool.or_eq_true, Bool.or_eq_false_iff, Bool.and_eq_true, Bool.and_eq_false_iff, decide_eq_true_eq, decide_eq_false_iff_not, Bool.not_eq_true', Bool.not_eq_false', Int.not_lt, Int.not_le, List.length_map] at hc18
      have hr : fitsS l g = true := by
        classical
        exact decide_eq_true fun j x hj => hI j x (by have := (List.getElem?_eq_some_iff.1 hj).1; omega) hj
      refine W.exit ?_
      refine W.reg ?_
      refine XOps.s rfl rfl rfl (Q.assign_d rfl) ?_
      refine XOps.nil ?_
      refine W.ret ?_
      refine ⟨_, hs, rfl, by repeat (first | exact HLe.refl _ | refine HLe.cons' (by first | rfl | (simp [LB.enc, nE]; done)) ?_ | refine HLe.pick 1 rfl (by first | rfl | (simp [LB.enc, nE]; done)) ?_ | refine HLe.pick 2 rfl (by first | rfl | (simp [LB.enc, nE]; done)) ?_ | refine HLe.pick 3 rfl (by first | rfl | (simp [LB.enc, nE]; done)) ?_ | refine HLe.pick 4 rfl (by first | rfl | (simp [LB.enc, nE]; done)) ?_ | refine HLe.pick 5 rfl (by first | rfl | (simp [LB.enc, nE]; done)) ?_ | refine HLe.skip _ ?_), ?_, rfl⟩
      rw [hr]; rfl

set_option maxHeartbeats 1000000 in
set_option maxRecDepth 100000 in
theorem greedy_own (l : List LB) (hs : Hp) : AC P 13 [.d (.sl 4 (l.map LB.enc))] hs (fun r h => ∃ v, r = .tup [.vs v 0 (grE l).length 1, .d (.int .i64 (checkL l))] ∧ h = (v, .lst 1 ((grE l).map nE)) :: hs) := by
  refine AC.of 54 Try.func13 rfl rfl rfl ?_
  refine W.reg ?_
  refine XOps.s rfl rfl rfl (Q.assign_nilsl rfl) ?_
  refine XOps.s rfl rfl rfl (Q.assign_d rfl) ?_
  refine XOps.nil ?_
  refine W.seq ?_
  refine W.reg ?_
  refine XOps.s rfl rfl rfl (Q.move_d rfl) ?_
  refine XOps.s rfl rfl rfl (Q.call rfl Try.func18 go18 rfl (check_c l _)) ?_
  refine XOps.s rfl rfl rfl (Q.assign_d rfl) ?_
  refine XOps.nil ?_
  refine W.reg ?_
  refine XOps.s rfl rfl rfl (Q.move_d rfl) ?_
  refine XOps.s rfl rfl rfl (Q.neq rfl rfl) ?_
  refine XOps.nil ?_
  refine W.cond rfl (fun hc15 => ?_) (fun hc15 => ?_)
  · try simp only [Bool.or_eq_true, Bool.or_eq_false_iff, Bool.and_eq_true, Bool.and_eq_false_iff, decide_eq_true_eq, decide_eq_false_iff_not, Bool.not_eq_true', Bool.not_eq_false', Int.not_lt, Int.not_le, List.length_map] at hc15
    have hE : grE l = [] := by unfold grE; rw [if_neg (by omega)]
    rw [hE]
    refine W.reg ?_
    refine XOps.s rfl rfl rfl (Q.move_d rfl) ?_
    refine XOps.s rfl rfl rfl (Q.assign_nilsl rfl) ?_
    refine XOps.s rfl rfl rfl (Q.assign_d rfl) ?_
    refine XOps.nil ?_
    refine W.ghost 2 1 (by decide) rfl (by decide) (fun v2 => ?_)
    refine W.ret ?_
    exact ⟨_, (v2, .lst 1 []) :: hs, rfl, HLe.refl _, v2, rfl, rfl⟩
  · try simp only [Bool.or_eq_true, Bool.or_eq_false_iff, Bool.and_eq_true, Bool.and_eq_false_iff, decide_eq_true_eq, decide_eq_false_iff_not, Bool.not_eq_true', Bool.not_eq_false', Int.not_lt, Int.not_le, List.length_map] at hc15
    have hc0 : checkL l = 0 := by omega
    have hE : grE l = (gst l l.length).1 := by unfold grE; rw [if_pos hc0]
    rw [hE, hc0]
    obtain ⟨hln, hl⟩ := checkL_zero hc0
    refine W.skip ?_
    refine W.reg ?_
    refine XOps.s rfl rfl rfl (Q.assign_nilsl rfl) ?_
    refine XOps.nil ?_
    refine W.reg ?_
    refine XOps.s rfl rfl rfl (Q.assign_nilsl rfl) ?_
    refine XOps.nil ?_
    refine W.ghost 5 1 (by decide) rfl (by decide) (fun o => ?_)
    refine W.ghost 6 4 (by decide) rfl (by decide) (fun p => ?_)
    refine W.seq ?_
    refine W.reg ?_
    refine XOps.s rfl rfl rfl (Q.move_d rfl) ?_
    refine XOps.s rfl rfl rfl (Q.len_sl isl29 rfl) ?_
    refine XOps.s rfl rfl rfl (Q.move_d rfl) ?_
    refine XOps.nil ?_
    refine W.block ?_
    refine W.loop (ι := Nat × Nat × Nat) (fun q => [(0, .d (.sl 4 (l.map LB.enc))), (5, .vs q.2.1 0 q.1 1), (6, .vs q.2.2 0 (gst l q.1).2.length 4), (17, .d (.sl 4 (l.map LB.enc))), (18, .d (.int .i64 l.length)), (19, .d (.int .i64 (q.1 : Nat)))]) (fun q => (q.2.2, .lst 4 ((gst l q.1).2.map LB.enc)) :: (q.2.1, .lst 1 ((gst l q.1).1.map nE)) :: hs) (fun q => q.1 ≤ l.length) (fun q => l.length - q.1) (0, o, p) ?_ ?_ ?_ ?_
    · exact Nat.zero_le _
    · exact ⟨by first | rfl | exact int_eq (by omega) | exact len_eq (by simp) | exact int_eq (by simp; done), by first | rfl | exact int_eq (by omega) | exact len_eq (by simp) | exact int_eq (by simp; done), by first | rfl | exact int_eq (by omega) | exact len_eq (by simp) | exact int_eq (by simp; done), by first | rfl | exact int_eq (by omega) | exact len_eq (by simp) | exact int_eq (by simp; done), by first | rfl | exact int_eq (by omega) | exact len_eq (by simp) | exact int_eq (by simp; done), by first | rfl | exact int_eq (by omega) | exact len_eq (by simp) | exact int_eq (by simp; done), trivial⟩
    · exact HLe.refl _
    · rintro ⟨k, o, p⟩ hk
      try dsimp only at hk ⊢
      refine W.reg ?_
      refine XOps.s rfl rfl rfl (Q.lss rfl rfl) ?_
      refine XOps.nil ?_
      refine W.seq ?_
      refine W.cond rfl (fun hc20 => ?_) (fun hc20 => ?_)
      · try simp only [Bool.or_eq_true, Bool.or_eq_false_iff, Bool.and_eq_true, Bool.and_eq_false_iff, decide_eq_true_eq, decide_eq_false_iff_not, Bool.not_eq_true', Bool.not_eq_false', Int.not_lt, Int.not_le, List.length_map] at hc20
        obtain ⟨x, hx⟩ : ∃ x, l[k]? = some x := ⟨_, List.getElem?_eq_getElem (by omega)⟩
        have hxd : l.getD k z4 = x := getD_some' hx
        have hxi := hl x (List.mem_of_getElem? hx)
        have hpo := gst_ok hl (k := k) (by omega)
        have hpl := gst_pl l k
        have hgl := gst_len l k
        refine W.skip ?_
        refine W.seq ?_
        refine W.block ?_
        refine W.reg ?_
        refine XOps.s rfl rfl rfl (Q.idx_sl sl29 (by decide) rfl rfl (by first | omega | (simp only [List.length_map]; omega)) (by first | exact map_at (by assumption) | exact map_at0 (by assumption) | assumption)) ?_
        refine XOps.s rfl rfl rfl (Q.ld_dpn ag31 rfl rfl) ?_
        (refine XOps.loud rfl (L.alloc tz31 rfl rfl) ?_; rintro _ _ ⟨b8, rfl, rfl⟩)
        refine XOps.loud rfl (L.storen (k := 0) ag31 rfl rfl rfl rfl rfl) ?_
        rintro _ _ ⟨rfl, rfl⟩
        refine XOps.nil ?_
        refine W.reg ?_
        refine XOps.s rfl rfl rfl (Q.assign_d rfl) ?_
        refine XOps.nil ?_
        refine W.seq ?_
        refine W.reg ?_
        refine XOps.s rfl rfl rfl (Q.assign_d rfl) ?_
        refine XOps.nil ?_
        refine W.block ?_
        refine W.loop (ι := Nat × Bool × Nat) (fun q => [(0, .d (.sl 4 (l.map LB.enc))), (5, .vs o 0 k 1), (6, .vs q.2.2 0 (cond q.2.1 ((gst l k).2 ++ [boxS x (q.1 : Int)]) (gst l k).2).length 4), (8, .ptr b8 0), (9, .d (.int .i64 (cond q.2.1 (q.1 : Int) (-1)))), (10, .d (.int .i64 (cond q.2.1 ((q.1 : Int) + 1) (q.1 : Int)))), (17, .d (.sl 4 (l.map LB.enc))), (18, .d (.int .i64 l.length)), (19, .d (.int .i64 (k : Nat)))]) (fun q => (b8, .cells (x.enc.map .d)) :: (q.2.2, .lst 4 ((cond q.2.1 ((gst l k).2 ++ [boxS x (q.1 : Int)]) (gst l k).2).map LB.enc)) :: (o, .lst 1 ((gst l k).1.map nE)) :: hs) (fun q => q.1 ≤ 8 ∧ (q.2.1 = false → ∀ i, i < q.1 → okS l (gst l k).2 x i = false) ∧ (q.2.1 = true → q.1 < 8 ∧ okS l (gst l k).2 x q.1 = true ∧ ∀ i, i < q.1 → okS l (gst l k).2 x i = false)) (fun q => cond q.2.1 0 (9 - q.1)) (0, false, p) ?_ ?_ ?_ ?_
        · exact ⟨Nat.zero_le _, fun _ i h => absurd h (Nat.not_lt_zero _), fun h => absurd h (by simp)⟩
        · exact ⟨by first | rfl | exact int_eq (by omega) | exact len_eq (by simp) | exact int_eq (by simp; done), by first | rfl | exact int_eq (by omega) | exact len_eq (by simp) | exact int_eq (by simp; done), by first | rfl | exact int_eq (by omega) | exact len_eq (by simp) | exact int_eq (by simp; done), by first | rfl | exact int_eq (by omega) | exact len_eq (by simp) | exact int_eq (by simp; done), by first | rfl | exact int_eq (by omega) | exact len_eq (by simp) | exact int_eq (by simp; done), by first | rfl | exact int_eq (by omega) | exact len_eq (by simp) | exact int_eq (by simp; done), by first | rfl | exact int_eq (by omega) | exact len_eq (by simp) | exact int_eq (by simp; done), by first | rfl | exact int_eq (by omega) | exact len_eq (by simp) | exact int_eq (by simp; done), by first | rfl | exact int_eq (by omega) | exact len_eq (by simp) | exact int_eq (by simp; done), trivial⟩
        · exact HLe.cons' rfl (HLe.refl _)
        · rintro ⟨j, f, p2⟩ ⟨hj, hF, hT⟩
          try dsimp only at hj hF hT ⊢
          rcases f with _ | _ <;> simp only [cond_true, cond_false]
          · skip
            refine W.seq ?_
            refine W.reg ?_
            refine XOps.s rfl rfl rfl (Q.move_d rfl) ?_
            refine XOps.s rfl rfl rfl (Q.lss rfl rfl) ?_
            refine XOps.s rfl rfl rfl (Q.move_d rfl) ?_
            refine XOps.gs rfl rfl rfl rfl rfl rfl rfl (fun hg => Q.move_d rfl) ?_
            refine XOps.gs rfl rfl rfl rfl rfl rfl rfl (fun hg => Quiet.open 26 hg rfl (Q.lss rfl rfl)) ?_
            refine XOps.s rfl rfl rfl (Q.pick_and rfl rfl rfl (fun h => by first | (rw [h]; rfl) | (rw [hg, h]; rfl) | (simp [h, hg]; done))) ?_
            refine XOps.nil ?_
            refine W.cond rfl (fun hc28 => ?_) (fun hc28 => ?_)
            · try simp only [Bool.or_eq_true, Bool.or_eq_false_iff, Bool.and_eq_true, Bool.and_eq_false_iff, decide_eq_true_eq, decide_eq_false_iff_not, Bool.not_eq_true', Bool.not_eq_false', Int.not_lt, Int.not_le, List.length_map] at hc28
              have hbo := boxS_ok hxi (j : Int)
              refine W.skip ?_
              refine W.seq ?_
              refine W.block ?_
              refine W.reg ?_
              refine XOps.s rfl rfl rfl (Q.ld_ptrn (k := 0) ag31 rfl rfl rfl) ?_
              refine XOps.s rfl rfl rfl (Q.move_d rfl) ?_
              refine XOps.s rfl rfl rfl (Q.call rfl Try.func20 go20 rfl (box_c x (j : Int) _ hxi)) ?_
              (refine XOps.loud rfl (L.alloc tz23 rfl rfl) ?_; rintro _ _ ⟨b11, rfl, rfl⟩)
              refine XOps.loud rfl (L.storen (k := 0) ag23 rfl rfl rfl rfl rfl) ?_
              rintro _ _ ⟨rfl, rfl⟩
              refine XOps.nil ?_
              refine W.reg ?_
              refine XOps.s rfl rfl rfl (Q.ld_ptrn (k := 0) ag23 rfl rfl rfl) ?_
              refine XOps.s rfl rfl rfl (Q.move_d rfl) ?_
              refine XOps.s rfl rfl rfl (Q.call rfl Try.func21 go21 rfl (covers_c (boxS x (j : Int)) l _ hbo hl (by omega))) ?_
              refine XOps.s rfl rfl rfl (Q.not rfl) ?_
              refine XOps.s rfl rfl rfl (Q.move_d rfl) ?_
              refine XOps.gs rfl rfl rfl rfl rfl rfl rfl (fun hg => Q.ld_ptrn (k := 0) ag23 rfl rfl rfl) ?_
              refine XOps.gs rfl rfl rfl rfl rfl rfl rfl (fun hg => Q.move_vs rfl) ?_
              refine XOps.gs rfl rfl rfl rfl rfl rfl rfl (fun hg => Quiet.open 39 hg rfl (Quiet.open 40 hg rfl (Q.bcall rfl Try.func22 go22 rfl (.cons (.b1 (.b0 (.d _))) (.cons (.b1 (.b0 (.vs 2 rfl (by simp)))) .nil)) (free_c (boxS x (j : Int)) (gst l k).2 [] hbo hpo (by omega)) (by simp [OkR, Ok1, D.flat])))) ?_
              refine XOps.s rfl rfl rfl (Q.pick_and rfl rfl rfl (fun h => by first | (rw [h]; rfl) | (rw [hg, h]; rfl) | (simp [h, hg]; done))) ?_
              refine XOps.nil ?_
              refine W.cond rfl (fun hc42 => ?_) (fun hc42 => ?_)
              · try simp only [Bool.or_eq_true, Bool.or_eq_false_iff, Bool.and_eq_true, Bool.and_eq_false_iff, decide_eq_true_eq, decide_eq_false_iff_not, Bool.not_eq_true', Bool.not_eq_false', Int.not_lt, Int.not_le, List.length_map] at hc42
                have hok : okS l (gst l k).2 x j = true := by unfold okS; simpa using hc42
                refine W.reg ?_
                refine XOps.s rfl rfl rfl (Q.move_d rfl) ?_
                refine XOps.s rfl rfl rfl (Q.assign_d rfl) ?_
                refine XOps.nil ?_
                refine W.region ?_
                refine XOps.s rfl rfl rfl (Q.move_vs rfl) ?_
                refine XOps.s rfl rfl rfl (Q.ld_ptrn (k := 0) ag23 rfl rfl rfl) ?_
                refine XOps.s rfl rfl rfl (Q.bsl1n sl45 (by decide) zr45 rfl zrd45 rfl rfl (by decide)) ?_
                (refine XOps.loud rfl (L.app (k := 2) ap45 rfl rfl (by rw [List.length_map]) rfl (by simp; omega) rfl) ?_; rintro _ _ ⟨v47, rfl, rfl⟩)
                refine XOps.s rfl rfl rfl (Q.assign_vs rfl) ?_
                refine XOps.nil ?_
                refine W.region ?_
                refine XOps.s rfl rfl rfl (Q.move_d rfl) ?_
                refine XOps.s rfl rfl rfl (Q.add rfl rfl (wi64 (by first | omega | (dsimp only; omega) | (simp only [List.length_map]; omega)) (by first | omega | (dsimp only; omega) | (simp only [List.length_map]; omega)))) ?_
                refine XOps.s rfl rfl rfl (Q.assign_d rfl) ?_
                refine XOps.nil ?_
                refine ⟨(j, true, v47), ?_, ?_, ?_, ?_⟩
                · exact ⟨by dsimp only; omega, fun h => absurd h (by simp), fun _ => ⟨by dsimp only; omega, hok, hF rfl⟩⟩
                · dsimp only [cond]; omega
                · exact ⟨by first | rfl | exact int_eq (by omega) | exact len_eq (by simp) | exact int_eq (by simp; done), by first | rfl | exact int_eq (by omega) | exact len_eq (by simp) | exact int_eq (by simp; done), by first | rfl | (show AV.vs v47 0 (((gst l k).2.map LB.enc).length + 1) 4 = AV.vs v47 0 ((gst l k).2 ++ [boxS x (j : Int)]).length 4; simp), by first | rfl | exact int_eq (by omega) | exact len_eq (by simp) | exact int_eq (by simp; done), by rfl, by first | rfl | exact int_eq (by dsimp only [cond]; omega), by first | rfl | exact int_eq (by omega) | exact len_eq (by simp) | exact int_eq (by simp; done), by first | rfl | exact int_eq (by omega) | exact len_eq (by simp) | exact int_eq (by simp; done), by first | rfl | exact int_eq (by omega) | exact len_eq (by simp) | exact int_eq (by simp; done), trivial⟩
                · exact HLe.pick 2 rfl rfl (HLe.pick 0 rfl (by dsimp only [cond]; first | (rw [List.map_append]; done) | (rw [List.map_append]; rfl)) (HLe.skip _ (HLe.refl _)))
              · try simp only [Bool.or_eq_true, Bool.or_eq_false_iff, Bool.and_eq_true, Bool.and_eq_false_iff, decide_eq_true_eq, decide_eq_false_iff_not, Bool.not_eq_true', Bool.not_eq_false', Int.not_lt, Int.not_le, List.length_map] at hc42
                have hno : okS l (gst l k).2 x j = false := by
                  unfold okS
                  cases h1 : coversS (boxS x (j : Int)) l with
                  | true => rfl
                  | false => rw [h1] at hc42; simpa using hc42
                refine W.skip ?_
                refine W.region ?_
                refine XOps.s rfl rfl rfl (Q.move_d rfl) ?_
                refine XOps.s rfl rfl rfl (Q.add rfl rfl (wi64 (by first | omega | (dsimp only; omega) | (simp only [List.length_map]; omega)) (by first | omega | (dsimp only; omega) | (simp only [List.length_map]; omega)))) ?_
                refine XOps.s rfl rfl rfl (Q.assign_d rfl) ?_
                refine XOps.nil ?_
                refine ⟨(j + 1, false, p2), ?_, ?_, ?_, ?_⟩
                · exact ⟨by dsimp only; omega, fun _ i hi => by (dsimp only at hi; by_cases h : i = j; (subst h; exact hno); exact hF rfl i (by omega)), fun h => absurd h (by simp)⟩
                · dsimp only [cond]; omega
                · exact ⟨by first | rfl | exact int_eq (by omega) | exact len_eq (by simp) | exact int_eq (by simp; done), by first | rfl | exact int_eq (by omega) | exact len_eq (by simp) | exact int_eq (by simp; done), by first | rfl | (show AV.vs v47 0 (((gst l k).2.map LB.enc).length + 1) 4 = AV.vs v47 0 ((gst l k).2 ++ [boxS x (j : Int)]).length 4; simp), by first | rfl | exact int_eq (by omega) | exact len_eq (by simp) | exact int_eq (by simp; done), by rfl, by first | rfl | exact int_eq (by dsimp only [cond]; omega), by first | rfl | exact int_eq (by omega) | exact len_eq (by simp) | exact int_eq (by simp; done), by first | rfl | exact int_eq (by omega) | exact len_eq (by simp) | exact int_eq (by simp; done), by first | rfl | exact int_eq (by omega) | exact len_eq (by simp) | exact int_eq (by simp; done), trivial⟩
                · exact HLe.skip _ (HLe.refl _)
            · try simp only [Bool.or_eq_true, Bool.or_eq_false_iff, Bool.and_eq_true, Bool.and_eq_false_iff, decide_eq_true_eq, decide_eq_false_iff_not, Bool.not_eq_true', Bool.not_eq_false', Int.not_lt, Int.not_le, List.length_map] at hc28
              obtain rfl : j = 8 := by omega
              refine W.exit ?_
              have hstep : gst l (k + 1) = ((gst l k).1 ++ [(-1 : Int)], (gst l k).2) := by (rw [gst, hxd, first_no (hF rfl)]; rfl)
              refine W.region ?_
              refine XOps.s rfl rfl rfl (Q.move_vs rfl) ?_
              refine XOps.s rfl rfl rfl (Q.move_d rfl) ?_
              refine XOps.s rfl rfl rfl (Q.bsl1 sl32 zr32 rfl zrd32 rfl rfl) ?_
              (refine XOps.loud rfl (L.app (k := 2) ap32 rfl rfl (by rw [List.length_map, gst_len]) rfl (by rw [List.length_map, gst_len]; simp; omega) rfl) ?_; rintro _ _ ⟨v51, rfl, rfl⟩)
              refine XOps.s rfl rfl rfl (Q.assign_vs rfl) ?_
              refine XOps.nil ?_
              refine W.region ?_
              refine XOps.s rfl rfl rfl (Q.add rfl rfl (wi64 (by first | omega | (dsimp only; omega) | (simp only [List.length_map]; omega)) (by first | omega | (dsimp only; omega) | (simp only [List.length_map]; omega)))) ?_
              refine XOps.s rfl rfl rfl (Q.move_d rfl) ?_
              refine XOps.nil ?_
              refine ⟨(k + 1, v51, p2), ?_, ?_, ?_, ?_⟩
              · dsimp only; omega
              · dsimp only; omega
              · exact ⟨by first | rfl | exact int_eq (by omega) | exact len_eq (by simp) | exact int_eq (by simp; done), by (show AV.vs v51 0 (((gst l k).1.map nE).length + 1) 1 = AV.vs v51 0 (k + 1) 1; rw [List.length_map, gst_len]), by (dsimp only; first | (rw [hstep]; done) | (rw [hstep]; rfl)), by first | rfl | exact int_eq (by omega) | exact len_eq (by simp) | exact int_eq (by simp; done), by first | rfl | exact int_eq (by omega) | exact len_eq (by simp) | exact int_eq (by simp; done), by exact int_eq (by dsimp only; omega), trivial⟩
              · exact HLe.pick 2 rfl (by dsimp only; first | (rw [hstep]; done) | (rw [hstep]; rfl)) (HLe.pick 0 rfl (by dsimp only; first | (rw [hstep, List.map_append]; done) | (rw [hstep, List.map_append]; rfl)) (HLe.skip _ (HLe.refl _)))
          · skip
            refine W.seq ?_
            refine W.reg ?_
            refine XOps.s rfl rfl rfl (Q.move_d rfl) ?_
            refine XOps.s rfl rfl rfl (Q.lss rfl rfl) ?_
            refine XOps.s rfl rfl rfl (Q.move_d rfl) ?_
            refine XOps.gs rfl rfl rfl rfl rfl rfl rfl (fun hg => Q.move_d rfl) ?_
            refine XOps.gs rfl rfl rfl rfl rfl rfl rfl (fun hg => Quiet.open 26 hg rfl (Q.lss rfl rfl)) ?_
            refine XOps.s rfl rfl rfl (Q.pick_and rfl rfl rfl (fun h => by first | (rw [h]; rfl) | (rw [hg, h]; rfl) | (simp [h, hg]; done))) ?_
            refine XOps.nil ?_
            refine W.cond_f (by show AV.d (.bool (decide ((j : Int) + 1 < 8) && decide ((j : Int) < 0))) = .d (.bool false); rw [decide_eq_false (show ¬ ((j : Int) < 0) by omega), Bool.and_false]) ?_
            refine W.exit ?_
            have hstep : gst l (k + 1) = ((gst l k).1 ++ [(j : Int)], (gst l k).2 ++ [boxS x (j : Int)]) := by (rw [gst, hxd, first_at (hT rfl).1 (hT rfl).2.1 (hT rfl).2.2, if_neg (by omega)])
            refine W.region ?_
            refine XOps.s rfl rfl rfl (Q.move_vs rfl) ?_
            refine XOps.s rfl rfl rfl (Q.move_d rfl) ?_
            refine XOps.s rfl rfl rfl (Q.bsl1 sl32 zr32 rfl zrd32 rfl rfl) ?_
            (refine XOps.loud rfl (L.app (k := 2) ap32 rfl rfl (by rw [List.length_map, gst_len]) rfl (by rw [List.length_map, gst_len]; simp; omega) rfl) ?_; rintro _ _ ⟨v51, rfl, rfl⟩)
            refine XOps.s rfl rfl rfl (Q.assign_vs rfl) ?_
            refine XOps.nil ?_
            refine W.region ?_
            refine XOps.s rfl rfl rfl (Q.add rfl rfl (wi64 (by first | omega | (dsimp only; omega) | (simp only [List.length_map]; omega)) (by first | omega | (dsimp only; omega) | (simp only [List.length_map]; omega)))) ?_
            refine XOps.s rfl rfl rfl (Q.move_d rfl) ?_
            refine XOps.nil ?_
            refine ⟨(k + 1, v51, p2), ?_, ?_, ?_, ?_⟩
            · dsimp only; omega
            · dsimp only; omega
            · exact ⟨by first | rfl | exact int_eq (by omega) | exact len_eq (by simp) | exact int_eq (by simp; done), by (show AV.vs v51 0 (((gst l k).1.map nE).length + 1) 1 = AV.vs v51 0 (k + 1) 1; rw [List.length_map, gst_len]), by (dsimp only; first | (rw [hstep]; done) | (rw [hstep]; rfl)), by first | rfl | exact int_eq (by omega) | exact len_eq (by simp) | exact int_eq (by simp; done), by first | rfl | exact int_eq (by omega) | exact len_eq (by simp) | exact int_eq (by simp; done), by exact int_eq (by dsimp only; omega), trivial⟩
            · exact HLe.pick 2 rfl (by dsimp only; first | (rw [hstep]; done) | (rw [hstep]; rfl)) (HLe.pick 0 rfl (by dsimp only; first | (rw [hstep, List.map_append]; done) | (rw [hstep, List.map_append]; rfl)) (HLe.skip _ (HLe.refl _)))
      · try simp only [Bool.or_eq_true, Bool.or_eq_false_iff, Bool.and_eq_true, Bool.and_eq_false_iff, decide_eq_true_eq, decide_eq_false_iff_not, Bool.not_eq_true', Bool.not_eq_false', Int.not_lt, Int.not_le, List.length_map] at hc20
        obtain rfl : k = l.length := by omega
        refine W.exit ?_
        refine W.reg ?_
        refine XOps.s rfl rfl rfl (Q.move_vs rfl) ?_
        refine XOps.s rfl rfl rfl (Q.assign_vs rfl) ?_
        refine XOps.s rfl rfl rfl (Q.assign_d rfl) ?_
        refine XOps.nil ?_
        refine W.ret ?_
        exact ⟨_, (o, .lst 1 ((gst l l.length).1.map nE)) :: hs, rfl, HLe.skip _ (HLe.refl _), o, by rw [gst_len]; rfl, rfl⟩

theorem greedy_c (l : List LB) (hs : Hp) : AC P 13 [.d (.sl 4 (l.map LB.enc))] hs (fun r h => r = .tup [.d (slN (grE l)), .d (.int .i64 (checkL l))] ∧ h = hs) :=
  AC.frz2 ((greedy_own l hs).mono fun r h ⟨v, h1, h2⟩ => ⟨v, _, _, h2, h1, .vs (by simp), .same _⟩)

set_option maxHeartbeats 1000000 in
set_option maxRecDepth 100000 in
theorem greedyL_c (l : List LB) (hs : Hp) (hL : l.length ≤ 140737488351232) : AC P 5 [.d (.sl 4 (l.map LB.enc))] hs (fun r _ => r = .d (.bool true)) := by
  refine AC.of 112 Try.func5 rfl rfl rfl ?_
  refine W.reg ?_
  refine XOps.s rfl rfl rfl (Q.assign_d rfl) ?_
  refine XOps.nil ?_
  refine W.reg ?_
  refine XOps.s rfl rfl rfl (Q.move_d rfl) ?_
  refine XOps.s rfl rfl rfl (Q.move_d rfl) ?_
  refine XOps.s rfl rfl rfl (Q.len_sl isl29 rfl) ?_
  refine XOps.s rfl rfl rfl (Q.mini rfl rfl) ?_
  refine XOps.s rfl rfl rfl (Q.cut_slm sl29 rfl rfl rfl (by omega) (by omega) (by simp; omega)) ?_
  refine XOps.s rfl rfl rfl (Q.assign_d rfl) ?_
  refine XOps.nil ?_
  have hcl : ((l.take (min (((l.map LB.enc).length : Nat) : Int) 6).toNat).drop (0 : Int).toNat).length ≤ 6 := by simp; omega
  generalize ((l.take (min (((l.map LB.enc).length : Nat) : Int) 6).toNat).drop (0 : Int).toNat) = c at hcl ⊢
  refine W.reg ?_
  refine XOps.s rfl rfl rfl (Q.move_d rfl) ?_
  refine XOps.s rfl rfl rfl (Q.call rfl Try.func13 go13 rfl (greedy_c c _)) ?_
  refine XOps.s rfl rfl rfl (Q.move_tup rfl) ?_
  refine XOps.s rfl rfl rfl (Q.extract rfl rfl) ?_
  refine XOps.s rfl rfl rfl (Q.extract rfl rfl) ?_
  refine XOps.s rfl rfl rfl (Q.assign_d rfl) ?_
  refine XOps.s rfl rfl rfl (Q.assign_d rfl) ?_
  refine XOps.nil ?_
  refine W.reg ?_
  refine XOps.s rfl rfl rfl (Q.move_d rfl) ?_
  refine XOps.s rfl rfl rfl (Q.call rfl Try.func10 go10 rfl (place_c c _)) ?_
  refine XOps.s rfl rfl rfl (Q.move_tup rfl) ?_
  refine XOps.s rfl rfl rfl (Q.extract rfl rfl) ?_
  refine XOps.s rfl rfl rfl (Q.extract rfl rfl) ?_
  refine XOps.s rfl rfl rfl (Q.assign_d rfl) ?_
  refine XOps.s rfl rfl rfl (Q.assign_d rfl) ?_
  refine XOps.nil ?_
  refine W.seq ?_
  refine W.reg ?_
  refine XOps.s rfl rfl rfl (Q.move_d rfl) ?_
  refine XOps.s rfl rfl rfl (Q.neq rfl rfl) ?_
  refine XOps.nil ?_
  refine W.cond rfl (fun hc28 => ?_) (fun hc28 => ?_)
  · try simp only [Bool.or_eq_true, Bool.or_eq_false_iff, Bool.and_eq_true, Bool.and_eq_false_iff, decide_eq_true_eq, decide_eq_false_iff_not, Bool.not_eq_true', Bool.not_eq_false', Int.not_lt, Int.not_le, List.length_map] at hc28
    have hg : grE c = [] := by unfold grE; rw [if_neg (by omega)]
    have hp := placeL_err (l := c) (by omega)
    rw [hg, hp]
    refine W.reg ?_
    refine XOps.s rfl rfl rfl (Q.call rfl Try.func11 go11 rfl (fact_c _)) ?_
    refine XOps.s rfl rfl rfl (Q.move_d rfl) ?_
    refine XOps.gs rfl rfl rfl rfl rfl rfl rfl (fun hg => Q.move_d rfl) ?_
    refine XOps.gs rfl rfl rfl rfl rfl rfl rfl (fun hg => Q.move_d rfl) ?_
    refine XOps.gs rfl rfl rfl rfl rfl rfl rfl (fun hg => Quiet.open 31 hg rfl (Quiet.open 32 hg rfl (Q.eql rfl rfl))) ?_
    refine XOps.s rfl rfl rfl (Q.pick_and rfl rfl rfl (fun h => by first | (rw [h]; rfl) | (rw [hg, h]; rfl) | (simp [h, hg]; done))) ?_
    refine XOps.s rfl rfl rfl (Q.move_d rfl) ?_
    refine XOps.gs rfl rfl rfl rfl rfl rfl rfl (fun hg => Q.move_d rfl) ?_
    refine XOps.gs rfl rfl rfl rfl rfl rfl rfl (fun hg => Quiet.open 36 hg rfl (Q.len_sl isl32 rfl)) ?_
    refine XOps.gs rfl rfl rfl rfl rfl rfl rfl (fun hg => Q.move_d rfl) ?_
    refine XOps.gs rfl rfl rfl rfl rfl rfl rfl (fun hg => Quiet.open 38 hg rfl (Q.len_sl isl32 rfl)) ?_
    refine XOps.gs rfl rfl rfl rfl rfl rfl rfl (fun hg => Quiet.open 37 hg rfl (Quiet.open 39 hg rfl (Q.add rfl rfl rfl))) ?_
    refine XOps.gs rfl rfl rfl rfl rfl rfl rfl (fun hg => Quiet.open 40 hg rfl (Q.eql rfl rfl)) ?_
    refine XOps.s rfl rfl rfl (Q.pick_and rfl rfl rfl (fun h => by first | (rw [h]; rfl) | (rw [hg, h]; rfl) | (simp [h, hg]; done))) ?_
    refine XOps.s rfl rfl rfl (Q.assign_d rfl) ?_
    refine XOps.nil ?_
    refine W.ret ?_
    (refine ⟨_, hs, rfl, HLe.refl _, bt ?_⟩; show (true && decide (checkL c = checkL c) && decide (IntKind.i64.wrap 0 = 0)) = true; rw [decide_eq_true (rfl : checkL c = checkL c)]; rfl)
  · try simp only [Bool.or_eq_true, Bool.or_eq_false_iff, Bool.and_eq_true, Bool.and_eq_false_iff, decide_eq_true_eq, decide_eq_false_iff_not, Bool.not_eq_true', Bool.not_eq_false', Int.not_lt, Int.not_le, List.length_map] at hc28
    have h0 : checkL c = 0 := by omega
    obtain ⟨hcn, hl⟩ := checkL_zero h0
    have hg : grE c = (gst c c.length).1 := by unfold grE; rw [if_pos h0]
    rw [hg]
    have hgl : (gst c c.length).1.length = c.length := gst_len c _
    have hfit := greedy_fits hl
    refine W.skip ?_
    refine W.seq ?_
    refine W.reg ?_
    refine XOps.s rfl rfl rfl (Q.call rfl Try.func11 go11 rfl (fact_c _)) ?_
    refine XOps.s rfl rfl rfl (Q.not rfl) ?_
    refine XOps.s rfl rfl rfl (Q.move_d rfl) ?_
    refine XOps.gs rfl rfl rfl rfl rfl rfl rfl (fun hg => Q.move_d rfl) ?_
    refine XOps.gs rfl rfl rfl rfl rfl rfl rfl (fun hg => Quiet.open 46 hg rfl (Q.len_sl isl32 rfl)) ?_
    refine XOps.gs rfl rfl rfl rfl rfl rfl rfl (fun hg => Q.move_d rfl) ?_
    refine XOps.gs rfl rfl rfl rfl rfl rfl rfl (fun hg => Quiet.open 48 hg rfl (Q.len_sl isl29 rfl)) ?_
    refine XOps.gs rfl rfl rfl rfl rfl rfl rfl (fun hg => Quiet.open 47 hg rfl (Quiet.open 49 hg rfl (Q.neq rfl rfl))) ?_
    refine XOps.s rfl rfl rfl (Q.pick_or rfl rfl rfl (fun h => by first | (rw [h]; rfl) | (rw [hg, h]; rfl) | (simp [h, hg]; done))) ?_
    refine XOps.s rfl rfl rfl (Q.move_d rfl) ?_
    refine XOps.gs rfl rfl rfl rfl rfl rfl rfl (fun hg => Q.move_d rfl) ?_
    refine XOps.gs rfl rfl rfl rfl rfl rfl rfl (fun hg => Q.move_d rfl) ?_
    refine XOps.gs rfl rfl rfl rfl rfl rfl rfl (fun hg => Quiet.open 53 hg rfl (Quiet.open 54 hg rfl (Q.call rfl Try.func14 go14 rfl (fits_c c (gst c c.length).1 _ hl (by omega) (gst_range c _) (by omega))))) ?_
    refine XOps.gs rfl rfl rfl rfl rfl rfl rfl (fun hg => Quiet.open 55 hg rfl (Q.not rfl)) ?_
    refine XOps.s rfl rfl rfl (Q.pick_or rfl rfl rfl (fun h => by first | (rw [h]; rfl) | (rw [hg, h]; rfl) | (simp [h, hg]; done))) ?_
    refine XOps.nil ?_
    refine W.cond rfl (fun hc57 => ?_) (fun hc57 => ?_)
    · try simp only [Bool.or_eq_true, Bool.or_eq_false_iff, Bool.and_eq_true, Bool.and_eq_false_iff, decide_eq_true_eq, decide_eq_false_iff_not, Bool.not_eq_true', Bool.not_eq_false', Int.not_lt, Int.not_le, List.length_map] at hc57
      exact absurd hc57 (by simp [hgl, hfit])
    · try simp only [Bool.or_eq_true, Bool.or_eq_false_iff, Bool.and_eq_true, Bool.and_eq_false_iff, decide_eq_true_eq, decide_eq_false_iff_not, Bool.not_eq_true', Bool.not_eq_false', Int.not_lt, Int.not_le, List.length_map] at hc57
      refine W.skip ?_
      refine W.seq ?_
      refine W.reg ?_
      refine XOps.s rfl rfl rfl (Q.move_d rfl) ?_
      refine XOps.s rfl rfl rfl (Q.len_sl isl32 rfl) ?_
      refine XOps.s rfl rfl rfl (Q.move_d rfl) ?_
      refine XOps.nil ?_
      refine W.block ?_
      refine W.loop (ι := Nat) (fun k => [(0, .d (.sl 4 (c.map LB.enc))), (3, .d (slN (gst c c.length).1)), (5, .d (slN (placeL c).1)), (6, .d (.int .i64 (placeL c).2)), (58, .d (slN (gst c c.length).1)), (59, .d (.int .i64 (gst c c.length).1.length)), (60, .d (.int .i64 (k : Nat)))]) (fun k => hs) (fun k => k ≤ c.length) (fun k => c.length - k) 0 ?_ ?_ ?_ ?_
      · exact Nat.zero_le _
      · exact ⟨by first | rfl | exact int_eq (by omega) | exact len_eq (by simp) | exact int_eq (by simp; done), by first | rfl | exact int_eq (by omega) | exact len_eq (by simp) | exact int_eq (by simp; done), by first | rfl | exact int_eq (by omega) | exact len_eq (by simp) | exact int_eq (by simp; done), by first | rfl | exact int_eq (by omega) | exact len_eq (by simp) | exact int_eq (by simp; done), by first | rfl | exact int_eq (by omega) | exact len_eq (by simp) | exact int_eq (by simp; done), by first | rfl | exact int_eq (by omega) | exact len_eq (by simp) | exact int_eq (by simp; done), by first | rfl | exact int_eq (by omega) | exact len_eq (by simp) | exact int_eq (by simp; done), trivial⟩
      · exact HLe.refl _
      · rintro k hk
        try dsimp only
        refine W.reg ?_
        refine XOps.s rfl rfl rfl (Q.lss rfl rfl) ?_
        refine XOps.nil ?_
        refine W.seq ?_
        refine W.cond rfl (fun hc61 => ?_) (fun hc61 => ?_)
        · try simp only [Bool.or_eq_true, Bool.or_eq_false_iff, Bool.and_eq_true, Bool.and_eq_false_iff, decide_eq_true_eq, decide_eq_false_iff_not, Bool.not_eq_true', Bool.not_eq_false', Int.not_lt, Int.not_le, List.length_map] at hc61
          obtain ⟨x, hx⟩ : ∃ x, c[k]? = some x := ⟨_, List.getElem?_eq_getElem (by omega)⟩
          obtain ⟨spot, hsp⟩ : ∃ n, (gst c c.length).1[k]? = some n := ⟨_, List.getElem?_eq_getElem (by omega)⟩
          have hsv : spot = gv c k := by
            have h1 := gst_at c hx (show k < c.length by omega)
            rw [getD_some' hsp] at h1
            rw [h1]; unfold gv; rw [getD_some' hx]
          refine W.skip ?_
          refine W.seq ?_
          refine W.block ?_
          refine W.reg ?_
          refine XOps.s rfl rfl rfl (Q.move_d rfl) ?_
          refine XOps.s rfl rfl rfl (Q.idx_sl sl32 (by decide) rfl rfl (by first | omega | (simp only [List.length_map]; omega)) (by first | exact hrow | exact map_at (by assumption) | assumption)) ?_
          refine XOps.s rfl rfl rfl (Q.ld_dp ag3 rfl rfl) ?_
          refine XOps.s rfl rfl rfl (Q.assign_d rfl) ?_
          refine XOps.s rfl rfl rfl (Q.assign_d rfl) ?_
          refine XOps.nil ?_
          refine W.reg ?_
          refine XOps.s rfl rfl rfl (Q.move_d rfl) ?_
          refine XOps.nil ?_
          refine W.block ?_
          refine W.loop (ι := Nat) (fun s => [(0, .d (.sl 4 (c.map LB.enc))), (3, .d (slN (gst c c.length).1)), (5, .d (slN (placeL c).1)), (6, .d (.int .i64 (placeL c).2)), (58, .d (slN (gst c c.length).1)), (59, .d (.int .i64 (gst c c.length).1.length)), (60, .d (.int .i64 (k : Nat))), (7, .d (.int .i64 (k : Nat))), (8, .d (.int .i64 spot)), (65, .d (.int .i64 (s : Nat)))]) (fun s => hs) (fun s => s ≤ 8) (fun s => 8 - s) 0 ?_ ?_ ?_ ?_
          · exact Nat.zero_le _
          · exact ⟨by first | rfl | exact int_eq (by omega) | exact len_eq (by simp) | exact int_eq (by simp; done), by first | rfl | exact int_eq (by omega) | exact len_eq (by simp) | exact int_eq (by simp; done), by first | rfl | exact int_eq (by omega) | exact len_eq (by simp) | exact int_eq (by simp; done), by first | rfl | exact int_eq (by omega) | exact len_eq (by simp) | exact int_eq (by simp; done), by first | rfl | exact int_eq (by omega) | exact len_eq (by simp) | exact int_eq (by simp; done), by first | rfl | exact int_eq (by omega) | exact len_eq (by simp) | exact int_eq (by simp; done), by first | rfl | exact int_eq (by omega) | exact len_eq (by simp) | exact int_eq (by simp; done), by first | rfl | exact int_eq (by omega) | exact len_eq (by simp) | exact int_eq (by simp; done), by first | rfl | exact int_eq (by omega) | exact len_eq (by simp) | exact int_eq (by simp; done), by first | rfl | exact int_eq (by omega) | exact len_eq (by simp) | exact int_eq (by simp; done), trivial⟩
          · exact HLe.refl _
          · rintro s hs8
            try dsimp only
            refine W.reg ?_
            refine XOps.s rfl rfl rfl (Q.lss rfl rfl) ?_
            refine XOps.nil ?_
            refine W.seq ?_
            refine W.cond rfl (fun hc66 => ?_) (fun hc66 => ?_)
            · try simp only [Bool.or_eq_true, Bool.or_eq_false_iff, Bool.and_eq_true, Bool.and_eq_false_iff, decide_eq_true_eq, decide_eq_false_iff_not, Bool.not_eq_true', Bool.not_eq_false', Int.not_lt, Int.not_le, List.length_map] at hc66
              have hlt : ((gst c c.length).1.take (k + 1)).length = k + 1 := by simp; omega
              have hrow : (((gst c c.length).1.take (k + 1)).map nE)[0 + ((k : Nat) : Int).toNat]? = some (nE spot) := map_at0 (by rw [List.getElem?_take, if_pos (by omega)]; exact hsp)
              have hset : ∀ n ∈ (((gst c c.length).1.take (k + 1)).set k (s : Int)), n ≤ 7 := fun n hn => by
                rcases List.mem_or_eq_of_mem_set hn with h | h
                · exact gst_range c _ n (List.mem_of_mem_take h)
                · omega
              refine W.skip ?_
              refine W.seq ?_
              refine W.block ?_
              refine W.reg ?_
              refine XOps.s rfl rfl rfl (Q.move_d rfl) ?_
              refine XOps.s rfl rfl rfl (Q.assign_d rfl) ?_
              refine XOps.nil ?_
              refine W.reg ?_
              refine XOps.s rfl rfl rfl (Q.move_d rfl) ?_
              refine XOps.s rfl rfl rfl (Q.move_d rfl) ?_
              refine XOps.s rfl rfl rfl (Q.add rfl rfl (wi64 (by first | omega | (dsimp only; omega) | (simp only [List.length_map]; omega)) (by first | omega | (dsimp only; omega) | (simp only [List.length_map]; omega)))) ?_
              refine XOps.s rfl rfl rfl (Q.cut_slm sl32 rfl rfl rfl (by first | omega | (simp only [List.length_map]; omega)) (by first | omega | (simp only [List.length_map]; omega)) (by first | omega | (simp only [List.length_map]; omega))) ?_
              (refine XOps.loud rfl (L.call rfl Try.func15 go15 rfl (cloneN_c ((gst c c.length).1.take (k + 1)) hs (by simp; omega)) rfl) ?_; rintro _ _ ⟨_, rfl, v, rfl, rfl⟩)
              refine XOps.s rfl rfl rfl (Q.assign_vs rfl) ?_
              refine XOps.nil ?_
              refine W.reg ?_
              refine XOps.s rfl rfl rfl (Q.move_vs rfl) ?_
              refine XOps.s rfl rfl rfl (Q.move_d rfl) ?_
              refine XOps.s rfl rfl rfl (Q.move_d rfl) ?_
              refine XOps.s rfl rfl rfl (Q.idx_vs (kk := 0) sl32 rfl rfl rfl (by omega) (by first | omega | (dsimp only; omega))) ?_
              refine XOps.loud rfl (L.store_ep (k := 0) ag3 rfl rfl (by first | exact hrow | exact map_at (by assumption) | assumption) rfl rfl rfl) ?_
              rintro _ _ ⟨rfl, rfl⟩
              refine XOps.nil ?_
              refine W.heap ((v, .lst 1 ((((gst c c.length).1.take (k + 1)).set k (s : Int)).map nE)) :: hs) (HLe.cons' (congrArg (HO.lst 1) (by rw [List.map_set]; simp [nE])) (HLe.refl _)) ?_
              refine W.freeze 10 0 rfl rfl (by simp) ?_
              refine W.reg ?_
              refine XOps.s rfl rfl rfl (Q.move_d rfl) ?_
              refine XOps.s rfl rfl rfl (Q.move_d rfl) ?_
              refine XOps.s rfl rfl rfl (Q.add rfl rfl (wi64 (by first | omega | (dsimp only; omega) | (simp only [List.length_map]; omega)) (by first | omega | (dsimp only; omega) | (simp only [List.length_map]; omega)))) ?_
              refine XOps.s rfl rfl rfl (Q.cut_slm sl29 rfl rfl rfl (by first | omega | (simp only [List.length_map]; omega)) (by first | omega | (simp only [List.length_map]; omega)) (by first | omega | (simp only [List.length_map]; omega))) ?_
              refine XOps.s rfl rfl rfl (Q.move_d rfl) ?_
              refine XOps.s rfl rfl rfl (Q.call rfl Try.func14 go14 rfl (fits_c (c.take (k + 1)) (((gst c c.length).1.take (k + 1)).set k (s : Int)) _ (fun x hx => hl x (List.mem_of_mem_take hx)) (by simp; omega) hset (by simp; omega))) ?_
              refine XOps.s rfl rfl rfl (Q.move_d rfl) ?_
              refine XOps.gs rfl rfl rfl rfl rfl rfl rfl (fun hg => Q.move_d rfl) ?_
              refine XOps.gs rfl rfl rfl rfl rfl rfl rfl (fun hg => Q.move_d rfl) ?_
              refine XOps.gs rfl rfl rfl rfl rfl rfl rfl (fun hg => Q.move_d rfl) ?_
              refine XOps.gs rfl rfl rfl rfl rfl rfl rfl (fun hg => Quiet.open 84 hg rfl (Quiet.open 85 hg rfl (Quiet.open 86 hg rfl (Q.call rfl Try.func16 go16 rfl (outside_c c x k (s : Int) _ hx (hl x (List.mem_of_getElem? hx)) (by omega) (by omega) (by omega)))))) ?_
              refine XOps.s rfl rfl rfl (Q.pick_and rfl rfl rfl (fun h => by first | (rw [h]; rfl) | (rw [hg, h]; rfl) | (simp [h, hg]; done))) ?_
              refine XOps.s rfl rfl rfl (Q.assign_d rfl) ?_
              refine XOps.nil ?_
              refine W.reg ?_
              refine XOps.s rfl rfl rfl (Q.move_d rfl) ?_
              refine XOps.s rfl rfl rfl (Q.move_d rfl) ?_
              refine XOps.gs rfl rfl rfl rfl rfl rfl rfl (fun hg => Q.move_d rfl) ?_
              refine XOps.gs rfl rfl rfl rfl rfl rfl rfl (fun hg => Quiet.open 91 hg rfl (Q.lss rfl rfl)) ?_
              refine XOps.gs rfl rfl rfl rfl rfl rfl rfl (fun hg => Quiet.open 92 hg rfl (Q.move_d rfl)) ?_
              refine XOps.gsw rfl rfl rfl rfl rfl rfl rfl (fun hg => Q.move_d rfl) ?_
              refine XOps.gsw rfl rfl rfl rfl rfl rfl rfl (fun hg => Q.move_d rfl) ?_
              refine XOps.gsw rfl rfl rfl rfl rfl rfl rfl (fun hg => Quiet.open 94 hg rfl (Quiet.open 95 hg rfl (Q.lss rfl rfl))) ?_
              refine XOps.gs rfl rfl rfl rfl rfl rfl rfl (fun hg => Quiet.open 93 hg rfl (Q.pick_or rfl rfl rfl (fun h => by first | (rw [h]; rfl) | (rw [hg, h]; rfl) | (simp [h, hg]; done)))) ?_
              refine XOps.s rfl rfl rfl (Q.pick_and rfl rfl rfl (fun h => by first | (rw [h]; rfl) | (rw [hg, h]; rfl) | (simp [h, hg]; done))) ?_
              refine XOps.nil ?_
              refine W.cond rfl (fun hc98 => ?_) (fun hc98 => ?_)
              · try simp only [Bool.or_eq_true, Bool.or_eq_false_iff, Bool.and_eq_true, Bool.and_eq_false_iff, decide_eq_true_eq, decide_eq_false_iff_not, Bool.not_eq_true', Bool.not_eq_false', Int.not_lt, Int.not_le, List.length_map] at hc98
                exfalso
                obtain ⟨⟨h1, h2⟩, h3⟩ := hc98
                have h4 := greedy_first hl hx (show s < 8 by omega) h1 h2
                omega
                --done
              · try simp only [Bool.or_eq_true, Bool.or_eq_false_iff, Bool.and_eq_true, Bool.and_eq_false_iff, decide_eq_true_eq, decide_eq_false_iff_not, Bool.not_eq_true', Bool.not_eq_false', Int.not_lt, Int.not_le, List.length_map] at hc98
                refine W.skip ?_
                refine W.region ?_
                refine XOps.s rfl rfl rfl (Q.add rfl rfl (wi64 (by first | omega | (dsimp only; omega) | (simp only [List.length_map]; omega)) (by first | omega | (dsimp only; omega) | (simp only [List.length_map]; omega)))) ?_
                refine XOps.s rfl rfl rfl (Q.move_d rfl) ?_
                refine XOps.nil ?_
                refine ⟨s + 1, ?_, ?_, ?_, ?_⟩
                · omega
                · omega
                · exact ⟨by first | rfl | exact int_eq (by omega) | exact len_eq (by simp) | exact int_eq (by simp; done), by first | rfl | exact int_eq (by omega) | exact len_eq (by simp) | exact int_eq (by simp; done), by first | rfl | exact int_eq (by omega) | exact len_eq (by simp) | exact int_eq (by simp; done), by first | rfl | exact int_eq (by omega) | exact len_eq (by simp) | exact int_eq (by simp; done), by first | rfl | exact int_eq (by omega) | exact len_eq (by simp) | exact int_eq (by simp; done), by first | rfl | exact int_eq (by omega) | exact len_eq (by simp) | exact int_eq (by simp; done), by first | rfl | exact int_eq (by omega) | exact len_eq (by simp) | exact int_eq (by simp; done), by first | rfl | exact int_eq (by omega) | exact len_eq (by simp) | exact int_eq (by simp; done), by first | rfl | exact int_eq (by omega) | exact len_eq (by simp) | exact int_eq (by simp; done), by first | rfl | exact int_eq (by omega) | exact len_eq (by simp) | exact int_eq (by simp; done), trivial⟩
                · exact HLe.refl _
            · try simp only [Bool.or_eq_true, Bool.or_eq_false_iff, Bool.and_eq_true, Bool.and_eq_false_iff, decide_eq_true_eq, decide_eq_false_iff_not, Bool.not_eq_true', Bool.not_eq_false', Int.not_lt, Int.not_le, List.length_map] at hc66
              refine W.exit ?_
              refine W.region ?_
              refine XOps.s rfl rfl rfl (Q.add rfl rfl (wi64 (by first | omega | (dsimp only; omega) | (simp only [List.length_map]; omega)) (by first | omega | (dsimp only; omega) | (simp only [List.length_map]; omega)))) ?_
              refine XOps.s rfl rfl rfl (Q.move_d rfl) ?_
              refine XOps.nil ?_
              refine ⟨k + 1, ?_, ?_, ?_, ?_⟩
              · omega
              · omega
              · exact ⟨by first | rfl | exact int_eq (by omega) | exact len_eq (by simp) | exact int_eq (by simp; done), by first | rfl | exact int_eq (by omega) | exact len_eq (by simp) | exact int_eq (by simp; done), by first | rfl | exact int_eq (by omega) | exact len_eq (by simp) | exact int_eq (by simp; done), by first | rfl | exact int_eq (by omega) | exact len_eq (by simp) | exact int_eq (by simp; done), by first | rfl | exact int_eq (by omega) | exact len_eq (by simp) | exact int_eq (by simp; done), by first | rfl | exact int_eq (by omega) | exact len_eq (by simp) | exact int_eq (by simp; done), by first | rfl | exact int_eq (by omega) | exact len_eq (by simp) | exact int_eq (by simp; done), trivial⟩
              · exact HLe.refl _
        · try simp only [Bool.or_eq_true, Bool.or_eq_false_iff, Bool.and_eq_true, Bool.and_eq_false_iff, decide_eq_true_eq, decide_eq_false_iff_not, Bool.not_eq_true', Bool.not_eq_false', Int.not_lt, Int.not_le, List.length_map] at hc61
          refine W.exit ?_
          refine W.reg ?_
          refine XOps.s rfl rfl rfl (Q.move_d rfl) ?_
          refine XOps.s rfl rfl rfl (Q.call rfl Try.func17 go17 rfl (containsN_c (gst c c.length).1 (-1) _ (by omega))) ?_
          refine XOps.s rfl rfl rfl (Q.move_d rfl) ?_
          refine XOps.gs rfl rfl rfl rfl rfl rfl rfl (fun hg => Q.move_d rfl) ?_
          refine XOps.gs rfl rfl rfl rfl rfl rfl rfl (fun hg => Quiet.open 104 hg rfl (Q.eql rfl rfl)) ?_
          refine XOps.gs rfl rfl rfl rfl rfl rfl rfl (fun hg => Quiet.open 105 hg rfl (Q.move_d rfl)) ?_
          refine XOps.gsw rfl rfl rfl rfl rfl rfl rfl (fun hg => Q.move_d rfl) ?_
          refine XOps.gsw rfl rfl rfl rfl rfl rfl rfl (fun hg => Q.move_d rfl) ?_
          refine XOps.gsw rfl rfl rfl rfl rfl rfl rfl (fun hg => Quiet.open 107 hg rfl (Quiet.open 108 hg rfl (Q.call rfl Try.func12 go12 rfl (equalN_c (gst c c.length).1 (placeL c).1 _ (by omega))))) ?_
          refine XOps.gs rfl rfl rfl rfl rfl rfl rfl (fun hg => Quiet.open 106 hg rfl (Q.pick_and rfl rfl rfl (fun h => by first | (rw [h]; rfl) | (rw [hg, h]; rfl) | (simp [h, hg]; done)))) ?_
          refine XOps.s rfl rfl rfl (Q.pick_or rfl rfl rfl (fun h => by first | (rw [h]; rfl) | (rw [hg, h]; rfl) | (simp [h, hg]; done))) ?_
          refine XOps.s rfl rfl rfl (Q.assign_d rfl) ?_
          refine XOps.nil ?_
          refine W.ret ?_
          (refine ⟨_, hs, rfl, HLe.refl _, bt ?_⟩; have he := greedy_end h0 hcl; rw [show (fun n : Int => decide (n = -1)) = (fun n : Int => decide (-1 = n)) from funext fun n => decide_eq_decide.2 eq_comm] at he; exact he)
end Go.Proofs.YtgfmogfjemigmaaA
