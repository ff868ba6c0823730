/- R.Cut, library functions, sender, Check and vectors of package clock. -/
import Derived.Test.YtjmadiegikbjpaaBase
import Derived.Test.YtjmadiegikbjpaaSpec
import Derived.Test.YtjmadiegikbjpaaAbs13
set_option linter.unusedVariables false
set_option linter.unusedSimpArgs false
set_option linter.unnecessarySimpa false
namespace Go.Proofs.YtjmadiegikbjpaaA.FWalkA
open Go
theorem ag26 : tAgg P 26 = some ((true, 3)) := by kernel_rfl
theorem ag3 : tAgg P 3 = some ((false, 1)) := by kernel_rfl
theorem fl26_0 : tFld P 26 0 = some (0) := by kernel_rfl
theorem fl26_1 : tFld P 26 1 = some (1) := by kernel_rfl
theorem fl26_2 : tFld P 26 2 = some (2) := by kernel_rfl
theorem go22 : callGo Go.Proofs.Try.f22 = true := by kernel_rfl
theorem go29 : callGo Go.Proofs.Try.f29 = true := by kernel_rfl
theorem go30 : callGo Go.Proofs.Try.f30 = true := by kernel_rfl
theorem isl23 : isSl P 23 = true := by kernel_rfl
theorem sl23 : tSl P 23 = some (3) := by kernel_rfl
theorem tz26 : tZero P 26 = some ([.int .i64 0, .int .i64 0, .int .i64 0]) := by kernel_rfl
end Go.Proofs.YtjmadiegikbjpaaA.FWalkA
namespace Go.Proofs.YtjmadiegikbjpaaA
open Go FWalkA
set_option maxHeartbeats 1000000 in
set_option maxRecDepth 100000 in
theorem cut_c (n lo hi : Int) (hs : Hp) (h0 : -1000000000000 ≤ lo) (h1 : lo ≤ hi) (h2 : hi ≤ 1000000000000) : AC P 8 [.d (.int .i64 n), .d (.int .i64 lo), .d (.int .i64 hi)] hs (fun r h => r = .d (.int .i64 (cutI n lo hi)) ∧ h = hs) := by
  refine AC.of 23 Try.func8 rfl rfl rfl ?_
  refine W.reg ?_
  first
    | refine XOps.s rfl rfl rfl (Q.assign_d rfl) ?_
    | refine XOps.s rfl rfl rfl (Q.assign_vs rfl) ?_
    | refine XOps.s rfl rfl rfl (Q.assign_ptr rfl) ?_
    | refine XOps.s rfl rfl rfl (Q.assign_nilsl rfl) ?_
    | refine XOps.s rfl rfl rfl (Q.assign_fn rfl) ?_
    | refine XOps.s rfl rfl rfl (Q.assign_tup rfl) ?_
    | refine XOps.s rfl rfl rfl (Q.assign_ep rfl) ?_
    | refine XOps.s rfl rfl rfl (Q.assign_dp rfl) ?_
    | refine XOps.s rfl rfl rfl (Q.assign_dcut rfl) ?_
    | refine XOps.s rfl rfl rfl (Q.assign_aggv rfl) ?_
    | refine XOps.s rfl rfl rfl (Q.assign rfl) ?_
  refine XOps.nil ?_
  refine W.reg ?_
  first
    | refine XOps.s rfl rfl rfl (Q.move_d rfl) ?_
    | refine XOps.s rfl rfl rfl (Q.move_vs rfl) ?_
    | refine XOps.s rfl rfl rfl (Q.move_ptr rfl) ?_
    | refine XOps.s rfl rfl rfl (Q.move_nilsl rfl) ?_
    | refine XOps.s rfl rfl rfl (Q.move_fn rfl) ?_
    | refine XOps.s rfl rfl rfl (Q.move_tup rfl) ?_
    | refine XOps.s rfl rfl rfl (Q.move_ep rfl) ?_
    | refine XOps.s rfl rfl rfl (Q.move_dp rfl) ?_
    | refine XOps.s rfl rfl rfl (Q.move_dcut rfl) ?_
    | refine XOps.s rfl rfl rfl (Q.move_aggv rfl) ?_
    | refine XOps.s rfl rfl rfl (Q.move rfl) ?_
  first
    | refine XOps.s rfl rfl rfl (Q.move_d rfl) ?_
    | refine XOps.s rfl rfl rfl (Q.move_vs rfl) ?_
    | refine XOps.s rfl rfl rfl (Q.move_ptr rfl) ?_
    | refine XOps.s rfl rfl rfl (Q.move_nilsl rfl) ?_
    | refine XOps.s rfl rfl rfl (Q.move_fn rfl) ?_
    | refine XOps.s rfl rfl rfl (Q.move_tup rfl) ?_
    | refine XOps.s rfl rfl rfl (Q.move_ep rfl) ?_
    | refine XOps.s rfl rfl rfl (Q.move_dp rfl) ?_
    | refine XOps.s rfl rfl rfl (Q.move_dcut rfl) ?_
    | refine XOps.s rfl rfl rfl (Q.move_aggv rfl) ?_
    | refine XOps.s rfl rfl rfl (Q.move rfl) ?_
  first
    | refine XOps.s rfl rfl rfl (Q.sub rfl rfl (wi64 (by first | omega | (dsimp only; omega) | (simp only [List.length_map]; omega)) (by first | omega | (dsimp only; omega) | (simp only [List.length_map]; omega)))) ?_
    | refine XOps.s rfl rfl rfl (Q.sub rfl rfl rfl) ?_
  first
    | refine XOps.s rfl rfl rfl (Q.add rfl rfl (wi64 (by first | omega | (dsimp only; omega) | (simp only [List.length_map]; omega)) (by first | omega | (dsimp only; omega) | (simp only [List.length_map]; omega)))) ?_
    | refine XOps.s rfl rfl rfl (Q.add rfl rfl rfl) ?_
    | refine XOps.s rfl rfl rfl (Q.adds rfl rfl (by first | omega | (simp at hg; omega))) ?_
  first
    | refine XOps.s rfl rfl rfl (Q.assign_d rfl) ?_
    | refine XOps.s rfl rfl rfl (Q.assign_vs rfl) ?_
    | refine XOps.s rfl rfl rfl (Q.assign_ptr rfl) ?_
    | refine XOps.s rfl rfl rfl (Q.assign_nilsl rfl) ?_
    | refine XOps.s rfl rfl rfl (Q.assign_fn rfl) ?_
    | refine XOps.s rfl rfl rfl (Q.assign_tup rfl) ?_
    | refine XOps.s rfl rfl rfl (Q.assign_ep rfl) ?_
    | refine XOps.s rfl rfl rfl (Q.assign_dp rfl) ?_
    | refine XOps.s rfl rfl rfl (Q.assign_dcut rfl) ?_
    | refine XOps.s rfl rfl rfl (Q.assign_aggv rfl) ?_
    | refine XOps.s rfl rfl rfl (Q.assign rfl) ?_
  refine XOps.nil ?_
  refine W.reg ?_
  first
    | refine XOps.s rfl rfl rfl (Q.move_d rfl) ?_
    | refine XOps.s rfl rfl rfl (Q.move_vs rfl) ?_
    | refine XOps.s rfl rfl rfl (Q.move_ptr rfl) ?_
    | refine XOps.s rfl rfl rfl (Q.move_nilsl rfl) ?_
    | refine XOps.s rfl rfl rfl (Q.move_fn rfl) ?_
    | refine XOps.s rfl rfl rfl (Q.move_tup rfl) ?_
    | refine XOps.s rfl rfl rfl (Q.move_ep rfl) ?_
    | refine XOps.s rfl rfl rfl (Q.move_dp rfl) ?_
    | refine XOps.s rfl rfl rfl (Q.move_dcut rfl) ?_
    | refine XOps.s rfl rfl rfl (Q.move_aggv rfl) ?_
    | refine XOps.s rfl rfl rfl (Q.move rfl) ?_
  first
    | refine XOps.s rfl rfl rfl (Q.move_d rfl) ?_
    | refine XOps.s rfl rfl rfl (Q.move_vs rfl) ?_
    | refine XOps.s rfl rfl rfl (Q.move_ptr rfl) ?_
    | refine XOps.s rfl rfl rfl (Q.move_nilsl rfl) ?_
    | refine XOps.s rfl rfl rfl (Q.move_fn rfl) ?_
    | refine XOps.s rfl rfl rfl (Q.move_tup rfl) ?_
    | refine XOps.s rfl rfl rfl (Q.move_ep rfl) ?_
    | refine XOps.s rfl rfl rfl (Q.move_dp rfl) ?_
    | refine XOps.s rfl rfl rfl (Q.move_dcut rfl) ?_
    | refine XOps.s rfl rfl rfl (Q.move_aggv rfl) ?_
    | refine XOps.s rfl rfl rfl (Q.move rfl) ?_
  refine XOps.s rfl rfl rfl (Q.rem rfl rfl (by omega) rfl) ?_
  first
    | refine XOps.s rfl rfl rfl (Q.assign_d rfl) ?_
    | refine XOps.s rfl rfl rfl (Q.assign_vs rfl) ?_
    | refine XOps.s rfl rfl rfl (Q.assign_ptr rfl) ?_
    | refine XOps.s rfl rfl rfl (Q.assign_nilsl rfl) ?_
    | refine XOps.s rfl rfl rfl (Q.assign_fn rfl) ?_
    | refine XOps.s rfl rfl rfl (Q.assign_tup rfl) ?_
    | refine XOps.s rfl rfl rfl (Q.assign_ep rfl) ?_
    | refine XOps.s rfl rfl rfl (Q.assign_dp rfl) ?_
    | refine XOps.s rfl rfl rfl (Q.assign_dcut rfl) ?_
    | refine XOps.s rfl rfl rfl (Q.assign_aggv rfl) ?_
    | refine XOps.s rfl rfl rfl (Q.assign rfl) ?_
  refine XOps.nil ?_
  refine W.seq ?_
  have hm := cut_mod (n := n) (m := hi - lo + 1) (by omega) rfl
  have hm0 := Int.emod_nonneg n (by omega : hi - lo + 1 ≠ 0)
  have hm1 := Int.emod_lt_of_pos n (by omega : 0 < hi - lo + 1)
  generalize hT : n.tmod (hi - lo + 1) = t at hm ⊢
  refine W.reg ?_
  first
    | refine XOps.s rfl rfl rfl (Q.move_d rfl) ?_
    | refine XOps.s rfl rfl rfl (Q.move_vs rfl) ?_
    | refine XOps.s rfl rfl rfl (Q.move_ptr rfl) ?_
    | refine XOps.s rfl rfl rfl (Q.move_nilsl rfl) ?_
    | refine XOps.s rfl rfl rfl (Q.move_fn rfl) ?_
    | refine XOps.s rfl rfl rfl (Q.move_tup rfl) ?_
    | refine XOps.s rfl rfl rfl (Q.move_ep rfl) ?_
    | refine XOps.s rfl rfl rfl (Q.move_dp rfl) ?_
    | refine XOps.s rfl rfl rfl (Q.move_dcut rfl) ?_
    | refine XOps.s rfl rfl rfl (Q.move_aggv rfl) ?_
    | refine XOps.s rfl rfl rfl (Q.move rfl) ?_
  first
    | refine XOps.s rfl rfl rfl (Q.lss rfl rfl) ?_
    | refine XOps.s rfl rfl rfl (Q.lss_str rfl rfl) ?_
  refine XOps.nil ?_
  refine W.cond rfl (fun hc16 => ?_) (fun hc16 => ?_)
  · try simp only [Bool.or_eq_true, Bool.or_eq_false_iff, Bool.and_eq_true, Bool.and_eq_false_iff, decide_eq_true_eq, decide_eq_false_iff_not, Bool.not_eq_true', Bool.not_eq_false', Int.not_lt, Int.not_le, List.length_map] at hc16
    rw [if_pos hc16] at hm
    refine W.region ?_
    first
      | refine XOps.s rfl rfl rfl (Q.move_d rfl) ?_
      | refine XOps.s rfl rfl rfl (Q.move_vs rfl) ?_
      | refine XOps.s rfl rfl rfl (Q.move_ptr rfl) ?_
      | refine XOps.s rfl rfl rfl (Q.move_nilsl rfl) ?_
      | refine XOps.s rfl rfl rfl (Q.move_fn rfl) ?_
      | refine XOps.s rfl rfl rfl (Q.move_tup rfl) ?_
      | refine XOps.s rfl rfl rfl (Q.move_ep rfl) ?_
      | refine XOps.s rfl rfl rfl (Q.move_dp rfl) ?_
      | refine XOps.s rfl rfl rfl (Q.move_dcut rfl) ?_
      | refine XOps.s rfl rfl rfl (Q.move_aggv rfl) ?_
      | refine XOps.s rfl rfl rfl (Q.move rfl) ?_
    first
      | refine XOps.s rfl rfl rfl (Q.move_d rfl) ?_
      | refine XOps.s rfl rfl rfl (Q.move_vs rfl) ?_
      | refine XOps.s rfl rfl rfl (Q.move_ptr rfl) ?_
      | refine XOps.s rfl rfl rfl (Q.move_nilsl rfl) ?_
      | refine XOps.s rfl rfl rfl (Q.move_fn rfl) ?_
      | refine XOps.s rfl rfl rfl (Q.move_tup rfl) ?_
      | refine XOps.s rfl rfl rfl (Q.move_ep rfl) ?_
      | refine XOps.s rfl rfl rfl (Q.move_dp rfl) ?_
      | refine XOps.s rfl rfl rfl (Q.move_dcut rfl) ?_
      | refine XOps.s rfl rfl rfl (Q.move_aggv rfl) ?_
      | refine XOps.s rfl rfl rfl (Q.move rfl) ?_
    first
      | refine XOps.s rfl rfl rfl (Q.add rfl rfl (wi64 (by first | omega | (dsimp only; omega) | (simp only [List.length_map]; omega)) (by first | omega | (dsimp only; omega) | (simp only [List.length_map]; omega)))) ?_
      | refine XOps.s rfl rfl rfl (Q.add rfl rfl rfl) ?_
      | refine XOps.s rfl rfl rfl (Q.adds rfl rfl (by first | omega | (simp at hg; omega))) ?_
    first
      | refine XOps.s rfl rfl rfl (Q.assign_d rfl) ?_
      | refine XOps.s rfl rfl rfl (Q.assign_vs rfl) ?_
      | refine XOps.s rfl rfl rfl (Q.assign_ptr rfl) ?_
      | refine XOps.s rfl rfl rfl (Q.assign_nilsl rfl) ?_
      | refine XOps.s rfl rfl rfl (Q.assign_fn rfl) ?_
      | refine XOps.s rfl rfl rfl (Q.assign_tup rfl) ?_
      | refine XOps.s rfl rfl rfl (Q.assign_ep rfl) ?_
      | refine XOps.s rfl rfl rfl (Q.assign_dp rfl) ?_
      | refine XOps.s rfl rfl rfl (Q.assign_dcut rfl) ?_
      | refine XOps.s rfl rfl rfl (Q.assign_aggv rfl) ?_
      | refine XOps.s rfl rfl rfl (Q.assign rfl) ?_
    refine XOps.nil ?_
    refine W.reg ?_
    first
      | refine XOps.s rfl rfl rfl (Q.move_d rfl) ?_
      | refine XOps.s rfl rfl rfl (Q.move_vs rfl) ?_
      | refine XOps.s rfl rfl rfl (Q.move_ptr rfl) ?_
      | refine XOps.s rfl rfl rfl (Q.move_nilsl rfl) ?_
      | refine XOps.s rfl rfl rfl (Q.move_fn rfl) ?_
      | refine XOps.s rfl rfl rfl (Q.move_tup rfl) ?_
      | refine XOps.s rfl rfl rfl (Q.move_ep rfl) ?_
      | refine XOps.s rfl rfl rfl (Q.move_dp rfl) ?_
      | refine XOps.s rfl rfl rfl (Q.move_dcut rfl) ?_
      | refine XOps.s rfl rfl rfl (Q.move_aggv rfl) ?_
      | refine XOps.s rfl rfl rfl (Q.move rfl) ?_
    first
      | refine XOps.s rfl rfl rfl (Q.move_d rfl) ?_
      | refine XOps.s rfl rfl rfl (Q.move_vs rfl) ?_
      | refine XOps.s rfl rfl rfl (Q.move_ptr rfl) ?_
      | refine XOps.s rfl rfl rfl (Q.move_nilsl rfl) ?_
      | refine XOps.s rfl rfl rfl (Q.move_fn rfl) ?_
      | refine XOps.s rfl rfl rfl (Q.move_tup rfl) ?_
      | refine XOps.s rfl rfl rfl (Q.move_ep rfl) ?_
      | refine XOps.s rfl rfl rfl (Q.move_dp rfl) ?_
      | refine XOps.s rfl rfl rfl (Q.move_dcut rfl) ?_
      | refine XOps.s rfl rfl rfl (Q.move_aggv rfl) ?_
      | refine XOps.s rfl rfl rfl (Q.move rfl) ?_
    first
      | refine XOps.s rfl rfl rfl (Q.add rfl rfl (wi64 (by first | omega | (dsimp only; omega) | (simp only [List.length_map]; omega)) (by first | omega | (dsimp only; omega) | (simp only [List.length_map]; omega)))) ?_
      | refine XOps.s rfl rfl rfl (Q.add rfl rfl rfl) ?_
      | refine XOps.s rfl rfl rfl (Q.adds rfl rfl (by first | omega | (simp at hg; omega))) ?_
    first
      | refine XOps.s rfl rfl rfl (Q.assign_d rfl) ?_
      | refine XOps.s rfl rfl rfl (Q.assign_vs rfl) ?_
      | refine XOps.s rfl rfl rfl (Q.assign_ptr rfl) ?_
      | refine XOps.s rfl rfl rfl (Q.assign_nilsl rfl) ?_
      | refine XOps.s rfl rfl rfl (Q.assign_fn rfl) ?_
      | refine XOps.s rfl rfl rfl (Q.assign_tup rfl) ?_
      | refine XOps.s rfl rfl rfl (Q.assign_ep rfl) ?_
      | refine XOps.s rfl rfl rfl (Q.assign_dp rfl) ?_
      | refine XOps.s rfl rfl rfl (Q.assign_dcut rfl) ?_
      | refine XOps.s rfl rfl rfl (Q.assign_aggv rfl) ?_
      | refine XOps.s rfl rfl rfl (Q.assign rfl) ?_
    refine XOps.nil ?_
    refine W.ret ?_
    refine ⟨_, hs, rfl, by repeat (first | exact HLe.refl _ | refine HLe.cons' (by first | rfl | (simp [Ev.enc]; done)) ?_ | refine HLe.pick 1 rfl (by first | rfl | (simp [Ev.enc]; done)) ?_ | refine HLe.pick 2 rfl (by first | rfl | (simp [Ev.enc]; done)) ?_ | refine HLe.pick 3 rfl (by first | rfl | (simp [Ev.enc]; done)) ?_ | refine HLe.pick 4 rfl (by first | rfl | (simp [Ev.enc]; done)) ?_ | refine HLe.pick 5 rfl (by first | rfl | (simp [Ev.enc]; done)) ?_ | refine HLe.skip _ ?_), ?_, rfl⟩
    exact int_eq (by unfold cutI; omega)
  · try simp only [Bool.or_eq_true, Bool.or_eq_false_iff, Bool.and_eq_true, Bool.and_eq_false_iff, decide_eq_true_eq, decide_eq_false_iff_not, Bool.not_eq_true', Bool.not_eq_false', Int.not_lt, Int.not_le, List.length_map] at hc16
    rw [if_neg (by omega)] at hm
    refine W.skip ?_
    refine W.reg ?_
    first
      | refine XOps.s rfl rfl rfl (Q.move_d rfl) ?_
      | refine XOps.s rfl rfl rfl (Q.move_vs rfl) ?_
      | refine XOps.s rfl rfl rfl (Q.move_ptr rfl) ?_
      | refine XOps.s rfl rfl rfl (Q.move_nilsl rfl) ?_
      | refine XOps.s rfl rfl rfl (Q.move_fn rfl) ?_
      | refine XOps.s rfl rfl rfl (Q.move_tup rfl) ?_
      | refine XOps.s rfl rfl rfl (Q.move_ep rfl) ?_
      | refine XOps.s rfl rfl rfl (Q.move_dp rfl) ?_
      | refine XOps.s rfl rfl rfl (Q.move_dcut rfl) ?_
      | refine XOps.s rfl rfl rfl (Q.move_aggv rfl) ?_
      | refine XOps.s rfl rfl rfl (Q.move rfl) ?_
    first
      | refine XOps.s rfl rfl rfl (Q.move_d rfl) ?_
      | refine XOps.s rfl rfl rfl (Q.move_vs rfl) ?_
      | refine XOps.s rfl rfl rfl (Q.move_ptr rfl) ?_
      | refine XOps.s rfl rfl rfl (Q.move_nilsl rfl) ?_
      | refine XOps.s rfl rfl rfl (Q.move_fn rfl) ?_
      | refine XOps.s rfl rfl rfl (Q.move_tup rfl) ?_
      | refine XOps.s rfl rfl rfl (Q.move_ep rfl) ?_
      | refine XOps.s rfl rfl rfl (Q.move_dp rfl) ?_
      | refine XOps.s rfl rfl rfl (Q.move_dcut rfl) ?_
      | refine XOps.s rfl rfl rfl (Q.move_aggv rfl) ?_
      | refine XOps.s rfl rfl rfl (Q.move rfl) ?_
    first
      | refine XOps.s rfl rfl rfl (Q.add rfl rfl (wi64 (by first | omega | (dsimp only; omega) | (simp only [List.length_map]; omega)) (by first | omega | (dsimp only; omega) | (simp only [List.length_map]; omega)))) ?_
      | refine XOps.s rfl rfl rfl (Q.add rfl rfl rfl) ?_
      | refine XOps.s rfl rfl rfl (Q.adds rfl rfl (by first | omega | (simp at hg; omega))) ?_
    first
      | refine XOps.s rfl rfl rfl (Q.assign_d rfl) ?_
      | refine XOps.s rfl rfl rfl (Q.assign_vs rfl) ?_
      | refine XOps.s rfl rfl rfl (Q.assign_ptr rfl) ?_
      | refine XOps.s rfl rfl rfl (Q.assign_nilsl rfl) ?_
      | refine XOps.s rfl rfl rfl (Q.assign_fn rfl) ?_
      | refine XOps.s rfl rfl rfl (Q.assign_tup rfl) ?_
      | refine XOps.s rfl rfl rfl (Q.assign_ep rfl) ?_
      | refine XOps.s rfl rfl rfl (Q.assign_dp rfl) ?_
      | refine XOps.s rfl rfl rfl (Q.assign_dcut rfl) ?_
      | refine XOps.s rfl rfl rfl (Q.assign_aggv rfl) ?_
      | refine XOps.s rfl rfl rfl (Q.assign rfl) ?_
    refine XOps.nil ?_
    refine W.ret ?_
    refine ⟨_, hs, rfl, by repeat (first | exact HLe.refl _ | refine HLe.cons' (by first | rfl | (simp [Ev.enc]; done)) ?_ | refine HLe.pick 1 rfl (by first | rfl | (simp [Ev.enc]; done)) ?_ | refine HLe.pick 2 rfl (by first | rfl | (simp [Ev.enc]; done)) ?_ | refine HLe.pick 3 rfl (by first | rfl | (simp [Ev.enc]; done)) ?_ | refine HLe.pick 4 rfl (by first | rfl | (simp [Ev.enc]; done)) ?_ | refine HLe.pick 5 rfl (by first | rfl | (simp [Ev.enc]; done)) ?_ | refine HLe.skip _ ?_), ?_, rfl⟩
    exact int_eq (by unfold cutI; omega)

set_option maxHeartbeats 1000000 in
set_option maxRecDepth 100000 in
theorem index_c {fn : Func} (f : Nat) (caps : List AV) (p : Ev → Bool) (l : List Ev) (hs : Hp) (hL : l.length ≤ 4611686018427387904) (hf : P.funcs[f]? = some fn) (hg : callGo fn = true) (hp : ∀ x ∈ l, AC P f ([AV.d (.agg (Ev.enc x))] ++ caps) hs (fun r h => r = .d (.bool (p x)) ∧ h = hs)) : AC P 29 [.d (.sl 3 (l.map Ev.enc)), .fn f caps] hs (fun r h => r = .d (.int .i64 (idxP p l)) ∧ h = hs) := by
  refine AC.of 19 Try.func29 rfl rfl rfl ?_
  refine W.reg ?_
  first
    | refine XOps.s rfl rfl rfl (Q.assign_d rfl) ?_
    | refine XOps.s rfl rfl rfl (Q.assign_vs rfl) ?_
    | refine XOps.s rfl rfl rfl (Q.assign_ptr rfl) ?_
    | refine XOps.s rfl rfl rfl (Q.assign_nilsl rfl) ?_
    | refine XOps.s rfl rfl rfl (Q.assign_fn rfl) ?_
    | refine XOps.s rfl rfl rfl (Q.assign_tup rfl) ?_
    | refine XOps.s rfl rfl rfl (Q.assign_ep rfl) ?_
    | refine XOps.s rfl rfl rfl (Q.assign_dp rfl) ?_
    | refine XOps.s rfl rfl rfl (Q.assign_dcut rfl) ?_
    | refine XOps.s rfl rfl rfl (Q.assign_aggv rfl) ?_
    | refine XOps.s rfl rfl rfl (Q.assign rfl) ?_
  refine XOps.nil ?_
  refine W.seq ?_
  refine W.reg ?_
  first
    | refine XOps.s rfl rfl rfl (Q.move_d rfl) ?_
    | refine XOps.s rfl rfl rfl (Q.move_vs rfl) ?_
    | refine XOps.s rfl rfl rfl (Q.move_ptr rfl) ?_
    | refine XOps.s rfl rfl rfl (Q.move_nilsl rfl) ?_
    | refine XOps.s rfl rfl rfl (Q.move_fn rfl) ?_
    | refine XOps.s rfl rfl rfl (Q.move_tup rfl) ?_
    | refine XOps.s rfl rfl rfl (Q.move_ep rfl) ?_
    | refine XOps.s rfl rfl rfl (Q.move_dp rfl) ?_
    | refine XOps.s rfl rfl rfl (Q.move_dcut rfl) ?_
    | refine XOps.s rfl rfl rfl (Q.move_aggv rfl) ?_
    | refine XOps.s rfl rfl rfl (Q.move rfl) ?_
  first
    | refine XOps.s rfl rfl rfl (Q.len_sl isl23 rfl) ?_
    | refine XOps.s rfl rfl rfl (Q.len_vs isl23 rfl) ?_
    | refine XOps.s rfl rfl rfl (Q.len_nil isl23 rfl) ?_
    | refine XOps.s rfl rfl rfl (Q.len_dcut isl23 rfl) ?_
  first
    | refine XOps.s rfl rfl rfl (Q.move_d rfl) ?_
    | refine XOps.s rfl rfl rfl (Q.move_vs rfl) ?_
    | refine XOps.s rfl rfl rfl (Q.move_ptr rfl) ?_
    | refine XOps.s rfl rfl rfl (Q.move_nilsl rfl) ?_
    | refine XOps.s rfl rfl rfl (Q.move_fn rfl) ?_
    | refine XOps.s rfl rfl rfl (Q.move_tup rfl) ?_
    | refine XOps.s rfl rfl rfl (Q.move_ep rfl) ?_
    | refine XOps.s rfl rfl rfl (Q.move_dp rfl) ?_
    | refine XOps.s rfl rfl rfl (Q.move_dcut rfl) ?_
    | refine XOps.s rfl rfl rfl (Q.move_aggv rfl) ?_
    | refine XOps.s rfl rfl rfl (Q.move rfl) ?_
  refine XOps.nil ?_
  refine W.block ?_
  refine W.loop (ι := Nat) (fun k => [(0, .d (.sl 3 (l.map Ev.enc))), (1, .fn f caps), (7, .d (.int .i64 l.length)), (8, .d (.int .i64 k))]) (fun k => hs) (fun k => k ≤ l.length ∧ ∀ i x, i < k → l[i]? = some x → p x = false) (fun k => l.length - k) 0 ?_ ?_ ?_ ?_
  · exact ⟨Nat.zero_le _, fun i x h => absurd h (Nat.not_lt_zero _)⟩
  · exact ⟨by first | rfl | exact int_eq (by omega) | exact len_eq (by simp) | exact int_eq (by simp; done), by first | rfl | exact int_eq (by omega) | exact len_eq (by simp) | exact int_eq (by simp; done), by first | rfl | exact int_eq (by omega) | exact len_eq (by simp) | exact int_eq (by simp; done), by first | rfl | exact int_eq (by omega) | exact len_eq (by simp) | exact int_eq (by simp; done), trivial⟩
  · repeat (first | exact HLe.refl _ | refine HLe.cons' (by first | rfl | (simp [Ev.enc]; done)) ?_ | refine HLe.pick 1 rfl (by first | rfl | (simp [Ev.enc]; done)) ?_ | refine HLe.pick 2 rfl (by first | rfl | (simp [Ev.enc]; done)) ?_ | refine HLe.pick 3 rfl (by first | rfl | (simp [Ev.enc]; done)) ?_ | refine HLe.pick 4 rfl (by first | rfl | (simp [Ev.enc]; done)) ?_ | refine HLe.pick 5 rfl (by first | rfl | (simp [Ev.enc]; done)) ?_ | refine HLe.skip _ ?_)
  · rintro k ⟨hk, hI⟩
    try dsimp only
    refine W.reg ?_
    first
      | refine XOps.s rfl rfl rfl (Q.lss rfl rfl) ?_
      | refine XOps.s rfl rfl rfl (Q.lss_str rfl rfl) ?_
    refine XOps.nil ?_
    refine W.seq ?_
    refine W.cond rfl (fun hc9 => ?_) (fun hc9 => ?_)
    · try simp only [Bool.or_eq_true, Bool.or_eq_false_iff, Bool.and_eq_true, Bool.and_eq_false_iff, decide_eq_true_eq, decide_eq_false_iff_not, Bool.not_eq_true', Bool.not_eq_false', Int.not_lt, Int.not_le, List.length_map] at hc9
      obtain ⟨x, hx⟩ : ∃ x, l[k]? = some x := ⟨_, List.getElem?_eq_getElem (by omega)⟩
      refine W.skip ?_
      refine W.seq ?_
      refine W.block ?_
      refine W.reg ?_
      first
        | refine XOps.s rfl rfl rfl (Q.move_d rfl) ?_
        | refine XOps.s rfl rfl rfl (Q.move_vs rfl) ?_
        | refine XOps.s rfl rfl rfl (Q.move_ptr rfl) ?_
        | refine XOps.s rfl rfl rfl (Q.move_nilsl rfl) ?_
        | refine XOps.s rfl rfl rfl (Q.move_fn rfl) ?_
        | refine XOps.s rfl rfl rfl (Q.move_tup rfl) ?_
        | refine XOps.s rfl rfl rfl (Q.move_ep rfl) ?_
        | refine XOps.s rfl rfl rfl (Q.move_dp rfl) ?_
        | refine XOps.s rfl rfl rfl (Q.move_dcut rfl) ?_
        | refine XOps.s rfl rfl rfl (Q.move_aggv rfl) ?_
        | refine XOps.s rfl rfl rfl (Q.move rfl) ?_
      first
        | refine XOps.s rfl rfl rfl (Q.assign_d rfl) ?_
        | refine XOps.s rfl rfl rfl (Q.assign_vs rfl) ?_
        | refine XOps.s rfl rfl rfl (Q.assign_ptr rfl) ?_
        | refine XOps.s rfl rfl rfl (Q.assign_nilsl rfl) ?_
        | refine XOps.s rfl rfl rfl (Q.assign_fn rfl) ?_
        | refine XOps.s rfl rfl rfl (Q.assign_tup rfl) ?_
        | refine XOps.s rfl rfl rfl (Q.assign_ep rfl) ?_
        | refine XOps.s rfl rfl rfl (Q.assign_dp rfl) ?_
        | refine XOps.s rfl rfl rfl (Q.assign_dcut rfl) ?_
        | refine XOps.s rfl rfl rfl (Q.assign_aggv rfl) ?_
        | refine XOps.s rfl rfl rfl (Q.assign rfl) ?_
      refine XOps.nil ?_
      refine W.reg ?_
      first
        | refine XOps.s rfl rfl rfl (Q.move_d rfl) ?_
        | refine XOps.s rfl rfl rfl (Q.move_vs rfl) ?_
        | refine XOps.s rfl rfl rfl (Q.move_ptr rfl) ?_
        | refine XOps.s rfl rfl rfl (Q.move_nilsl rfl) ?_
        | refine XOps.s rfl rfl rfl (Q.move_fn rfl) ?_
        | refine XOps.s rfl rfl rfl (Q.move_tup rfl) ?_
        | refine XOps.s rfl rfl rfl (Q.move_ep rfl) ?_
        | refine XOps.s rfl rfl rfl (Q.move_dp rfl) ?_
        | refine XOps.s rfl rfl rfl (Q.move_dcut rfl) ?_
        | refine XOps.s rfl rfl rfl (Q.move_aggv rfl) ?_
        | refine XOps.s rfl rfl rfl (Q.move rfl) ?_
      first
        | refine XOps.s rfl rfl rfl (Q.move_d rfl) ?_
        | refine XOps.s rfl rfl rfl (Q.move_vs rfl) ?_
        | refine XOps.s rfl rfl rfl (Q.move_ptr rfl) ?_
        | refine XOps.s rfl rfl rfl (Q.move_nilsl rfl) ?_
        | refine XOps.s rfl rfl rfl (Q.move_fn rfl) ?_
        | refine XOps.s rfl rfl rfl (Q.move_tup rfl) ?_
        | refine XOps.s rfl rfl rfl (Q.move_ep rfl) ?_
        | refine XOps.s rfl rfl rfl (Q.move_dp rfl) ?_
        | refine XOps.s rfl rfl rfl (Q.move_dcut rfl) ?_
        | refine XOps.s rfl rfl rfl (Q.move_aggv rfl) ?_
        | refine XOps.s rfl rfl rfl (Q.move rfl) ?_
      first
        | refine XOps.s rfl rfl rfl (Q.move_d rfl) ?_
        | refine XOps.s rfl rfl rfl (Q.move_vs rfl) ?_
        | refine XOps.s rfl rfl rfl (Q.move_ptr rfl) ?_
        | refine XOps.s rfl rfl rfl (Q.move_nilsl rfl) ?_
        | refine XOps.s rfl rfl rfl (Q.move_fn rfl) ?_
        | refine XOps.s rfl rfl rfl (Q.move_tup rfl) ?_
        | refine XOps.s rfl rfl rfl (Q.move_ep rfl) ?_
        | refine XOps.s rfl rfl rfl (Q.move_dp rfl) ?_
        | refine XOps.s rfl rfl rfl (Q.move_dcut rfl) ?_
        | refine XOps.s rfl rfl rfl (Q.move_aggv rfl) ?_
        | refine XOps.s rfl rfl rfl (Q.move rfl) ?_
      first
        | refine XOps.s rfl rfl rfl (Q.idx_sl sl23 (by decide) rfl rfl (by first | omega | (simp only [List.length_map]; omega)) (by first | exact map_at (by assumption) | exact map_at0 (by assumption) | assumption)) ?_
        | refine XOps.s rfl rfl rfl (Q.idx_vs (kk := 0) sl23 rfl rfl rfl (by first | omega | (simp at hg; omega)) (by first | omega | (dsimp only; omega))) ?_
        | refine XOps.s rfl rfl rfl (Q.idx_vs (kk := 1) sl23 rfl rfl rfl (by first | omega | (simp at hg; omega)) (by first | omega | (dsimp only; omega))) ?_
        | refine XOps.s rfl rfl rfl (Q.idx_vs (kk := 2) sl23 rfl rfl rfl (by first | omega | (simp at hg; omega)) (by first | omega | (dsimp only; omega))) ?_
        | refine XOps.s rfl rfl rfl (Q.idx_vs (kk := 3) sl23 rfl rfl rfl (by first | omega | (simp at hg; omega)) (by first | omega | (dsimp only; omega))) ?_
        | refine XOps.s rfl rfl rfl (Q.idx_vs (kk := 4) sl23 rfl rfl rfl (by first | omega | (simp at hg; omega)) (by first | omega | (dsimp only; omega))) ?_
        | refine XOps.s rfl rfl rfl (Q.idx_vs (kk := 5) sl23 rfl rfl rfl (by first | omega | (simp at hg; omega)) (by first | omega | (dsimp only; omega))) ?_
      first
        | refine XOps.s rfl rfl rfl (Q.ld_dpn ag26 rfl rfl) ?_
        | refine XOps.s rfl rfl rfl (Q.ld_ptrn (k := 0) ag26 rfl rfl rfl) ?_
        | refine XOps.s rfl rfl rfl (Q.ld_ptrv (k := 0) ag26 rfl rfl rfl) ?_
        | refine XOps.s rfl rfl rfl (Q.ld_ptrn (k := 1) ag26 rfl rfl rfl) ?_
        | refine XOps.s rfl rfl rfl (Q.ld_ptrv (k := 1) ag26 rfl rfl rfl) ?_
        | refine XOps.s rfl rfl rfl (Q.ld_ptrn (k := 2) ag26 rfl rfl rfl) ?_
        | refine XOps.s rfl rfl rfl (Q.ld_ptrv (k := 2) ag26 rfl rfl rfl) ?_
        | refine XOps.s rfl rfl rfl (Q.ld_ptrn (k := 3) ag26 rfl rfl rfl) ?_
        | refine XOps.s rfl rfl rfl (Q.ld_ptrv (k := 3) ag26 rfl rfl rfl) ?_
        | refine XOps.s rfl rfl rfl (Q.ld_ptrn (k := 4) ag26 rfl rfl rfl) ?_
        | refine XOps.s rfl rfl rfl (Q.ld_ptrv (k := 4) ag26 rfl rfl rfl) ?_
        | refine XOps.s rfl rfl rfl (Q.ld_ptrn (k := 5) ag26 rfl rfl rfl) ?_
        | refine XOps.s rfl rfl rfl (Q.ld_ptrv (k := 5) ag26 rfl rfl rfl) ?_
        | refine XOps.s rfl rfl rfl (Q.ld_epn (k := 0) ag26 rfl rfl (by first | exact map_at (by assumption) | exact map_at0 (by assumption) | assumption) rfl) ?_
        | refine XOps.s rfl rfl rfl (Q.ld_epn (k := 1) ag26 rfl rfl (by first | exact map_at (by assumption) | exact map_at0 (by assumption) | assumption) rfl) ?_
        | refine XOps.s rfl rfl rfl (Q.ld_epn (k := 2) ag26 rfl rfl (by first | exact map_at (by assumption) | exact map_at0 (by assumption) | assumption) rfl) ?_
        | refine XOps.s rfl rfl rfl (Q.ld_epn (k := 3) ag26 rfl rfl (by first | exact map_at (by assumption) | exact map_at0 (by assumption) | assumption) rfl) ?_
        | refine XOps.s rfl rfl rfl (Q.ld_epn (k := 4) ag26 rfl rfl (by first | exact map_at (by assumption) | exact map_at0 (by assumption) | assumption) rfl) ?_
        | refine XOps.s rfl rfl rfl (Q.ld_epn (k := 5) ag26 rfl rfl (by first | exact map_at (by assumption) | exact map_at0 (by assumption) | assumption) rfl) ?_
      refine XOps.s rfl rfl rfl (Q.call rfl hf hg rfl (hp x (List.mem_of_getElem? hx))) ?_
      refine XOps.nil ?_
      refine W.cond rfl (fun hc16 => ?_) (fun hc16 => ?_)
      · try simp only [Bool.or_eq_true, Bool.or_eq_false_iff, Bool.and_eq_true, Bool.and_eq_false_iff, decide_eq_true_eq, decide_eq_false_iff_not, Bool.not_eq_true', Bool.not_eq_false', Int.not_lt, Int.not_le, List.length_map] at hc16
        have hr := idxP_some hx hc16 hI
        refine W.reg ?_
        first
          | refine XOps.s rfl rfl rfl (Q.move_d rfl) ?_
          | refine XOps.s rfl rfl rfl (Q.move_vs rfl) ?_
          | refine XOps.s rfl rfl rfl (Q.move_ptr rfl) ?_
          | refine XOps.s rfl rfl rfl (Q.move_nilsl rfl) ?_
          | refine XOps.s rfl rfl rfl (Q.move_fn rfl) ?_
          | refine XOps.s rfl rfl rfl (Q.move_tup rfl) ?_
          | refine XOps.s rfl rfl rfl (Q.move_ep rfl) ?_
          | refine XOps.s rfl rfl rfl (Q.move_dp rfl) ?_
          | refine XOps.s rfl rfl rfl (Q.move_dcut rfl) ?_
          | refine XOps.s rfl rfl rfl (Q.move_aggv rfl) ?_
          | refine XOps.s rfl rfl rfl (Q.move rfl) ?_
        first
          | refine XOps.s rfl rfl rfl (Q.assign_d rfl) ?_
          | refine XOps.s rfl rfl rfl (Q.assign_vs rfl) ?_
          | refine XOps.s rfl rfl rfl (Q.assign_ptr rfl) ?_
          | refine XOps.s rfl rfl rfl (Q.assign_nilsl rfl) ?_
          | refine XOps.s rfl rfl rfl (Q.assign_fn rfl) ?_
          | refine XOps.s rfl rfl rfl (Q.assign_tup rfl) ?_
          | refine XOps.s rfl rfl rfl (Q.assign_ep rfl) ?_
          | refine XOps.s rfl rfl rfl (Q.assign_dp rfl) ?_
          | refine XOps.s rfl rfl rfl (Q.assign_dcut rfl) ?_
          | refine XOps.s rfl rfl rfl (Q.assign_aggv rfl) ?_
          | refine XOps.s rfl rfl rfl (Q.assign rfl) ?_
        refine XOps.nil ?_
        refine W.ret ?_
        refine ⟨_, hs, rfl, by repeat (first | exact HLe.refl _ | refine HLe.cons' (by first | rfl | (simp [Ev.enc]; done)) ?_ | refine HLe.pick 1 rfl (by first | rfl | (simp [Ev.enc]; done)) ?_ | refine HLe.pick 2 rfl (by first | rfl | (simp [Ev.enc]; done)) ?_ | refine HLe.pick 3 rfl (by first | rfl | (simp [Ev.enc]; done)) ?_ | refine HLe.pick 4 rfl (by first | rfl | (simp [Ev.enc]; done)) ?_ | refine HLe.pick 5 rfl (by first | rfl | (simp [Ev.enc]; done)) ?_ | refine HLe.skip _ ?_), ?_, rfl⟩
        rw [hr]; rfl
      · try simp only [Bool.or_eq_true, Bool.or_eq_false_iff, Bool.and_eq_true, Bool.and_eq_false_iff, decide_eq_true_eq, decide_eq_false_iff_not, Bool.not_eq_true', Bool.not_eq_false', Int.not_lt, Int.not_le, List.length_map] at hc16
        refine W.skip ?_
        refine W.region ?_
        first
          | refine XOps.s rfl rfl rfl (Q.add rfl rfl (wi64 (by first | omega | (dsimp only; omega) | (simp only [List.length_map]; omega)) (by first | omega | (dsimp only; omega) | (simp only [List.length_map]; omega)))) ?_
          | refine XOps.s rfl rfl rfl (Q.add rfl rfl rfl) ?_
          | refine XOps.s rfl rfl rfl (Q.adds rfl rfl (by first | omega | (simp at hg; omega))) ?_
        first
          | refine XOps.s rfl rfl rfl (Q.move_d rfl) ?_
          | refine XOps.s rfl rfl rfl (Q.move_vs rfl) ?_
          | refine XOps.s rfl rfl rfl (Q.move_ptr rfl) ?_
          | refine XOps.s rfl rfl rfl (Q.move_nilsl rfl) ?_
          | refine XOps.s rfl rfl rfl (Q.move_fn rfl) ?_
          | refine XOps.s rfl rfl rfl (Q.move_tup rfl) ?_
          | refine XOps.s rfl rfl rfl (Q.move_ep rfl) ?_
          | refine XOps.s rfl rfl rfl (Q.move_dp rfl) ?_
          | refine XOps.s rfl rfl rfl (Q.move_dcut rfl) ?_
          | refine XOps.s rfl rfl rfl (Q.move_aggv rfl) ?_
          | refine XOps.s rfl rfl rfl (Q.move rfl) ?_
        refine XOps.nil ?_
        refine ⟨k + 1, ?_, ?_, ?_, ?_⟩
        · refine ⟨by omega, fun i y h hy => ?_⟩
          rcases Nat.lt_or_ge i k with h2 | h2
          · exact hI i y h2 hy
          · obtain rfl : i = k := by omega
            rw [hx] at hy; obtain rfl := Option.some.inj hy; exact (by simpa using hc16)
        · omega
        · exact ⟨by first | rfl | exact int_eq (by omega) | exact len_eq (by simp) | exact int_eq (by simp; done), by first | rfl | exact int_eq (by omega) | exact len_eq (by simp) | exact int_eq (by simp; done), by first | rfl | exact int_eq (by omega) | exact len_eq (by simp) | exact int_eq (by simp; done), by first | rfl | exact int_eq (by omega) | exact len_eq (by simp) | exact int_eq (by simp; done), trivial⟩
        · repeat (first | exact HLe.refl _ | refine HLe.cons' (by first | rfl | (simp [Ev.enc]; done)) ?_ | refine HLe.pick 1 rfl (by first | rfl | (simp [Ev.enc]; done)) ?_ | refine HLe.pick 2 rfl (by first | rfl | (simp [Ev.enc]; done)) ?_ | refine HLe.pick 3 rfl (by first | rfl | (simp [Ev.enc]; done)) ?_ | refine HLe.pick 4 rfl (by first | rfl | (simp [Ev.enc]; done)) ?_ | refine HLe.pick 5 rfl (by first | rfl | (simp [Ev.enc]; done)) ?_ | refine HLe.skip _ ?_)
    · try simp only [Bool.or_eq_true, Bool.or_eq_false_iff, Bool.and_eq_true, Bool.and_eq_false_iff, decide_eq_true_eq, decide_eq_false_iff_not, Bool.not_eq_true', Bool.not_eq_false', Int.not_lt, Int.not_le, List.length_map] at hc9
      have hr := idxP_none (p := p) (l := l) fun i x h => hI i x (by have := (List.getElem?_eq_some_iff.1 h).1; omega) h
      refine W.exit ?_
      refine W.reg ?_
      first
        | refine XOps.s rfl rfl rfl (Q.assign_d rfl) ?_
        | refine XOps.s rfl rfl rfl (Q.assign_vs rfl) ?_
        | refine XOps.s rfl rfl rfl (Q.assign_ptr rfl) ?_
        | refine XOps.s rfl rfl rfl (Q.assign_nilsl rfl) ?_
        | refine XOps.s rfl rfl rfl (Q.assign_fn rfl) ?_
        | refine XOps.s rfl rfl rfl (Q.assign_tup rfl) ?_
        | refine XOps.s rfl rfl rfl (Q.assign_ep rfl) ?_
        | refine XOps.s rfl rfl rfl (Q.assign_dp rfl) ?_
        | refine XOps.s rfl rfl rfl (Q.assign_dcut rfl) ?_
        | refine XOps.s rfl rfl rfl (Q.assign_aggv rfl) ?_
        | refine XOps.s rfl rfl rfl (Q.assign rfl) ?_
      refine XOps.nil ?_
      refine W.ret ?_
      refine ⟨_, hs, rfl, by repeat (first | exact HLe.refl _ | refine HLe.cons' (by first | rfl | (simp [Ev.enc]; done)) ?_ | refine HLe.pick 1 rfl (by first | rfl | (simp [Ev.enc]; done)) ?_ | refine HLe.pick 2 rfl (by first | rfl | (simp [Ev.enc]; done)) ?_ | refine HLe.pick 3 rfl (by first | rfl | (simp [Ev.enc]; done)) ?_ | refine HLe.pick 4 rfl (by first | rfl | (simp [Ev.enc]; done)) ?_ | refine HLe.pick 5 rfl (by first | rfl | (simp [Ev.enc]; done)) ?_ | refine HLe.skip _ ?_), ?_, rfl⟩
      rw [hr]; rfl

set_option maxHeartbeats 1000000 in
set_option maxRecDepth 100000 in
theorem sender1_c (x : Ev) (m : Int) (b : Nat) (hs : Hp) : AC P 30 [.d (.agg x.enc), .ptr b 0] ((b, .cells [.d (.int .i64 m)]) :: hs) (fun r h => r = .d (.bool (sndP m x)) ∧ h = (b, .cells [.d (.int .i64 m)]) :: hs) := by
  refine AC.of 13 Try.func30 rfl rfl rfl ?_
  refine W.reg ?_
  first
    | (refine XOps.loud rfl (L.boxn rfl rfl) ?_; rintro _ _ ⟨b2, rfl, rfl⟩)
    | (refine XOps.loud rfl (L.boxv rfl rfl) ?_; rintro _ _ ⟨b2, rfl, rfl⟩)
    | (refine XOps.loud rfl (L.box rfl rfl rfl) ?_; rintro _ _ ⟨b2, rfl, rfl⟩)
  first
    | refine XOps.s rfl rfl rfl (Q.assign_d rfl) ?_
    | refine XOps.s rfl rfl rfl (Q.assign_vs rfl) ?_
    | refine XOps.s rfl rfl rfl (Q.assign_ptr rfl) ?_
    | refine XOps.s rfl rfl rfl (Q.assign_nilsl rfl) ?_
    | refine XOps.s rfl rfl rfl (Q.assign_fn rfl) ?_
    | refine XOps.s rfl rfl rfl (Q.assign_tup rfl) ?_
    | refine XOps.s rfl rfl rfl (Q.assign_ep rfl) ?_
    | refine XOps.s rfl rfl rfl (Q.assign_dp rfl) ?_
    | refine XOps.s rfl rfl rfl (Q.assign_dcut rfl) ?_
    | refine XOps.s rfl rfl rfl (Q.assign_aggv rfl) ?_
    | refine XOps.s rfl rfl rfl (Q.assign rfl) ?_
  refine XOps.nil ?_
  refine W.reg ?_
  first
    | refine XOps.s rfl rfl rfl (Q.fld_ptr fl26_1 rfl) ?_
    | refine XOps.s rfl rfl rfl (Q.fld_dp fl26_1 rfl) ?_
    | refine XOps.s rfl rfl rfl (Q.fld_ep fl26_1 rfl) ?_
  first
    | refine XOps.s rfl rfl rfl (Q.ld_dp ag3 rfl rfl) ?_
    | refine XOps.s rfl rfl rfl (Q.ld_ptr (k := 0) ag3 rfl rfl rfl) ?_
    | refine XOps.s rfl rfl rfl (Q.ld_ptr (k := 1) ag3 rfl rfl rfl) ?_
    | refine XOps.s rfl rfl rfl (Q.ld_ptr (k := 2) ag3 rfl rfl rfl) ?_
    | refine XOps.s rfl rfl rfl (Q.ld_ptr (k := 3) ag3 rfl rfl rfl) ?_
    | refine XOps.s rfl rfl rfl (Q.ld_ptr (k := 4) ag3 rfl rfl rfl) ?_
    | refine XOps.s rfl rfl rfl (Q.ld_ptr (k := 5) ag3 rfl rfl rfl) ?_
    | refine XOps.s rfl rfl rfl (Q.ld_ep (k := 0) ag3 rfl rfl (by first | exact map_at (by assumption) | exact map_at0 (by assumption) | assumption) rfl) ?_
    | refine XOps.s rfl rfl rfl (Q.ld_ep (k := 1) ag3 rfl rfl (by first | exact map_at (by assumption) | exact map_at0 (by assumption) | assumption) rfl) ?_
    | refine XOps.s rfl rfl rfl (Q.ld_ep (k := 2) ag3 rfl rfl (by first | exact map_at (by assumption) | exact map_at0 (by assumption) | assumption) rfl) ?_
    | refine XOps.s rfl rfl rfl (Q.ld_ep (k := 3) ag3 rfl rfl (by first | exact map_at (by assumption) | exact map_at0 (by assumption) | assumption) rfl) ?_
    | refine XOps.s rfl rfl rfl (Q.ld_ep (k := 4) ag3 rfl rfl (by first | exact map_at (by assumption) | exact map_at0 (by assumption) | assumption) rfl) ?_
    | refine XOps.s rfl rfl rfl (Q.ld_ep (k := 5) ag3 rfl rfl (by first | exact map_at (by assumption) | exact map_at0 (by assumption) | assumption) rfl) ?_
  first
    | refine XOps.s rfl rfl rfl (Q.eql rfl rfl) ?_
    | refine XOps.s rfl rfl rfl (Q.eql_str rfl rfl) ?_
  first
    | refine XOps.s rfl rfl rfl (Q.move_d rfl) ?_
    | refine XOps.s rfl rfl rfl (Q.move_vs rfl) ?_
    | refine XOps.s rfl rfl rfl (Q.move_ptr rfl) ?_
    | refine XOps.s rfl rfl rfl (Q.move_nilsl rfl) ?_
    | refine XOps.s rfl rfl rfl (Q.move_fn rfl) ?_
    | refine XOps.s rfl rfl rfl (Q.move_tup rfl) ?_
    | refine XOps.s rfl rfl rfl (Q.move_ep rfl) ?_
    | refine XOps.s rfl rfl rfl (Q.move_dp rfl) ?_
    | refine XOps.s rfl rfl rfl (Q.move_dcut rfl) ?_
    | refine XOps.s rfl rfl rfl (Q.move_aggv rfl) ?_
    | refine XOps.s rfl rfl rfl (Q.move rfl) ?_
  first
    | refine XOps.gs rfl rfl rfl rfl rfl rfl rfl (fun hg => Q.fld_ptr fl26_2 rfl) ?_
    | refine XOps.gs rfl rfl rfl rfl rfl rfl rfl (fun hg => Q.fld_dp fl26_2 rfl) ?_
    | refine XOps.gs rfl rfl rfl rfl rfl rfl rfl (fun hg => Q.fld_ep fl26_2 rfl) ?_
  first
    | refine XOps.gs rfl rfl rfl rfl rfl rfl rfl (fun hg => Quiet.open 8 hg rfl (Q.ld_dp ag3 rfl rfl)) ?_
    | refine XOps.gs rfl rfl rfl rfl rfl rfl rfl (fun hg => Quiet.open 8 hg rfl (Q.ld_ptr (k := 0) ag3 rfl rfl rfl)) ?_
    | refine XOps.gs rfl rfl rfl rfl rfl rfl rfl (fun hg => Quiet.open 8 hg rfl (Q.ld_ptr (k := 1) ag3 rfl rfl rfl)) ?_
    | refine XOps.gs rfl rfl rfl rfl rfl rfl rfl (fun hg => Quiet.open 8 hg rfl (Q.ld_ptr (k := 2) ag3 rfl rfl rfl)) ?_
    | refine XOps.gs rfl rfl rfl rfl rfl rfl rfl (fun hg => Quiet.open 8 hg rfl (Q.ld_ptr (k := 3) ag3 rfl rfl rfl)) ?_
    | refine XOps.gs rfl rfl rfl rfl rfl rfl rfl (fun hg => Quiet.open 8 hg rfl (Q.ld_ptr (k := 4) ag3 rfl rfl rfl)) ?_
    | refine XOps.gs rfl rfl rfl rfl rfl rfl rfl (fun hg => Quiet.open 8 hg rfl (Q.ld_ptr (k := 5) ag3 rfl rfl rfl)) ?_
    | refine XOps.gs rfl rfl rfl rfl rfl rfl rfl (fun hg => Quiet.open 8 hg rfl (Q.ld_ep (k := 0) ag3 rfl rfl (by first | exact map_at (by assumption) | exact map_at0 (by assumption) | assumption) rfl)) ?_
    | refine XOps.gs rfl rfl rfl rfl rfl rfl rfl (fun hg => Quiet.open 8 hg rfl (Q.ld_ep (k := 1) ag3 rfl rfl (by first | exact map_at (by assumption) | exact map_at0 (by assumption) | assumption) rfl)) ?_
    | refine XOps.gs rfl rfl rfl rfl rfl rfl rfl (fun hg => Quiet.open 8 hg rfl (Q.ld_ep (k := 2) ag3 rfl rfl (by first | exact map_at (by assumption) | exact map_at0 (by assumption) | assumption) rfl)) ?_
    | refine XOps.gs rfl rfl rfl rfl rfl rfl rfl (fun hg => Quiet.open 8 hg rfl (Q.ld_ep (k := 3) ag3 rfl rfl (by first | exact map_at (by assumption) | exact map_at0 (by assumption) | assumption) rfl)) ?_
    | refine XOps.gs rfl rfl rfl rfl rfl rfl rfl (fun hg => Quiet.open 8 hg rfl (Q.ld_ep (k := 4) ag3 rfl rfl (by first | exact map_at (by assumption) | exact map_at0 (by assumption) | assumption) rfl)) ?_
    | refine XOps.gs rfl rfl rfl rfl rfl rfl rfl (fun hg => Quiet.open 8 hg rfl (Q.ld_ep (k := 5) ag3 rfl rfl (by first | exact map_at (by assumption) | exact map_at0 (by assumption) | assumption) rfl)) ?_
  first
    | refine XOps.gs rfl rfl rfl rfl rfl rfl rfl (fun hg => Q.ld_dp ag3 rfl rfl) ?_
    | refine XOps.gs rfl rfl rfl rfl rfl rfl rfl (fun hg => Q.ld_ptr (k := 0) ag3 rfl rfl rfl) ?_
    | refine XOps.gs rfl rfl rfl rfl rfl rfl rfl (fun hg => Q.ld_ptr (k := 1) ag3 rfl rfl rfl) ?_
    | refine XOps.gs rfl rfl rfl rfl rfl rfl rfl (fun hg => Q.ld_ptr (k := 2) ag3 rfl rfl rfl) ?_
    | refine XOps.gs rfl rfl rfl rfl rfl rfl rfl (fun hg => Q.ld_ptr (k := 3) ag3 rfl rfl rfl) ?_
    | refine XOps.gs rfl rfl rfl rfl rfl rfl rfl (fun hg => Q.ld_ptr (k := 4) ag3 rfl rfl rfl) ?_
    | refine XOps.gs rfl rfl rfl rfl rfl rfl rfl (fun hg => Q.ld_ptr (k := 5) ag3 rfl rfl rfl) ?_
    | refine XOps.gs rfl rfl rfl rfl rfl rfl rfl (fun hg => Q.ld_ep (k := 0) ag3 rfl rfl (by first | exact map_at (by assumption) | exact map_at0 (by assumption) | assumption) rfl) ?_
    | refine XOps.gs rfl rfl rfl rfl rfl rfl rfl (fun hg => Q.ld_ep (k := 1) ag3 rfl rfl (by first | exact map_at (by assumption) | exact map_at0 (by assumption) | assumption) rfl) ?_
    | refine XOps.gs rfl rfl rfl rfl rfl rfl rfl (fun hg => Q.ld_ep (k := 2) ag3 rfl rfl (by first | exact map_at (by assumption) | exact map_at0 (by assumption) | assumption) rfl) ?_
    | refine XOps.gs rfl rfl rfl rfl rfl rfl rfl (fun hg => Q.ld_ep (k := 3) ag3 rfl rfl (by first | exact map_at (by assumption) | exact map_at0 (by assumption) | assumption) rfl) ?_
    | refine XOps.gs rfl rfl rfl rfl rfl rfl rfl (fun hg => Q.ld_ep (k := 4) ag3 rfl rfl (by first | exact map_at (by assumption) | exact map_at0 (by assumption) | assumption) rfl) ?_
    | refine XOps.gs rfl rfl rfl rfl rfl rfl rfl (fun hg => Q.ld_ep (k := 5) ag3 rfl rfl (by first | exact map_at (by assumption) | exact map_at0 (by assumption) | assumption) rfl) ?_
  first
    | refine XOps.gs rfl rfl rfl rfl rfl rfl rfl (fun hg => Quiet.open 9 hg rfl (Quiet.open 10 hg rfl (Q.eql rfl rfl))) ?_
    | refine XOps.gs rfl rfl rfl rfl rfl rfl rfl (fun hg => Quiet.open 9 hg rfl (Quiet.open 10 hg rfl (Q.eql_str rfl rfl))) ?_
  first
    | refine XOps.s rfl rfl rfl (Q.pick_and rfl rfl rfl (fun h => by first | (rw [h]; rfl) | (rw [hg, h]; rfl) | (simp [h, hg]; done))) ?_
    | refine XOps.s rfl rfl rfl (Q.pick_or rfl rfl rfl (fun h => by first | (rw [h]; rfl) | (rw [hg, h]; rfl) | (simp [h, hg]; done))) ?_
    | refine XOps.s rfl rfl rfl (Q.pick rfl rfl rfl) ?_
  first
    | refine XOps.s rfl rfl rfl (Q.assign_d rfl) ?_
    | refine XOps.s rfl rfl rfl (Q.assign_vs rfl) ?_
    | refine XOps.s rfl rfl rfl (Q.assign_ptr rfl) ?_
    | refine XOps.s rfl rfl rfl (Q.assign_nilsl rfl) ?_
    | refine XOps.s rfl rfl rfl (Q.assign_fn rfl) ?_
    | refine XOps.s rfl rfl rfl (Q.assign_tup rfl) ?_
    | refine XOps.s rfl rfl rfl (Q.assign_ep rfl) ?_
    | refine XOps.s rfl rfl rfl (Q.assign_dp rfl) ?_
    | refine XOps.s rfl rfl rfl (Q.assign_dcut rfl) ?_
    | refine XOps.s rfl rfl rfl (Q.assign_aggv rfl) ?_
    | refine XOps.s rfl rfl rfl (Q.assign rfl) ?_
  refine XOps.nil ?_
  refine W.ret ?_
  exact ⟨_, (b, .cells [.d (.int .i64 m)]) :: hs, rfl, HLe.skip _ (HLe.refl _), rfl, rfl⟩

set_option maxHeartbeats 1000000 in
set_option maxRecDepth 100000 in
theorem sender_c (l : List Ev) (m : Int) (hs : Hp) (hl : l.length ≤ 4611686018427387904) : AC P 22 [.d (.sl 3 (l.map Ev.enc)), .d (.int .i64 m)] hs (fun r h => r = .d (.int .i64 (senderS l m)) ∧ h = hs) := by
  refine AC.of 8 Try.func22 rfl rfl rfl ?_
  refine W.reg ?_
  first
    | (refine XOps.loud rfl (L.boxn rfl rfl) ?_; rintro _ _ ⟨b3, rfl, rfl⟩)
    | (refine XOps.loud rfl (L.boxv rfl rfl) ?_; rintro _ _ ⟨b3, rfl, rfl⟩)
    | (refine XOps.loud rfl (L.box rfl rfl rfl) ?_; rintro _ _ ⟨b3, rfl, rfl⟩)
  first
    | refine XOps.s rfl rfl rfl (Q.assign_d rfl) ?_
    | refine XOps.s rfl rfl rfl (Q.assign_vs rfl) ?_
    | refine XOps.s rfl rfl rfl (Q.assign_ptr rfl) ?_
    | refine XOps.s rfl rfl rfl (Q.assign_nilsl rfl) ?_
    | refine XOps.s rfl rfl rfl (Q.assign_fn rfl) ?_
    | refine XOps.s rfl rfl rfl (Q.assign_tup rfl) ?_
    | refine XOps.s rfl rfl rfl (Q.assign_ep rfl) ?_
    | refine XOps.s rfl rfl rfl (Q.assign_dp rfl) ?_
    | refine XOps.s rfl rfl rfl (Q.assign_dcut rfl) ?_
    | refine XOps.s rfl rfl rfl (Q.assign_aggv rfl) ?_
    | refine XOps.s rfl rfl rfl (Q.assign rfl) ?_
  refine XOps.nil ?_
  refine W.reg ?_
  first
    | refine XOps.s rfl rfl rfl (Q.move_d rfl) ?_
    | refine XOps.s rfl rfl rfl (Q.move_vs rfl) ?_
    | refine XOps.s rfl rfl rfl (Q.move_ptr rfl) ?_
    | refine XOps.s rfl rfl rfl (Q.move_nilsl rfl) ?_
    | refine XOps.s rfl rfl rfl (Q.move_fn rfl) ?_
    | refine XOps.s rfl rfl rfl (Q.move_tup rfl) ?_
    | refine XOps.s rfl rfl rfl (Q.move_ep rfl) ?_
    | refine XOps.s rfl rfl rfl (Q.move_dp rfl) ?_
    | refine XOps.s rfl rfl rfl (Q.move_dcut rfl) ?_
    | refine XOps.s rfl rfl rfl (Q.move_aggv rfl) ?_
    | refine XOps.s rfl rfl rfl (Q.move rfl) ?_
  refine XOps.s rfl rfl rfl (Q.mkfn rfl) ?_
  refine XOps.s rfl rfl rfl (Q.call rfl Try.func29 go29 rfl (index_c 30 [.ptr b3 0] (sndP m) l _ hl Try.func30 go30 (fun x hx => sender1_c x m b3 hs))) ?_
  first
    | refine XOps.s rfl rfl rfl (Q.assign_d rfl) ?_
    | refine XOps.s rfl rfl rfl (Q.assign_vs rfl) ?_
    | refine XOps.s rfl rfl rfl (Q.assign_ptr rfl) ?_
    | refine XOps.s rfl rfl rfl (Q.assign_nilsl rfl) ?_
    | refine XOps.s rfl rfl rfl (Q.assign_fn rfl) ?_
    | refine XOps.s rfl rfl rfl (Q.assign_tup rfl) ?_
    | refine XOps.s rfl rfl rfl (Q.assign_ep rfl) ?_
    | refine XOps.s rfl rfl rfl (Q.assign_dp rfl) ?_
    | refine XOps.s rfl rfl rfl (Q.assign_dcut rfl) ?_
    | refine XOps.s rfl rfl rfl (Q.assign_aggv rfl) ?_
    | refine XOps.s rfl rfl rfl (Q.assign rfl) ?_
  refine XOps.nil ?_
  refine W.ret ?_
  refine ⟨_, hs, rfl, by repeat (first | exact HLe.refl _ | refine HLe.cons' (by first | rfl | (simp [Ev.enc]; done)) ?_ | refine HLe.pick 1 rfl (by first | rfl | (simp [Ev.enc]; done)) ?_ | refine HLe.pick 2 rfl (by first | rfl | (simp [Ev.enc]; done)) ?_ | refine HLe.pick 3 rfl (by first | rfl | (simp [Ev.enc]; done)) ?_ | refine HLe.pick 4 rfl (by first | rfl | (simp [Ev.enc]; done)) ?_ | refine HLe.pick 5 rfl (by first | rfl | (simp [Ev.enc]; done)) ?_ | refine HLe.skip _ ?_), ?_, rfl⟩
  rfl

set_option maxHeartbeats 1000000 in
set_option maxRecDepth 100000 in
theorem check_c (l : List Ev) (hs : Hp) (hl : l.length ≤ 4611686018427387904) : AC P 20 [.d (.sl 3 (l.map Ev.enc))] hs (fun r h => r = .d (.int .i64 (checkS l)) ∧ h = hs) := by
  refine AC.of 70 Try.func20 rfl rfl rfl ?_
  refine W.reg ?_
  first
    | refine XOps.s rfl rfl rfl (Q.assign_d rfl) ?_
    | refine XOps.s rfl rfl rfl (Q.assign_vs rfl) ?_
    | refine XOps.s rfl rfl rfl (Q.assign_ptr rfl) ?_
    | refine XOps.s rfl rfl rfl (Q.assign_nilsl rfl) ?_
    | refine XOps.s rfl rfl rfl (Q.assign_fn rfl) ?_
    | refine XOps.s rfl rfl rfl (Q.assign_tup rfl) ?_
    | refine XOps.s rfl rfl rfl (Q.assign_ep rfl) ?_
    | refine XOps.s rfl rfl rfl (Q.assign_dp rfl) ?_
    | refine XOps.s rfl rfl rfl (Q.assign_dcut rfl) ?_
    | refine XOps.s rfl rfl rfl (Q.assign_aggv rfl) ?_
    | refine XOps.s rfl rfl rfl (Q.assign rfl) ?_
  refine XOps.nil ?_
  refine W.seq ?_
  refine W.reg ?_
  first
    | refine XOps.s rfl rfl rfl (Q.move_d rfl) ?_
    | refine XOps.s rfl rfl rfl (Q.move_vs rfl) ?_
    | refine XOps.s rfl rfl rfl (Q.move_ptr rfl) ?_
    | refine XOps.s rfl rfl rfl (Q.move_nilsl rfl) ?_
    | refine XOps.s rfl rfl rfl (Q.move_fn rfl) ?_
    | refine XOps.s rfl rfl rfl (Q.move_tup rfl) ?_
    | refine XOps.s rfl rfl rfl (Q.move_ep rfl) ?_
    | refine XOps.s rfl rfl rfl (Q.move_dp rfl) ?_
    | refine XOps.s rfl rfl rfl (Q.move_dcut rfl) ?_
    | refine XOps.s rfl rfl rfl (Q.move_aggv rfl) ?_
    | refine XOps.s rfl rfl rfl (Q.move rfl) ?_
  first
    | refine XOps.s rfl rfl rfl (Q.len_sl isl23 rfl) ?_
    | refine XOps.s rfl rfl rfl (Q.len_vs isl23 rfl) ?_
    | refine XOps.s rfl rfl rfl (Q.len_nil isl23 rfl) ?_
    | refine XOps.s rfl rfl rfl (Q.len_dcut isl23 rfl) ?_
  first
    | refine XOps.s rfl rfl rfl (Q.gtr rfl rfl) ?_
    | refine XOps.s rfl rfl rfl (Q.gtr_str rfl rfl) ?_
  refine XOps.nil ?_
  refine W.cond rfl (fun hc7 => ?_) (fun hc7 => ?_)
  · try simp only [Bool.or_eq_true, Bool.or_eq_false_iff, Bool.and_eq_true, Bool.and_eq_false_iff, decide_eq_true_eq, decide_eq_false_iff_not, Bool.not_eq_true', Bool.not_eq_false', Int.not_lt, Int.not_le, List.length_map] at hc7
    have hr : checkS l = 2 := by unfold checkS; rw [if_pos (by omega)]
    refine W.reg ?_
    first
      | refine XOps.s rfl rfl rfl (Q.assign_d rfl) ?_
      | refine XOps.s rfl rfl rfl (Q.assign_vs rfl) ?_
      | refine XOps.s rfl rfl rfl (Q.assign_ptr rfl) ?_
      | refine XOps.s rfl rfl rfl (Q.assign_nilsl rfl) ?_
      | refine XOps.s rfl rfl rfl (Q.assign_fn rfl) ?_
      | refine XOps.s rfl rfl rfl (Q.assign_tup rfl) ?_
      | refine XOps.s rfl rfl rfl (Q.assign_ep rfl) ?_
      | refine XOps.s rfl rfl rfl (Q.assign_dp rfl) ?_
      | refine XOps.s rfl rfl rfl (Q.assign_dcut rfl) ?_
      | refine XOps.s rfl rfl rfl (Q.assign_aggv rfl) ?_
      | refine XOps.s rfl rfl rfl (Q.assign rfl) ?_
    refine XOps.nil ?_
    refine W.ret ?_
    refine ⟨_, hs, rfl, by repeat (first | exact HLe.refl _ | refine HLe.cons' (by first | rfl | (simp [Ev.enc]; done)) ?_ | refine HLe.pick 1 rfl (by first | rfl | (simp [Ev.enc]; done)) ?_ | refine HLe.pick 2 rfl (by first | rfl | (simp [Ev.enc]; done)) ?_ | refine HLe.pick 3 rfl (by first | rfl | (simp [Ev.enc]; done)) ?_ | refine HLe.pick 4 rfl (by first | rfl | (simp [Ev.enc]; done)) ?_ | refine HLe.pick 5 rfl (by first | rfl | (simp [Ev.enc]; done)) ?_ | refine HLe.skip _ ?_), ?_, rfl⟩
    rw [hr]; rfl
  · try simp only [Bool.or_eq_true, Bool.or_eq_false_iff, Bool.and_eq_true, Bool.and_eq_false_iff, decide_eq_true_eq, decide_eq_false_iff_not, Bool.not_eq_true', Bool.not_eq_false', Int.not_lt, Int.not_le, List.length_map] at hc7
    refine W.skip ?_
    refine W.seq ?_
    refine W.reg ?_
    first
      | refine XOps.s rfl rfl rfl (Q.move_d rfl) ?_
      | refine XOps.s rfl rfl rfl (Q.move_vs rfl) ?_
      | refine XOps.s rfl rfl rfl (Q.move_ptr rfl) ?_
      | refine XOps.s rfl rfl rfl (Q.move_nilsl rfl) ?_
      | refine XOps.s rfl rfl rfl (Q.move_fn rfl) ?_
      | refine XOps.s rfl rfl rfl (Q.move_tup rfl) ?_
      | refine XOps.s rfl rfl rfl (Q.move_ep rfl) ?_
      | refine XOps.s rfl rfl rfl (Q.move_dp rfl) ?_
      | refine XOps.s rfl rfl rfl (Q.move_dcut rfl) ?_
      | refine XOps.s rfl rfl rfl (Q.move_aggv rfl) ?_
      | refine XOps.s rfl rfl rfl (Q.move rfl) ?_
    first
      | refine XOps.s rfl rfl rfl (Q.len_sl isl23 rfl) ?_
      | refine XOps.s rfl rfl rfl (Q.len_vs isl23 rfl) ?_
      | refine XOps.s rfl rfl rfl (Q.len_nil isl23 rfl) ?_
      | refine XOps.s rfl rfl rfl (Q.len_dcut isl23 rfl) ?_
    first
      | refine XOps.s rfl rfl rfl (Q.move_d rfl) ?_
      | refine XOps.s rfl rfl rfl (Q.move_vs rfl) ?_
      | refine XOps.s rfl rfl rfl (Q.move_ptr rfl) ?_
      | refine XOps.s rfl rfl rfl (Q.move_nilsl rfl) ?_
      | refine XOps.s rfl rfl rfl (Q.move_fn rfl) ?_
      | refine XOps.s rfl rfl rfl (Q.move_tup rfl) ?_
      | refine XOps.s rfl rfl rfl (Q.move_ep rfl) ?_
      | refine XOps.s rfl rfl rfl (Q.move_dp rfl) ?_
      | refine XOps.s rfl rfl rfl (Q.move_dcut rfl) ?_
      | refine XOps.s rfl rfl rfl (Q.move_aggv rfl) ?_
      | refine XOps.s rfl rfl rfl (Q.move rfl) ?_
    refine XOps.nil ?_
    refine W.block ?_
    refine W.loop (ι := Nat) (fun k => [(0, .d (.sl 3 (l.map Ev.enc))), (8, .d (.sl 3 (l.map Ev.enc))), (9, .d (.int .i64 l.length)), (10, .d (.int .i64 (k : Nat)))]) (fun k => hs) (fun k => k ≤ l.length ∧ checkR l k = 0) (fun k => l.length - k) 0 ?_ ?_ ?_ ?_
    · exact ⟨Nat.zero_le _, rfl⟩
    · exact ⟨by first | rfl | exact int_eq (by omega) | exact len_eq (by simp) | exact int_eq (by simp; done), by first | rfl | exact int_eq (by omega) | exact len_eq (by simp) | exact int_eq (by simp; done), by first | rfl | exact int_eq (by omega) | exact len_eq (by simp) | exact int_eq (by simp; done), by first | rfl | exact int_eq (by omega) | exact len_eq (by simp) | exact int_eq (by simp; done), trivial⟩
    · repeat (first | exact HLe.refl _ | refine HLe.cons' (by first | rfl | (simp [Ev.enc]; done)) ?_ | refine HLe.pick 1 rfl (by first | rfl | (simp [Ev.enc]; done)) ?_ | refine HLe.pick 2 rfl (by first | rfl | (simp [Ev.enc]; done)) ?_ | refine HLe.pick 3 rfl (by first | rfl | (simp [Ev.enc]; done)) ?_ | refine HLe.pick 4 rfl (by first | rfl | (simp [Ev.enc]; done)) ?_ | refine HLe.pick 5 rfl (by first | rfl | (simp [Ev.enc]; done)) ?_ | refine HLe.skip _ ?_)
    · rintro k ⟨hk, hI⟩
      try dsimp only
      refine W.reg ?_
      first
        | refine XOps.s rfl rfl rfl (Q.lss rfl rfl) ?_
        | refine XOps.s rfl rfl rfl (Q.lss_str rfl rfl) ?_
      refine XOps.nil ?_
      refine W.seq ?_
      refine W.cond rfl (fun hc11 => ?_) (fun hc11 => ?_)
      · try simp only [Bool.or_eq_true, Bool.or_eq_false_iff, Bool.and_eq_true, Bool.and_eq_false_iff, decide_eq_true_eq, decide_eq_false_iff_not, Bool.not_eq_true', Bool.not_eq_false', Int.not_lt, Int.not_le, List.length_map] at hc11
        obtain ⟨x, hx⟩ : ∃ x, l[k]? = some x := ⟨_, List.getElem?_eq_getElem (by omega)⟩
        have htk : (l.take ((k : Nat) : Int).toNat).drop (0 : Int).toNat = l.take k := by simp
        refine W.skip ?_
        refine W.seq ?_
        refine W.block ?_
        refine W.reg ?_
        first
          | refine XOps.s rfl rfl rfl (Q.move_d rfl) ?_
          | refine XOps.s rfl rfl rfl (Q.move_vs rfl) ?_
          | refine XOps.s rfl rfl rfl (Q.move_ptr rfl) ?_
          | refine XOps.s rfl rfl rfl (Q.move_nilsl rfl) ?_
          | refine XOps.s rfl rfl rfl (Q.move_fn rfl) ?_
          | refine XOps.s rfl rfl rfl (Q.move_tup rfl) ?_
          | refine XOps.s rfl rfl rfl (Q.move_ep rfl) ?_
          | refine XOps.s rfl rfl rfl (Q.move_dp rfl) ?_
          | refine XOps.s rfl rfl rfl (Q.move_dcut rfl) ?_
          | refine XOps.s rfl rfl rfl (Q.move_aggv rfl) ?_
          | refine XOps.s rfl rfl rfl (Q.move rfl) ?_
        first
          | refine XOps.s rfl rfl rfl (Q.idx_sl sl23 (by decide) rfl rfl (by first | omega | (simp only [List.length_map]; omega)) (by first | exact map_at (by assumption) | exact map_at0 (by assumption) | assumption)) ?_
          | refine XOps.s rfl rfl rfl (Q.idx_vs (kk := 0) sl23 rfl rfl rfl (by first | omega | (simp at hg; omega)) (by first | omega | (dsimp only; omega))) ?_
          | refine XOps.s rfl rfl rfl (Q.idx_vs (kk := 1) sl23 rfl rfl rfl (by first | omega | (simp at hg; omega)) (by first | omega | (dsimp only; omega))) ?_
          | refine XOps.s rfl rfl rfl (Q.idx_vs (kk := 2) sl23 rfl rfl rfl (by first | omega | (simp at hg; omega)) (by first | omega | (dsimp only; omega))) ?_
          | refine XOps.s rfl rfl rfl (Q.idx_vs (kk := 3) sl23 rfl rfl rfl (by first | omega | (simp at hg; omega)) (by first | omega | (dsimp only; omega))) ?_
          | refine XOps.s rfl rfl rfl (Q.idx_vs (kk := 4) sl23 rfl rfl rfl (by first | omega | (simp at hg; omega)) (by first | omega | (dsimp only; omega))) ?_
          | refine XOps.s rfl rfl rfl (Q.idx_vs (kk := 5) sl23 rfl rfl rfl (by first | omega | (simp at hg; omega)) (by first | omega | (dsimp only; omega))) ?_
        first
          | refine XOps.s rfl rfl rfl (Q.ld_dpn ag26 rfl rfl) ?_
          | refine XOps.s rfl rfl rfl (Q.ld_ptrn (k := 0) ag26 rfl rfl rfl) ?_
          | refine XOps.s rfl rfl rfl (Q.ld_ptrv (k := 0) ag26 rfl rfl rfl) ?_
          | refine XOps.s rfl rfl rfl (Q.ld_ptrn (k := 1) ag26 rfl rfl rfl) ?_
          | refine XOps.s rfl rfl rfl (Q.ld_ptrv (k := 1) ag26 rfl rfl rfl) ?_
          | refine XOps.s rfl rfl rfl (Q.ld_ptrn (k := 2) ag26 rfl rfl rfl) ?_
          | refine XOps.s rfl rfl rfl (Q.ld_ptrv (k := 2) ag26 rfl rfl rfl) ?_
          | refine XOps.s rfl rfl rfl (Q.ld_ptrn (k := 3) ag26 rfl rfl rfl) ?_
          | refine XOps.s rfl rfl rfl (Q.ld_ptrv (k := 3) ag26 rfl rfl rfl) ?_
          | refine XOps.s rfl rfl rfl (Q.ld_ptrn (k := 4) ag26 rfl rfl rfl) ?_
          | refine XOps.s rfl rfl rfl (Q.ld_ptrv (k := 4) ag26 rfl rfl rfl) ?_
          | refine XOps.s rfl rfl rfl (Q.ld_ptrn (k := 5) ag26 rfl rfl rfl) ?_
          | refine XOps.s rfl rfl rfl (Q.ld_ptrv (k := 5) ag26 rfl rfl rfl) ?_
          | refine XOps.s rfl rfl rfl (Q.ld_epn (k := 0) ag26 rfl rfl (by first | exact map_at (by assumption) | exact map_at0 (by assumption) | assumption) rfl) ?_
          | refine XOps.s rfl rfl rfl (Q.ld_epn (k := 1) ag26 rfl rfl (by first | exact map_at (by assumption) | exact map_at0 (by assumption) | assumption) rfl) ?_
          | refine XOps.s rfl rfl rfl (Q.ld_epn (k := 2) ag26 rfl rfl (by first | exact map_at (by assumption) | exact map_at0 (by assumption) | assumption) rfl) ?_
          | refine XOps.s rfl rfl rfl (Q.ld_epn (k := 3) ag26 rfl rfl (by first | exact map_at (by assumption) | exact map_at0 (by assumption) | assumption) rfl) ?_
          | refine XOps.s rfl rfl rfl (Q.ld_epn (k := 4) ag26 rfl rfl (by first | exact map_at (by assumption) | exact map_at0 (by assumption) | assumption) rfl) ?_
          | refine XOps.s rfl rfl rfl (Q.ld_epn (k := 5) ag26 rfl rfl (by first | exact map_at (by assumption) | exact map_at0 (by assumption) | assumption) rfl) ?_
        (refine XOps.loud rfl (L.alloc tz26 rfl rfl) ?_; rintro _ _ ⟨b4, rfl, rfl⟩)
        first
          | refine XOps.s rfl rfl rfl (Q.assign_d rfl) ?_
          | refine XOps.s rfl rfl rfl (Q.assign_vs rfl) ?_
          | refine XOps.s rfl rfl rfl (Q.assign_ptr rfl) ?_
          | refine XOps.s rfl rfl rfl (Q.assign_nilsl rfl) ?_
          | refine XOps.s rfl rfl rfl (Q.assign_fn rfl) ?_
          | refine XOps.s rfl rfl rfl (Q.assign_tup rfl) ?_
          | refine XOps.s rfl rfl rfl (Q.assign_ep rfl) ?_
          | refine XOps.s rfl rfl rfl (Q.assign_dp rfl) ?_
          | refine XOps.s rfl rfl rfl (Q.assign_dcut rfl) ?_
          | refine XOps.s rfl rfl rfl (Q.assign_aggv rfl) ?_
          | refine XOps.s rfl rfl rfl (Q.assign rfl) ?_
        first
          | (refine XOps.loud rfl (L.storen (k := 0) ag26 rfl rfl rfl rfl rfl) ?_; rintro _ _ ⟨rfl, rfl⟩)
          | (refine XOps.loud rfl (L.storev (k := 0) ag26 rfl rfl rfl rfl rfl) ?_; rintro _ _ ⟨rfl, rfl⟩)
          | (refine XOps.loud rfl (L.storen (k := 1) ag26 rfl rfl rfl rfl rfl) ?_; rintro _ _ ⟨rfl, rfl⟩)
          | (refine XOps.loud rfl (L.storev (k := 1) ag26 rfl rfl rfl rfl rfl) ?_; rintro _ _ ⟨rfl, rfl⟩)
          | (refine XOps.loud rfl (L.storen (k := 2) ag26 rfl rfl rfl rfl rfl) ?_; rintro _ _ ⟨rfl, rfl⟩)
          | (refine XOps.loud rfl (L.storev (k := 2) ag26 rfl rfl rfl rfl rfl) ?_; rintro _ _ ⟨rfl, rfl⟩)
          | (refine XOps.loud rfl (L.storen (k := 3) ag26 rfl rfl rfl rfl rfl) ?_; rintro _ _ ⟨rfl, rfl⟩)
          | (refine XOps.loud rfl (L.storev (k := 3) ag26 rfl rfl rfl rfl rfl) ?_; rintro _ _ ⟨rfl, rfl⟩)
          | (refine XOps.loud rfl (L.storen (k := 4) ag26 rfl rfl rfl rfl rfl) ?_; rintro _ _ ⟨rfl, rfl⟩)
          | (refine XOps.loud rfl (L.storev (k := 4) ag26 rfl rfl rfl rfl rfl) ?_; rintro _ _ ⟨rfl, rfl⟩)
          | (refine XOps.loud rfl (L.storen (k := 5) ag26 rfl rfl rfl rfl rfl) ?_; rintro _ _ ⟨rfl, rfl⟩)
          | (refine XOps.loud rfl (L.storev (k := 5) ag26 rfl rfl rfl rfl rfl) ?_; rintro _ _ ⟨rfl, rfl⟩)
          | (refine XOps.loud rfl (L.storen_ep (k := 0) ag26 rfl rfl (by first | exact map_at (by assumption) | exact map_at0 (by assumption) | assumption) rfl rfl rfl) ?_; rintro _ _ ⟨rfl, rfl⟩)
          | (refine XOps.loud rfl (L.storen_ep (k := 1) ag26 rfl rfl (by first | exact map_at (by assumption) | exact map_at0 (by assumption) | assumption) rfl rfl rfl) ?_; rintro _ _ ⟨rfl, rfl⟩)
          | (refine XOps.loud rfl (L.storen_ep (k := 2) ag26 rfl rfl (by first | exact map_at (by assumption) | exact map_at0 (by assumption) | assumption) rfl rfl rfl) ?_; rintro _ _ ⟨rfl, rfl⟩)
          | (refine XOps.loud rfl (L.storen_ep (k := 3) ag26 rfl rfl (by first | exact map_at (by assumption) | exact map_at0 (by assumption) | assumption) rfl rfl rfl) ?_; rintro _ _ ⟨rfl, rfl⟩)
          | (refine XOps.loud rfl (L.storen_ep (k := 4) ag26 rfl rfl (by first | exact map_at (by assumption) | exact map_at0 (by assumption) | assumption) rfl rfl rfl) ?_; rintro _ _ ⟨rfl, rfl⟩)
          | (refine XOps.loud rfl (L.storen_ep (k := 5) ag26 rfl rfl (by first | exact map_at (by assumption) | exact map_at0 (by assumption) | assumption) rfl rfl rfl) ?_; rintro _ _ ⟨rfl, rfl⟩)
        refine XOps.nil ?_
        refine W.block ?_
        refine W.reg ?_
        first
          | refine XOps.s rfl rfl rfl (Q.fld_ptr fl26_0 rfl) ?_
          | refine XOps.s rfl rfl rfl (Q.fld_dp fl26_0 rfl) ?_
          | refine XOps.s rfl rfl rfl (Q.fld_ep fl26_0 rfl) ?_
        first
          | refine XOps.s rfl rfl rfl (Q.ld_dp ag3 rfl rfl) ?_
          | refine XOps.s rfl rfl rfl (Q.ld_ptr (k := 0) ag3 rfl rfl rfl) ?_
          | refine XOps.s rfl rfl rfl (Q.ld_ptr (k := 1) ag3 rfl rfl rfl) ?_
          | refine XOps.s rfl rfl rfl (Q.ld_ptr (k := 2) ag3 rfl rfl rfl) ?_
          | refine XOps.s rfl rfl rfl (Q.ld_ptr (k := 3) ag3 rfl rfl rfl) ?_
          | refine XOps.s rfl rfl rfl (Q.ld_ptr (k := 4) ag3 rfl rfl rfl) ?_
          | refine XOps.s rfl rfl rfl (Q.ld_ptr (k := 5) ag3 rfl rfl rfl) ?_
          | refine XOps.s rfl rfl rfl (Q.ld_ep (k := 0) ag3 rfl rfl (by first | exact map_at (by assumption) | exact map_at0 (by assumption) | assumption) rfl) ?_
          | refine XOps.s rfl rfl rfl (Q.ld_ep (k := 1) ag3 rfl rfl (by first | exact map_at (by assumption) | exact map_at0 (by assumption) | assumption) rfl) ?_
          | refine XOps.s rfl rfl rfl (Q.ld_ep (k := 2) ag3 rfl rfl (by first | exact map_at (by assumption) | exact map_at0 (by assumption) | assumption) rfl) ?_
          | refine XOps.s rfl rfl rfl (Q.ld_ep (k := 3) ag3 rfl rfl (by first | exact map_at (by assumption) | exact map_at0 (by assumption) | assumption) rfl) ?_
          | refine XOps.s rfl rfl rfl (Q.ld_ep (k := 4) ag3 rfl rfl (by first | exact map_at (by assumption) | exact map_at0 (by assumption) | assumption) rfl) ?_
          | refine XOps.s rfl rfl rfl (Q.ld_ep (k := 5) ag3 rfl rfl (by first | exact map_at (by assumption) | exact map_at0 (by assumption) | assumption) rfl) ?_
        first
          | refine XOps.s rfl rfl rfl (Q.lss rfl rfl) ?_
          | refine XOps.s rfl rfl rfl (Q.lss_str rfl rfl) ?_
        first
          | refine XOps.s rfl rfl rfl (Q.move_d rfl) ?_
          | refine XOps.s rfl rfl rfl (Q.move_vs rfl) ?_
          | refine XOps.s rfl rfl rfl (Q.move_ptr rfl) ?_
          | refine XOps.s rfl rfl rfl (Q.move_nilsl rfl) ?_
          | refine XOps.s rfl rfl rfl (Q.move_fn rfl) ?_
          | refine XOps.s rfl rfl rfl (Q.move_tup rfl) ?_
          | refine XOps.s rfl rfl rfl (Q.move_ep rfl) ?_
          | refine XOps.s rfl rfl rfl (Q.move_dp rfl) ?_
          | refine XOps.s rfl rfl rfl (Q.move_dcut rfl) ?_
          | refine XOps.s rfl rfl rfl (Q.move_aggv rfl) ?_
          | refine XOps.s rfl rfl rfl (Q.move rfl) ?_
        first
          | refine XOps.gs rfl rfl rfl rfl rfl rfl rfl (fun hg => Q.fld_ptr fl26_0 rfl) ?_
          | refine XOps.gs rfl rfl rfl rfl rfl rfl rfl (fun hg => Q.fld_dp fl26_0 rfl) ?_
          | refine XOps.gs rfl rfl rfl rfl rfl rfl rfl (fun hg => Q.fld_ep fl26_0 rfl) ?_
        first
          | refine XOps.gs rfl rfl rfl rfl rfl rfl rfl (fun hg => Quiet.open 20 hg rfl (Q.ld_dp ag3 rfl rfl)) ?_
          | refine XOps.gs rfl rfl rfl rfl rfl rfl rfl (fun hg => Quiet.open 20 hg rfl (Q.ld_ptr (k := 0) ag3 rfl rfl rfl)) ?_
          | refine XOps.gs rfl rfl rfl rfl rfl rfl rfl (fun hg => Quiet.open 20 hg rfl (Q.ld_ptr (k := 1) ag3 rfl rfl rfl)) ?_
          | refine XOps.gs rfl rfl rfl rfl rfl rfl rfl (fun hg => Quiet.open 20 hg rfl (Q.ld_ptr (k := 2) ag3 rfl rfl rfl)) ?_
          | refine XOps.gs rfl rfl rfl rfl rfl rfl rfl (fun hg => Quiet.open 20 hg rfl (Q.ld_ptr (k := 3) ag3 rfl rfl rfl)) ?_
          | refine XOps.gs rfl rfl rfl rfl rfl rfl rfl (fun hg => Quiet.open 20 hg rfl (Q.ld_ptr (k := 4) ag3 rfl rfl rfl)) ?_
          | refine XOps.gs rfl rfl rfl rfl rfl rfl rfl (fun hg => Quiet.open 20 hg rfl (Q.ld_ptr (k := 5) ag3 rfl rfl rfl)) ?_
          | refine XOps.gs rfl rfl rfl rfl rfl rfl rfl (fun hg => Quiet.open 20 hg rfl (Q.ld_ep (k := 0) ag3 rfl rfl (by first | exact map_at (by assumption) | exact map_at0 (by assumption) | assumption) rfl)) ?_
          | refine XOps.gs rfl rfl rfl rfl rfl rfl rfl (fun hg => Quiet.open 20 hg rfl (Q.ld_ep (k := 1) ag3 rfl rfl (by first | exact map_at (by assumption) | exact map_at0 (by assumption) | assumption) rfl)) ?_
          | refine XOps.gs rfl rfl rfl rfl rfl rfl rfl (fun hg => Quiet.open 20 hg rfl (Q.ld_ep (k := 2) ag3 rfl rfl (by first | exact map_at (by assumption) | exact map_at0 (by assumption) | assumption) rfl)) ?_
          | refine XOps.gs rfl rfl rfl rfl rfl rfl rfl (fun hg => Quiet.open 20 hg rfl (Q.ld_ep (k := 3) ag3 rfl rfl (by first | exact map_at (by assumption) | exact map_at0 (by assumption) | assumption) rfl)) ?_
          | refine XOps.gs rfl rfl rfl rfl rfl rfl rfl (fun hg => Quiet.open 20 hg rfl (Q.ld_ep (k := 4) ag3 rfl rfl (by first | exact map_at (by assumption) | exact map_at0 (by assumption) | assumption) rfl)) ?_
          | refine XOps.gs rfl rfl rfl rfl rfl rfl rfl (fun hg => Quiet.open 20 hg rfl (Q.ld_ep (k := 5) ag3 rfl rfl (by first | exact map_at (by assumption) | exact map_at0 (by assumption) | assumption) rfl)) ?_
        first
          | refine XOps.gs rfl rfl rfl rfl rfl rfl rfl (fun hg => Quiet.open 21 hg rfl (Q.geq rfl rfl)) ?_
          | refine XOps.gs rfl rfl rfl rfl rfl rfl rfl (fun hg => Quiet.open 21 hg rfl (Q.geq_str rfl rfl)) ?_
        first
          | refine XOps.s rfl rfl rfl (Q.pick_and rfl rfl rfl (fun h => by first | (rw [h]; rfl) | (rw [hg, h]; rfl) | (simp [h, hg]; done))) ?_
          | refine XOps.s rfl rfl rfl (Q.pick_or rfl rfl rfl (fun h => by first | (rw [h]; rfl) | (rw [hg, h]; rfl) | (simp [h, hg]; done))) ?_
          | refine XOps.s rfl rfl rfl (Q.pick rfl rfl rfl) ?_
        first
          | refine XOps.s rfl rfl rfl (Q.move_d rfl) ?_
          | refine XOps.s rfl rfl rfl (Q.move_vs rfl) ?_
          | refine XOps.s rfl rfl rfl (Q.move_ptr rfl) ?_
          | refine XOps.s rfl rfl rfl (Q.move_nilsl rfl) ?_
          | refine XOps.s rfl rfl rfl (Q.move_fn rfl) ?_
          | refine XOps.s rfl rfl rfl (Q.move_tup rfl) ?_
          | refine XOps.s rfl rfl rfl (Q.move_ep rfl) ?_
          | refine XOps.s rfl rfl rfl (Q.move_dp rfl) ?_
          | refine XOps.s rfl rfl rfl (Q.move_dcut rfl) ?_
          | refine XOps.s rfl rfl rfl (Q.move_aggv rfl) ?_
          | refine XOps.s rfl rfl rfl (Q.move rfl) ?_
        first
          | refine XOps.gs rfl rfl rfl rfl rfl rfl rfl (fun hg => Q.fld_ptr fl26_1 rfl) ?_
          | refine XOps.gs rfl rfl rfl rfl rfl rfl rfl (fun hg => Q.fld_dp fl26_1 rfl) ?_
          | refine XOps.gs rfl rfl rfl rfl rfl rfl rfl (fun hg => Q.fld_ep fl26_1 rfl) ?_
        first
          | refine XOps.gs rfl rfl rfl rfl rfl rfl rfl (fun hg => Quiet.open 25 hg rfl (Q.ld_dp ag3 rfl rfl)) ?_
          | refine XOps.gs rfl rfl rfl rfl rfl rfl rfl (fun hg => Quiet.open 25 hg rfl (Q.ld_ptr (k := 0) ag3 rfl rfl rfl)) ?_
          | refine XOps.gs rfl rfl rfl rfl rfl rfl rfl (fun hg => Quiet.open 25 hg rfl (Q.ld_ptr (k := 1) ag3 rfl rfl rfl)) ?_
          | refine XOps.gs rfl rfl rfl rfl rfl rfl rfl (fun hg => Quiet.open 25 hg rfl (Q.ld_ptr (k := 2) ag3 rfl rfl rfl)) ?_
          | refine XOps.gs rfl rfl rfl rfl rfl rfl rfl (fun hg => Quiet.open 25 hg rfl (Q.ld_ptr (k := 3) ag3 rfl rfl rfl)) ?_
          | refine XOps.gs rfl rfl rfl rfl rfl rfl rfl (fun hg => Quiet.open 25 hg rfl (Q.ld_ptr (k := 4) ag3 rfl rfl rfl)) ?_
          | refine XOps.gs rfl rfl rfl rfl rfl rfl rfl (fun hg => Quiet.open 25 hg rfl (Q.ld_ptr (k := 5) ag3 rfl rfl rfl)) ?_
          | refine XOps.gs rfl rfl rfl rfl rfl rfl rfl (fun hg => Quiet.open 25 hg rfl (Q.ld_ep (k := 0) ag3 rfl rfl (by first | exact map_at (by assumption) | exact map_at0 (by assumption) | assumption) rfl)) ?_
          | refine XOps.gs rfl rfl rfl rfl rfl rfl rfl (fun hg => Quiet.open 25 hg rfl (Q.ld_ep (k := 1) ag3 rfl rfl (by first | exact map_at (by assumption) | exact map_at0 (by assumption) | assumption) rfl)) ?_
          | refine XOps.gs rfl rfl rfl rfl rfl rfl rfl (fun hg => Quiet.open 25 hg rfl (Q.ld_ep (k := 2) ag3 rfl rfl (by first | exact map_at (by assumption) | exact map_at0 (by assumption) | assumption) rfl)) ?_
          | refine XOps.gs rfl rfl rfl rfl rfl rfl rfl (fun hg => Quiet.open 25 hg rfl (Q.ld_ep (k := 3) ag3 rfl rfl (by first | exact map_at (by assumption) | exact map_at0 (by assumption) | assumption) rfl)) ?_
          | refine XOps.gs rfl rfl rfl rfl rfl rfl rfl (fun hg => Quiet.open 25 hg rfl (Q.ld_ep (k := 4) ag3 rfl rfl (by first | exact map_at (by assumption) | exact map_at0 (by assumption) | assumption) rfl)) ?_
          | refine XOps.gs rfl rfl rfl rfl rfl rfl rfl (fun hg => Quiet.open 25 hg rfl (Q.ld_ep (k := 5) ag3 rfl rfl (by first | exact map_at (by assumption) | exact map_at0 (by assumption) | assumption) rfl)) ?_
        first
          | refine XOps.gs rfl rfl rfl rfl rfl rfl rfl (fun hg => Quiet.open 26 hg rfl (Q.lss rfl rfl)) ?_
          | refine XOps.gs rfl rfl rfl rfl rfl rfl rfl (fun hg => Quiet.open 26 hg rfl (Q.lss_str rfl rfl)) ?_
        first
          | refine XOps.s rfl rfl rfl (Q.pick_and rfl rfl rfl (fun h => by first | (rw [h]; rfl) | (rw [hg, h]; rfl) | (simp [h, hg]; done))) ?_
          | refine XOps.s rfl rfl rfl (Q.pick_or rfl rfl rfl (fun h => by first | (rw [h]; rfl) | (rw [hg, h]; rfl) | (simp [h, hg]; done))) ?_
          | refine XOps.s rfl rfl rfl (Q.pick rfl rfl rfl) ?_
        first
          | refine XOps.s rfl rfl rfl (Q.move_d rfl) ?_
          | refine XOps.s rfl rfl rfl (Q.move_vs rfl) ?_
          | refine XOps.s rfl rfl rfl (Q.move_ptr rfl) ?_
          | refine XOps.s rfl rfl rfl (Q.move_nilsl rfl) ?_
          | refine XOps.s rfl rfl rfl (Q.move_fn rfl) ?_
          | refine XOps.s rfl rfl rfl (Q.move_tup rfl) ?_
          | refine XOps.s rfl rfl rfl (Q.move_ep rfl) ?_
          | refine XOps.s rfl rfl rfl (Q.move_dp rfl) ?_
          | refine XOps.s rfl rfl rfl (Q.move_dcut rfl) ?_
          | refine XOps.s rfl rfl rfl (Q.move_aggv rfl) ?_
          | refine XOps.s rfl rfl rfl (Q.move rfl) ?_
        first
          | refine XOps.gs rfl rfl rfl rfl rfl rfl rfl (fun hg => Q.fld_ptr fl26_1 rfl) ?_
          | refine XOps.gs rfl rfl rfl rfl rfl rfl rfl (fun hg => Q.fld_dp fl26_1 rfl) ?_
          | refine XOps.gs rfl rfl rfl rfl rfl rfl rfl (fun hg => Q.fld_ep fl26_1 rfl) ?_
        first
          | refine XOps.gs rfl rfl rfl rfl rfl rfl rfl (fun hg => Quiet.open 30 hg rfl (Q.ld_dp ag3 rfl rfl)) ?_
          | refine XOps.gs rfl rfl rfl rfl rfl rfl rfl (fun hg => Quiet.open 30 hg rfl (Q.ld_ptr (k := 0) ag3 rfl rfl rfl)) ?_
          | refine XOps.gs rfl rfl rfl rfl rfl rfl rfl (fun hg => Quiet.open 30 hg rfl (Q.ld_ptr (k := 1) ag3 rfl rfl rfl)) ?_
          | refine XOps.gs rfl rfl rfl rfl rfl rfl rfl (fun hg => Quiet.open 30 hg rfl (Q.ld_ptr (k := 2) ag3 rfl rfl rfl)) ?_
          | refine XOps.gs rfl rfl rfl rfl rfl rfl rfl (fun hg => Quiet.open 30 hg rfl (Q.ld_ptr (k := 3) ag3 rfl rfl rfl)) ?_
          | refine XOps.gs rfl rfl rfl rfl rfl rfl rfl (fun hg => Quiet.open 30 hg rfl (Q.ld_ptr (k := 4) ag3 rfl rfl rfl)) ?_
          | refine XOps.gs rfl rfl rfl rfl rfl rfl rfl (fun hg => Quiet.open 30 hg rfl (Q.ld_ptr (k := 5) ag3 rfl rfl rfl)) ?_
          | refine XOps.gs rfl rfl rfl rfl rfl rfl rfl (fun hg => Quiet.open 30 hg rfl (Q.ld_ep (k := 0) ag3 rfl rfl (by first | exact map_at (by assumption) | exact map_at0 (by assumption) | assumption) rfl)) ?_
          | refine XOps.gs rfl rfl rfl rfl rfl rfl rfl (fun hg => Quiet.open 30 hg rfl (Q.ld_ep (k := 1) ag3 rfl rfl (by first | exact map_at (by assumption) | exact map_at0 (by assumption) | assumption) rfl)) ?_
          | refine XOps.gs rfl rfl rfl rfl rfl rfl rfl (fun hg => Quiet.open 30 hg rfl (Q.ld_ep (k := 2) ag3 rfl rfl (by first | exact map_at (by assumption) | exact map_at0 (by assumption) | assumption) rfl)) ?_
          | refine XOps.gs rfl rfl rfl rfl rfl rfl rfl (fun hg => Quiet.open 30 hg rfl (Q.ld_ep (k := 3) ag3 rfl rfl (by first | exact map_at (by assumption) | exact map_at0 (by assumption) | assumption) rfl)) ?_
          | refine XOps.gs rfl rfl rfl rfl rfl rfl rfl (fun hg => Quiet.open 30 hg rfl (Q.ld_ep (k := 4) ag3 rfl rfl (by first | exact map_at (by assumption) | exact map_at0 (by assumption) | assumption) rfl)) ?_
          | refine XOps.gs rfl rfl rfl rfl rfl rfl rfl (fun hg => Quiet.open 30 hg rfl (Q.ld_ep (k := 5) ag3 rfl rfl (by first | exact map_at (by assumption) | exact map_at0 (by assumption) | assumption) rfl)) ?_
        first
          | refine XOps.gs rfl rfl rfl rfl rfl rfl rfl (fun hg => Quiet.open 31 hg rfl (Q.gtr rfl rfl)) ?_
          | refine XOps.gs rfl rfl rfl rfl rfl rfl rfl (fun hg => Quiet.open 31 hg rfl (Q.gtr_str rfl rfl)) ?_
        first
          | refine XOps.s rfl rfl rfl (Q.pick_and rfl rfl rfl (fun h => by first | (rw [h]; rfl) | (rw [hg, h]; rfl) | (simp [h, hg]; done))) ?_
          | refine XOps.s rfl rfl rfl (Q.pick_or rfl rfl rfl (fun h => by first | (rw [h]; rfl) | (rw [hg, h]; rfl) | (simp [h, hg]; done))) ?_
          | refine XOps.s rfl rfl rfl (Q.pick rfl rfl rfl) ?_
        first
          | refine XOps.s rfl rfl rfl (Q.assign_d rfl) ?_
          | refine XOps.s rfl rfl rfl (Q.assign_vs rfl) ?_
          | refine XOps.s rfl rfl rfl (Q.assign_ptr rfl) ?_
          | refine XOps.s rfl rfl rfl (Q.assign_nilsl rfl) ?_
          | refine XOps.s rfl rfl rfl (Q.assign_fn rfl) ?_
          | refine XOps.s rfl rfl rfl (Q.assign_tup rfl) ?_
          | refine XOps.s rfl rfl rfl (Q.assign_ep rfl) ?_
          | refine XOps.s rfl rfl rfl (Q.assign_dp rfl) ?_
          | refine XOps.s rfl rfl rfl (Q.assign_dcut rfl) ?_
          | refine XOps.s rfl rfl rfl (Q.assign_aggv rfl) ?_
          | refine XOps.s rfl rfl rfl (Q.assign rfl) ?_
        refine XOps.nil ?_
        refine W.cond rfl (fun hc15 => ?_) (fun hc15 => ?_)
        · try simp only [Bool.or_eq_true, Bool.or_eq_false_iff, Bool.and_eq_true, Bool.and_eq_false_iff, decide_eq_true_eq, decide_eq_false_iff_not, Bool.not_eq_true', Bool.not_eq_false', Int.not_lt, Int.not_le, List.length_map] at hc15
          have hr : checkS l = 4 := checkS_err (by omega) hI hx (by unfold checkAt; rw [if_pos (by omega)]) (by decide)
          refine W.reg ?_
          first
            | refine XOps.s rfl rfl rfl (Q.assign_d rfl) ?_
            | refine XOps.s rfl rfl rfl (Q.assign_vs rfl) ?_
            | refine XOps.s rfl rfl rfl (Q.assign_ptr rfl) ?_
            | refine XOps.s rfl rfl rfl (Q.assign_nilsl rfl) ?_
            | refine XOps.s rfl rfl rfl (Q.assign_fn rfl) ?_
            | refine XOps.s rfl rfl rfl (Q.assign_tup rfl) ?_
            | refine XOps.s rfl rfl rfl (Q.assign_ep rfl) ?_
            | refine XOps.s rfl rfl rfl (Q.assign_dp rfl) ?_
            | refine XOps.s rfl rfl rfl (Q.assign_dcut rfl) ?_
            | refine XOps.s rfl rfl rfl (Q.assign_aggv rfl) ?_
            | refine XOps.s rfl rfl rfl (Q.assign rfl) ?_
          refine XOps.nil ?_
          refine W.ret ?_
          refine ⟨_, hs, rfl, by repeat (first | exact HLe.refl _ | refine HLe.cons' (by first | rfl | (simp [Ev.enc]; done)) ?_ | refine HLe.pick 1 rfl (by first | rfl | (simp [Ev.enc]; done)) ?_ | refine HLe.pick 2 rfl (by first | rfl | (simp [Ev.enc]; done)) ?_ | refine HLe.pick 3 rfl (by first | rfl | (simp [Ev.enc]; done)) ?_ | refine HLe.pick 4 rfl (by first | rfl | (simp [Ev.enc]; done)) ?_ | refine HLe.pick 5 rfl (by first | rfl | (simp [Ev.enc]; done)) ?_ | refine HLe.skip _ ?_), ?_, rfl⟩
          rw [hr]; rfl
        · try simp only [Bool.or_eq_true, Bool.or_eq_false_iff, Bool.and_eq_true, Bool.and_eq_false_iff, decide_eq_true_eq, decide_eq_false_iff_not, Bool.not_eq_true', Bool.not_eq_false', Int.not_lt, Int.not_le, List.length_map] at hc15
          refine W.reg ?_
          first
            | refine XOps.s rfl rfl rfl (Q.fld_ptr fl26_1 rfl) ?_
            | refine XOps.s rfl rfl rfl (Q.fld_dp fl26_1 rfl) ?_
            | refine XOps.s rfl rfl rfl (Q.fld_ep fl26_1 rfl) ?_
          first
            | refine XOps.s rfl rfl rfl (Q.ld_dp ag3 rfl rfl) ?_
            | refine XOps.s rfl rfl rfl (Q.ld_ptr (k := 0) ag3 rfl rfl rfl) ?_
            | refine XOps.s rfl rfl rfl (Q.ld_ptr (k := 1) ag3 rfl rfl rfl) ?_
            | refine XOps.s rfl rfl rfl (Q.ld_ptr (k := 2) ag3 rfl rfl rfl) ?_
            | refine XOps.s rfl rfl rfl (Q.ld_ptr (k := 3) ag3 rfl rfl rfl) ?_
            | refine XOps.s rfl rfl rfl (Q.ld_ptr (k := 4) ag3 rfl rfl rfl) ?_
            | refine XOps.s rfl rfl rfl (Q.ld_ptr (k := 5) ag3 rfl rfl rfl) ?_
            | refine XOps.s rfl rfl rfl (Q.ld_ep (k := 0) ag3 rfl rfl (by first | exact map_at (by assumption) | exact map_at0 (by assumption) | assumption) rfl) ?_
            | refine XOps.s rfl rfl rfl (Q.ld_ep (k := 1) ag3 rfl rfl (by first | exact map_at (by assumption) | exact map_at0 (by assumption) | assumption) rfl) ?_
            | refine XOps.s rfl rfl rfl (Q.ld_ep (k := 2) ag3 rfl rfl (by first | exact map_at (by assumption) | exact map_at0 (by assumption) | assumption) rfl) ?_
            | refine XOps.s rfl rfl rfl (Q.ld_ep (k := 3) ag3 rfl rfl (by first | exact map_at (by assumption) | exact map_at0 (by assumption) | assumption) rfl) ?_
            | refine XOps.s rfl rfl rfl (Q.ld_ep (k := 4) ag3 rfl rfl (by first | exact map_at (by assumption) | exact map_at0 (by assumption) | assumption) rfl) ?_
            | refine XOps.s rfl rfl rfl (Q.ld_ep (k := 5) ag3 rfl rfl (by first | exact map_at (by assumption) | exact map_at0 (by assumption) | assumption) rfl) ?_
          first
            | refine XOps.s rfl rfl rfl (Q.eql rfl rfl) ?_
            | refine XOps.s rfl rfl rfl (Q.eql_str rfl rfl) ?_
          first
            | refine XOps.s rfl rfl rfl (Q.move_d rfl) ?_
            | refine XOps.s rfl rfl rfl (Q.move_vs rfl) ?_
            | refine XOps.s rfl rfl rfl (Q.move_ptr rfl) ?_
            | refine XOps.s rfl rfl rfl (Q.move_nilsl rfl) ?_
            | refine XOps.s rfl rfl rfl (Q.move_fn rfl) ?_
            | refine XOps.s rfl rfl rfl (Q.move_tup rfl) ?_
            | refine XOps.s rfl rfl rfl (Q.move_ep rfl) ?_
            | refine XOps.s rfl rfl rfl (Q.move_dp rfl) ?_
            | refine XOps.s rfl rfl rfl (Q.move_dcut rfl) ?_
            | refine XOps.s rfl rfl rfl (Q.move_aggv rfl) ?_
            | refine XOps.s rfl rfl rfl (Q.move rfl) ?_
          first
            | refine XOps.gs rfl rfl rfl rfl rfl rfl rfl (fun hg => Q.fld_ptr fl26_2 rfl) ?_
            | refine XOps.gs rfl rfl rfl rfl rfl rfl rfl (fun hg => Q.fld_dp fl26_2 rfl) ?_
            | refine XOps.gs rfl rfl rfl rfl rfl rfl rfl (fun hg => Q.fld_ep fl26_2 rfl) ?_
          first
            | refine XOps.gs rfl rfl rfl rfl rfl rfl rfl (fun hg => Quiet.open 39 hg rfl (Q.ld_dp ag3 rfl rfl)) ?_
            | refine XOps.gs rfl rfl rfl rfl rfl rfl rfl (fun hg => Quiet.open 39 hg rfl (Q.ld_ptr (k := 0) ag3 rfl rfl rfl)) ?_
            | refine XOps.gs rfl rfl rfl rfl rfl rfl rfl (fun hg => Quiet.open 39 hg rfl (Q.ld_ptr (k := 1) ag3 rfl rfl rfl)) ?_
            | refine XOps.gs rfl rfl rfl rfl rfl rfl rfl (fun hg => Quiet.open 39 hg rfl (Q.ld_ptr (k := 2) ag3 rfl rfl rfl)) ?_
            | refine XOps.gs rfl rfl rfl rfl rfl rfl rfl (fun hg => Quiet.open 39 hg rfl (Q.ld_ptr (k := 3) ag3 rfl rfl rfl)) ?_
            | refine XOps.gs rfl rfl rfl rfl rfl rfl rfl (fun hg => Quiet.open 39 hg rfl (Q.ld_ptr (k := 4) ag3 rfl rfl rfl)) ?_
            | refine XOps.gs rfl rfl rfl rfl rfl rfl rfl (fun hg => Quiet.open 39 hg rfl (Q.ld_ptr (k := 5) ag3 rfl rfl rfl)) ?_
            | refine XOps.gs rfl rfl rfl rfl rfl rfl rfl (fun hg => Quiet.open 39 hg rfl (Q.ld_ep (k := 0) ag3 rfl rfl (by first | exact map_at (by assumption) | exact map_at0 (by assumption) | assumption) rfl)) ?_
            | refine XOps.gs rfl rfl rfl rfl rfl rfl rfl (fun hg => Quiet.open 39 hg rfl (Q.ld_ep (k := 1) ag3 rfl rfl (by first | exact map_at (by assumption) | exact map_at0 (by assumption) | assumption) rfl)) ?_
            | refine XOps.gs rfl rfl rfl rfl rfl rfl rfl (fun hg => Quiet.open 39 hg rfl (Q.ld_ep (k := 2) ag3 rfl rfl (by first | exact map_at (by assumption) | exact map_at0 (by assumption) | assumption) rfl)) ?_
            | refine XOps.gs rfl rfl rfl rfl rfl rfl rfl (fun hg => Quiet.open 39 hg rfl (Q.ld_ep (k := 3) ag3 rfl rfl (by first | exact map_at (by assumption) | exact map_at0 (by assumption) | assumption) rfl)) ?_
            | refine XOps.gs rfl rfl rfl rfl rfl rfl rfl (fun hg => Quiet.open 39 hg rfl (Q.ld_ep (k := 4) ag3 rfl rfl (by first | exact map_at (by assumption) | exact map_at0 (by assumption) | assumption) rfl)) ?_
            | refine XOps.gs rfl rfl rfl rfl rfl rfl rfl (fun hg => Quiet.open 39 hg rfl (Q.ld_ep (k := 5) ag3 rfl rfl (by first | exact map_at (by assumption) | exact map_at0 (by assumption) | assumption) rfl)) ?_
          first
            | refine XOps.gs rfl rfl rfl rfl rfl rfl rfl (fun hg => Quiet.open 40 hg rfl (Q.neq rfl rfl)) ?_
            | refine XOps.gs rfl rfl rfl rfl rfl rfl rfl (fun hg => Quiet.open 40 hg rfl (Q.neq_str rfl rfl)) ?_
          first
            | refine XOps.s rfl rfl rfl (Q.pick_and rfl rfl rfl (fun h => by first | (rw [h]; rfl) | (rw [hg, h]; rfl) | (simp [h, hg]; done))) ?_
            | refine XOps.s rfl rfl rfl (Q.pick_or rfl rfl rfl (fun h => by first | (rw [h]; rfl) | (rw [hg, h]; rfl) | (simp [h, hg]; done))) ?_
            | refine XOps.s rfl rfl rfl (Q.pick rfl rfl rfl) ?_
          first
            | refine XOps.s rfl rfl rfl (Q.assign_d rfl) ?_
            | refine XOps.s rfl rfl rfl (Q.assign_vs rfl) ?_
            | refine XOps.s rfl rfl rfl (Q.assign_ptr rfl) ?_
            | refine XOps.s rfl rfl rfl (Q.assign_nilsl rfl) ?_
            | refine XOps.s rfl rfl rfl (Q.assign_fn rfl) ?_
            | refine XOps.s rfl rfl rfl (Q.assign_tup rfl) ?_
            | refine XOps.s rfl rfl rfl (Q.assign_ep rfl) ?_
            | refine XOps.s rfl rfl rfl (Q.assign_dp rfl) ?_
            | refine XOps.s rfl rfl rfl (Q.assign_dcut rfl) ?_
            | refine XOps.s rfl rfl rfl (Q.assign_aggv rfl) ?_
            | refine XOps.s rfl rfl rfl (Q.assign rfl) ?_
          refine XOps.nil ?_
          refine W.cond rfl (fun hc34 => ?_) (fun hc34 => ?_)
          · try simp only [Bool.or_eq_true, Bool.or_eq_false_iff, Bool.and_eq_true, Bool.and_eq_false_iff, decide_eq_true_eq, decide_eq_false_iff_not, Bool.not_eq_true', Bool.not_eq_false', Int.not_lt, Int.not_le, List.length_map] at hc34
            have hr : checkS l = 3 := checkS_err (by omega) hI hx (by unfold checkAt; rw [if_neg (by omega), if_pos (by omega)]) (by decide)
            refine W.reg ?_
            first
              | refine XOps.s rfl rfl rfl (Q.assign_d rfl) ?_
              | refine XOps.s rfl rfl rfl (Q.assign_vs rfl) ?_
              | refine XOps.s rfl rfl rfl (Q.assign_ptr rfl) ?_
              | refine XOps.s rfl rfl rfl (Q.assign_nilsl rfl) ?_
              | refine XOps.s rfl rfl rfl (Q.assign_fn rfl) ?_
              | refine XOps.s rfl rfl rfl (Q.assign_tup rfl) ?_
              | refine XOps.s rfl rfl rfl (Q.assign_ep rfl) ?_
              | refine XOps.s rfl rfl rfl (Q.assign_dp rfl) ?_
              | refine XOps.s rfl rfl rfl (Q.assign_dcut rfl) ?_
              | refine XOps.s rfl rfl rfl (Q.assign_aggv rfl) ?_
              | refine XOps.s rfl rfl rfl (Q.assign rfl) ?_
            refine XOps.nil ?_
            refine W.ret ?_
            refine ⟨_, hs, rfl, by repeat (first | exact HLe.refl _ | refine HLe.cons' (by first | rfl | (simp [Ev.enc]; done)) ?_ | refine HLe.pick 1 rfl (by first | rfl | (simp [Ev.enc]; done)) ?_ | refine HLe.pick 2 rfl (by first | rfl | (simp [Ev.enc]; done)) ?_ | refine HLe.pick 3 rfl (by first | rfl | (simp [Ev.enc]; done)) ?_ | refine HLe.pick 4 rfl (by first | rfl | (simp [Ev.enc]; done)) ?_ | refine HLe.pick 5 rfl (by first | rfl | (simp [Ev.enc]; done)) ?_ | refine HLe.skip _ ?_), ?_, rfl⟩
            rw [hr]; rfl
          · try simp only [Bool.or_eq_true, Bool.or_eq_false_iff, Bool.and_eq_true, Bool.and_eq_false_iff, decide_eq_true_eq, decide_eq_false_iff_not, Bool.not_eq_true', Bool.not_eq_false', Int.not_lt, Int.not_le, List.length_map] at hc34
            refine W.drawreg 13 follows (by kernel_rfl) ?_
            first
              | refine Chain.cons _ (GQ.q rfl (Q.fld_ptr fl26_1 rfl)) rfl ?_
              | refine Chain.cons _ (GQ.q rfl (Q.fld_dp fl26_1 rfl)) rfl ?_
              | refine Chain.cons _ (GQ.q rfl (Q.fld_ep fl26_1 rfl)) rfl ?_
            first
              | refine Chain.cons _ (GQ.q rfl (Q.ld_dp ag3 rfl rfl)) rfl ?_
              | refine Chain.cons _ (GQ.q rfl (Q.ld_ptr (k := 0) ag3 rfl rfl rfl)) rfl ?_
              | refine Chain.cons _ (GQ.q rfl (Q.ld_ptr (k := 1) ag3 rfl rfl rfl)) rfl ?_
              | refine Chain.cons _ (GQ.q rfl (Q.ld_ptr (k := 2) ag3 rfl rfl rfl)) rfl ?_
              | refine Chain.cons _ (GQ.q rfl (Q.ld_ptr (k := 3) ag3 rfl rfl rfl)) rfl ?_
              | refine Chain.cons _ (GQ.q rfl (Q.ld_ptr (k := 4) ag3 rfl rfl rfl)) rfl ?_
              | refine Chain.cons _ (GQ.q rfl (Q.ld_ptr (k := 5) ag3 rfl rfl rfl)) rfl ?_
              | refine Chain.cons _ (GQ.q rfl (Q.ld_ep (k := 0) ag3 rfl rfl (by first | exact map_at (by assumption) | exact map_at0 (by assumption) | assumption) rfl)) rfl ?_
              | refine Chain.cons _ (GQ.q rfl (Q.ld_ep (k := 1) ag3 rfl rfl (by first | exact map_at (by assumption) | exact map_at0 (by assumption) | assumption) rfl)) rfl ?_
              | refine Chain.cons _ (GQ.q rfl (Q.ld_ep (k := 2) ag3 rfl rfl (by first | exact map_at (by assumption) | exact map_at0 (by assumption) | assumption) rfl)) rfl ?_
              | refine Chain.cons _ (GQ.q rfl (Q.ld_ep (k := 3) ag3 rfl rfl (by first | exact map_at (by assumption) | exact map_at0 (by assumption) | assumption) rfl)) rfl ?_
              | refine Chain.cons _ (GQ.q rfl (Q.ld_ep (k := 4) ag3 rfl rfl (by first | exact map_at (by assumption) | exact map_at0 (by assumption) | assumption) rfl)) rfl ?_
              | refine Chain.cons _ (GQ.q rfl (Q.ld_ep (k := 5) ag3 rfl rfl (by first | exact map_at (by assumption) | exact map_at0 (by assumption) | assumption) rfl)) rfl ?_
            first
              | refine Chain.cons _ (GQ.q rfl (Q.eql rfl rfl)) rfl ?_
              | refine Chain.cons _ (GQ.q rfl (Q.eql_str rfl rfl)) rfl ?_
            first
              | refine Chain.cons _ (GQ.q rfl (Q.move_d rfl)) rfl ?_
              | refine Chain.cons _ (GQ.q rfl (Q.move_vs rfl)) rfl ?_
              | refine Chain.cons _ (GQ.q rfl (Q.move_ptr rfl)) rfl ?_
              | refine Chain.cons _ (GQ.q rfl (Q.move_nilsl rfl)) rfl ?_
              | refine Chain.cons _ (GQ.q rfl (Q.move_fn rfl)) rfl ?_
              | refine Chain.cons _ (GQ.q rfl (Q.move_tup rfl)) rfl ?_
              | refine Chain.cons _ (GQ.q rfl (Q.move_ep rfl)) rfl ?_
              | refine Chain.cons _ (GQ.q rfl (Q.move_dp rfl)) rfl ?_
              | refine Chain.cons _ (GQ.q rfl (Q.move_dcut rfl)) rfl ?_
              | refine Chain.cons _ (GQ.q rfl (Q.move_aggv rfl)) rfl ?_
              | refine Chain.cons _ (GQ.q rfl (Q.move rfl)) rfl ?_
            first
              | refine Chain.cons _ (GQ.g rfl rfl rfl rfl rfl (fun hg => Q.move_d rfl)) rfl ?_
              | refine Chain.cons _ (GQ.g rfl rfl rfl rfl rfl (fun hg => Q.move_vs rfl)) rfl ?_
              | refine Chain.cons _ (GQ.g rfl rfl rfl rfl rfl (fun hg => Q.move_ptr rfl)) rfl ?_
              | refine Chain.cons _ (GQ.g rfl rfl rfl rfl rfl (fun hg => Q.move_nilsl rfl)) rfl ?_
              | refine Chain.cons _ (GQ.g rfl rfl rfl rfl rfl (fun hg => Q.move_fn rfl)) rfl ?_
              | refine Chain.cons _ (GQ.g rfl rfl rfl rfl rfl (fun hg => Q.move_tup rfl)) rfl ?_
              | refine Chain.cons _ (GQ.g rfl rfl rfl rfl rfl (fun hg => Q.move_ep rfl)) rfl ?_
              | refine Chain.cons _ (GQ.g rfl rfl rfl rfl rfl (fun hg => Q.move_dp rfl)) rfl ?_
              | refine Chain.cons _ (GQ.g rfl rfl rfl rfl rfl (fun hg => Q.move_dcut rfl)) rfl ?_
              | refine Chain.cons _ (GQ.g rfl rfl rfl rfl rfl (fun hg => Q.move_aggv rfl)) rfl ?_
              | refine Chain.cons _ (GQ.g rfl rfl rfl rfl rfl (fun hg => Q.move rfl)) rfl ?_
            first
              | refine Chain.cons _ (GQ.g rfl rfl rfl rfl rfl (fun hg => Q.move_d rfl)) rfl ?_
              | refine Chain.cons _ (GQ.g rfl rfl rfl rfl rfl (fun hg => Q.move_vs rfl)) rfl ?_
              | refine Chain.cons _ (GQ.g rfl rfl rfl rfl rfl (fun hg => Q.move_ptr rfl)) rfl ?_
              | refine Chain.cons _ (GQ.g rfl rfl rfl rfl rfl (fun hg => Q.move_nilsl rfl)) rfl ?_
              | refine Chain.cons _ (GQ.g rfl rfl rfl rfl rfl (fun hg => Q.move_fn rfl)) rfl ?_
              | refine Chain.cons _ (GQ.g rfl rfl rfl rfl rfl (fun hg => Q.move_tup rfl)) rfl ?_
              | refine Chain.cons _ (GQ.g rfl rfl rfl rfl rfl (fun hg => Q.move_ep rfl)) rfl ?_
              | refine Chain.cons _ (GQ.g rfl rfl rfl rfl rfl (fun hg => Q.move_dp rfl)) rfl ?_
              | refine Chain.cons _ (GQ.g rfl rfl rfl rfl rfl (fun hg => Q.move_dcut rfl)) rfl ?_
              | refine Chain.cons _ (GQ.g rfl rfl rfl rfl rfl (fun hg => Q.move_aggv rfl)) rfl ?_
              | refine Chain.cons _ (GQ.g rfl rfl rfl rfl rfl (fun hg => Q.move rfl)) rfl ?_
            first
              | refine Chain.cons _ (GQ.g rfl rfl rfl rfl rfl (fun hg => Quiet.open 48 hg rfl (Quiet.open 49 hg rfl (Q.cut_slm sl23 rfl rfl rfl (by first | omega | (simp only [List.length_map]; omega)) (by first | omega | (simp only [List.length_map]; omega)) (by first | omega | (simp only [List.length_map]; omega)))))) rfl ?_
              | refine Chain.cons _ (GQ.g rfl rfl rfl rfl rfl (fun hg => Quiet.open 48 hg rfl (Quiet.open 49 hg rfl (Q.cut_sl sl23 rfl rfl rfl (by first | omega | (simp only [List.length_map]; omega)) (by first | omega | (simp only [List.length_map]; omega)) (by first | omega | (simp only [List.length_map]; omega)))))) rfl ?_
              | refine Chain.cons _ (GQ.g rfl rfl rfl rfl rfl (fun hg => Quiet.open 48 hg rfl (Quiet.open 49 hg rfl (Q.cut_vs sl23 rfl rfl rfl (by first | omega | (simp only [List.length_map]; omega)) (by first | omega | (simp only [List.length_map]; omega)) (by first | omega | (simp only [List.length_map]; omega)))))) rfl ?_
              | refine Chain.cons _ (GQ.g rfl rfl rfl rfl rfl (fun hg => Quiet.open 48 hg rfl (Quiet.open 49 hg rfl (Q.cut_nil sl23 rfl rfl rfl (by first | omega | (simp at hg; omega)) (by first | omega | (simp at hg; omega)))))) rfl ?_
            first
              | refine Chain.cons _ (GQ.g rfl rfl rfl rfl rfl (fun hg => Q.fld_ptr fl26_2 rfl)) rfl ?_
              | refine Chain.cons _ (GQ.g rfl rfl rfl rfl rfl (fun hg => Q.fld_dp fl26_2 rfl)) rfl ?_
              | refine Chain.cons _ (GQ.g rfl rfl rfl rfl rfl (fun hg => Q.fld_ep fl26_2 rfl)) rfl ?_
            first
              | refine Chain.cons _ (GQ.g rfl rfl rfl rfl rfl (fun hg => Quiet.open 51 hg rfl (Q.ld_dp ag3 rfl rfl))) rfl ?_
              | refine Chain.cons _ (GQ.g rfl rfl rfl rfl rfl (fun hg => Quiet.open 51 hg rfl (Q.ld_ptr (k := 0) ag3 rfl rfl rfl))) rfl ?_
              | refine Chain.cons _ (GQ.g rfl rfl rfl rfl rfl (fun hg => Quiet.open 51 hg rfl (Q.ld_ptr (k := 1) ag3 rfl rfl rfl))) rfl ?_
              | refine Chain.cons _ (GQ.g rfl rfl rfl rfl rfl (fun hg => Quiet.open 51 hg rfl (Q.ld_ptr (k := 2) ag3 rfl rfl rfl))) rfl ?_
              | refine Chain.cons _ (GQ.g rfl rfl rfl rfl rfl (fun hg => Quiet.open 51 hg rfl (Q.ld_ptr (k := 3) ag3 rfl rfl rfl))) rfl ?_
              | refine Chain.cons _ (GQ.g rfl rfl rfl rfl rfl (fun hg => Quiet.open 51 hg rfl (Q.ld_ptr (k := 4) ag3 rfl rfl rfl))) rfl ?_
              | refine Chain.cons _ (GQ.g rfl rfl rfl rfl rfl (fun hg => Quiet.open 51 hg rfl (Q.ld_ptr (k := 5) ag3 rfl rfl rfl))) rfl ?_
              | refine Chain.cons _ (GQ.g rfl rfl rfl rfl rfl (fun hg => Quiet.open 51 hg rfl (Q.ld_ep (k := 0) ag3 rfl rfl (by first | exact map_at (by assumption) | exact map_at0 (by assumption) | assumption) rfl))) rfl ?_
              | refine Chain.cons _ (GQ.g rfl rfl rfl rfl rfl (fun hg => Quiet.open 51 hg rfl (Q.ld_ep (k := 1) ag3 rfl rfl (by first | exact map_at (by assumption) | exact map_at0 (by assumption) | assumption) rfl))) rfl ?_
              | refine Chain.cons _ (GQ.g rfl rfl rfl rfl rfl (fun hg => Quiet.open 51 hg rfl (Q.ld_ep (k := 2) ag3 rfl rfl (by first | exact map_at (by assumption) | exact map_at0 (by assumption) | assumption) rfl))) rfl ?_
              | refine Chain.cons _ (GQ.g rfl rfl rfl rfl rfl (fun hg => Quiet.open 51 hg rfl (Q.ld_ep (k := 3) ag3 rfl rfl (by first | exact map_at (by assumption) | exact map_at0 (by assumption) | assumption) rfl))) rfl ?_
              | refine Chain.cons _ (GQ.g rfl rfl rfl rfl rfl (fun hg => Quiet.open 51 hg rfl (Q.ld_ep (k := 4) ag3 rfl rfl (by first | exact map_at (by assumption) | exact map_at0 (by assumption) | assumption) rfl))) rfl ?_
              | refine Chain.cons _ (GQ.g rfl rfl rfl rfl rfl (fun hg => Quiet.open 51 hg rfl (Q.ld_ep (k := 5) ag3 rfl rfl (by first | exact map_at (by assumption) | exact map_at0 (by assumption) | assumption) rfl))) rfl ?_
            refine Chain.cons _ (GQ.g rfl rfl rfl rfl rfl (fun hg => Quiet.open 50 hg rfl (Quiet.open 52 hg rfl (Q.call rfl Try.func22 go22 rfl (sender_c _ x.msg _ (by simp; omega)))))) rfl ?_
            first
              | refine Chain.cons _ (GQ.g rfl rfl rfl rfl rfl (fun hg => Quiet.open 53 hg rfl (Q.geq rfl rfl))) rfl ?_
              | refine Chain.cons _ (GQ.g rfl rfl rfl rfl rfl (fun hg => Quiet.open 53 hg rfl (Q.geq_str rfl rfl))) rfl ?_
            first
              | refine Chain.cons _ (GQ.q rfl (Q.pick_and rfl rfl rfl (fun h => by first | (rw [h]; rfl) | (rw [hg, h]; rfl) | (simp [h, hg]; done)))) rfl ?_
              | refine Chain.cons _ (GQ.q rfl (Q.pick_or rfl rfl rfl (fun h => by first | (rw [h]; rfl) | (rw [hg, h]; rfl) | (simp [h, hg]; done)))) rfl ?_
              | refine Chain.cons _ (GQ.q rfl (Q.pick rfl rfl rfl)) rfl ?_
            first
              | refine Chain.cons _ (GQ.q rfl (Q.assign_d rfl)) rfl ?_
              | refine Chain.cons _ (GQ.q rfl (Q.assign_vs rfl)) rfl ?_
              | refine Chain.cons _ (GQ.q rfl (Q.assign_ptr rfl)) rfl ?_
              | refine Chain.cons _ (GQ.q rfl (Q.assign_nilsl rfl)) rfl ?_
              | refine Chain.cons _ (GQ.q rfl (Q.assign_fn rfl)) rfl ?_
              | refine Chain.cons _ (GQ.q rfl (Q.assign_tup rfl)) rfl ?_
              | refine Chain.cons _ (GQ.q rfl (Q.assign_ep rfl)) rfl ?_
              | refine Chain.cons _ (GQ.q rfl (Q.assign_dp rfl)) rfl ?_
              | refine Chain.cons _ (GQ.q rfl (Q.assign_dcut rfl)) rfl ?_
              | refine Chain.cons _ (GQ.q rfl (Q.assign_aggv rfl)) rfl ?_
              | refine Chain.cons _ (GQ.q rfl (Q.assign rfl)) rfl ?_
            refine Chain.nil ?_
            refine XOps.nil ?_
            refine W.cond rfl (fun hc43 => ?_) (fun hc43 => ?_)
            · try simp only [Bool.or_eq_true, Bool.or_eq_false_iff, Bool.and_eq_true, Bool.and_eq_false_iff, decide_eq_true_eq, decide_eq_false_iff_not, Bool.not_eq_true', Bool.not_eq_false', Int.not_lt, Int.not_le, List.length_map] at hc43
              rw [htk] at hc43
              have hr : checkS l = 7 := checkS_err (by omega) hI hx (by unfold checkAt; rw [if_neg (by omega), if_neg (by omega), if_pos (by omega)]) (by decide)
              refine W.reg ?_
              first
                | refine XOps.s rfl rfl rfl (Q.assign_d rfl) ?_
                | refine XOps.s rfl rfl rfl (Q.assign_vs rfl) ?_
                | refine XOps.s rfl rfl rfl (Q.assign_ptr rfl) ?_
                | refine XOps.s rfl rfl rfl (Q.assign_nilsl rfl) ?_
                | refine XOps.s rfl rfl rfl (Q.assign_fn rfl) ?_
                | refine XOps.s rfl rfl rfl (Q.assign_tup rfl) ?_
                | refine XOps.s rfl rfl rfl (Q.assign_ep rfl) ?_
                | refine XOps.s rfl rfl rfl (Q.assign_dp rfl) ?_
                | refine XOps.s rfl rfl rfl (Q.assign_dcut rfl) ?_
                | refine XOps.s rfl rfl rfl (Q.assign_aggv rfl) ?_
                | refine XOps.s rfl rfl rfl (Q.assign rfl) ?_
              refine XOps.nil ?_
              refine W.ret ?_
              refine ⟨_, hs, rfl, by repeat (first | exact HLe.refl _ | refine HLe.cons' (by first | rfl | (simp [Ev.enc]; done)) ?_ | refine HLe.pick 1 rfl (by first | rfl | (simp [Ev.enc]; done)) ?_ | refine HLe.pick 2 rfl (by first | rfl | (simp [Ev.enc]; done)) ?_ | refine HLe.pick 3 rfl (by first | rfl | (simp [Ev.enc]; done)) ?_ | refine HLe.pick 4 rfl (by first | rfl | (simp [Ev.enc]; done)) ?_ | refine HLe.pick 5 rfl (by first | rfl | (simp [Ev.enc]; done)) ?_ | refine HLe.skip _ ?_), ?_, rfl⟩
              rw [hr]; rfl
            · try simp only [Bool.or_eq_true, Bool.or_eq_false_iff, Bool.and_eq_true, Bool.and_eq_false_iff, decide_eq_true_eq, decide_eq_false_iff_not, Bool.not_eq_true', Bool.not_eq_false', Int.not_lt, Int.not_le, List.length_map] at hc43
              rw [htk] at hc43
              refine W.drawreg 13 follows (by kernel_rfl) ?_
              first
                | refine Chain.cons _ (GQ.q rfl (Q.fld_ptr fl26_1 rfl)) rfl ?_
                | refine Chain.cons _ (GQ.q rfl (Q.fld_dp fl26_1 rfl)) rfl ?_
                | refine Chain.cons _ (GQ.q rfl (Q.fld_ep fl26_1 rfl)) rfl ?_
              first
                | refine Chain.cons _ (GQ.q rfl (Q.ld_dp ag3 rfl rfl)) rfl ?_
                | refine Chain.cons _ (GQ.q rfl (Q.ld_ptr (k := 0) ag3 rfl rfl rfl)) rfl ?_
                | refine Chain.cons _ (GQ.q rfl (Q.ld_ptr (k := 1) ag3 rfl rfl rfl)) rfl ?_
                | refine Chain.cons _ (GQ.q rfl (Q.ld_ptr (k := 2) ag3 rfl rfl rfl)) rfl ?_
                | refine Chain.cons _ (GQ.q rfl (Q.ld_ptr (k := 3) ag3 rfl rfl rfl)) rfl ?_
                | refine Chain.cons _ (GQ.q rfl (Q.ld_ptr (k := 4) ag3 rfl rfl rfl)) rfl ?_
                | refine Chain.cons _ (GQ.q rfl (Q.ld_ptr (k := 5) ag3 rfl rfl rfl)) rfl ?_
                | refine Chain.cons _ (GQ.q rfl (Q.ld_ep (k := 0) ag3 rfl rfl (by first | exact map_at (by assumption) | exact map_at0 (by assumption) | assumption) rfl)) rfl ?_
                | refine Chain.cons _ (GQ.q rfl (Q.ld_ep (k := 1) ag3 rfl rfl (by first | exact map_at (by assumption) | exact map_at0 (by assumption) | assumption) rfl)) rfl ?_
                | refine Chain.cons _ (GQ.q rfl (Q.ld_ep (k := 2) ag3 rfl rfl (by first | exact map_at (by assumption) | exact map_at0 (by assumption) | assumption) rfl)) rfl ?_
                | refine Chain.cons _ (GQ.q rfl (Q.ld_ep (k := 3) ag3 rfl rfl (by first | exact map_at (by assumption) | exact map_at0 (by assumption) | assumption) rfl)) rfl ?_
                | refine Chain.cons _ (GQ.q rfl (Q.ld_ep (k := 4) ag3 rfl rfl (by first | exact map_at (by assumption) | exact map_at0 (by assumption) | assumption) rfl)) rfl ?_
                | refine Chain.cons _ (GQ.q rfl (Q.ld_ep (k := 5) ag3 rfl rfl (by first | exact map_at (by assumption) | exact map_at0 (by assumption) | assumption) rfl)) rfl ?_
              first
                | refine Chain.cons _ (GQ.q rfl (Q.eql rfl rfl)) rfl ?_
                | refine Chain.cons _ (GQ.q rfl (Q.eql_str rfl rfl)) rfl ?_
              first
                | refine Chain.cons _ (GQ.q rfl (Q.move_d rfl)) rfl ?_
                | refine Chain.cons _ (GQ.q rfl (Q.move_vs rfl)) rfl ?_
                | refine Chain.cons _ (GQ.q rfl (Q.move_ptr rfl)) rfl ?_
                | refine Chain.cons _ (GQ.q rfl (Q.move_nilsl rfl)) rfl ?_
                | refine Chain.cons _ (GQ.q rfl (Q.move_fn rfl)) rfl ?_
                | refine Chain.cons _ (GQ.q rfl (Q.move_tup rfl)) rfl ?_
                | refine Chain.cons _ (GQ.q rfl (Q.move_ep rfl)) rfl ?_
                | refine Chain.cons _ (GQ.q rfl (Q.move_dp rfl)) rfl ?_
                | refine Chain.cons _ (GQ.q rfl (Q.move_dcut rfl)) rfl ?_
                | refine Chain.cons _ (GQ.q rfl (Q.move_aggv rfl)) rfl ?_
                | refine Chain.cons _ (GQ.q rfl (Q.move rfl)) rfl ?_
              first
                | refine Chain.cons _ (GQ.g rfl rfl rfl rfl rfl (fun hg => Q.move_d rfl)) rfl ?_
                | refine Chain.cons _ (GQ.g rfl rfl rfl rfl rfl (fun hg => Q.move_vs rfl)) rfl ?_
                | refine Chain.cons _ (GQ.g rfl rfl rfl rfl rfl (fun hg => Q.move_ptr rfl)) rfl ?_
                | refine Chain.cons _ (GQ.g rfl rfl rfl rfl rfl (fun hg => Q.move_nilsl rfl)) rfl ?_
                | refine Chain.cons _ (GQ.g rfl rfl rfl rfl rfl (fun hg => Q.move_fn rfl)) rfl ?_
                | refine Chain.cons _ (GQ.g rfl rfl rfl rfl rfl (fun hg => Q.move_tup rfl)) rfl ?_
                | refine Chain.cons _ (GQ.g rfl rfl rfl rfl rfl (fun hg => Q.move_ep rfl)) rfl ?_
                | refine Chain.cons _ (GQ.g rfl rfl rfl rfl rfl (fun hg => Q.move_dp rfl)) rfl ?_
                | refine Chain.cons _ (GQ.g rfl rfl rfl rfl rfl (fun hg => Q.move_dcut rfl)) rfl ?_
                | refine Chain.cons _ (GQ.g rfl rfl rfl rfl rfl (fun hg => Q.move_aggv rfl)) rfl ?_
                | refine Chain.cons _ (GQ.g rfl rfl rfl rfl rfl (fun hg => Q.move rfl)) rfl ?_
              first
                | refine Chain.cons _ (GQ.g rfl rfl rfl rfl rfl (fun hg => Q.move_d rfl)) rfl ?_
                | refine Chain.cons _ (GQ.g rfl rfl rfl rfl rfl (fun hg => Q.move_vs rfl)) rfl ?_
                | refine Chain.cons _ (GQ.g rfl rfl rfl rfl rfl (fun hg => Q.move_ptr rfl)) rfl ?_
                | refine Chain.cons _ (GQ.g rfl rfl rfl rfl rfl (fun hg => Q.move_nilsl rfl)) rfl ?_
                | refine Chain.cons _ (GQ.g rfl rfl rfl rfl rfl (fun hg => Q.move_fn rfl)) rfl ?_
                | refine Chain.cons _ (GQ.g rfl rfl rfl rfl rfl (fun hg => Q.move_tup rfl)) rfl ?_
                | refine Chain.cons _ (GQ.g rfl rfl rfl rfl rfl (fun hg => Q.move_ep rfl)) rfl ?_
                | refine Chain.cons _ (GQ.g rfl rfl rfl rfl rfl (fun hg => Q.move_dp rfl)) rfl ?_
                | refine Chain.cons _ (GQ.g rfl rfl rfl rfl rfl (fun hg => Q.move_dcut rfl)) rfl ?_
                | refine Chain.cons _ (GQ.g rfl rfl rfl rfl rfl (fun hg => Q.move_aggv rfl)) rfl ?_
                | refine Chain.cons _ (GQ.g rfl rfl rfl rfl rfl (fun hg => Q.move rfl)) rfl ?_
              first
                | refine Chain.cons _ (GQ.g rfl rfl rfl rfl rfl (fun hg => Quiet.open 61 hg rfl (Quiet.open 62 hg rfl (Q.cut_slm sl23 rfl rfl rfl (by first | omega | (simp only [List.length_map]; omega)) (by first | omega | (simp only [List.length_map]; omega)) (by first | omega | (simp only [List.length_map]; omega)))))) rfl ?_
                | refine Chain.cons _ (GQ.g rfl rfl rfl rfl rfl (fun hg => Quiet.open 61 hg rfl (Quiet.open 62 hg rfl (Q.cut_sl sl23 rfl rfl rfl (by first | omega | (simp only [List.length_map]; omega)) (by first | omega | (simp only [List.length_map]; omega)) (by first | omega | (simp only [List.length_map]; omega)))))) rfl ?_
                | refine Chain.cons _ (GQ.g rfl rfl rfl rfl rfl (fun hg => Quiet.open 61 hg rfl (Quiet.open 62 hg rfl (Q.cut_vs sl23 rfl rfl rfl (by first | omega | (simp only [List.length_map]; omega)) (by first | omega | (simp only [List.length_map]; omega)) (by first | omega | (simp only [List.length_map]; omega)))))) rfl ?_
                | refine Chain.cons _ (GQ.g rfl rfl rfl rfl rfl (fun hg => Quiet.open 61 hg rfl (Quiet.open 62 hg rfl (Q.cut_nil sl23 rfl rfl rfl (by first | omega | (simp at hg; omega)) (by first | omega | (simp at hg; omega)))))) rfl ?_
              first
                | refine Chain.cons _ (GQ.g rfl rfl rfl rfl rfl (fun hg => Q.fld_ptr fl26_2 rfl)) rfl ?_
                | refine Chain.cons _ (GQ.g rfl rfl rfl rfl rfl (fun hg => Q.fld_dp fl26_2 rfl)) rfl ?_
                | refine Chain.cons _ (GQ.g rfl rfl rfl rfl rfl (fun hg => Q.fld_ep fl26_2 rfl)) rfl ?_
              first
                | refine Chain.cons _ (GQ.g rfl rfl rfl rfl rfl (fun hg => Quiet.open 64 hg rfl (Q.ld_dp ag3 rfl rfl))) rfl ?_
                | refine Chain.cons _ (GQ.g rfl rfl rfl rfl rfl (fun hg => Quiet.open 64 hg rfl (Q.ld_ptr (k := 0) ag3 rfl rfl rfl))) rfl ?_
                | refine Chain.cons _ (GQ.g rfl rfl rfl rfl rfl (fun hg => Quiet.open 64 hg rfl (Q.ld_ptr (k := 1) ag3 rfl rfl rfl))) rfl ?_
                | refine Chain.cons _ (GQ.g rfl rfl rfl rfl rfl (fun hg => Quiet.open 64 hg rfl (Q.ld_ptr (k := 2) ag3 rfl rfl rfl))) rfl ?_
                | refine Chain.cons _ (GQ.g rfl rfl rfl rfl rfl (fun hg => Quiet.open 64 hg rfl (Q.ld_ptr (k := 3) ag3 rfl rfl rfl))) rfl ?_
                | refine Chain.cons _ (GQ.g rfl rfl rfl rfl rfl (fun hg => Quiet.open 64 hg rfl (Q.ld_ptr (k := 4) ag3 rfl rfl rfl))) rfl ?_
                | refine Chain.cons _ (GQ.g rfl rfl rfl rfl rfl (fun hg => Quiet.open 64 hg rfl (Q.ld_ptr (k := 5) ag3 rfl rfl rfl))) rfl ?_
                | refine Chain.cons _ (GQ.g rfl rfl rfl rfl rfl (fun hg => Quiet.open 64 hg rfl (Q.ld_ep (k := 0) ag3 rfl rfl (by first | exact map_at (by assumption) | exact map_at0 (by assumption) | assumption) rfl))) rfl ?_
                | refine Chain.cons _ (GQ.g rfl rfl rfl rfl rfl (fun hg => Quiet.open 64 hg rfl (Q.ld_ep (k := 1) ag3 rfl rfl (by first | exact map_at (by assumption) | exact map_at0 (by assumption) | assumption) rfl))) rfl ?_
                | refine Chain.cons _ (GQ.g rfl rfl rfl rfl rfl (fun hg => Quiet.open 64 hg rfl (Q.ld_ep (k := 2) ag3 rfl rfl (by first | exact map_at (by assumption) | exact map_at0 (by assumption) | assumption) rfl))) rfl ?_
                | refine Chain.cons _ (GQ.g rfl rfl rfl rfl rfl (fun hg => Quiet.open 64 hg rfl (Q.ld_ep (k := 3) ag3 rfl rfl (by first | exact map_at (by assumption) | exact map_at0 (by assumption) | assumption) rfl))) rfl ?_
                | refine Chain.cons _ (GQ.g rfl rfl rfl rfl rfl (fun hg => Quiet.open 64 hg rfl (Q.ld_ep (k := 4) ag3 rfl rfl (by first | exact map_at (by assumption) | exact map_at0 (by assumption) | assumption) rfl))) rfl ?_
                | refine Chain.cons _ (GQ.g rfl rfl rfl rfl rfl (fun hg => Quiet.open 64 hg rfl (Q.ld_ep (k := 5) ag3 rfl rfl (by first | exact map_at (by assumption) | exact map_at0 (by assumption) | assumption) rfl))) rfl ?_
              refine Chain.cons _ (GQ.g rfl rfl rfl rfl rfl (fun hg => Quiet.open 63 hg rfl (Quiet.open 65 hg rfl (Q.call rfl Try.func22 go22 rfl (sender_c _ x.msg _ (by simp; omega)))))) rfl ?_
              first
                | refine Chain.cons _ (GQ.g rfl rfl rfl rfl rfl (fun hg => Quiet.open 66 hg rfl (Q.lss rfl rfl))) rfl ?_
                | refine Chain.cons _ (GQ.g rfl rfl rfl rfl rfl (fun hg => Quiet.open 66 hg rfl (Q.lss_str rfl rfl))) rfl ?_
              first
                | refine Chain.cons _ (GQ.q rfl (Q.pick_and rfl rfl rfl (fun h => by first | (rw [h]; rfl) | (rw [hg, h]; rfl) | (simp [h, hg]; done)))) rfl ?_
                | refine Chain.cons _ (GQ.q rfl (Q.pick_or rfl rfl rfl (fun h => by first | (rw [h]; rfl) | (rw [hg, h]; rfl) | (simp [h, hg]; done)))) rfl ?_
                | refine Chain.cons _ (GQ.q rfl (Q.pick rfl rfl rfl)) rfl ?_
              first
                | refine Chain.cons _ (GQ.q rfl (Q.assign_d rfl)) rfl ?_
                | refine Chain.cons _ (GQ.q rfl (Q.assign_vs rfl)) rfl ?_
                | refine Chain.cons _ (GQ.q rfl (Q.assign_ptr rfl)) rfl ?_
                | refine Chain.cons _ (GQ.q rfl (Q.assign_nilsl rfl)) rfl ?_
                | refine Chain.cons _ (GQ.q rfl (Q.assign_fn rfl)) rfl ?_
                | refine Chain.cons _ (GQ.q rfl (Q.assign_tup rfl)) rfl ?_
                | refine Chain.cons _ (GQ.q rfl (Q.assign_ep rfl)) rfl ?_
                | refine Chain.cons _ (GQ.q rfl (Q.assign_dp rfl)) rfl ?_
                | refine Chain.cons _ (GQ.q rfl (Q.assign_dcut rfl)) rfl ?_
                | refine Chain.cons _ (GQ.q rfl (Q.assign_aggv rfl)) rfl ?_
                | refine Chain.cons _ (GQ.q rfl (Q.assign rfl)) rfl ?_
              refine Chain.nil ?_
              refine XOps.nil ?_
              refine W.cond rfl (fun hc56 => ?_) (fun hc56 => ?_)
              · try simp only [Bool.or_eq_true, Bool.or_eq_false_iff, Bool.and_eq_true, Bool.and_eq_false_iff, decide_eq_true_eq, decide_eq_false_iff_not, Bool.not_eq_true', Bool.not_eq_false', Int.not_lt, Int.not_le, List.length_map] at hc56
                rw [htk] at hc56
                have hr : checkS l = 21 := checkS_err (by omega) hI hx (by unfold checkAt; rw [if_neg (by omega), if_neg (by omega), if_neg (by omega), if_pos (by omega)]) (by decide)
                refine W.reg ?_
                first
                  | refine XOps.s rfl rfl rfl (Q.assign_d rfl) ?_
                  | refine XOps.s rfl rfl rfl (Q.assign_vs rfl) ?_
                  | refine XOps.s rfl rfl rfl (Q.assign_ptr rfl) ?_
                  | refine XOps.s rfl rfl rfl (Q.assign_nilsl rfl) ?_
                  | refine XOps.s rfl rfl rfl (Q.assign_fn rfl) ?_
                  | refine XOps.s rfl rfl rfl (Q.assign_tup rfl) ?_
                  | refine XOps.s rfl rfl rfl (Q.assign_ep rfl) ?_
                  | refine XOps.s rfl rfl rfl (Q.assign_dp rfl) ?_
                  | refine XOps.s rfl rfl rfl (Q.assign_dcut rfl) ?_
                  | refine XOps.s rfl rfl rfl (Q.assign_aggv rfl) ?_
                  | refine XOps.s rfl rfl rfl (Q.assign rfl) ?_
                refine XOps.nil ?_
                refine W.ret ?_
                refine ⟨_, hs, rfl, by repeat (first | exact HLe.refl _ | refine HLe.cons' (by first | rfl | (simp [Ev.enc]; done)) ?_ | refine HLe.pick 1 rfl (by first | rfl | (simp [Ev.enc]; done)) ?_ | refine HLe.pick 2 rfl (by first | rfl | (simp [Ev.enc]; done)) ?_ | refine HLe.pick 3 rfl (by first | rfl | (simp [Ev.enc]; done)) ?_ | refine HLe.pick 4 rfl (by first | rfl | (simp [Ev.enc]; done)) ?_ | refine HLe.pick 5 rfl (by first | rfl | (simp [Ev.enc]; done)) ?_ | refine HLe.skip _ ?_), ?_, rfl⟩
                rw [hr]; rfl
              · try simp only [Bool.or_eq_true, Bool.or_eq_false_iff, Bool.and_eq_true, Bool.and_eq_false_iff, decide_eq_true_eq, decide_eq_false_iff_not, Bool.not_eq_true', Bool.not_eq_false', Int.not_lt, Int.not_le, List.length_map] at hc56
                rw [htk] at hc56
                have hstep : checkR l (k + 1) = 0 := checkR_step hI hx (by unfold checkAt; rw [if_neg (by omega), if_neg (by omega), if_neg (by omega), if_neg (by omega)])
                refine W.skip ?_
                refine W.region ?_
                first
                  | refine XOps.s rfl rfl rfl (Q.add rfl rfl (wi64 (by first | omega | (dsimp only; omega) | (simp only [List.length_map]; omega)) (by first | omega | (dsimp only; omega) | (simp only [List.length_map]; omega)))) ?_
                  | refine XOps.s rfl rfl rfl (Q.add rfl rfl rfl) ?_
                  | refine XOps.s rfl rfl rfl (Q.adds rfl rfl (by first | omega | (simp at hg; omega))) ?_
                first
                  | refine XOps.s rfl rfl rfl (Q.move_d rfl) ?_
                  | refine XOps.s rfl rfl rfl (Q.move_vs rfl) ?_
                  | refine XOps.s rfl rfl rfl (Q.move_ptr rfl) ?_
                  | refine XOps.s rfl rfl rfl (Q.move_nilsl rfl) ?_
                  | refine XOps.s rfl rfl rfl (Q.move_fn rfl) ?_
                  | refine XOps.s rfl rfl rfl (Q.move_tup rfl) ?_
                  | refine XOps.s rfl rfl rfl (Q.move_ep rfl) ?_
                  | refine XOps.s rfl rfl rfl (Q.move_dp rfl) ?_
                  | refine XOps.s rfl rfl rfl (Q.move_dcut rfl) ?_
                  | refine XOps.s rfl rfl rfl (Q.move_aggv rfl) ?_
                  | refine XOps.s rfl rfl rfl (Q.move rfl) ?_
                refine XOps.nil ?_
                refine ⟨k + 1, ?_, ?_, ?_, ?_⟩
                · exact ⟨by omega, hstep⟩
                · omega
                · exact ⟨by first | rfl | exact int_eq (by omega) | exact len_eq (by simp) | exact int_eq (by simp; done), by first | rfl | exact int_eq (by omega) | exact len_eq (by simp) | exact int_eq (by simp; done), by first | rfl | exact int_eq (by omega) | exact len_eq (by simp) | exact int_eq (by simp; done), by first | rfl | exact int_eq (by omega) | exact len_eq (by simp) | exact int_eq (by simp; done), trivial⟩
                · repeat (first | exact HLe.refl _ | refine HLe.cons' (by first | rfl | (simp [Ev.enc]; done)) ?_ | refine HLe.pick 1 rfl (by first | rfl | (simp [Ev.enc]; done)) ?_ | refine HLe.pick 2 rfl (by first | rfl | (simp [Ev.enc]; done)) ?_ | refine HLe.pick 3 rfl (by first | rfl | (simp [Ev.enc]; done)) ?_ | refine HLe.pick 4 rfl (by first | rfl | (simp [Ev.enc]; done)) ?_ | refine HLe.pick 5 rfl (by first | rfl | (simp [Ev.enc]; done)) ?_ | refine HLe.skip _ ?_)
      · try simp only [Bool.or_eq_true, Bool.or_eq_false_iff, Bool.and_eq_true, Bool.and_eq_false_iff, decide_eq_true_eq, decide_eq_false_iff_not, Bool.not_eq_true', Bool.not_eq_false', Int.not_lt, Int.not_le, List.length_map] at hc11
        have hr : checkS l = 0 := by
          obtain rfl : k = l.length := by omega
          unfold checkS; rw [if_neg (by omega)]; exact hI
        refine W.exit ?_
        refine W.reg ?_
        first
          | refine XOps.s rfl rfl rfl (Q.assign_d rfl) ?_
          | refine XOps.s rfl rfl rfl (Q.assign_vs rfl) ?_
          | refine XOps.s rfl rfl rfl (Q.assign_ptr rfl) ?_
          | refine XOps.s rfl rfl rfl (Q.assign_nilsl rfl) ?_
          | refine XOps.s rfl rfl rfl (Q.assign_fn rfl) ?_
          | refine XOps.s rfl rfl rfl (Q.assign_tup rfl) ?_
          | refine XOps.s rfl rfl rfl (Q.assign_ep rfl) ?_
          | refine XOps.s rfl rfl rfl (Q.assign_dp rfl) ?_
          | refine XOps.s rfl rfl rfl (Q.assign_dcut rfl) ?_
          | refine XOps.s rfl rfl rfl (Q.assign_aggv rfl) ?_
          | refine XOps.s rfl rfl rfl (Q.assign rfl) ?_
        refine XOps.nil ?_
        refine W.ret ?_
        refine ⟨_, hs, rfl, by repeat (first | exact HLe.refl _ | refine HLe.cons' (by first | rfl | (simp [Ev.enc]; done)) ?_ | refine HLe.pick 1 rfl (by first | rfl | (simp [Ev.enc]; done)) ?_ | refine HLe.pick 2 rfl (by first | rfl | (simp [Ev.enc]; done)) ?_ | refine HLe.pick 3 rfl (by first | rfl | (simp [Ev.enc]; done)) ?_ | refine HLe.pick 4 rfl (by first | rfl | (simp [Ev.enc]; done)) ?_ | refine HLe.pick 5 rfl (by first | rfl | (simp [Ev.enc]; done)) ?_ | refine HLe.skip _ ?_), ?_, rfl⟩
        rw [hr]; rfl
end Go.Proofs.YtjmadiegikbjpaaA
