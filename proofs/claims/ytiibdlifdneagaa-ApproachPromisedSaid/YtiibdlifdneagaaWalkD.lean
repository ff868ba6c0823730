/- slices.Delete over an owned list; the law ApproachWithout. -/
import Derived.Test.YtiibdlifdneagaaBase
import Derived.Test.YtiibdlifdneagaaWalkC
import Derived.Test.YtiibdlifdneagaaAbs13
set_option linter.unusedVariables false
set_option linter.unusedSimpArgs false
set_option linter.unnecessarySimpa false
namespace Go.Proofs.YtiibdlifdneagaaA.FWalkD
open Go
theorem ag24 : tAgg P 24 = some ((true, 16)) := by kernel_rfl
theorem ag3 : tAgg P 3 = some ((false, 1)) := by kernel_rfl
theorem ap22 : tApp P 22 = some ((4, 40)) := by kernel_rfl
theorem ap25 : tApp P 25 = some ((1, 8)) := by kernel_rfl
theorem go11 : callGo Go.Proofs.Try.f11 = true := by kernel_rfl
theorem go12 : callGo Go.Proofs.Try.f12 = true := by kernel_rfl
theorem go14 : callGo Go.Proofs.Try.f14 = true := by kernel_rfl
theorem go15 : callGo Go.Proofs.Try.f15 = true := by kernel_rfl
theorem go8 : callGo Go.Proofs.Try.f8 = true := by kernel_rfl
theorem go9 : callGo Go.Proofs.Try.f9 = true := by kernel_rfl
theorem isl22 : isSl P 22 = true := by kernel_rfl
theorem isl25 : isSl P 25 = true := by kernel_rfl
theorem sl22 : tSl P 22 = some (4) := by kernel_rfl
theorem sl25 : tSl P 25 = some (1) := by kernel_rfl
theorem zr22 : tZrow P 22 = some ([.string ⟨#[]⟩, .int .i64 0, .int .i64 0, .int .i64 0]) := by kernel_rfl
theorem zr25 : tZrow P 25 = some ([.int .i64 0]) := by kernel_rfl
theorem zrd22 : cellsD [.string ⟨#[]⟩, .int .i64 0, .int .i64 0, .int .i64 0] = some ([.str ⟨#[]⟩, .int .i64 0, .int .i64 0, .int .i64 0]) := rfl
theorem zrd25 : cellsD [.int .i64 0] = some ([.int .i64 0]) := rfl
end Go.Proofs.YtiibdlifdneagaaA.FWalkD
namespace Go.Proofs.YtiibdlifdneagaaA
open Go FWalkD
set_option maxHeartbeats 1000000 in
set_option maxRecDepth 100000 in
theorem delI_c (m i j : Nat) (rows : List (List D)) (hs : Hp) (hij : i < j) (hj : j ≤ rows.length) (hn : rows.length ≤ 4611686018427387904) : AC P 14 [.vs m 0 rows.length 4, .d (.int .i64 i), .d (.int .i64 j)] ((m, .lst 4 rows) :: hs) (fun r h => r = .vs m 0 (rows.length - (j - i)) 4 ∧ h = (m, .lst 4 (rows.take i ++ rows.drop j)) :: hs) := by
  refine AC.of 33 Try.func14 rfl rfl rfl ?_
  refine W.reg ?_
  first
    | refine XOps.s rfl rfl rfl (Q.assign_d rfl) ?_
    | refine XOps.s rfl rfl rfl (Q.assign_vs rfl) ?_
    | refine XOps.s rfl rfl rfl (Q.assign_ptr rfl) ?_
    | refine XOps.s rfl rfl rfl (Q.assign_nilsl rfl) ?_
    | refine XOps.s rfl rfl rfl (Q.assign_fn rfl) ?_
    | refine XOps.s rfl rfl rfl (Q.assign_tup rfl) ?_
    | refine XOps.s rfl rfl rfl (Q.assign_ep rfl) ?_
    | refine XOps.s rfl rfl rfl (Q.assign_dp rfl) ?_
    | refine XOps.s rfl rfl rfl (Q.assign_dcut rfl) ?_
    | refine XOps.s rfl rfl rfl (Q.assign rfl) ?_
  refine XOps.nil ?_
  refine W.reg ?_
  first
    | refine XOps.s rfl rfl rfl (Q.move_d rfl) ?_
    | refine XOps.s rfl rfl rfl (Q.move_vs rfl) ?_
    | refine XOps.s rfl rfl rfl (Q.move_ptr rfl) ?_
    | refine XOps.s rfl rfl rfl (Q.move_nilsl rfl) ?_
    | refine XOps.s rfl rfl rfl (Q.move_fn rfl) ?_
    | refine XOps.s rfl rfl rfl (Q.move_tup rfl) ?_
    | refine XOps.s rfl rfl rfl (Q.move_ep rfl) ?_
    | refine XOps.s rfl rfl rfl (Q.move_dp rfl) ?_
    | refine XOps.s rfl rfl rfl (Q.move_dcut rfl) ?_
    | refine XOps.s rfl rfl rfl (Q.move rfl) ?_
  first
    | refine XOps.s rfl rfl rfl (Q.move_d rfl) ?_
    | refine XOps.s rfl rfl rfl (Q.move_vs rfl) ?_
    | refine XOps.s rfl rfl rfl (Q.move_ptr rfl) ?_
    | refine XOps.s rfl rfl rfl (Q.move_nilsl rfl) ?_
    | refine XOps.s rfl rfl rfl (Q.move_fn rfl) ?_
    | refine XOps.s rfl rfl rfl (Q.move_tup rfl) ?_
    | refine XOps.s rfl rfl rfl (Q.move_ep rfl) ?_
    | refine XOps.s rfl rfl rfl (Q.move_dp rfl) ?_
    | refine XOps.s rfl rfl rfl (Q.move_dcut rfl) ?_
    | refine XOps.s rfl rfl rfl (Q.move rfl) ?_
  first
    | refine XOps.s rfl rfl rfl (Q.move_d rfl) ?_
    | refine XOps.s rfl rfl rfl (Q.move_vs rfl) ?_
    | refine XOps.s rfl rfl rfl (Q.move_ptr rfl) ?_
    | refine XOps.s rfl rfl rfl (Q.move_nilsl rfl) ?_
    | refine XOps.s rfl rfl rfl (Q.move_fn rfl) ?_
    | refine XOps.s rfl rfl rfl (Q.move_tup rfl) ?_
    | refine XOps.s rfl rfl rfl (Q.move_ep rfl) ?_
    | refine XOps.s rfl rfl rfl (Q.move_dp rfl) ?_
    | refine XOps.s rfl rfl rfl (Q.move_dcut rfl) ?_
    | refine XOps.s rfl rfl rfl (Q.move rfl) ?_
  first
    | refine XOps.s rfl rfl rfl (Q.move_d rfl) ?_
    | refine XOps.s rfl rfl rfl (Q.move_vs rfl) ?_
    | refine XOps.s rfl rfl rfl (Q.move_ptr rfl) ?_
    | refine XOps.s rfl rfl rfl (Q.move_nilsl rfl) ?_
    | refine XOps.s rfl rfl rfl (Q.move_fn rfl) ?_
    | refine XOps.s rfl rfl rfl (Q.move_tup rfl) ?_
    | refine XOps.s rfl rfl rfl (Q.move_ep rfl) ?_
    | refine XOps.s rfl rfl rfl (Q.move_dp rfl) ?_
    | refine XOps.s rfl rfl rfl (Q.move_dcut rfl) ?_
    | refine XOps.s rfl rfl rfl (Q.move rfl) ?_
  first
    | refine XOps.s rfl rfl rfl (Q.len_sl isl22 rfl) ?_
    | refine XOps.s rfl rfl rfl (Q.len_vs isl22 rfl) ?_
    | refine XOps.s rfl rfl rfl (Q.len_nil isl22 rfl) ?_
    | refine XOps.s rfl rfl rfl (Q.len_dcut isl22 rfl) ?_
  first
    | refine XOps.s rfl rfl rfl (Q.cut3_sl sl22 rfl rfl rfl rfl (by omega) (by omega) (by omega) (by omega)) ?_
    | refine XOps.s rfl rfl rfl (Q.cut3_nil sl22 rfl rfl rfl rfl (by omega) (by omega) (by omega)) ?_
    | refine XOps.s rfl rfl rfl (Q.cut3_vs sl22 rfl rfl rfl rfl (by omega) (by omega) (by omega) (by omega)) ?_
  refine XOps.nil ?_
  refine W.seq ?_
  refine W.reg ?_
  first
    | refine XOps.s rfl rfl rfl (Q.move_d rfl) ?_
    | refine XOps.s rfl rfl rfl (Q.move_vs rfl) ?_
    | refine XOps.s rfl rfl rfl (Q.move_ptr rfl) ?_
    | refine XOps.s rfl rfl rfl (Q.move_nilsl rfl) ?_
    | refine XOps.s rfl rfl rfl (Q.move_fn rfl) ?_
    | refine XOps.s rfl rfl rfl (Q.move_tup rfl) ?_
    | refine XOps.s rfl rfl rfl (Q.move_ep rfl) ?_
    | refine XOps.s rfl rfl rfl (Q.move_dp rfl) ?_
    | refine XOps.s rfl rfl rfl (Q.move_dcut rfl) ?_
    | refine XOps.s rfl rfl rfl (Q.move rfl) ?_
  first
    | refine XOps.s rfl rfl rfl (Q.move_d rfl) ?_
    | refine XOps.s rfl rfl rfl (Q.move_vs rfl) ?_
    | refine XOps.s rfl rfl rfl (Q.move_ptr rfl) ?_
    | refine XOps.s rfl rfl rfl (Q.move_nilsl rfl) ?_
    | refine XOps.s rfl rfl rfl (Q.move_fn rfl) ?_
    | refine XOps.s rfl rfl rfl (Q.move_tup rfl) ?_
    | refine XOps.s rfl rfl rfl (Q.move_ep rfl) ?_
    | refine XOps.s rfl rfl rfl (Q.move_dp rfl) ?_
    | refine XOps.s rfl rfl rfl (Q.move_dcut rfl) ?_
    | refine XOps.s rfl rfl rfl (Q.move rfl) ?_
  first
    | refine XOps.s rfl rfl rfl (Q.eql rfl rfl) ?_
    | refine XOps.s rfl rfl rfl (Q.eql_str rfl rfl) ?_
  refine XOps.nil ?_
  refine W.cond rfl (fun hc16 => ?_) (fun hc16 => ?_)
  · try simp only [Bool.or_eq_true, Bool.or_eq_false_iff, Bool.and_eq_true, Bool.and_eq_false_iff, decide_eq_true_eq, decide_eq_false_iff_not, Bool.not_eq_true', Bool.not_eq_false', Int.not_lt, Int.not_le, List.length_map] at hc16
    exact absurd hc16 (by omega)
  · try simp only [Bool.or_eq_true, Bool.or_eq_false_iff, Bool.and_eq_true, Bool.and_eq_false_iff, decide_eq_true_eq, decide_eq_false_iff_not, Bool.not_eq_true', Bool.not_eq_false', Int.not_lt, Int.not_le, List.length_map] at hc16
    refine W.skip ?_
    refine W.reg ?_
    first
      | refine XOps.s rfl rfl rfl (Q.move_d rfl) ?_
      | refine XOps.s rfl rfl rfl (Q.move_vs rfl) ?_
      | refine XOps.s rfl rfl rfl (Q.move_ptr rfl) ?_
      | refine XOps.s rfl rfl rfl (Q.move_nilsl rfl) ?_
      | refine XOps.s rfl rfl rfl (Q.move_fn rfl) ?_
      | refine XOps.s rfl rfl rfl (Q.move_tup rfl) ?_
      | refine XOps.s rfl rfl rfl (Q.move_ep rfl) ?_
      | refine XOps.s rfl rfl rfl (Q.move_dp rfl) ?_
      | refine XOps.s rfl rfl rfl (Q.move_dcut rfl) ?_
      | refine XOps.s rfl rfl rfl (Q.move rfl) ?_
    first
      | refine XOps.s rfl rfl rfl (Q.len_sl isl22 rfl) ?_
      | refine XOps.s rfl rfl rfl (Q.len_vs isl22 rfl) ?_
      | refine XOps.s rfl rfl rfl (Q.len_nil isl22 rfl) ?_
      | refine XOps.s rfl rfl rfl (Q.len_dcut isl22 rfl) ?_
    first
      | refine XOps.s rfl rfl rfl (Q.assign_d rfl) ?_
      | refine XOps.s rfl rfl rfl (Q.assign_vs rfl) ?_
      | refine XOps.s rfl rfl rfl (Q.assign_ptr rfl) ?_
      | refine XOps.s rfl rfl rfl (Q.assign_nilsl rfl) ?_
      | refine XOps.s rfl rfl rfl (Q.assign_fn rfl) ?_
      | refine XOps.s rfl rfl rfl (Q.assign_tup rfl) ?_
      | refine XOps.s rfl rfl rfl (Q.assign_ep rfl) ?_
      | refine XOps.s rfl rfl rfl (Q.assign_dp rfl) ?_
      | refine XOps.s rfl rfl rfl (Q.assign_dcut rfl) ?_
      | refine XOps.s rfl rfl rfl (Q.assign rfl) ?_
    refine XOps.nil ?_
    refine W.drawTreg 8 [6] follows (by kernel_rfl) (by decide) ?_
    refine DT.more (Rp := fun v h => v = .vs m 0 (i + (rows.length - j)) 4 ∧ h = (m, .lst 4 (rows.take i ++ (rows.drop j).take (rows.length - j) ++ rows.drop (i + (rows.length - j)))) :: hs) (by kernel_rfl) ?_
    first
      | refine PC.new _ (by kernel_rfl) (GQ.q rfl (Q.move_d rfl)) rfl ?_
      | refine PC.new _ (by kernel_rfl) (GQ.q rfl (Q.move_vs rfl)) rfl ?_
      | refine PC.new _ (by kernel_rfl) (GQ.q rfl (Q.move_ptr rfl)) rfl ?_
      | refine PC.new _ (by kernel_rfl) (GQ.q rfl (Q.move_nilsl rfl)) rfl ?_
      | refine PC.new _ (by kernel_rfl) (GQ.q rfl (Q.move_fn rfl)) rfl ?_
      | refine PC.new _ (by kernel_rfl) (GQ.q rfl (Q.move_tup rfl)) rfl ?_
      | refine PC.new _ (by kernel_rfl) (GQ.q rfl (Q.move_ep rfl)) rfl ?_
      | refine PC.new _ (by kernel_rfl) (GQ.q rfl (Q.move_dp rfl)) rfl ?_
      | refine PC.new _ (by kernel_rfl) (GQ.q rfl (Q.move_dcut rfl)) rfl ?_
      | refine PC.new _ (by kernel_rfl) (GQ.q rfl (Q.move rfl)) rfl ?_
    first
      | refine PC.new _ (by kernel_rfl) (GQ.q rfl (Q.move_d rfl)) rfl ?_
      | refine PC.new _ (by kernel_rfl) (GQ.q rfl (Q.move_vs rfl)) rfl ?_
      | refine PC.new _ (by kernel_rfl) (GQ.q rfl (Q.move_ptr rfl)) rfl ?_
      | refine PC.new _ (by kernel_rfl) (GQ.q rfl (Q.move_nilsl rfl)) rfl ?_
      | refine PC.new _ (by kernel_rfl) (GQ.q rfl (Q.move_fn rfl)) rfl ?_
      | refine PC.new _ (by kernel_rfl) (GQ.q rfl (Q.move_tup rfl)) rfl ?_
      | refine PC.new _ (by kernel_rfl) (GQ.q rfl (Q.move_ep rfl)) rfl ?_
      | refine PC.new _ (by kernel_rfl) (GQ.q rfl (Q.move_dp rfl)) rfl ?_
      | refine PC.new _ (by kernel_rfl) (GQ.q rfl (Q.move_dcut rfl)) rfl ?_
      | refine PC.new _ (by kernel_rfl) (GQ.q rfl (Q.move rfl)) rfl ?_
    first
      | refine PC.new _ (by kernel_rfl) (GQ.q rfl (Q.cut_sl sl22 rfl rfl rfl (by omega) (by omega) (by omega))) rfl ?_
      | refine PC.new _ (by kernel_rfl) (GQ.q rfl (Q.cut_vs sl22 rfl rfl rfl (by omega) (by omega) (by omega))) rfl ?_
      | refine PC.new _ (by kernel_rfl) (GQ.q rfl (Q.cut_nil sl22 rfl rfl rfl (by omega) (by omega))) rfl ?_
    first
      | refine PC.new _ (by kernel_rfl) (GQ.q rfl (Q.move_d rfl)) rfl ?_
      | refine PC.new _ (by kernel_rfl) (GQ.q rfl (Q.move_vs rfl)) rfl ?_
      | refine PC.new _ (by kernel_rfl) (GQ.q rfl (Q.move_ptr rfl)) rfl ?_
      | refine PC.new _ (by kernel_rfl) (GQ.q rfl (Q.move_nilsl rfl)) rfl ?_
      | refine PC.new _ (by kernel_rfl) (GQ.q rfl (Q.move_fn rfl)) rfl ?_
      | refine PC.new _ (by kernel_rfl) (GQ.q rfl (Q.move_tup rfl)) rfl ?_
      | refine PC.new _ (by kernel_rfl) (GQ.q rfl (Q.move_ep rfl)) rfl ?_
      | refine PC.new _ (by kernel_rfl) (GQ.q rfl (Q.move_dp rfl)) rfl ?_
      | refine PC.new _ (by kernel_rfl) (GQ.q rfl (Q.move_dcut rfl)) rfl ?_
      | refine PC.new _ (by kernel_rfl) (GQ.q rfl (Q.move rfl)) rfl ?_
    first
      | refine PC.new _ (by kernel_rfl) (GQ.q rfl (Q.move_d rfl)) rfl ?_
      | refine PC.new _ (by kernel_rfl) (GQ.q rfl (Q.move_vs rfl)) rfl ?_
      | refine PC.new _ (by kernel_rfl) (GQ.q rfl (Q.move_ptr rfl)) rfl ?_
      | refine PC.new _ (by kernel_rfl) (GQ.q rfl (Q.move_nilsl rfl)) rfl ?_
      | refine PC.new _ (by kernel_rfl) (GQ.q rfl (Q.move_fn rfl)) rfl ?_
      | refine PC.new _ (by kernel_rfl) (GQ.q rfl (Q.move_tup rfl)) rfl ?_
      | refine PC.new _ (by kernel_rfl) (GQ.q rfl (Q.move_ep rfl)) rfl ?_
      | refine PC.new _ (by kernel_rfl) (GQ.q rfl (Q.move_dp rfl)) rfl ?_
      | refine PC.new _ (by kernel_rfl) (GQ.q rfl (Q.move_dcut rfl)) rfl ?_
      | refine PC.new _ (by kernel_rfl) (GQ.q rfl (Q.move rfl)) rfl ?_
    first
      | refine PC.new _ (by kernel_rfl) (GQ.q rfl (Q.cut_sl sl22 rfl rfl rfl (by omega) (by omega) (by omega))) rfl ?_
      | refine PC.new _ (by kernel_rfl) (GQ.q rfl (Q.cut_vs sl22 rfl rfl rfl (by omega) (by omega) (by omega))) rfl ?_
      | refine PC.new _ (by kernel_rfl) (GQ.q rfl (Q.cut_nil sl22 rfl rfl rfl (by omega) (by omega))) rfl ?_
    refine PC.now (by kernel_rfl) rfl (fun τ => Loud.to (L.app_in (k := 0) ap22 rfl rfl rfl (by simp; omega) (by simp; omega) rfl) (fun _ _ h => ⟨_, h.1, rfl, by simpa using h.2⟩)) ?_
    refine PC.later (by kernel_rfl) ?_
    refine PC.nil ?_
    rintro _ _ ⟨rfl, rfl⟩
    first
      | refine PC.old (by kernel_rfl) (GQ.q rfl (Q.move_d rfl)) rfl ?_
      | refine PC.old (by kernel_rfl) (GQ.q rfl (Q.move_vs rfl)) rfl ?_
      | refine PC.old (by kernel_rfl) (GQ.q rfl (Q.move_ptr rfl)) rfl ?_
      | refine PC.old (by kernel_rfl) (GQ.q rfl (Q.move_nilsl rfl)) rfl ?_
      | refine PC.old (by kernel_rfl) (GQ.q rfl (Q.move_fn rfl)) rfl ?_
      | refine PC.old (by kernel_rfl) (GQ.q rfl (Q.move_tup rfl)) rfl ?_
      | refine PC.old (by kernel_rfl) (GQ.q rfl (Q.move_ep rfl)) rfl ?_
      | refine PC.old (by kernel_rfl) (GQ.q rfl (Q.move_dp rfl)) rfl ?_
      | refine PC.old (by kernel_rfl) (GQ.q rfl (Q.move_dcut rfl)) rfl ?_
      | refine PC.old (by kernel_rfl) (GQ.q rfl (Q.move rfl)) rfl ?_
    first
      | refine PC.old (by kernel_rfl) (GQ.q rfl (Q.move_d rfl)) rfl ?_
      | refine PC.old (by kernel_rfl) (GQ.q rfl (Q.move_vs rfl)) rfl ?_
      | refine PC.old (by kernel_rfl) (GQ.q rfl (Q.move_ptr rfl)) rfl ?_
      | refine PC.old (by kernel_rfl) (GQ.q rfl (Q.move_nilsl rfl)) rfl ?_
      | refine PC.old (by kernel_rfl) (GQ.q rfl (Q.move_fn rfl)) rfl ?_
      | refine PC.old (by kernel_rfl) (GQ.q rfl (Q.move_tup rfl)) rfl ?_
      | refine PC.old (by kernel_rfl) (GQ.q rfl (Q.move_ep rfl)) rfl ?_
      | refine PC.old (by kernel_rfl) (GQ.q rfl (Q.move_dp rfl)) rfl ?_
      | refine PC.old (by kernel_rfl) (GQ.q rfl (Q.move_dcut rfl)) rfl ?_
      | refine PC.old (by kernel_rfl) (GQ.q rfl (Q.move rfl)) rfl ?_
    first
      | refine PC.old (by kernel_rfl) (GQ.q rfl (Q.cut_sl sl22 rfl rfl rfl (by omega) (by omega) (by omega))) rfl ?_
      | refine PC.old (by kernel_rfl) (GQ.q rfl (Q.cut_vs sl22 rfl rfl rfl (by omega) (by omega) (by omega))) rfl ?_
      | refine PC.old (by kernel_rfl) (GQ.q rfl (Q.cut_nil sl22 rfl rfl rfl (by omega) (by omega))) rfl ?_
    first
      | refine PC.old (by kernel_rfl) (GQ.q rfl (Q.move_d rfl)) rfl ?_
      | refine PC.old (by kernel_rfl) (GQ.q rfl (Q.move_vs rfl)) rfl ?_
      | refine PC.old (by kernel_rfl) (GQ.q rfl (Q.move_ptr rfl)) rfl ?_
      | refine PC.old (by kernel_rfl) (GQ.q rfl (Q.move_nilsl rfl)) rfl ?_
      | refine PC.old (by kernel_rfl) (GQ.q rfl (Q.move_fn rfl)) rfl ?_
      | refine PC.old (by kernel_rfl) (GQ.q rfl (Q.move_tup rfl)) rfl ?_
      | refine PC.old (by kernel_rfl) (GQ.q rfl (Q.move_ep rfl)) rfl ?_
      | refine PC.old (by kernel_rfl) (GQ.q rfl (Q.move_dp rfl)) rfl ?_
      | refine PC.old (by kernel_rfl) (GQ.q rfl (Q.move_dcut rfl)) rfl ?_
      | refine PC.old (by kernel_rfl) (GQ.q rfl (Q.move rfl)) rfl ?_
    first
      | refine PC.old (by kernel_rfl) (GQ.q rfl (Q.move_d rfl)) rfl ?_
      | refine PC.old (by kernel_rfl) (GQ.q rfl (Q.move_vs rfl)) rfl ?_
      | refine PC.old (by kernel_rfl) (GQ.q rfl (Q.move_ptr rfl)) rfl ?_
      | refine PC.old (by kernel_rfl) (GQ.q rfl (Q.move_nilsl rfl)) rfl ?_
      | refine PC.old (by kernel_rfl) (GQ.q rfl (Q.move_fn rfl)) rfl ?_
      | refine PC.old (by kernel_rfl) (GQ.q rfl (Q.move_tup rfl)) rfl ?_
      | refine PC.old (by kernel_rfl) (GQ.q rfl (Q.move_ep rfl)) rfl ?_
      | refine PC.old (by kernel_rfl) (GQ.q rfl (Q.move_dp rfl)) rfl ?_
      | refine PC.old (by kernel_rfl) (GQ.q rfl (Q.move_dcut rfl)) rfl ?_
      | refine PC.old (by kernel_rfl) (GQ.q rfl (Q.move rfl)) rfl ?_
    first
      | refine PC.old (by kernel_rfl) (GQ.q rfl (Q.cut_sl sl22 rfl rfl rfl (by omega) (by omega) (by omega))) rfl ?_
      | refine PC.old (by kernel_rfl) (GQ.q rfl (Q.cut_vs sl22 rfl rfl rfl (by omega) (by omega) (by omega))) rfl ?_
      | refine PC.old (by kernel_rfl) (GQ.q rfl (Q.cut_nil sl22 rfl rfl rfl (by omega) (by omega))) rfl ?_
    refine PC.did (by kernel_rfl) ?_
    first
      | refine PC.new _ (by kernel_rfl) (GQ.q rfl (Q.assign_d rfl)) rfl ?_
      | refine PC.new _ (by kernel_rfl) (GQ.q rfl (Q.assign_vs rfl)) rfl ?_
      | refine PC.new _ (by kernel_rfl) (GQ.q rfl (Q.assign_ptr rfl)) rfl ?_
      | refine PC.new _ (by kernel_rfl) (GQ.q rfl (Q.assign_nilsl rfl)) rfl ?_
      | refine PC.new _ (by kernel_rfl) (GQ.q rfl (Q.assign_fn rfl)) rfl ?_
      | refine PC.new _ (by kernel_rfl) (GQ.q rfl (Q.assign_tup rfl)) rfl ?_
      | refine PC.new _ (by kernel_rfl) (GQ.q rfl (Q.assign_ep rfl)) rfl ?_
      | refine PC.new _ (by kernel_rfl) (GQ.q rfl (Q.assign_dp rfl)) rfl ?_
      | refine PC.new _ (by kernel_rfl) (GQ.q rfl (Q.assign_dcut rfl)) rfl ?_
      | refine PC.new _ (by kernel_rfl) (GQ.q rfl (Q.assign rfl)) rfl ?_
    refine PC.nil ?_
    refine XOps.nil ?_
    refine W.reg ?_
    first
      | refine XOps.s rfl rfl rfl (Q.move_d rfl) ?_
      | refine XOps.s rfl rfl rfl (Q.move_vs rfl) ?_
      | refine XOps.s rfl rfl rfl (Q.move_ptr rfl) ?_
      | refine XOps.s rfl rfl rfl (Q.move_nilsl rfl) ?_
      | refine XOps.s rfl rfl rfl (Q.move_fn rfl) ?_
      | refine XOps.s rfl rfl rfl (Q.move_tup rfl) ?_
      | refine XOps.s rfl rfl rfl (Q.move_ep rfl) ?_
      | refine XOps.s rfl rfl rfl (Q.move_dp rfl) ?_
      | refine XOps.s rfl rfl rfl (Q.move_dcut rfl) ?_
      | refine XOps.s rfl rfl rfl (Q.move rfl) ?_
    first
      | refine XOps.s rfl rfl rfl (Q.move_d rfl) ?_
      | refine XOps.s rfl rfl rfl (Q.move_vs rfl) ?_
      | refine XOps.s rfl rfl rfl (Q.move_ptr rfl) ?_
      | refine XOps.s rfl rfl rfl (Q.move_nilsl rfl) ?_
      | refine XOps.s rfl rfl rfl (Q.move_fn rfl) ?_
      | refine XOps.s rfl rfl rfl (Q.move_tup rfl) ?_
      | refine XOps.s rfl rfl rfl (Q.move_ep rfl) ?_
      | refine XOps.s rfl rfl rfl (Q.move_dp rfl) ?_
      | refine XOps.s rfl rfl rfl (Q.move_dcut rfl) ?_
      | refine XOps.s rfl rfl rfl (Q.move rfl) ?_
    first
      | refine XOps.s rfl rfl rfl (Q.len_sl isl22 rfl) ?_
      | refine XOps.s rfl rfl rfl (Q.len_vs isl22 rfl) ?_
      | refine XOps.s rfl rfl rfl (Q.len_nil isl22 rfl) ?_
      | refine XOps.s rfl rfl rfl (Q.len_dcut isl22 rfl) ?_
    first
      | refine XOps.s rfl rfl rfl (Q.move_d rfl) ?_
      | refine XOps.s rfl rfl rfl (Q.move_vs rfl) ?_
      | refine XOps.s rfl rfl rfl (Q.move_ptr rfl) ?_
      | refine XOps.s rfl rfl rfl (Q.move_nilsl rfl) ?_
      | refine XOps.s rfl rfl rfl (Q.move_fn rfl) ?_
      | refine XOps.s rfl rfl rfl (Q.move_tup rfl) ?_
      | refine XOps.s rfl rfl rfl (Q.move_ep rfl) ?_
      | refine XOps.s rfl rfl rfl (Q.move_dp rfl) ?_
      | refine XOps.s rfl rfl rfl (Q.move_dcut rfl) ?_
      | refine XOps.s rfl rfl rfl (Q.move rfl) ?_
    refine XOps.s rfl rfl rfl (Q.cut_vs2 (kk := 0) sl22 rfl rfl rfl rfl (by omega) (by omega) (by simp; omega)) ?_
    first
      | (refine XOps.loud rfl (L.clear (k := 0) sl22 zr22 rfl zrd22 (by decide) rfl rfl (by simp; omega)) ?_; rintro _ _ ⟨rfl, rfl⟩)
      | (refine XOps.loud rfl (L.clear (k := 1) sl22 zr22 rfl zrd22 (by decide) rfl rfl (by simp; omega)) ?_; rintro _ _ ⟨rfl, rfl⟩)
      | (refine XOps.loud rfl (L.clear (k := 2) sl22 zr22 rfl zrd22 (by decide) rfl rfl (by simp; omega)) ?_; rintro _ _ ⟨rfl, rfl⟩)
      | (refine XOps.loud rfl (L.clear (k := 3) sl22 zr22 rfl zrd22 (by decide) rfl rfl (by simp; omega)) ?_; rintro _ _ ⟨rfl, rfl⟩)
    refine XOps.nil ?_
    refine W.front_of 0 (rows.length - (j - i)) rfl ?_
    refine W.reg ?_
    first
      | refine XOps.s rfl rfl rfl (Q.move_d rfl) ?_
      | refine XOps.s rfl rfl rfl (Q.move_vs rfl) ?_
      | refine XOps.s rfl rfl rfl (Q.move_ptr rfl) ?_
      | refine XOps.s rfl rfl rfl (Q.move_nilsl rfl) ?_
      | refine XOps.s rfl rfl rfl (Q.move_fn rfl) ?_
      | refine XOps.s rfl rfl rfl (Q.move_tup rfl) ?_
      | refine XOps.s rfl rfl rfl (Q.move_ep rfl) ?_
      | refine XOps.s rfl rfl rfl (Q.move_dp rfl) ?_
      | refine XOps.s rfl rfl rfl (Q.move_dcut rfl) ?_
      | refine XOps.s rfl rfl rfl (Q.move rfl) ?_
    first
      | refine XOps.s rfl rfl rfl (Q.assign_d rfl) ?_
      | refine XOps.s rfl rfl rfl (Q.assign_vs rfl) ?_
      | refine XOps.s rfl rfl rfl (Q.assign_ptr rfl) ?_
      | refine XOps.s rfl rfl rfl (Q.assign_nilsl rfl) ?_
      | refine XOps.s rfl rfl rfl (Q.assign_fn rfl) ?_
      | refine XOps.s rfl rfl rfl (Q.assign_tup rfl) ?_
      | refine XOps.s rfl rfl rfl (Q.assign_ep rfl) ?_
      | refine XOps.s rfl rfl rfl (Q.assign_dp rfl) ?_
      | refine XOps.s rfl rfl rfl (Q.assign_dcut rfl) ?_
      | refine XOps.s rfl rfl rfl (Q.assign rfl) ?_
    refine XOps.nil ?_
    refine W.ret ?_
    refine ⟨_, (m, .lst 4 (rows.take i ++ rows.drop j)) :: hs, rfl, HLe.cons' ?_ (HLe.refl _), ?_, rfl⟩
    · congr 1
      rw [List.append_assoc]
      exact (del_rows rows i j _ _ hij hj (by omega) (by omega) _ _).symm
    · show AV.vs _ _ _ _ = _
      congr 1
      omega

set_option maxHeartbeats 1000000 in
set_option maxRecDepth 100000 in
theorem delN_c (m i j : Nat) (rows : List (List D)) (hs : Hp) (hij : i < j) (hj : j ≤ rows.length) (hn : rows.length ≤ 4611686018427387904) : AC P 15 [.vs m 0 rows.length 1, .d (.int .i64 i), .d (.int .i64 j)] ((m, .lst 1 rows) :: hs) (fun r h => r = .vs m 0 (rows.length - (j - i)) 1 ∧ h = (m, .lst 1 (rows.take i ++ rows.drop j)) :: hs) := by
  refine AC.of 33 Try.func15 rfl rfl rfl ?_
  refine W.reg ?_
  first
    | refine XOps.s rfl rfl rfl (Q.assign_d rfl) ?_
    | refine XOps.s rfl rfl rfl (Q.assign_vs rfl) ?_
    | refine XOps.s rfl rfl rfl (Q.assign_ptr rfl) ?_
    | refine XOps.s rfl rfl rfl (Q.assign_nilsl rfl) ?_
    | refine XOps.s rfl rfl rfl (Q.assign_fn rfl) ?_
    | refine XOps.s rfl rfl rfl (Q.assign_tup rfl) ?_
    | refine XOps.s rfl rfl rfl (Q.assign_ep rfl) ?_
    | refine XOps.s rfl rfl rfl (Q.assign_dp rfl) ?_
    | refine XOps.s rfl rfl rfl (Q.assign_dcut rfl) ?_
    | refine XOps.s rfl rfl rfl (Q.assign rfl) ?_
  refine XOps.nil ?_
  refine W.reg ?_
  first
    | refine XOps.s rfl rfl rfl (Q.move_d rfl) ?_
    | refine XOps.s rfl rfl rfl (Q.move_vs rfl) ?_
    | refine XOps.s rfl rfl rfl (Q.move_ptr rfl) ?_
    | refine XOps.s rfl rfl rfl (Q.move_nilsl rfl) ?_
    | refine XOps.s rfl rfl rfl (Q.move_fn rfl) ?_
    | refine XOps.s rfl rfl rfl (Q.move_tup rfl) ?_
    | refine XOps.s rfl rfl rfl (Q.move_ep rfl) ?_
    | refine XOps.s rfl rfl rfl (Q.move_dp rfl) ?_
    | refine XOps.s rfl rfl rfl (Q.move_dcut rfl) ?_
    | refine XOps.s rfl rfl rfl (Q.move rfl) ?_
  first
    | refine XOps.s rfl rfl rfl (Q.move_d rfl) ?_
    | refine XOps.s rfl rfl rfl (Q.move_vs rfl) ?_
    | refine XOps.s rfl rfl rfl (Q.move_ptr rfl) ?_
    | refine XOps.s rfl rfl rfl (Q.move_nilsl rfl) ?_
    | refine XOps.s rfl rfl rfl (Q.move_fn rfl) ?_
    | refine XOps.s rfl rfl rfl (Q.move_tup rfl) ?_
    | refine XOps.s rfl rfl rfl (Q.move_ep rfl) ?_
    | refine XOps.s rfl rfl rfl (Q.move_dp rfl) ?_
    | refine XOps.s rfl rfl rfl (Q.move_dcut rfl) ?_
    | refine XOps.s rfl rfl rfl (Q.move rfl) ?_
  first
    | refine XOps.s rfl rfl rfl (Q.move_d rfl) ?_
    | refine XOps.s rfl rfl rfl (Q.move_vs rfl) ?_
    | refine XOps.s rfl rfl rfl (Q.move_ptr rfl) ?_
    | refine XOps.s rfl rfl rfl (Q.move_nilsl rfl) ?_
    | refine XOps.s rfl rfl rfl (Q.move_fn rfl) ?_
    | refine XOps.s rfl rfl rfl (Q.move_tup rfl) ?_
    | refine XOps.s rfl rfl rfl (Q.move_ep rfl) ?_
    | refine XOps.s rfl rfl rfl (Q.move_dp rfl) ?_
    | refine XOps.s rfl rfl rfl (Q.move_dcut rfl) ?_
    | refine XOps.s rfl rfl rfl (Q.move rfl) ?_
  first
    | refine XOps.s rfl rfl rfl (Q.move_d rfl) ?_
    | refine XOps.s rfl rfl rfl (Q.move_vs rfl) ?_
    | refine XOps.s rfl rfl rfl (Q.move_ptr rfl) ?_
    | refine XOps.s rfl rfl rfl (Q.move_nilsl rfl) ?_
    | refine XOps.s rfl rfl rfl (Q.move_fn rfl) ?_
    | refine XOps.s rfl rfl rfl (Q.move_tup rfl) ?_
    | refine XOps.s rfl rfl rfl (Q.move_ep rfl) ?_
    | refine XOps.s rfl rfl rfl (Q.move_dp rfl) ?_
    | refine XOps.s rfl rfl rfl (Q.move_dcut rfl) ?_
    | refine XOps.s rfl rfl rfl (Q.move rfl) ?_
  first
    | refine XOps.s rfl rfl rfl (Q.len_sl isl25 rfl) ?_
    | refine XOps.s rfl rfl rfl (Q.len_vs isl25 rfl) ?_
    | refine XOps.s rfl rfl rfl (Q.len_nil isl25 rfl) ?_
    | refine XOps.s rfl rfl rfl (Q.len_dcut isl25 rfl) ?_
  first
    | refine XOps.s rfl rfl rfl (Q.cut3_sl sl25 rfl rfl rfl rfl (by omega) (by omega) (by omega) (by omega)) ?_
    | refine XOps.s rfl rfl rfl (Q.cut3_nil sl25 rfl rfl rfl rfl (by omega) (by omega) (by omega)) ?_
    | refine XOps.s rfl rfl rfl (Q.cut3_vs sl25 rfl rfl rfl rfl (by omega) (by omega) (by omega) (by omega)) ?_
  refine XOps.nil ?_
  refine W.seq ?_
  refine W.reg ?_
  first
    | refine XOps.s rfl rfl rfl (Q.move_d rfl) ?_
    | refine XOps.s rfl rfl rfl (Q.move_vs rfl) ?_
    | refine XOps.s rfl rfl rfl (Q.move_ptr rfl) ?_
    | refine XOps.s rfl rfl rfl (Q.move_nilsl rfl) ?_
    | refine XOps.s rfl rfl rfl (Q.move_fn rfl) ?_
    | refine XOps.s rfl rfl rfl (Q.move_tup rfl) ?_
    | refine XOps.s rfl rfl rfl (Q.move_ep rfl) ?_
    | refine XOps.s rfl rfl rfl (Q.move_dp rfl) ?_
    | refine XOps.s rfl rfl rfl (Q.move_dcut rfl) ?_
    | refine XOps.s rfl rfl rfl (Q.move rfl) ?_
  first
    | refine XOps.s rfl rfl rfl (Q.move_d rfl) ?_
    | refine XOps.s rfl rfl rfl (Q.move_vs rfl) ?_
    | refine XOps.s rfl rfl rfl (Q.move_ptr rfl) ?_
    | refine XOps.s rfl rfl rfl (Q.move_nilsl rfl) ?_
    | refine XOps.s rfl rfl rfl (Q.move_fn rfl) ?_
    | refine XOps.s rfl rfl rfl (Q.move_tup rfl) ?_
    | refine XOps.s rfl rfl rfl (Q.move_ep rfl) ?_
    | refine XOps.s rfl rfl rfl (Q.move_dp rfl) ?_
    | refine XOps.s rfl rfl rfl (Q.move_dcut rfl) ?_
    | refine XOps.s rfl rfl rfl (Q.move rfl) ?_
  first
    | refine XOps.s rfl rfl rfl (Q.eql rfl rfl) ?_
    | refine XOps.s rfl rfl rfl (Q.eql_str rfl rfl) ?_
  refine XOps.nil ?_
  refine W.cond rfl (fun hc16 => ?_) (fun hc16 => ?_)
  · try simp only [Bool.or_eq_true, Bool.or_eq_false_iff, Bool.and_eq_true, Bool.and_eq_false_iff, decide_eq_true_eq, decide_eq_false_iff_not, Bool.not_eq_true', Bool.not_eq_false', Int.not_lt, Int.not_le, List.length_map] at hc16
    exact absurd hc16 (by omega)
  · try simp only [Bool.or_eq_true, Bool.or_eq_false_iff, Bool.and_eq_true, Bool.and_eq_false_iff, decide_eq_true_eq, decide_eq_false_iff_not, Bool.not_eq_true', Bool.not_eq_false', Int.not_lt, Int.not_le, List.length_map] at hc16
    refine W.skip ?_
    refine W.reg ?_
    first
      | refine XOps.s rfl rfl rfl (Q.move_d rfl) ?_
      | refine XOps.s rfl rfl rfl (Q.move_vs rfl) ?_
      | refine XOps.s rfl rfl rfl (Q.move_ptr rfl) ?_
      | refine XOps.s rfl rfl rfl (Q.move_nilsl rfl) ?_
      | refine XOps.s rfl rfl rfl (Q.move_fn rfl) ?_
      | refine XOps.s rfl rfl rfl (Q.move_tup rfl) ?_
      | refine XOps.s rfl rfl rfl (Q.move_ep rfl) ?_
      | refine XOps.s rfl rfl rfl (Q.move_dp rfl) ?_
      | refine XOps.s rfl rfl rfl (Q.move_dcut rfl) ?_
      | refine XOps.s rfl rfl rfl (Q.move rfl) ?_
    first
      | refine XOps.s rfl rfl rfl (Q.len_sl isl25 rfl) ?_
      | refine XOps.s rfl rfl rfl (Q.len_vs isl25 rfl) ?_
      | refine XOps.s rfl rfl rfl (Q.len_nil isl25 rfl) ?_
      | refine XOps.s rfl rfl rfl (Q.len_dcut isl25 rfl) ?_
    first
      | refine XOps.s rfl rfl rfl (Q.assign_d rfl) ?_
      | refine XOps.s rfl rfl rfl (Q.assign_vs rfl) ?_
      | refine XOps.s rfl rfl rfl (Q.assign_ptr rfl) ?_
      | refine XOps.s rfl rfl rfl (Q.assign_nilsl rfl) ?_
      | refine XOps.s rfl rfl rfl (Q.assign_fn rfl) ?_
      | refine XOps.s rfl rfl rfl (Q.assign_tup rfl) ?_
      | refine XOps.s rfl rfl rfl (Q.assign_ep rfl) ?_
      | refine XOps.s rfl rfl rfl (Q.assign_dp rfl) ?_
      | refine XOps.s rfl rfl rfl (Q.assign_dcut rfl) ?_
      | refine XOps.s rfl rfl rfl (Q.assign rfl) ?_
    refine XOps.nil ?_
    refine W.drawTreg 8 [6] follows (by kernel_rfl) (by decide) ?_
    refine DT.more (Rp := fun v h => v = .vs m 0 (i + (rows.length - j)) 1 ∧ h = (m, .lst 1 (rows.take i ++ (rows.drop j).take (rows.length - j) ++ rows.drop (i + (rows.length - j)))) :: hs) (by kernel_rfl) ?_
    first
      | refine PC.new _ (by kernel_rfl) (GQ.q rfl (Q.move_d rfl)) rfl ?_
      | refine PC.new _ (by kernel_rfl) (GQ.q rfl (Q.move_vs rfl)) rfl ?_
      | refine PC.new _ (by kernel_rfl) (GQ.q rfl (Q.move_ptr rfl)) rfl ?_
      | refine PC.new _ (by kernel_rfl) (GQ.q rfl (Q.move_nilsl rfl)) rfl ?_
      | refine PC.new _ (by kernel_rfl) (GQ.q rfl (Q.move_fn rfl)) rfl ?_
      | refine PC.new _ (by kernel_rfl) (GQ.q rfl (Q.move_tup rfl)) rfl ?_
      | refine PC.new _ (by kernel_rfl) (GQ.q rfl (Q.move_ep rfl)) rfl ?_
      | refine PC.new _ (by kernel_rfl) (GQ.q rfl (Q.move_dp rfl)) rfl ?_
      | refine PC.new _ (by kernel_rfl) (GQ.q rfl (Q.move_dcut rfl)) rfl ?_
      | refine PC.new _ (by kernel_rfl) (GQ.q rfl (Q.move rfl)) rfl ?_
    first
      | refine PC.new _ (by kernel_rfl) (GQ.q rfl (Q.move_d rfl)) rfl ?_
      | refine PC.new _ (by kernel_rfl) (GQ.q rfl (Q.move_vs rfl)) rfl ?_
      | refine PC.new _ (by kernel_rfl) (GQ.q rfl (Q.move_ptr rfl)) rfl ?_
      | refine PC.new _ (by kernel_rfl) (GQ.q rfl (Q.move_nilsl rfl)) rfl ?_
      | refine PC.new _ (by kernel_rfl) (GQ.q rfl (Q.move_fn rfl)) rfl ?_
      | refine PC.new _ (by kernel_rfl) (GQ.q rfl (Q.move_tup rfl)) rfl ?_
      | refine PC.new _ (by kernel_rfl) (GQ.q rfl (Q.move_ep rfl)) rfl ?_
      | refine PC.new _ (by kernel_rfl) (GQ.q rfl (Q.move_dp rfl)) rfl ?_
      | refine PC.new _ (by kernel_rfl) (GQ.q rfl (Q.move_dcut rfl)) rfl ?_
      | refine PC.new _ (by kernel_rfl) (GQ.q rfl (Q.move rfl)) rfl ?_
    first
      | refine PC.new _ (by kernel_rfl) (GQ.q rfl (Q.cut_sl sl25 rfl rfl rfl (by omega) (by omega) (by omega))) rfl ?_
      | refine PC.new _ (by kernel_rfl) (GQ.q rfl (Q.cut_vs sl25 rfl rfl rfl (by omega) (by omega) (by omega))) rfl ?_
      | refine PC.new _ (by kernel_rfl) (GQ.q rfl (Q.cut_nil sl25 rfl rfl rfl (by omega) (by omega))) rfl ?_
    first
      | refine PC.new _ (by kernel_rfl) (GQ.q rfl (Q.move_d rfl)) rfl ?_
      | refine PC.new _ (by kernel_rfl) (GQ.q rfl (Q.move_vs rfl)) rfl ?_
      | refine PC.new _ (by kernel_rfl) (GQ.q rfl (Q.move_ptr rfl)) rfl ?_
      | refine PC.new _ (by kernel_rfl) (GQ.q rfl (Q.move_nilsl rfl)) rfl ?_
      | refine PC.new _ (by kernel_rfl) (GQ.q rfl (Q.move_fn rfl)) rfl ?_
      | refine PC.new _ (by kernel_rfl) (GQ.q rfl (Q.move_tup rfl)) rfl ?_
      | refine PC.new _ (by kernel_rfl) (GQ.q rfl (Q.move_ep rfl)) rfl ?_
      | refine PC.new _ (by kernel_rfl) (GQ.q rfl (Q.move_dp rfl)) rfl ?_
      | refine PC.new _ (by kernel_rfl) (GQ.q rfl (Q.move_dcut rfl)) rfl ?_
      | refine PC.new _ (by kernel_rfl) (GQ.q rfl (Q.move rfl)) rfl ?_
    first
      | refine PC.new _ (by kernel_rfl) (GQ.q rfl (Q.move_d rfl)) rfl ?_
      | refine PC.new _ (by kernel_rfl) (GQ.q rfl (Q.move_vs rfl)) rfl ?_
      | refine PC.new _ (by kernel_rfl) (GQ.q rfl (Q.move_ptr rfl)) rfl ?_
      | refine PC.new _ (by kernel_rfl) (GQ.q rfl (Q.move_nilsl rfl)) rfl ?_
      | refine PC.new _ (by kernel_rfl) (GQ.q rfl (Q.move_fn rfl)) rfl ?_
      | refine PC.new _ (by kernel_rfl) (GQ.q rfl (Q.move_tup rfl)) rfl ?_
      | refine PC.new _ (by kernel_rfl) (GQ.q rfl (Q.move_ep rfl)) rfl ?_
      | refine PC.new _ (by kernel_rfl) (GQ.q rfl (Q.move_dp rfl)) rfl ?_
      | refine PC.new _ (by kernel_rfl) (GQ.q rfl (Q.move_dcut rfl)) rfl ?_
      | refine PC.new _ (by kernel_rfl) (GQ.q rfl (Q.move rfl)) rfl ?_
    first
      | refine PC.new _ (by kernel_rfl) (GQ.q rfl (Q.cut_sl sl25 rfl rfl rfl (by omega) (by omega) (by omega))) rfl ?_
      | refine PC.new _ (by kernel_rfl) (GQ.q rfl (Q.cut_vs sl25 rfl rfl rfl (by omega) (by omega) (by omega))) rfl ?_
      | refine PC.new _ (by kernel_rfl) (GQ.q rfl (Q.cut_nil sl25 rfl rfl rfl (by omega) (by omega))) rfl ?_
    refine PC.now (by kernel_rfl) rfl (fun τ => Loud.to (L.app_in (k := 0) ap25 rfl rfl rfl (by simp; omega) (by simp; omega) rfl) (fun _ _ h => ⟨_, h.1, rfl, by simpa using h.2⟩)) ?_
    refine PC.later (by kernel_rfl) ?_
    refine PC.nil ?_
    rintro _ _ ⟨rfl, rfl⟩
    first
      | refine PC.old (by kernel_rfl) (GQ.q rfl (Q.move_d rfl)) rfl ?_
      | refine PC.old (by kernel_rfl) (GQ.q rfl (Q.move_vs rfl)) rfl ?_
      | refine PC.old (by kernel_rfl) (GQ.q rfl (Q.move_ptr rfl)) rfl ?_
      | refine PC.old (by kernel_rfl) (GQ.q rfl (Q.move_nilsl rfl)) rfl ?_
      | refine PC.old (by kernel_rfl) (GQ.q rfl (Q.move_fn rfl)) rfl ?_
      | refine PC.old (by kernel_rfl) (GQ.q rfl (Q.move_tup rfl)) rfl ?_
      | refine PC.old (by kernel_rfl) (GQ.q rfl (Q.move_ep rfl)) rfl ?_
      | refine PC.old (by kernel_rfl) (GQ.q rfl (Q.move_dp rfl)) rfl ?_
      | refine PC.old (by kernel_rfl) (GQ.q rfl (Q.move_dcut rfl)) rfl ?_
      | refine PC.old (by kernel_rfl) (GQ.q rfl (Q.move rfl)) rfl ?_
    first
      | refine PC.old (by kernel_rfl) (GQ.q rfl (Q.move_d rfl)) rfl ?_
      | refine PC.old (by kernel_rfl) (GQ.q rfl (Q.move_vs rfl)) rfl ?_
      | refine PC.old (by kernel_rfl) (GQ.q rfl (Q.move_ptr rfl)) rfl ?_
      | refine PC.old (by kernel_rfl) (GQ.q rfl (Q.move_nilsl rfl)) rfl ?_
      | refine PC.old (by kernel_rfl) (GQ.q rfl (Q.move_fn rfl)) rfl ?_
      | refine PC.old (by kernel_rfl) (GQ.q rfl (Q.move_tup rfl)) rfl ?_
      | refine PC.old (by kernel_rfl) (GQ.q rfl (Q.move_ep rfl)) rfl ?_
      | refine PC.old (by kernel_rfl) (GQ.q rfl (Q.move_dp rfl)) rfl ?_
      | refine PC.old (by kernel_rfl) (GQ.q rfl (Q.move_dcut rfl)) rfl ?_
      | refine PC.old (by kernel_rfl) (GQ.q rfl (Q.move rfl)) rfl ?_
    first
      | refine PC.old (by kernel_rfl) (GQ.q rfl (Q.cut_sl sl25 rfl rfl rfl (by omega) (by omega) (by omega))) rfl ?_
      | refine PC.old (by kernel_rfl) (GQ.q rfl (Q.cut_vs sl25 rfl rfl rfl (by omega) (by omega) (by omega))) rfl ?_
      | refine PC.old (by kernel_rfl) (GQ.q rfl (Q.cut_nil sl25 rfl rfl rfl (by omega) (by omega))) rfl ?_
    first
      | refine PC.old (by kernel_rfl) (GQ.q rfl (Q.move_d rfl)) rfl ?_
      | refine PC.old (by kernel_rfl) (GQ.q rfl (Q.move_vs rfl)) rfl ?_
      | refine PC.old (by kernel_rfl) (GQ.q rfl (Q.move_ptr rfl)) rfl ?_
      | refine PC.old (by kernel_rfl) (GQ.q rfl (Q.move_nilsl rfl)) rfl ?_
      | refine PC.old (by kernel_rfl) (GQ.q rfl (Q.move_fn rfl)) rfl ?_
      | refine PC.old (by kernel_rfl) (GQ.q rfl (Q.move_tup rfl)) rfl ?_
      | refine PC.old (by kernel_rfl) (GQ.q rfl (Q.move_ep rfl)) rfl ?_
      | refine PC.old (by kernel_rfl) (GQ.q rfl (Q.move_dp rfl)) rfl ?_
      | refine PC.old (by kernel_rfl) (GQ.q rfl (Q.move_dcut rfl)) rfl ?_
      | refine PC.old (by kernel_rfl) (GQ.q rfl (Q.move rfl)) rfl ?_
    first
      | refine PC.old (by kernel_rfl) (GQ.q rfl (Q.move_d rfl)) rfl ?_
      | refine PC.old (by kernel_rfl) (GQ.q rfl (Q.move_vs rfl)) rfl ?_
      | refine PC.old (by kernel_rfl) (GQ.q rfl (Q.move_ptr rfl)) rfl ?_
      | refine PC.old (by kernel_rfl) (GQ.q rfl (Q.move_nilsl rfl)) rfl ?_
      | refine PC.old (by kernel_rfl) (GQ.q rfl (Q.move_fn rfl)) rfl ?_
      | refine PC.old (by kernel_rfl) (GQ.q rfl (Q.move_tup rfl)) rfl ?_
      | refine PC.old (by kernel_rfl) (GQ.q rfl (Q.move_ep rfl)) rfl ?_
      | refine PC.old (by kernel_rfl) (GQ.q rfl (Q.move_dp rfl)) rfl ?_
      | refine PC.old (by kernel_rfl) (GQ.q rfl (Q.move_dcut rfl)) rfl ?_
      | refine PC.old (by kernel_rfl) (GQ.q rfl (Q.move rfl)) rfl ?_
    first
      | refine PC.old (by kernel_rfl) (GQ.q rfl (Q.cut_sl sl25 rfl rfl rfl (by omega) (by omega) (by omega))) rfl ?_
      | refine PC.old (by kernel_rfl) (GQ.q rfl (Q.cut_vs sl25 rfl rfl rfl (by omega) (by omega) (by omega))) rfl ?_
      | refine PC.old (by kernel_rfl) (GQ.q rfl (Q.cut_nil sl25 rfl rfl rfl (by omega) (by omega))) rfl ?_
    refine PC.did (by kernel_rfl) ?_
    first
      | refine PC.new _ (by kernel_rfl) (GQ.q rfl (Q.assign_d rfl)) rfl ?_
      | refine PC.new _ (by kernel_rfl) (GQ.q rfl (Q.assign_vs rfl)) rfl ?_
      | refine PC.new _ (by kernel_rfl) (GQ.q rfl (Q.assign_ptr rfl)) rfl ?_
      | refine PC.new _ (by kernel_rfl) (GQ.q rfl (Q.assign_nilsl rfl)) rfl ?_
      | refine PC.new _ (by kernel_rfl) (GQ.q rfl (Q.assign_fn rfl)) rfl ?_
      | refine PC.new _ (by kernel_rfl) (GQ.q rfl (Q.assign_tup rfl)) rfl ?_
      | refine PC.new _ (by kernel_rfl) (GQ.q rfl (Q.assign_ep rfl)) rfl ?_
      | refine PC.new _ (by kernel_rfl) (GQ.q rfl (Q.assign_dp rfl)) rfl ?_
      | refine PC.new _ (by kernel_rfl) (GQ.q rfl (Q.assign_dcut rfl)) rfl ?_
      | refine PC.new _ (by kernel_rfl) (GQ.q rfl (Q.assign rfl)) rfl ?_
    refine PC.nil ?_
    refine XOps.nil ?_
    refine W.reg ?_
    first
      | refine XOps.s rfl rfl rfl (Q.move_d rfl) ?_
      | refine XOps.s rfl rfl rfl (Q.move_vs rfl) ?_
      | refine XOps.s rfl rfl rfl (Q.move_ptr rfl) ?_
      | refine XOps.s rfl rfl rfl (Q.move_nilsl rfl) ?_
      | refine XOps.s rfl rfl rfl (Q.move_fn rfl) ?_
      | refine XOps.s rfl rfl rfl (Q.move_tup rfl) ?_
      | refine XOps.s rfl rfl rfl (Q.move_ep rfl) ?_
      | refine XOps.s rfl rfl rfl (Q.move_dp rfl) ?_
      | refine XOps.s rfl rfl rfl (Q.move_dcut rfl) ?_
      | refine XOps.s rfl rfl rfl (Q.move rfl) ?_
    first
      | refine XOps.s rfl rfl rfl (Q.move_d rfl) ?_
      | refine XOps.s rfl rfl rfl (Q.move_vs rfl) ?_
      | refine XOps.s rfl rfl rfl (Q.move_ptr rfl) ?_
      | refine XOps.s rfl rfl rfl (Q.move_nilsl rfl) ?_
      | refine XOps.s rfl rfl rfl (Q.move_fn rfl) ?_
      | refine XOps.s rfl rfl rfl (Q.move_tup rfl) ?_
      | refine XOps.s rfl rfl rfl (Q.move_ep rfl) ?_
      | refine XOps.s rfl rfl rfl (Q.move_dp rfl) ?_
      | refine XOps.s rfl rfl rfl (Q.move_dcut rfl) ?_
      | refine XOps.s rfl rfl rfl (Q.move rfl) ?_
    first
      | refine XOps.s rfl rfl rfl (Q.len_sl isl25 rfl) ?_
      | refine XOps.s rfl rfl rfl (Q.len_vs isl25 rfl) ?_
      | refine XOps.s rfl rfl rfl (Q.len_nil isl25 rfl) ?_
      | refine XOps.s rfl rfl rfl (Q.len_dcut isl25 rfl) ?_
    first
      | refine XOps.s rfl rfl rfl (Q.move_d rfl) ?_
      | refine XOps.s rfl rfl rfl (Q.move_vs rfl) ?_
      | refine XOps.s rfl rfl rfl (Q.move_ptr rfl) ?_
      | refine XOps.s rfl rfl rfl (Q.move_nilsl rfl) ?_
      | refine XOps.s rfl rfl rfl (Q.move_fn rfl) ?_
      | refine XOps.s rfl rfl rfl (Q.move_tup rfl) ?_
      | refine XOps.s rfl rfl rfl (Q.move_ep rfl) ?_
      | refine XOps.s rfl rfl rfl (Q.move_dp rfl) ?_
      | refine XOps.s rfl rfl rfl (Q.move_dcut rfl) ?_
      | refine XOps.s rfl rfl rfl (Q.move rfl) ?_
    refine XOps.s rfl rfl rfl (Q.cut_vs2 (kk := 0) sl25 rfl rfl rfl rfl (by omega) (by omega) (by simp; omega)) ?_
    first
      | (refine XOps.loud rfl (L.clear (k := 0) sl25 zr25 rfl zrd25 (by decide) rfl rfl (by simp; omega)) ?_; rintro _ _ ⟨rfl, rfl⟩)
      | (refine XOps.loud rfl (L.clear (k := 1) sl25 zr25 rfl zrd25 (by decide) rfl rfl (by simp; omega)) ?_; rintro _ _ ⟨rfl, rfl⟩)
      | (refine XOps.loud rfl (L.clear (k := 2) sl25 zr25 rfl zrd25 (by decide) rfl rfl (by simp; omega)) ?_; rintro _ _ ⟨rfl, rfl⟩)
      | (refine XOps.loud rfl (L.clear (k := 3) sl25 zr25 rfl zrd25 (by decide) rfl rfl (by simp; omega)) ?_; rintro _ _ ⟨rfl, rfl⟩)
    refine XOps.nil ?_
    refine W.front_of 0 (rows.length - (j - i)) rfl ?_
    refine W.reg ?_
    first
      | refine XOps.s rfl rfl rfl (Q.move_d rfl) ?_
      | refine XOps.s rfl rfl rfl (Q.move_vs rfl) ?_
      | refine XOps.s rfl rfl rfl (Q.move_ptr rfl) ?_
      | refine XOps.s rfl rfl rfl (Q.move_nilsl rfl) ?_
      | refine XOps.s rfl rfl rfl (Q.move_fn rfl) ?_
      | refine XOps.s rfl rfl rfl (Q.move_tup rfl) ?_
      | refine XOps.s rfl rfl rfl (Q.move_ep rfl) ?_
      | refine XOps.s rfl rfl rfl (Q.move_dp rfl) ?_
      | refine XOps.s rfl rfl rfl (Q.move_dcut rfl) ?_
      | refine XOps.s rfl rfl rfl (Q.move rfl) ?_
    first
      | refine XOps.s rfl rfl rfl (Q.assign_d rfl) ?_
      | refine XOps.s rfl rfl rfl (Q.assign_vs rfl) ?_
      | refine XOps.s rfl rfl rfl (Q.assign_ptr rfl) ?_
      | refine XOps.s rfl rfl rfl (Q.assign_nilsl rfl) ?_
      | refine XOps.s rfl rfl rfl (Q.assign_fn rfl) ?_
      | refine XOps.s rfl rfl rfl (Q.assign_tup rfl) ?_
      | refine XOps.s rfl rfl rfl (Q.assign_ep rfl) ?_
      | refine XOps.s rfl rfl rfl (Q.assign_dp rfl) ?_
      | refine XOps.s rfl rfl rfl (Q.assign_dcut rfl) ?_
      | refine XOps.s rfl rfl rfl (Q.assign rfl) ?_
    refine XOps.nil ?_
    refine W.ret ?_
    refine ⟨_, (m, .lst 1 (rows.take i ++ rows.drop j)) :: hs, rfl, HLe.cons' ?_ (HLe.refl _), ?_, rfl⟩
    · congr 1
      rw [List.append_assoc]
      exact (del_rows rows i j _ _ hij hj (by omega) (by omega) _ _).symm
    · show AV.vs _ _ _ _ = _
      congr 1
      omega

theorem delI2_c (l : List Item) (a m : Nat) (hs : Hp) (ha : a < l.length) (hn : l.length ≤ 32) : AC P 14 [.vs m 0 l.length 4, .d (.int .i64 (a : Int)), .d (.int .i64 ((a : Int) + 1))] ((m, .lst 4 (l.map Item.enc)) :: hs)
    (fun r h => r = .vs m 0 (l.length - 1) 4 ∧ h = (m, .lst 4 ((wo a l).map Item.enc)) :: hs) := by
  have h := delI_c m a (a + 1) (l.map Item.enc) hs (by omega) (by simp; omega) (by simp; omega)
  rw [List.length_map, Nat.add_sub_cancel_left] at h
  exact h.mono fun r h' ⟨h1, h2⟩ => ⟨h1, by rw [h2, ← wo_map]; rfl⟩
theorem delN2_c (l : List Int) (a m : Nat) (hs : Hp) (ha : a < l.length) (hn : l.length ≤ 32) : AC P 15 [.vs m 0 l.length 1, .d (.int .i64 (a : Int)), .d (.int .i64 ((a : Int) + 1))] ((m, .lst 1 (l.map ie)) :: hs)
    (fun r h => r = .vs m 0 (l.length - 1) 1 ∧ h = (m, .lst 1 ((wo a l).map ie)) :: hs) := by
  have h := delN_c m a (a + 1) (l.map ie) hs (by omega) (by simp; omega) (by simp; omega)
  rw [List.length_map, Nat.add_sub_cancel_left] at h
  exact h.mono fun r h' ⟨h1, h2⟩ => ⟨h1, by rw [h2, ← wo_map]; rfl⟩

set_option maxHeartbeats 1000000 in
set_option maxRecDepth 100000 in
theorem without_c (l : List Item) (gv : Nat → Int) (c : Int) (hs : Hp) (hL : l.length * 40 ≤ 140737488351232) : AC P 5 [.d (slI l), .d (.agg (gD gv)), .d (.int .i64 c)] hs (fun r _ => r = .d (.bool true)) := by
  refine AC.of 83 Try.func5 rfl rfl rfl ?_
  refine W.reg ?_
  first
    | (refine XOps.loud rfl (L.boxn rfl rfl) ?_; rintro _ _ ⟨b4, rfl, rfl⟩)
    | (refine XOps.loud rfl (L.box rfl rfl rfl) ?_; rintro _ _ ⟨b4, rfl, rfl⟩)
  first
    | refine XOps.s rfl rfl rfl (Q.assign_d rfl) ?_
    | refine XOps.s rfl rfl rfl (Q.assign_vs rfl) ?_
    | refine XOps.s rfl rfl rfl (Q.assign_ptr rfl) ?_
    | refine XOps.s rfl rfl rfl (Q.assign_nilsl rfl) ?_
    | refine XOps.s rfl rfl rfl (Q.assign_fn rfl) ?_
    | refine XOps.s rfl rfl rfl (Q.assign_tup rfl) ?_
    | refine XOps.s rfl rfl rfl (Q.assign_ep rfl) ?_
    | refine XOps.s rfl rfl rfl (Q.assign_dp rfl) ?_
    | refine XOps.s rfl rfl rfl (Q.assign_dcut rfl) ?_
    | refine XOps.s rfl rfl rfl (Q.assign rfl) ?_
  refine XOps.nil ?_
  refine W.reg ?_
  first
    | refine XOps.s rfl rfl rfl (Q.move_d rfl) ?_
    | refine XOps.s rfl rfl rfl (Q.move_vs rfl) ?_
    | refine XOps.s rfl rfl rfl (Q.move_ptr rfl) ?_
    | refine XOps.s rfl rfl rfl (Q.move_nilsl rfl) ?_
    | refine XOps.s rfl rfl rfl (Q.move_fn rfl) ?_
    | refine XOps.s rfl rfl rfl (Q.move_tup rfl) ?_
    | refine XOps.s rfl rfl rfl (Q.move_ep rfl) ?_
    | refine XOps.s rfl rfl rfl (Q.move_dp rfl) ?_
    | refine XOps.s rfl rfl rfl (Q.move_dcut rfl) ?_
    | refine XOps.s rfl rfl rfl (Q.move rfl) ?_
  first
    | refine XOps.s rfl rfl rfl (Q.ld_dpn ag24 rfl rfl) ?_
    | refine XOps.s rfl rfl rfl (Q.ld_ptrn (k := 0) ag24 rfl rfl rfl) ?_
    | refine XOps.s rfl rfl rfl (Q.ld_ptrn (k := 1) ag24 rfl rfl rfl) ?_
    | refine XOps.s rfl rfl rfl (Q.ld_ptrn (k := 2) ag24 rfl rfl rfl) ?_
    | refine XOps.s rfl rfl rfl (Q.ld_ptrn (k := 3) ag24 rfl rfl rfl) ?_
    | refine XOps.s rfl rfl rfl (Q.ld_epn (k := 0) ag24 rfl rfl (by first | exact map_at0 hw | exact map_at0 ht2 | exact map_at (by assumption)) rfl) ?_
    | refine XOps.s rfl rfl rfl (Q.ld_epn (k := 1) ag24 rfl rfl (by first | exact map_at0 hw | exact map_at0 ht2 | exact map_at (by assumption)) rfl) ?_
    | refine XOps.s rfl rfl rfl (Q.ld_epn (k := 2) ag24 rfl rfl (by first | exact map_at0 hw | exact map_at0 ht2 | exact map_at (by assumption)) rfl) ?_
    | refine XOps.s rfl rfl rfl (Q.ld_epn (k := 3) ag24 rfl rfl (by first | exact map_at0 hw | exact map_at0 ht2 | exact map_at (by assumption)) rfl) ?_
  first
    | (refine XOps.loud rfl (L.call rfl Try.func8 go8 rfl (times2_own l gv _) rfl) ?_; rintro _ _ ⟨_, rfl, v, rfl, rfl⟩)
    | (refine XOps.loud rfl (L.bcall rfl Try.func8 go8 rfl (.cons (.b1 (.b0 (.vs 0 rfl (by rw [List.length_map, wo_length ha])))) (.cons (.b1 (.b0 (.d _))) .nil)) (times2_own (wo a l) gv []) (fun r h ⟨u, h1, h2⟩ => by subst h1; subst h2; exact ⟨by simp [OkR, Ok1, D.flat], by simp [OkH, ie, D.flat]⟩) rfl) ?_; rintro _ _ )
  first
    | refine XOps.s rfl rfl rfl (Q.move_d rfl) ?_
    | refine XOps.s rfl rfl rfl (Q.move_vs rfl) ?_
    | refine XOps.s rfl rfl rfl (Q.move_ptr rfl) ?_
    | refine XOps.s rfl rfl rfl (Q.move_nilsl rfl) ?_
    | refine XOps.s rfl rfl rfl (Q.move_fn rfl) ?_
    | refine XOps.s rfl rfl rfl (Q.move_tup rfl) ?_
    | refine XOps.s rfl rfl rfl (Q.move_ep rfl) ?_
    | refine XOps.s rfl rfl rfl (Q.move_dp rfl) ?_
    | refine XOps.s rfl rfl rfl (Q.move_dcut rfl) ?_
    | refine XOps.s rfl rfl rfl (Q.move rfl) ?_
  refine XOps.s rfl rfl rfl (Q.extract rfl rfl) ?_
  refine XOps.s rfl rfl rfl (Q.extract rfl rfl) ?_
  first
    | refine XOps.s rfl rfl rfl (Q.assign_d rfl) ?_
    | refine XOps.s rfl rfl rfl (Q.assign_vs rfl) ?_
    | refine XOps.s rfl rfl rfl (Q.assign_ptr rfl) ?_
    | refine XOps.s rfl rfl rfl (Q.assign_nilsl rfl) ?_
    | refine XOps.s rfl rfl rfl (Q.assign_fn rfl) ?_
    | refine XOps.s rfl rfl rfl (Q.assign_tup rfl) ?_
    | refine XOps.s rfl rfl rfl (Q.assign_ep rfl) ?_
    | refine XOps.s rfl rfl rfl (Q.assign_dp rfl) ?_
    | refine XOps.s rfl rfl rfl (Q.assign_dcut rfl) ?_
    | refine XOps.s rfl rfl rfl (Q.assign rfl) ?_
  first
    | refine XOps.s rfl rfl rfl (Q.assign_d rfl) ?_
    | refine XOps.s rfl rfl rfl (Q.assign_vs rfl) ?_
    | refine XOps.s rfl rfl rfl (Q.assign_ptr rfl) ?_
    | refine XOps.s rfl rfl rfl (Q.assign_nilsl rfl) ?_
    | refine XOps.s rfl rfl rfl (Q.assign_fn rfl) ?_
    | refine XOps.s rfl rfl rfl (Q.assign_tup rfl) ?_
    | refine XOps.s rfl rfl rfl (Q.assign_ep rfl) ?_
    | refine XOps.s rfl rfl rfl (Q.assign_dp rfl) ?_
    | refine XOps.s rfl rfl rfl (Q.assign_dcut rfl) ?_
    | refine XOps.s rfl rfl rfl (Q.assign rfl) ?_
  refine XOps.nil ?_
  refine W.seq ?_
  refine W.reg ?_
  first
    | refine XOps.s rfl rfl rfl (Q.move_d rfl) ?_
    | refine XOps.s rfl rfl rfl (Q.move_vs rfl) ?_
    | refine XOps.s rfl rfl rfl (Q.move_ptr rfl) ?_
    | refine XOps.s rfl rfl rfl (Q.move_nilsl rfl) ?_
    | refine XOps.s rfl rfl rfl (Q.move_fn rfl) ?_
    | refine XOps.s rfl rfl rfl (Q.move_tup rfl) ?_
    | refine XOps.s rfl rfl rfl (Q.move_ep rfl) ?_
    | refine XOps.s rfl rfl rfl (Q.move_dp rfl) ?_
    | refine XOps.s rfl rfl rfl (Q.move_dcut rfl) ?_
    | refine XOps.s rfl rfl rfl (Q.move rfl) ?_
  first
    | refine XOps.s rfl rfl rfl (Q.neq rfl rfl) ?_
    | refine XOps.s rfl rfl rfl (Q.neq_str rfl rfl) ?_
  first
    | refine XOps.s rfl rfl rfl (Q.move_d rfl) ?_
    | refine XOps.s rfl rfl rfl (Q.move_vs rfl) ?_
    | refine XOps.s rfl rfl rfl (Q.move_ptr rfl) ?_
    | refine XOps.s rfl rfl rfl (Q.move_nilsl rfl) ?_
    | refine XOps.s rfl rfl rfl (Q.move_fn rfl) ?_
    | refine XOps.s rfl rfl rfl (Q.move_tup rfl) ?_
    | refine XOps.s rfl rfl rfl (Q.move_ep rfl) ?_
    | refine XOps.s rfl rfl rfl (Q.move_dp rfl) ?_
    | refine XOps.s rfl rfl rfl (Q.move_dcut rfl) ?_
    | refine XOps.s rfl rfl rfl (Q.move rfl) ?_
  first
    | refine XOps.gs rfl rfl rfl rfl rfl rfl rfl (fun hg => Q.move_d rfl) ?_
    | refine XOps.gs rfl rfl rfl rfl rfl rfl rfl (fun hg => Q.move_vs rfl) ?_
    | refine XOps.gs rfl rfl rfl rfl rfl rfl rfl (fun hg => Q.move_ptr rfl) ?_
    | refine XOps.gs rfl rfl rfl rfl rfl rfl rfl (fun hg => Q.move_nilsl rfl) ?_
    | refine XOps.gs rfl rfl rfl rfl rfl rfl rfl (fun hg => Q.move_fn rfl) ?_
    | refine XOps.gs rfl rfl rfl rfl rfl rfl rfl (fun hg => Q.move_tup rfl) ?_
    | refine XOps.gs rfl rfl rfl rfl rfl rfl rfl (fun hg => Q.move_ep rfl) ?_
    | refine XOps.gs rfl rfl rfl rfl rfl rfl rfl (fun hg => Q.move_dp rfl) ?_
    | refine XOps.gs rfl rfl rfl rfl rfl rfl rfl (fun hg => Q.move_dcut rfl) ?_
    | refine XOps.gs rfl rfl rfl rfl rfl rfl rfl (fun hg => Q.move rfl) ?_
  first
    | refine XOps.gs rfl rfl rfl rfl rfl rfl rfl (fun hg => Quiet.open 21 hg rfl (Q.len_sl isl22 rfl)) ?_
    | refine XOps.gs rfl rfl rfl rfl rfl rfl rfl (fun hg => Quiet.open 21 hg rfl (Q.len_vs isl22 rfl)) ?_
    | refine XOps.gs rfl rfl rfl rfl rfl rfl rfl (fun hg => Quiet.open 21 hg rfl (Q.len_nil isl22 rfl)) ?_
    | refine XOps.gs rfl rfl rfl rfl rfl rfl rfl (fun hg => Quiet.open 21 hg rfl (Q.len_dcut isl22 rfl)) ?_
  first
    | refine XOps.gs rfl rfl rfl rfl rfl rfl rfl (fun hg => Quiet.open 22 hg rfl (Q.eql rfl rfl)) ?_
    | refine XOps.gs rfl rfl rfl rfl rfl rfl rfl (fun hg => Quiet.open 22 hg rfl (Q.eql_str rfl rfl)) ?_
  first
    | refine XOps.s rfl rfl rfl (Q.pick_and rfl rfl rfl (fun h => by rw [h]; rfl)) ?_
    | refine XOps.s rfl rfl rfl (Q.pick_or rfl rfl rfl (fun h => by rw [h]; rfl)) ?_
    | refine XOps.s rfl rfl rfl (Q.pick rfl rfl rfl) ?_
  refine XOps.nil ?_
  refine W.cond rfl (fun hc24 => ?_) (fun hc24 => ?_)
  · try simp only [Bool.or_eq_true, Bool.or_eq_false_iff, Bool.and_eq_true, Bool.and_eq_false_iff, decide_eq_true_eq, decide_eq_false_iff_not, Bool.not_eq_true', Bool.not_eq_false', Int.not_lt, Int.not_le, List.length_map] at hc24
    refine W.reg ?_
    refine XOps.s rfl rfl rfl (Q.call rfl Try.func9 go9 rfl (fact_c _)) ?_
    first
      | refine XOps.s rfl rfl rfl (Q.assign_d rfl) ?_
      | refine XOps.s rfl rfl rfl (Q.assign_vs rfl) ?_
      | refine XOps.s rfl rfl rfl (Q.assign_ptr rfl) ?_
      | refine XOps.s rfl rfl rfl (Q.assign_nilsl rfl) ?_
      | refine XOps.s rfl rfl rfl (Q.assign_fn rfl) ?_
      | refine XOps.s rfl rfl rfl (Q.assign_tup rfl) ?_
      | refine XOps.s rfl rfl rfl (Q.assign_ep rfl) ?_
      | refine XOps.s rfl rfl rfl (Q.assign_dp rfl) ?_
      | refine XOps.s rfl rfl rfl (Q.assign_dcut rfl) ?_
      | refine XOps.s rfl rfl rfl (Q.assign rfl) ?_
    refine XOps.nil ?_
    refine W.ret ?_
    refine ⟨_, hs, rfl, by repeat (first | exact HLe.refl _ | refine HLe.cons' (by first | rfl | (simp; done)) ?_ | refine HLe.skip _ ?_), ?_⟩
    first | rfl | (simp [ht]; done) | (simp [ht]; rfl)
  · try simp only [Bool.or_eq_true, Bool.or_eq_false_iff, Bool.and_eq_true, Bool.and_eq_false_iff, decide_eq_true_eq, decide_eq_false_iff_not, Bool.not_eq_true', Bool.not_eq_false', Int.not_lt, Int.not_le, List.length_map] at hc24
    have h0 : checkA l gv = 0 := by simpa using hc24.1
    have hl0 : l.length ≠ 0 := by simpa using hc24.2
    have ht := timesT_ok h0
    have htl : (timesT l gv).length = l.length := by rw [ht, timesS_length]
    obtain ⟨hg, hl, hn⟩ := checkA_zero h0
    have hml0 : (l.map Item.enc).length = l.length := List.length_map _
    refine W.skip ?_
    refine W.reg ?_
    first
      | refine XOps.s rfl rfl rfl (Q.move_d rfl) ?_
      | refine XOps.s rfl rfl rfl (Q.move_vs rfl) ?_
      | refine XOps.s rfl rfl rfl (Q.move_ptr rfl) ?_
      | refine XOps.s rfl rfl rfl (Q.move_nilsl rfl) ?_
      | refine XOps.s rfl rfl rfl (Q.move_fn rfl) ?_
      | refine XOps.s rfl rfl rfl (Q.move_tup rfl) ?_
      | refine XOps.s rfl rfl rfl (Q.move_ep rfl) ?_
      | refine XOps.s rfl rfl rfl (Q.move_dp rfl) ?_
      | refine XOps.s rfl rfl rfl (Q.move_dcut rfl) ?_
      | refine XOps.s rfl rfl rfl (Q.move rfl) ?_
    first
      | refine XOps.s rfl rfl rfl (Q.move_d rfl) ?_
      | refine XOps.s rfl rfl rfl (Q.move_vs rfl) ?_
      | refine XOps.s rfl rfl rfl (Q.move_ptr rfl) ?_
      | refine XOps.s rfl rfl rfl (Q.move_nilsl rfl) ?_
      | refine XOps.s rfl rfl rfl (Q.move_fn rfl) ?_
      | refine XOps.s rfl rfl rfl (Q.move_tup rfl) ?_
      | refine XOps.s rfl rfl rfl (Q.move_ep rfl) ?_
      | refine XOps.s rfl rfl rfl (Q.move_dp rfl) ?_
      | refine XOps.s rfl rfl rfl (Q.move_dcut rfl) ?_
      | refine XOps.s rfl rfl rfl (Q.move rfl) ?_
    first
      | refine XOps.s rfl rfl rfl (Q.len_sl isl22 rfl) ?_
      | refine XOps.s rfl rfl rfl (Q.len_vs isl22 rfl) ?_
      | refine XOps.s rfl rfl rfl (Q.len_nil isl22 rfl) ?_
      | refine XOps.s rfl rfl rfl (Q.len_dcut isl22 rfl) ?_
    first
      | refine XOps.s rfl rfl rfl (Q.sub rfl rfl (wi64 (by omega) (by omega))) ?_
      | refine XOps.s rfl rfl rfl (Q.sub rfl rfl rfl) ?_
    refine XOps.s rfl rfl rfl (Q.call rfl Try.func11 go11 rfl (cut_c c 0 (((l.map Item.enc).length : Int) - 1) _ (by decide) (by omega) (by omega))) ?_
    first
      | refine XOps.s rfl rfl rfl (Q.assign_d rfl) ?_
      | refine XOps.s rfl rfl rfl (Q.assign_vs rfl) ?_
      | refine XOps.s rfl rfl rfl (Q.assign_ptr rfl) ?_
      | refine XOps.s rfl rfl rfl (Q.assign_nilsl rfl) ?_
      | refine XOps.s rfl rfl rfl (Q.assign_fn rfl) ?_
      | refine XOps.s rfl rfl rfl (Q.assign_tup rfl) ?_
      | refine XOps.s rfl rfl rfl (Q.assign_ep rfl) ?_
      | refine XOps.s rfl rfl rfl (Q.assign_dp rfl) ?_
      | refine XOps.s rfl rfl rfl (Q.assign_dcut rfl) ?_
      | refine XOps.s rfl rfl rfl (Q.assign rfl) ?_
    refine XOps.nil ?_
    obtain ⟨a, ha0⟩ : ∃ a : Nat, (0 : Int) + c % (((l.map Item.enc).length : Int) - 1 - 0 + 1) = (a : Int) := ⟨((0 : Int) + c % (((l.map Item.enc).length : Int) - 1 - 0 + 1)).toNat, by have := Int.emod_nonneg c (show ((l.map Item.enc).length : Int) - 1 - 0 + 1 ≠ 0 by omega); omega⟩
    have ha : a < l.length := by have := Int.emod_lt_of_pos c (show 0 < ((l.map Item.enc).length : Int) - 1 - 0 + 1 by omega); omega
    rw [ha0]
    have hm0 := wo_check h0 ha
    have hml : (timesT (wo a l) gv).length = l.length - 1 := by rw [timesT_ok hm0, timesS_length, wo_length ha]
    refine W.drawTreg 13 [1, 5, 7] follows (by kernel_rfl) (by decide) ?_
    refine DT.more (Rp := fun r h => ∃ m, r = .vs m 0 l.length 4 ∧ h = (m, .lst 4 (l.map Item.enc)) :: (v, .lst 1 ((timesT l gv).map ie)) :: (b4, .cells ((gD gv).map .d)) :: hs) (by kernel_rfl) ?_
    first
      | refine PC.new _ (by kernel_rfl) (GQ.q rfl (Q.move_d rfl)) rfl ?_
      | refine PC.new _ (by kernel_rfl) (GQ.q rfl (Q.move_vs rfl)) rfl ?_
      | refine PC.new _ (by kernel_rfl) (GQ.q rfl (Q.move_ptr rfl)) rfl ?_
      | refine PC.new _ (by kernel_rfl) (GQ.q rfl (Q.move_nilsl rfl)) rfl ?_
      | refine PC.new _ (by kernel_rfl) (GQ.q rfl (Q.move_fn rfl)) rfl ?_
      | refine PC.new _ (by kernel_rfl) (GQ.q rfl (Q.move_tup rfl)) rfl ?_
      | refine PC.new _ (by kernel_rfl) (GQ.q rfl (Q.move_ep rfl)) rfl ?_
      | refine PC.new _ (by kernel_rfl) (GQ.q rfl (Q.move_dp rfl)) rfl ?_
      | refine PC.new _ (by kernel_rfl) (GQ.q rfl (Q.move_dcut rfl)) rfl ?_
      | refine PC.new _ (by kernel_rfl) (GQ.q rfl (Q.move rfl)) rfl ?_
    refine PC.now (by kernel_rfl) rfl (fun τ => L.call rfl Try.func12 go12 rfl (clone_c l _ hL) rfl) ?_
    first
      | refine PC.new _ (by kernel_rfl) (GQ.q rfl (Q.move_d rfl)) rfl ?_
      | refine PC.new _ (by kernel_rfl) (GQ.q rfl (Q.move_vs rfl)) rfl ?_
      | refine PC.new _ (by kernel_rfl) (GQ.q rfl (Q.move_ptr rfl)) rfl ?_
      | refine PC.new _ (by kernel_rfl) (GQ.q rfl (Q.move_nilsl rfl)) rfl ?_
      | refine PC.new _ (by kernel_rfl) (GQ.q rfl (Q.move_fn rfl)) rfl ?_
      | refine PC.new _ (by kernel_rfl) (GQ.q rfl (Q.move_tup rfl)) rfl ?_
      | refine PC.new _ (by kernel_rfl) (GQ.q rfl (Q.move_ep rfl)) rfl ?_
      | refine PC.new _ (by kernel_rfl) (GQ.q rfl (Q.move_dp rfl)) rfl ?_
      | refine PC.new _ (by kernel_rfl) (GQ.q rfl (Q.move_dcut rfl)) rfl ?_
      | refine PC.new _ (by kernel_rfl) (GQ.q rfl (Q.move rfl)) rfl ?_
    first
      | refine PC.new _ (by kernel_rfl) (GQ.q rfl (Q.move_d rfl)) rfl ?_
      | refine PC.new _ (by kernel_rfl) (GQ.q rfl (Q.move_vs rfl)) rfl ?_
      | refine PC.new _ (by kernel_rfl) (GQ.q rfl (Q.move_ptr rfl)) rfl ?_
      | refine PC.new _ (by kernel_rfl) (GQ.q rfl (Q.move_nilsl rfl)) rfl ?_
      | refine PC.new _ (by kernel_rfl) (GQ.q rfl (Q.move_fn rfl)) rfl ?_
      | refine PC.new _ (by kernel_rfl) (GQ.q rfl (Q.move_tup rfl)) rfl ?_
      | refine PC.new _ (by kernel_rfl) (GQ.q rfl (Q.move_ep rfl)) rfl ?_
      | refine PC.new _ (by kernel_rfl) (GQ.q rfl (Q.move_dp rfl)) rfl ?_
      | refine PC.new _ (by kernel_rfl) (GQ.q rfl (Q.move_dcut rfl)) rfl ?_
      | refine PC.new _ (by kernel_rfl) (GQ.q rfl (Q.move rfl)) rfl ?_
    first
      | refine PC.new _ (by kernel_rfl) (GQ.q rfl (Q.add rfl rfl (wi64 (by omega) (by omega)))) rfl ?_
      | refine PC.new _ (by kernel_rfl) (GQ.q rfl (Q.add rfl rfl rfl)) rfl ?_
      | refine PC.new _ (by kernel_rfl) (GQ.q rfl (Q.adds rfl rfl (by omega))) rfl ?_
    refine PC.later (by kernel_rfl) ?_
    first
      | refine PC.new _ (by kernel_rfl) (GQ.q rfl (Q.ld_dpn ag24 rfl rfl)) rfl ?_
      | refine PC.new _ (by kernel_rfl) (GQ.q rfl (Q.ld_ptrn (k := 0) ag24 rfl rfl rfl)) rfl ?_
      | refine PC.new _ (by kernel_rfl) (GQ.q rfl (Q.ld_ptrn (k := 1) ag24 rfl rfl rfl)) rfl ?_
      | refine PC.new _ (by kernel_rfl) (GQ.q rfl (Q.ld_ptrn (k := 2) ag24 rfl rfl rfl)) rfl ?_
      | refine PC.new _ (by kernel_rfl) (GQ.q rfl (Q.ld_ptrn (k := 3) ag24 rfl rfl rfl)) rfl ?_
      | refine PC.new _ (by kernel_rfl) (GQ.q rfl (Q.ld_epn (k := 0) ag24 rfl rfl (by first | exact map_at0 hw | exact map_at0 ht2 | exact map_at (by assumption)) rfl)) rfl ?_
      | refine PC.new _ (by kernel_rfl) (GQ.q rfl (Q.ld_epn (k := 1) ag24 rfl rfl (by first | exact map_at0 hw | exact map_at0 ht2 | exact map_at (by assumption)) rfl)) rfl ?_
      | refine PC.new _ (by kernel_rfl) (GQ.q rfl (Q.ld_epn (k := 2) ag24 rfl rfl (by first | exact map_at0 hw | exact map_at0 ht2 | exact map_at (by assumption)) rfl)) rfl ?_
      | refine PC.new _ (by kernel_rfl) (GQ.q rfl (Q.ld_epn (k := 3) ag24 rfl rfl (by first | exact map_at0 hw | exact map_at0 ht2 | exact map_at (by assumption)) rfl)) rfl ?_
    refine PC.later (by kernel_rfl) ?_
    refine PC.later (by kernel_rfl) ?_
    refine PC.later (by kernel_rfl) ?_
    refine PC.later (by kernel_rfl) ?_
    refine PC.later (by kernel_rfl) ?_
    refine PC.later (by kernel_rfl) ?_
    refine PC.nil ?_
    rintro _ _ ⟨m, rfl, rfl⟩
    refine DT.more (Rp := fun r h => r = .vs m 0 (l.length - 1) 4 ∧ h = (m, .lst 4 ((wo a l).map Item.enc)) :: (v, .lst 1 ((timesT l gv).map ie)) :: (b4, .cells ((gD gv).map .d)) :: hs) (by kernel_rfl) ?_
    first
      | refine PC.old (by kernel_rfl) (GQ.q rfl (Q.move_d rfl)) rfl ?_
      | refine PC.old (by kernel_rfl) (GQ.q rfl (Q.move_vs rfl)) rfl ?_
      | refine PC.old (by kernel_rfl) (GQ.q rfl (Q.move_ptr rfl)) rfl ?_
      | refine PC.old (by kernel_rfl) (GQ.q rfl (Q.move_nilsl rfl)) rfl ?_
      | refine PC.old (by kernel_rfl) (GQ.q rfl (Q.move_fn rfl)) rfl ?_
      | refine PC.old (by kernel_rfl) (GQ.q rfl (Q.move_tup rfl)) rfl ?_
      | refine PC.old (by kernel_rfl) (GQ.q rfl (Q.move_ep rfl)) rfl ?_
      | refine PC.old (by kernel_rfl) (GQ.q rfl (Q.move_dp rfl)) rfl ?_
      | refine PC.old (by kernel_rfl) (GQ.q rfl (Q.move_dcut rfl)) rfl ?_
      | refine PC.old (by kernel_rfl) (GQ.q rfl (Q.move rfl)) rfl ?_
    refine PC.did (by kernel_rfl) ?_
    first
      | refine PC.old (by kernel_rfl) (GQ.q rfl (Q.move_d rfl)) rfl ?_
      | refine PC.old (by kernel_rfl) (GQ.q rfl (Q.move_vs rfl)) rfl ?_
      | refine PC.old (by kernel_rfl) (GQ.q rfl (Q.move_ptr rfl)) rfl ?_
      | refine PC.old (by kernel_rfl) (GQ.q rfl (Q.move_nilsl rfl)) rfl ?_
      | refine PC.old (by kernel_rfl) (GQ.q rfl (Q.move_fn rfl)) rfl ?_
      | refine PC.old (by kernel_rfl) (GQ.q rfl (Q.move_tup rfl)) rfl ?_
      | refine PC.old (by kernel_rfl) (GQ.q rfl (Q.move_ep rfl)) rfl ?_
      | refine PC.old (by kernel_rfl) (GQ.q rfl (Q.move_dp rfl)) rfl ?_
      | refine PC.old (by kernel_rfl) (GQ.q rfl (Q.move_dcut rfl)) rfl ?_
      | refine PC.old (by kernel_rfl) (GQ.q rfl (Q.move rfl)) rfl ?_
    first
      | refine PC.old (by kernel_rfl) (GQ.q rfl (Q.move_d rfl)) rfl ?_
      | refine PC.old (by kernel_rfl) (GQ.q rfl (Q.move_vs rfl)) rfl ?_
      | refine PC.old (by kernel_rfl) (GQ.q rfl (Q.move_ptr rfl)) rfl ?_
      | refine PC.old (by kernel_rfl) (GQ.q rfl (Q.move_nilsl rfl)) rfl ?_
      | refine PC.old (by kernel_rfl) (GQ.q rfl (Q.move_fn rfl)) rfl ?_
      | refine PC.old (by kernel_rfl) (GQ.q rfl (Q.move_tup rfl)) rfl ?_
      | refine PC.old (by kernel_rfl) (GQ.q rfl (Q.move_ep rfl)) rfl ?_
      | refine PC.old (by kernel_rfl) (GQ.q rfl (Q.move_dp rfl)) rfl ?_
      | refine PC.old (by kernel_rfl) (GQ.q rfl (Q.move_dcut rfl)) rfl ?_
      | refine PC.old (by kernel_rfl) (GQ.q rfl (Q.move rfl)) rfl ?_
    first
      | refine PC.old (by kernel_rfl) (GQ.q rfl (Q.add rfl rfl (wi64 (by omega) (by omega)))) rfl ?_
      | refine PC.old (by kernel_rfl) (GQ.q rfl (Q.add rfl rfl rfl)) rfl ?_
      | refine PC.old (by kernel_rfl) (GQ.q rfl (Q.adds rfl rfl (by omega))) rfl ?_
    refine PC.now (by kernel_rfl) rfl (fun τ => L.call rfl Try.func14 go14 rfl (delI2_c l a m _ ha hn) rfl) ?_
    first
      | refine PC.old (by kernel_rfl) (GQ.q rfl (Q.ld_dpn ag24 rfl rfl)) rfl ?_
      | refine PC.old (by kernel_rfl) (GQ.q rfl (Q.ld_ptrn (k := 0) ag24 rfl rfl rfl)) rfl ?_
      | refine PC.old (by kernel_rfl) (GQ.q rfl (Q.ld_ptrn (k := 1) ag24 rfl rfl rfl)) rfl ?_
      | refine PC.old (by kernel_rfl) (GQ.q rfl (Q.ld_ptrn (k := 2) ag24 rfl rfl rfl)) rfl ?_
      | refine PC.old (by kernel_rfl) (GQ.q rfl (Q.ld_ptrn (k := 3) ag24 rfl rfl rfl)) rfl ?_
      | refine PC.old (by kernel_rfl) (GQ.q rfl (Q.ld_epn (k := 0) ag24 rfl rfl (by first | exact map_at0 hw | exact map_at0 ht2 | exact map_at (by assumption)) rfl)) rfl ?_
      | refine PC.old (by kernel_rfl) (GQ.q rfl (Q.ld_epn (k := 1) ag24 rfl rfl (by first | exact map_at0 hw | exact map_at0 ht2 | exact map_at (by assumption)) rfl)) rfl ?_
      | refine PC.old (by kernel_rfl) (GQ.q rfl (Q.ld_epn (k := 2) ag24 rfl rfl (by first | exact map_at0 hw | exact map_at0 ht2 | exact map_at (by assumption)) rfl)) rfl ?_
      | refine PC.old (by kernel_rfl) (GQ.q rfl (Q.ld_epn (k := 3) ag24 rfl rfl (by first | exact map_at0 hw | exact map_at0 ht2 | exact map_at (by assumption)) rfl)) rfl ?_
    refine PC.later (by kernel_rfl) ?_
    refine PC.later (by kernel_rfl) ?_
    refine PC.later (by kernel_rfl) ?_
    refine PC.later (by kernel_rfl) ?_
    refine PC.later (by kernel_rfl) ?_
    refine PC.later (by kernel_rfl) ?_
    refine PC.nil ?_
    rintro _ _ ⟨rfl, rfl⟩
    refine DT.more (Rp := fun r h => ∃ u, r = .tup [.vs u 0 (timesT (wo a l) gv).length 1, .d (.int .i64 (checkA (wo a l) gv))] ∧ h = (u, .lst 1 ((timesT (wo a l) gv).map ie)) :: (m, .lst 4 ((wo a l).map Item.enc)) :: (v, .lst 1 ((timesT l gv).map ie)) :: (b4, .cells ((gD gv).map .d)) :: hs) (by kernel_rfl) ?_
    first
      | refine PC.old (by kernel_rfl) (GQ.q rfl (Q.move_d rfl)) rfl ?_
      | refine PC.old (by kernel_rfl) (GQ.q rfl (Q.move_vs rfl)) rfl ?_
      | refine PC.old (by kernel_rfl) (GQ.q rfl (Q.move_ptr rfl)) rfl ?_
      | refine PC.old (by kernel_rfl) (GQ.q rfl (Q.move_nilsl rfl)) rfl ?_
      | refine PC.old (by kernel_rfl) (GQ.q rfl (Q.move_fn rfl)) rfl ?_
      | refine PC.old (by kernel_rfl) (GQ.q rfl (Q.move_tup rfl)) rfl ?_
      | refine PC.old (by kernel_rfl) (GQ.q rfl (Q.move_ep rfl)) rfl ?_
      | refine PC.old (by kernel_rfl) (GQ.q rfl (Q.move_dp rfl)) rfl ?_
      | refine PC.old (by kernel_rfl) (GQ.q rfl (Q.move_dcut rfl)) rfl ?_
      | refine PC.old (by kernel_rfl) (GQ.q rfl (Q.move rfl)) rfl ?_
    refine PC.did (by kernel_rfl) ?_
    first
      | refine PC.old (by kernel_rfl) (GQ.q rfl (Q.move_d rfl)) rfl ?_
      | refine PC.old (by kernel_rfl) (GQ.q rfl (Q.move_vs rfl)) rfl ?_
      | refine PC.old (by kernel_rfl) (GQ.q rfl (Q.move_ptr rfl)) rfl ?_
      | refine PC.old (by kernel_rfl) (GQ.q rfl (Q.move_nilsl rfl)) rfl ?_
      | refine PC.old (by kernel_rfl) (GQ.q rfl (Q.move_fn rfl)) rfl ?_
      | refine PC.old (by kernel_rfl) (GQ.q rfl (Q.move_tup rfl)) rfl ?_
      | refine PC.old (by kernel_rfl) (GQ.q rfl (Q.move_ep rfl)) rfl ?_
      | refine PC.old (by kernel_rfl) (GQ.q rfl (Q.move_dp rfl)) rfl ?_
      | refine PC.old (by kernel_rfl) (GQ.q rfl (Q.move_dcut rfl)) rfl ?_
      | refine PC.old (by kernel_rfl) (GQ.q rfl (Q.move rfl)) rfl ?_
    first
      | refine PC.old (by kernel_rfl) (GQ.q rfl (Q.move_d rfl)) rfl ?_
      | refine PC.old (by kernel_rfl) (GQ.q rfl (Q.move_vs rfl)) rfl ?_
      | refine PC.old (by kernel_rfl) (GQ.q rfl (Q.move_ptr rfl)) rfl ?_
      | refine PC.old (by kernel_rfl) (GQ.q rfl (Q.move_nilsl rfl)) rfl ?_
      | refine PC.old (by kernel_rfl) (GQ.q rfl (Q.move_fn rfl)) rfl ?_
      | refine PC.old (by kernel_rfl) (GQ.q rfl (Q.move_tup rfl)) rfl ?_
      | refine PC.old (by kernel_rfl) (GQ.q rfl (Q.move_ep rfl)) rfl ?_
      | refine PC.old (by kernel_rfl) (GQ.q rfl (Q.move_dp rfl)) rfl ?_
      | refine PC.old (by kernel_rfl) (GQ.q rfl (Q.move_dcut rfl)) rfl ?_
      | refine PC.old (by kernel_rfl) (GQ.q rfl (Q.move rfl)) rfl ?_
    first
      | refine PC.old (by kernel_rfl) (GQ.q rfl (Q.add rfl rfl (wi64 (by omega) (by omega)))) rfl ?_
      | refine PC.old (by kernel_rfl) (GQ.q rfl (Q.add rfl rfl rfl)) rfl ?_
      | refine PC.old (by kernel_rfl) (GQ.q rfl (Q.adds rfl rfl (by omega))) rfl ?_
    refine PC.did (by kernel_rfl) ?_
    first
      | refine PC.old (by kernel_rfl) (GQ.q rfl (Q.ld_dpn ag24 rfl rfl)) rfl ?_
      | refine PC.old (by kernel_rfl) (GQ.q rfl (Q.ld_ptrn (k := 0) ag24 rfl rfl rfl)) rfl ?_
      | refine PC.old (by kernel_rfl) (GQ.q rfl (Q.ld_ptrn (k := 1) ag24 rfl rfl rfl)) rfl ?_
      | refine PC.old (by kernel_rfl) (GQ.q rfl (Q.ld_ptrn (k := 2) ag24 rfl rfl rfl)) rfl ?_
      | refine PC.old (by kernel_rfl) (GQ.q rfl (Q.ld_ptrn (k := 3) ag24 rfl rfl rfl)) rfl ?_
      | refine PC.old (by kernel_rfl) (GQ.q rfl (Q.ld_epn (k := 0) ag24 rfl rfl (by first | exact map_at0 hw | exact map_at0 ht2 | exact map_at (by assumption)) rfl)) rfl ?_
      | refine PC.old (by kernel_rfl) (GQ.q rfl (Q.ld_epn (k := 1) ag24 rfl rfl (by first | exact map_at0 hw | exact map_at0 ht2 | exact map_at (by assumption)) rfl)) rfl ?_
      | refine PC.old (by kernel_rfl) (GQ.q rfl (Q.ld_epn (k := 2) ag24 rfl rfl (by first | exact map_at0 hw | exact map_at0 ht2 | exact map_at (by assumption)) rfl)) rfl ?_
      | refine PC.old (by kernel_rfl) (GQ.q rfl (Q.ld_epn (k := 3) ag24 rfl rfl (by first | exact map_at0 hw | exact map_at0 ht2 | exact map_at (by assumption)) rfl)) rfl ?_
    first
      | refine PC.now (by kernel_rfl) rfl (fun τ => L.call rfl Try.func8 go8 rfl (times2_own l gv _) rfl) ?_
      | refine PC.now (by kernel_rfl) rfl (fun τ => Loud.to (L.bcall rfl Try.func8 go8 rfl (.cons (.b1 (.b0 (.vs 0 rfl (by rw [List.length_map, wo_length ha])))) (.cons (.b1 (.b0 (.d _))) .nil)) (times2_own (wo a l) gv []) (fun r h ⟨u, h1, h2⟩ => by subst h1; subst h2; exact ⟨by simp [OkR, Ok1, D.flat], by simp [OkH, ie, D.flat]⟩) rfl) (fun _ _ ⟨r, h, h1, ⟨u, h2, h3⟩, h4⟩ => ⟨r, h1, u, h2, by rw [h4, h3]; rfl⟩)) ?_
    refine PC.later (by kernel_rfl) ?_
    refine PC.later (by kernel_rfl) ?_
    refine PC.later (by kernel_rfl) ?_
    refine PC.later (by kernel_rfl) ?_
    refine PC.later (by kernel_rfl) ?_
    refine PC.nil ?_
    rintro _ _ ⟨u, rfl, rfl⟩
    first
      | refine PC.old (by kernel_rfl) (GQ.q rfl (Q.move_d rfl)) rfl ?_
      | refine PC.old (by kernel_rfl) (GQ.q rfl (Q.move_vs rfl)) rfl ?_
      | refine PC.old (by kernel_rfl) (GQ.q rfl (Q.move_ptr rfl)) rfl ?_
      | refine PC.old (by kernel_rfl) (GQ.q rfl (Q.move_nilsl rfl)) rfl ?_
      | refine PC.old (by kernel_rfl) (GQ.q rfl (Q.move_fn rfl)) rfl ?_
      | refine PC.old (by kernel_rfl) (GQ.q rfl (Q.move_tup rfl)) rfl ?_
      | refine PC.old (by kernel_rfl) (GQ.q rfl (Q.move_ep rfl)) rfl ?_
      | refine PC.old (by kernel_rfl) (GQ.q rfl (Q.move_dp rfl)) rfl ?_
      | refine PC.old (by kernel_rfl) (GQ.q rfl (Q.move_dcut rfl)) rfl ?_
      | refine PC.old (by kernel_rfl) (GQ.q rfl (Q.move rfl)) rfl ?_
    refine PC.did (by kernel_rfl) ?_
    first
      | refine PC.old (by kernel_rfl) (GQ.q rfl (Q.move_d rfl)) rfl ?_
      | refine PC.old (by kernel_rfl) (GQ.q rfl (Q.move_vs rfl)) rfl ?_
      | refine PC.old (by kernel_rfl) (GQ.q rfl (Q.move_ptr rfl)) rfl ?_
      | refine PC.old (by kernel_rfl) (GQ.q rfl (Q.move_nilsl rfl)) rfl ?_
      | refine PC.old (by kernel_rfl) (GQ.q rfl (Q.move_fn rfl)) rfl ?_
      | refine PC.old (by kernel_rfl) (GQ.q rfl (Q.move_tup rfl)) rfl ?_
      | refine PC.old (by kernel_rfl) (GQ.q rfl (Q.move_ep rfl)) rfl ?_
      | refine PC.old (by kernel_rfl) (GQ.q rfl (Q.move_dp rfl)) rfl ?_
      | refine PC.old (by kernel_rfl) (GQ.q rfl (Q.move_dcut rfl)) rfl ?_
      | refine PC.old (by kernel_rfl) (GQ.q rfl (Q.move rfl)) rfl ?_
    first
      | refine PC.old (by kernel_rfl) (GQ.q rfl (Q.move_d rfl)) rfl ?_
      | refine PC.old (by kernel_rfl) (GQ.q rfl (Q.move_vs rfl)) rfl ?_
      | refine PC.old (by kernel_rfl) (GQ.q rfl (Q.move_ptr rfl)) rfl ?_
      | refine PC.old (by kernel_rfl) (GQ.q rfl (Q.move_nilsl rfl)) rfl ?_
      | refine PC.old (by kernel_rfl) (GQ.q rfl (Q.move_fn rfl)) rfl ?_
      | refine PC.old (by kernel_rfl) (GQ.q rfl (Q.move_tup rfl)) rfl ?_
      | refine PC.old (by kernel_rfl) (GQ.q rfl (Q.move_ep rfl)) rfl ?_
      | refine PC.old (by kernel_rfl) (GQ.q rfl (Q.move_dp rfl)) rfl ?_
      | refine PC.old (by kernel_rfl) (GQ.q rfl (Q.move_dcut rfl)) rfl ?_
      | refine PC.old (by kernel_rfl) (GQ.q rfl (Q.move rfl)) rfl ?_
    first
      | refine PC.old (by kernel_rfl) (GQ.q rfl (Q.add rfl rfl (wi64 (by omega) (by omega)))) rfl ?_
      | refine PC.old (by kernel_rfl) (GQ.q rfl (Q.add rfl rfl rfl)) rfl ?_
      | refine PC.old (by kernel_rfl) (GQ.q rfl (Q.adds rfl rfl (by omega))) rfl ?_
    refine PC.did (by kernel_rfl) ?_
    first
      | refine PC.old (by kernel_rfl) (GQ.q rfl (Q.ld_dpn ag24 rfl rfl)) rfl ?_
      | refine PC.old (by kernel_rfl) (GQ.q rfl (Q.ld_ptrn (k := 0) ag24 rfl rfl rfl)) rfl ?_
      | refine PC.old (by kernel_rfl) (GQ.q rfl (Q.ld_ptrn (k := 1) ag24 rfl rfl rfl)) rfl ?_
      | refine PC.old (by kernel_rfl) (GQ.q rfl (Q.ld_ptrn (k := 2) ag24 rfl rfl rfl)) rfl ?_
      | refine PC.old (by kernel_rfl) (GQ.q rfl (Q.ld_ptrn (k := 3) ag24 rfl rfl rfl)) rfl ?_
      | refine PC.old (by kernel_rfl) (GQ.q rfl (Q.ld_epn (k := 0) ag24 rfl rfl (by first | exact map_at0 hw | exact map_at0 ht2 | exact map_at (by assumption)) rfl)) rfl ?_
      | refine PC.old (by kernel_rfl) (GQ.q rfl (Q.ld_epn (k := 1) ag24 rfl rfl (by first | exact map_at0 hw | exact map_at0 ht2 | exact map_at (by assumption)) rfl)) rfl ?_
      | refine PC.old (by kernel_rfl) (GQ.q rfl (Q.ld_epn (k := 2) ag24 rfl rfl (by first | exact map_at0 hw | exact map_at0 ht2 | exact map_at (by assumption)) rfl)) rfl ?_
      | refine PC.old (by kernel_rfl) (GQ.q rfl (Q.ld_epn (k := 3) ag24 rfl rfl (by first | exact map_at0 hw | exact map_at0 ht2 | exact map_at (by assumption)) rfl)) rfl ?_
    refine PC.did (by kernel_rfl) ?_
    first
      | refine PC.new _ (by kernel_rfl) (GQ.q rfl (Q.move_d rfl)) rfl ?_
      | refine PC.new _ (by kernel_rfl) (GQ.q rfl (Q.move_vs rfl)) rfl ?_
      | refine PC.new _ (by kernel_rfl) (GQ.q rfl (Q.move_ptr rfl)) rfl ?_
      | refine PC.new _ (by kernel_rfl) (GQ.q rfl (Q.move_nilsl rfl)) rfl ?_
      | refine PC.new _ (by kernel_rfl) (GQ.q rfl (Q.move_fn rfl)) rfl ?_
      | refine PC.new _ (by kernel_rfl) (GQ.q rfl (Q.move_tup rfl)) rfl ?_
      | refine PC.new _ (by kernel_rfl) (GQ.q rfl (Q.move_ep rfl)) rfl ?_
      | refine PC.new _ (by kernel_rfl) (GQ.q rfl (Q.move_dp rfl)) rfl ?_
      | refine PC.new _ (by kernel_rfl) (GQ.q rfl (Q.move_dcut rfl)) rfl ?_
      | refine PC.new _ (by kernel_rfl) (GQ.q rfl (Q.move rfl)) rfl ?_
    refine PC.new _ (by kernel_rfl) (GQ.q rfl (Q.extract rfl rfl)) rfl ?_
    refine PC.new _ (by kernel_rfl) (GQ.q rfl (Q.extract rfl rfl)) rfl ?_
    first
      | refine PC.new _ (by kernel_rfl) (GQ.q rfl (Q.assign_d rfl)) rfl ?_
      | refine PC.new _ (by kernel_rfl) (GQ.q rfl (Q.assign_vs rfl)) rfl ?_
      | refine PC.new _ (by kernel_rfl) (GQ.q rfl (Q.assign_ptr rfl)) rfl ?_
      | refine PC.new _ (by kernel_rfl) (GQ.q rfl (Q.assign_nilsl rfl)) rfl ?_
      | refine PC.new _ (by kernel_rfl) (GQ.q rfl (Q.assign_fn rfl)) rfl ?_
      | refine PC.new _ (by kernel_rfl) (GQ.q rfl (Q.assign_tup rfl)) rfl ?_
      | refine PC.new _ (by kernel_rfl) (GQ.q rfl (Q.assign_ep rfl)) rfl ?_
      | refine PC.new _ (by kernel_rfl) (GQ.q rfl (Q.assign_dp rfl)) rfl ?_
      | refine PC.new _ (by kernel_rfl) (GQ.q rfl (Q.assign_dcut rfl)) rfl ?_
      | refine PC.new _ (by kernel_rfl) (GQ.q rfl (Q.assign rfl)) rfl ?_
    first
      | refine PC.new _ (by kernel_rfl) (GQ.q rfl (Q.assign_d rfl)) rfl ?_
      | refine PC.new _ (by kernel_rfl) (GQ.q rfl (Q.assign_vs rfl)) rfl ?_
      | refine PC.new _ (by kernel_rfl) (GQ.q rfl (Q.assign_ptr rfl)) rfl ?_
      | refine PC.new _ (by kernel_rfl) (GQ.q rfl (Q.assign_nilsl rfl)) rfl ?_
      | refine PC.new _ (by kernel_rfl) (GQ.q rfl (Q.assign_fn rfl)) rfl ?_
      | refine PC.new _ (by kernel_rfl) (GQ.q rfl (Q.assign_tup rfl)) rfl ?_
      | refine PC.new _ (by kernel_rfl) (GQ.q rfl (Q.assign_ep rfl)) rfl ?_
      | refine PC.new _ (by kernel_rfl) (GQ.q rfl (Q.assign_dp rfl)) rfl ?_
      | refine PC.new _ (by kernel_rfl) (GQ.q rfl (Q.assign_dcut rfl)) rfl ?_
      | refine PC.new _ (by kernel_rfl) (GQ.q rfl (Q.assign rfl)) rfl ?_
    refine PC.nil ?_
    refine XOps.nil ?_
    refine W.seq ?_
    refine W.reg ?_
    refine XOps.s rfl rfl rfl (Q.call rfl Try.func9 go9 rfl (fact_c _)) ?_
    refine XOps.s rfl rfl rfl (Q.not rfl) ?_
    first
      | refine XOps.s rfl rfl rfl (Q.move_d rfl) ?_
      | refine XOps.s rfl rfl rfl (Q.move_vs rfl) ?_
      | refine XOps.s rfl rfl rfl (Q.move_ptr rfl) ?_
      | refine XOps.s rfl rfl rfl (Q.move_nilsl rfl) ?_
      | refine XOps.s rfl rfl rfl (Q.move_fn rfl) ?_
      | refine XOps.s rfl rfl rfl (Q.move_tup rfl) ?_
      | refine XOps.s rfl rfl rfl (Q.move_ep rfl) ?_
      | refine XOps.s rfl rfl rfl (Q.move_dp rfl) ?_
      | refine XOps.s rfl rfl rfl (Q.move_dcut rfl) ?_
      | refine XOps.s rfl rfl rfl (Q.move rfl) ?_
    first
      | refine XOps.gs rfl rfl rfl rfl rfl rfl rfl (fun hg => Q.move_d rfl) ?_
      | refine XOps.gs rfl rfl rfl rfl rfl rfl rfl (fun hg => Q.move_vs rfl) ?_
      | refine XOps.gs rfl rfl rfl rfl rfl rfl rfl (fun hg => Q.move_ptr rfl) ?_
      | refine XOps.gs rfl rfl rfl rfl rfl rfl rfl (fun hg => Q.move_nilsl rfl) ?_
      | refine XOps.gs rfl rfl rfl rfl rfl rfl rfl (fun hg => Q.move_fn rfl) ?_
      | refine XOps.gs rfl rfl rfl rfl rfl rfl rfl (fun hg => Q.move_tup rfl) ?_
      | refine XOps.gs rfl rfl rfl rfl rfl rfl rfl (fun hg => Q.move_ep rfl) ?_
      | refine XOps.gs rfl rfl rfl rfl rfl rfl rfl (fun hg => Q.move_dp rfl) ?_
      | refine XOps.gs rfl rfl rfl rfl rfl rfl rfl (fun hg => Q.move_dcut rfl) ?_
      | refine XOps.gs rfl rfl rfl rfl rfl rfl rfl (fun hg => Q.move rfl) ?_
    first
      | refine XOps.gs rfl rfl rfl rfl rfl rfl rfl (fun hg => Quiet.open 45 hg rfl (Q.neq rfl rfl)) ?_
      | refine XOps.gs rfl rfl rfl rfl rfl rfl rfl (fun hg => Quiet.open 45 hg rfl (Q.neq_str rfl rfl)) ?_
    first
      | refine XOps.s rfl rfl rfl (Q.pick_and rfl rfl rfl (fun h => by rw [h]; rfl)) ?_
      | refine XOps.s rfl rfl rfl (Q.pick_or rfl rfl rfl (fun h => by rw [h]; rfl)) ?_
      | refine XOps.s rfl rfl rfl (Q.pick rfl rfl rfl) ?_
    first
      | refine XOps.s rfl rfl rfl (Q.move_d rfl) ?_
      | refine XOps.s rfl rfl rfl (Q.move_vs rfl) ?_
      | refine XOps.s rfl rfl rfl (Q.move_ptr rfl) ?_
      | refine XOps.s rfl rfl rfl (Q.move_nilsl rfl) ?_
      | refine XOps.s rfl rfl rfl (Q.move_fn rfl) ?_
      | refine XOps.s rfl rfl rfl (Q.move_tup rfl) ?_
      | refine XOps.s rfl rfl rfl (Q.move_ep rfl) ?_
      | refine XOps.s rfl rfl rfl (Q.move_dp rfl) ?_
      | refine XOps.s rfl rfl rfl (Q.move_dcut rfl) ?_
      | refine XOps.s rfl rfl rfl (Q.move rfl) ?_
    first
      | refine XOps.gs rfl rfl rfl rfl rfl rfl rfl (fun hg => Q.move_d rfl) ?_
      | refine XOps.gs rfl rfl rfl rfl rfl rfl rfl (fun hg => Q.move_vs rfl) ?_
      | refine XOps.gs rfl rfl rfl rfl rfl rfl rfl (fun hg => Q.move_ptr rfl) ?_
      | refine XOps.gs rfl rfl rfl rfl rfl rfl rfl (fun hg => Q.move_nilsl rfl) ?_
      | refine XOps.gs rfl rfl rfl rfl rfl rfl rfl (fun hg => Q.move_fn rfl) ?_
      | refine XOps.gs rfl rfl rfl rfl rfl rfl rfl (fun hg => Q.move_tup rfl) ?_
      | refine XOps.gs rfl rfl rfl rfl rfl rfl rfl (fun hg => Q.move_ep rfl) ?_
      | refine XOps.gs rfl rfl rfl rfl rfl rfl rfl (fun hg => Q.move_dp rfl) ?_
      | refine XOps.gs rfl rfl rfl rfl rfl rfl rfl (fun hg => Q.move_dcut rfl) ?_
      | refine XOps.gs rfl rfl rfl rfl rfl rfl rfl (fun hg => Q.move rfl) ?_
    first
      | refine XOps.gs rfl rfl rfl rfl rfl rfl rfl (fun hg => Quiet.open 49 hg rfl (Q.len_sl isl25 rfl)) ?_
      | refine XOps.gs rfl rfl rfl rfl rfl rfl rfl (fun hg => Quiet.open 49 hg rfl (Q.len_vs isl25 rfl)) ?_
      | refine XOps.gs rfl rfl rfl rfl rfl rfl rfl (fun hg => Quiet.open 49 hg rfl (Q.len_nil isl25 rfl)) ?_
      | refine XOps.gs rfl rfl rfl rfl rfl rfl rfl (fun hg => Quiet.open 49 hg rfl (Q.len_dcut isl25 rfl)) ?_
    first
      | refine XOps.gs rfl rfl rfl rfl rfl rfl rfl (fun hg => Q.move_d rfl) ?_
      | refine XOps.gs rfl rfl rfl rfl rfl rfl rfl (fun hg => Q.move_vs rfl) ?_
      | refine XOps.gs rfl rfl rfl rfl rfl rfl rfl (fun hg => Q.move_ptr rfl) ?_
      | refine XOps.gs rfl rfl rfl rfl rfl rfl rfl (fun hg => Q.move_nilsl rfl) ?_
      | refine XOps.gs rfl rfl rfl rfl rfl rfl rfl (fun hg => Q.move_fn rfl) ?_
      | refine XOps.gs rfl rfl rfl rfl rfl rfl rfl (fun hg => Q.move_tup rfl) ?_
      | refine XOps.gs rfl rfl rfl rfl rfl rfl rfl (fun hg => Q.move_ep rfl) ?_
      | refine XOps.gs rfl rfl rfl rfl rfl rfl rfl (fun hg => Q.move_dp rfl) ?_
      | refine XOps.gs rfl rfl rfl rfl rfl rfl rfl (fun hg => Q.move_dcut rfl) ?_
      | refine XOps.gs rfl rfl rfl rfl rfl rfl rfl (fun hg => Q.move rfl) ?_
    first
      | refine XOps.gs rfl rfl rfl rfl rfl rfl rfl (fun hg => Quiet.open 51 hg rfl (Q.len_sl isl22 rfl)) ?_
      | refine XOps.gs rfl rfl rfl rfl rfl rfl rfl (fun hg => Quiet.open 51 hg rfl (Q.len_vs isl22 rfl)) ?_
      | refine XOps.gs rfl rfl rfl rfl rfl rfl rfl (fun hg => Quiet.open 51 hg rfl (Q.len_nil isl22 rfl)) ?_
      | refine XOps.gs rfl rfl rfl rfl rfl rfl rfl (fun hg => Quiet.open 51 hg rfl (Q.len_dcut isl22 rfl)) ?_
    first
      | refine XOps.gs rfl rfl rfl rfl rfl rfl rfl (fun hg => Quiet.open 50 hg rfl (Quiet.open 52 hg rfl (Q.neq rfl rfl))) ?_
      | refine XOps.gs rfl rfl rfl rfl rfl rfl rfl (fun hg => Quiet.open 50 hg rfl (Quiet.open 52 hg rfl (Q.neq_str rfl rfl))) ?_
    first
      | refine XOps.s rfl rfl rfl (Q.pick_and rfl rfl rfl (fun h => by rw [h]; rfl)) ?_
      | refine XOps.s rfl rfl rfl (Q.pick_or rfl rfl rfl (fun h => by rw [h]; rfl)) ?_
      | refine XOps.s rfl rfl rfl (Q.pick rfl rfl rfl) ?_
    first
      | refine XOps.s rfl rfl rfl (Q.move_d rfl) ?_
      | refine XOps.s rfl rfl rfl (Q.move_vs rfl) ?_
      | refine XOps.s rfl rfl rfl (Q.move_ptr rfl) ?_
      | refine XOps.s rfl rfl rfl (Q.move_nilsl rfl) ?_
      | refine XOps.s rfl rfl rfl (Q.move_fn rfl) ?_
      | refine XOps.s rfl rfl rfl (Q.move_tup rfl) ?_
      | refine XOps.s rfl rfl rfl (Q.move_ep rfl) ?_
      | refine XOps.s rfl rfl rfl (Q.move_dp rfl) ?_
      | refine XOps.s rfl rfl rfl (Q.move_dcut rfl) ?_
      | refine XOps.s rfl rfl rfl (Q.move rfl) ?_
    first
      | refine XOps.gs rfl rfl rfl rfl rfl rfl rfl (fun hg => Q.move_d rfl) ?_
      | refine XOps.gs rfl rfl rfl rfl rfl rfl rfl (fun hg => Q.move_vs rfl) ?_
      | refine XOps.gs rfl rfl rfl rfl rfl rfl rfl (fun hg => Q.move_ptr rfl) ?_
      | refine XOps.gs rfl rfl rfl rfl rfl rfl rfl (fun hg => Q.move_nilsl rfl) ?_
      | refine XOps.gs rfl rfl rfl rfl rfl rfl rfl (fun hg => Q.move_fn rfl) ?_
      | refine XOps.gs rfl rfl rfl rfl rfl rfl rfl (fun hg => Q.move_tup rfl) ?_
      | refine XOps.gs rfl rfl rfl rfl rfl rfl rfl (fun hg => Q.move_ep rfl) ?_
      | refine XOps.gs rfl rfl rfl rfl rfl rfl rfl (fun hg => Q.move_dp rfl) ?_
      | refine XOps.gs rfl rfl rfl rfl rfl rfl rfl (fun hg => Q.move_dcut rfl) ?_
      | refine XOps.gs rfl rfl rfl rfl rfl rfl rfl (fun hg => Q.move rfl) ?_
    first
      | refine XOps.gs rfl rfl rfl rfl rfl rfl rfl (fun hg => Quiet.open 56 hg rfl (Q.len_sl isl25 rfl)) ?_
      | refine XOps.gs rfl rfl rfl rfl rfl rfl rfl (fun hg => Quiet.open 56 hg rfl (Q.len_vs isl25 rfl)) ?_
      | refine XOps.gs rfl rfl rfl rfl rfl rfl rfl (fun hg => Quiet.open 56 hg rfl (Q.len_nil isl25 rfl)) ?_
      | refine XOps.gs rfl rfl rfl rfl rfl rfl rfl (fun hg => Quiet.open 56 hg rfl (Q.len_dcut isl25 rfl)) ?_
    first
      | refine XOps.gs rfl rfl rfl rfl rfl rfl rfl (fun hg => Q.move_d rfl) ?_
      | refine XOps.gs rfl rfl rfl rfl rfl rfl rfl (fun hg => Q.move_vs rfl) ?_
      | refine XOps.gs rfl rfl rfl rfl rfl rfl rfl (fun hg => Q.move_ptr rfl) ?_
      | refine XOps.gs rfl rfl rfl rfl rfl rfl rfl (fun hg => Q.move_nilsl rfl) ?_
      | refine XOps.gs rfl rfl rfl rfl rfl rfl rfl (fun hg => Q.move_fn rfl) ?_
      | refine XOps.gs rfl rfl rfl rfl rfl rfl rfl (fun hg => Q.move_tup rfl) ?_
      | refine XOps.gs rfl rfl rfl rfl rfl rfl rfl (fun hg => Q.move_ep rfl) ?_
      | refine XOps.gs rfl rfl rfl rfl rfl rfl rfl (fun hg => Q.move_dp rfl) ?_
      | refine XOps.gs rfl rfl rfl rfl rfl rfl rfl (fun hg => Q.move_dcut rfl) ?_
      | refine XOps.gs rfl rfl rfl rfl rfl rfl rfl (fun hg => Q.move rfl) ?_
    first
      | refine XOps.gs rfl rfl rfl rfl rfl rfl rfl (fun hg => Quiet.open 58 hg rfl (Q.len_sl isl22 rfl)) ?_
      | refine XOps.gs rfl rfl rfl rfl rfl rfl rfl (fun hg => Quiet.open 58 hg rfl (Q.len_vs isl22 rfl)) ?_
      | refine XOps.gs rfl rfl rfl rfl rfl rfl rfl (fun hg => Quiet.open 58 hg rfl (Q.len_nil isl22 rfl)) ?_
      | refine XOps.gs rfl rfl rfl rfl rfl rfl rfl (fun hg => Quiet.open 58 hg rfl (Q.len_dcut isl22 rfl)) ?_
    first
      | refine XOps.gs rfl rfl rfl rfl rfl rfl rfl (fun hg => Quiet.open 59 hg rfl (Q.sub rfl rfl (wi64 (by omega) (by omega)))) ?_
      | refine XOps.gs rfl rfl rfl rfl rfl rfl rfl (fun hg => Quiet.open 59 hg rfl (Q.sub rfl rfl rfl)) ?_
    first
      | refine XOps.gs rfl rfl rfl rfl rfl rfl rfl (fun hg => Quiet.open 57 hg rfl (Quiet.open 60 hg rfl (Q.neq rfl rfl))) ?_
      | refine XOps.gs rfl rfl rfl rfl rfl rfl rfl (fun hg => Quiet.open 57 hg rfl (Quiet.open 60 hg rfl (Q.neq_str rfl rfl))) ?_
    first
      | refine XOps.s rfl rfl rfl (Q.pick_and rfl rfl rfl (fun h => by rw [h]; rfl)) ?_
      | refine XOps.s rfl rfl rfl (Q.pick_or rfl rfl rfl (fun h => by rw [h]; rfl)) ?_
      | refine XOps.s rfl rfl rfl (Q.pick rfl rfl rfl) ?_
    refine XOps.nil ?_
    refine W.cond rfl (fun hc62 => ?_) (fun hc62 => ?_)
    · try simp only [Bool.or_eq_true, Bool.or_eq_false_iff, Bool.and_eq_true, Bool.and_eq_false_iff, decide_eq_true_eq, decide_eq_false_iff_not, Bool.not_eq_true', Bool.not_eq_false', Int.not_lt, Int.not_le, List.length_map] at hc62
      exact absurd hc62 (by simp [hm0, htl, hml]; omega)
    · try simp only [Bool.or_eq_true, Bool.or_eq_false_iff, Bool.and_eq_true, Bool.and_eq_false_iff, decide_eq_true_eq, decide_eq_false_iff_not, Bool.not_eq_true', Bool.not_eq_false', Int.not_lt, Int.not_le, List.length_map] at hc62
      refine W.skip ?_
      refine W.front 2 rfl ?_
      refine W.reg ?_
      first
        | refine XOps.s rfl rfl rfl (Q.move_d rfl) ?_
        | refine XOps.s rfl rfl rfl (Q.move_vs rfl) ?_
        | refine XOps.s rfl rfl rfl (Q.move_ptr rfl) ?_
        | refine XOps.s rfl rfl rfl (Q.move_nilsl rfl) ?_
        | refine XOps.s rfl rfl rfl (Q.move_fn rfl) ?_
        | refine XOps.s rfl rfl rfl (Q.move_tup rfl) ?_
        | refine XOps.s rfl rfl rfl (Q.move_ep rfl) ?_
        | refine XOps.s rfl rfl rfl (Q.move_dp rfl) ?_
        | refine XOps.s rfl rfl rfl (Q.move_dcut rfl) ?_
        | refine XOps.s rfl rfl rfl (Q.move rfl) ?_
      first
        | refine XOps.s rfl rfl rfl (Q.move_d rfl) ?_
        | refine XOps.s rfl rfl rfl (Q.move_vs rfl) ?_
        | refine XOps.s rfl rfl rfl (Q.move_ptr rfl) ?_
        | refine XOps.s rfl rfl rfl (Q.move_nilsl rfl) ?_
        | refine XOps.s rfl rfl rfl (Q.move_fn rfl) ?_
        | refine XOps.s rfl rfl rfl (Q.move_tup rfl) ?_
        | refine XOps.s rfl rfl rfl (Q.move_ep rfl) ?_
        | refine XOps.s rfl rfl rfl (Q.move_dp rfl) ?_
        | refine XOps.s rfl rfl rfl (Q.move_dcut rfl) ?_
        | refine XOps.s rfl rfl rfl (Q.move rfl) ?_
      first
        | refine XOps.s rfl rfl rfl (Q.move_d rfl) ?_
        | refine XOps.s rfl rfl rfl (Q.move_vs rfl) ?_
        | refine XOps.s rfl rfl rfl (Q.move_ptr rfl) ?_
        | refine XOps.s rfl rfl rfl (Q.move_nilsl rfl) ?_
        | refine XOps.s rfl rfl rfl (Q.move_fn rfl) ?_
        | refine XOps.s rfl rfl rfl (Q.move_tup rfl) ?_
        | refine XOps.s rfl rfl rfl (Q.move_ep rfl) ?_
        | refine XOps.s rfl rfl rfl (Q.move_dp rfl) ?_
        | refine XOps.s rfl rfl rfl (Q.move_dcut rfl) ?_
        | refine XOps.s rfl rfl rfl (Q.move rfl) ?_
      first
        | refine XOps.s rfl rfl rfl (Q.add rfl rfl (wi64 (by omega) (by omega))) ?_
        | refine XOps.s rfl rfl rfl (Q.add rfl rfl rfl) ?_
        | refine XOps.s rfl rfl rfl (Q.adds rfl rfl (by omega)) ?_
      (refine XOps.loud rfl (L.call rfl Try.func15 go15 rfl (delN2_c (timesT l gv) a v _ (by omega) (by omega)) rfl) ?_; rintro _ _ ⟨_, rfl, rfl, rfl⟩)
      first
        | refine XOps.s rfl rfl rfl (Q.assign_d rfl) ?_
        | refine XOps.s rfl rfl rfl (Q.assign_vs rfl) ?_
        | refine XOps.s rfl rfl rfl (Q.assign_ptr rfl) ?_
        | refine XOps.s rfl rfl rfl (Q.assign_nilsl rfl) ?_
        | refine XOps.s rfl rfl rfl (Q.assign_fn rfl) ?_
        | refine XOps.s rfl rfl rfl (Q.assign_tup rfl) ?_
        | refine XOps.s rfl rfl rfl (Q.assign_ep rfl) ?_
        | refine XOps.s rfl rfl rfl (Q.assign_dp rfl) ?_
        | refine XOps.s rfl rfl rfl (Q.assign_dcut rfl) ?_
        | refine XOps.s rfl rfl rfl (Q.assign rfl) ?_
      refine XOps.nil ?_
      refine W.seq ?_
      refine W.reg ?_
      first
        | refine XOps.s rfl rfl rfl (Q.move_d rfl) ?_
        | refine XOps.s rfl rfl rfl (Q.move_vs rfl) ?_
        | refine XOps.s rfl rfl rfl (Q.move_ptr rfl) ?_
        | refine XOps.s rfl rfl rfl (Q.move_nilsl rfl) ?_
        | refine XOps.s rfl rfl rfl (Q.move_fn rfl) ?_
        | refine XOps.s rfl rfl rfl (Q.move_tup rfl) ?_
        | refine XOps.s rfl rfl rfl (Q.move_ep rfl) ?_
        | refine XOps.s rfl rfl rfl (Q.move_dp rfl) ?_
        | refine XOps.s rfl rfl rfl (Q.move_dcut rfl) ?_
        | refine XOps.s rfl rfl rfl (Q.move rfl) ?_
      first
        | refine XOps.s rfl rfl rfl (Q.len_sl isl25 rfl) ?_
        | refine XOps.s rfl rfl rfl (Q.len_vs isl25 rfl) ?_
        | refine XOps.s rfl rfl rfl (Q.len_nil isl25 rfl) ?_
        | refine XOps.s rfl rfl rfl (Q.len_dcut isl25 rfl) ?_
      first
        | refine XOps.s rfl rfl rfl (Q.move_d rfl) ?_
        | refine XOps.s rfl rfl rfl (Q.move_vs rfl) ?_
        | refine XOps.s rfl rfl rfl (Q.move_ptr rfl) ?_
        | refine XOps.s rfl rfl rfl (Q.move_nilsl rfl) ?_
        | refine XOps.s rfl rfl rfl (Q.move_fn rfl) ?_
        | refine XOps.s rfl rfl rfl (Q.move_tup rfl) ?_
        | refine XOps.s rfl rfl rfl (Q.move_ep rfl) ?_
        | refine XOps.s rfl rfl rfl (Q.move_dp rfl) ?_
        | refine XOps.s rfl rfl rfl (Q.move_dcut rfl) ?_
        | refine XOps.s rfl rfl rfl (Q.move rfl) ?_
      refine XOps.nil ?_
      refine W.block ?_
      refine W.loop (ι := Nat) (fun k => [(7, .vs v 0 ((timesT l gv).length - 1) 1), (9, .vs u 0 (timesT (wo a l) gv).length 1), (69, .d (.int .i64 ((timesT (wo a l) gv).length : Nat))), (70, .d (.int .i64 k))]) (fun k => (v, .lst 1 ((wo a (timesT l gv)).map ie)) :: (u, .lst 1 ((timesT (wo a l) gv).map ie)) :: hs) (fun k => k ≤ (timesT (wo a l) gv).length) (fun k => (timesT (wo a l) gv).length - k) 0 ?_ ?_ ?_ ?_
      · exact Nat.zero_le _
      · exact ⟨by first | rfl | exact len_eq (by simp) | exact int_eq (by simp; done) | exact int_eq (by omega), by first | rfl | exact len_eq (by simp) | exact int_eq (by simp; done) | exact int_eq (by omega), by first | rfl | exact len_eq (by simp) | exact int_eq (by simp; done) | exact int_eq (by omega), by first | rfl | exact len_eq (by simp) | exact int_eq (by simp; done) | exact int_eq (by omega), trivial⟩
      · repeat (first | exact HLe.refl _ | refine HLe.cons' (by first | rfl | (simp; done)) ?_ | refine HLe.skip _ ?_)
      · rintro k hk
        try dsimp only
        refine W.reg ?_
        first
          | refine XOps.s rfl rfl rfl (Q.lss rfl rfl) ?_
          | refine XOps.s rfl rfl rfl (Q.lss_str rfl rfl) ?_
        refine XOps.nil ?_
        refine W.seq ?_
        refine W.cond rfl (fun hc71 => ?_) (fun hc71 => ?_)
        · try simp only [Bool.or_eq_true, Bool.or_eq_false_iff, Bool.and_eq_true, Bool.and_eq_false_iff, decide_eq_true_eq, decide_eq_false_iff_not, Bool.not_eq_true', Bool.not_eq_false', Int.not_lt, Int.not_le, List.length_map] at hc71
          obtain ⟨t1, hw⟩ : ∃ u, (timesT (wo a l) gv)[k]? = some u := ⟨_, List.getElem?_eq_getElem (by omega)⟩
          obtain ⟨t2, ht2⟩ : ∃ u, (wo a (timesT l gv))[k]? = some u := ⟨_, List.getElem?_eq_getElem (by rw [wo_length (by omega)]; omega)⟩
          have hle : t1 ≤ t2 := by
            have h1 := wo_times (gv := gv) ha k (by omega)
            rw [wo_at (by omega), ht] at ht2
            rw [timesT_ok hm0] at hw
            simp only [List.getD_eq_getElem?_getD, hw, ht2, Option.getD_some] at h1
            exact h1
          refine W.skip ?_
          refine W.seq ?_
          refine W.block ?_
          refine W.reg ?_
          first
            | refine XOps.s rfl rfl rfl (Q.move_d rfl) ?_
            | refine XOps.s rfl rfl rfl (Q.move_vs rfl) ?_
            | refine XOps.s rfl rfl rfl (Q.move_ptr rfl) ?_
            | refine XOps.s rfl rfl rfl (Q.move_nilsl rfl) ?_
            | refine XOps.s rfl rfl rfl (Q.move_fn rfl) ?_
            | refine XOps.s rfl rfl rfl (Q.move_tup rfl) ?_
            | refine XOps.s rfl rfl rfl (Q.move_ep rfl) ?_
            | refine XOps.s rfl rfl rfl (Q.move_dp rfl) ?_
            | refine XOps.s rfl rfl rfl (Q.move_dcut rfl) ?_
            | refine XOps.s rfl rfl rfl (Q.move rfl) ?_
          first
            | refine XOps.s rfl rfl rfl (Q.assign_d rfl) ?_
            | refine XOps.s rfl rfl rfl (Q.assign_vs rfl) ?_
            | refine XOps.s rfl rfl rfl (Q.assign_ptr rfl) ?_
            | refine XOps.s rfl rfl rfl (Q.assign_nilsl rfl) ?_
            | refine XOps.s rfl rfl rfl (Q.assign_fn rfl) ?_
            | refine XOps.s rfl rfl rfl (Q.assign_tup rfl) ?_
            | refine XOps.s rfl rfl rfl (Q.assign_ep rfl) ?_
            | refine XOps.s rfl rfl rfl (Q.assign_dp rfl) ?_
            | refine XOps.s rfl rfl rfl (Q.assign_dcut rfl) ?_
            | refine XOps.s rfl rfl rfl (Q.assign rfl) ?_
          refine XOps.nil ?_
          refine W.drawreg 9 follows (by kernel_rfl) ?_
          first
            | refine Chain.cons _ (GQ.q rfl (Q.move_d rfl)) rfl ?_
            | refine Chain.cons _ (GQ.q rfl (Q.move_vs rfl)) rfl ?_
            | refine Chain.cons _ (GQ.q rfl (Q.move_ptr rfl)) rfl ?_
            | refine Chain.cons _ (GQ.q rfl (Q.move_nilsl rfl)) rfl ?_
            | refine Chain.cons _ (GQ.q rfl (Q.move_fn rfl)) rfl ?_
            | refine Chain.cons _ (GQ.q rfl (Q.move_tup rfl)) rfl ?_
            | refine Chain.cons _ (GQ.q rfl (Q.move_ep rfl)) rfl ?_
            | refine Chain.cons _ (GQ.q rfl (Q.move_dp rfl)) rfl ?_
            | refine Chain.cons _ (GQ.q rfl (Q.move_dcut rfl)) rfl ?_
            | refine Chain.cons _ (GQ.q rfl (Q.move rfl)) rfl ?_
          first
            | refine Chain.cons _ (GQ.q rfl (Q.move_d rfl)) rfl ?_
            | refine Chain.cons _ (GQ.q rfl (Q.move_vs rfl)) rfl ?_
            | refine Chain.cons _ (GQ.q rfl (Q.move_ptr rfl)) rfl ?_
            | refine Chain.cons _ (GQ.q rfl (Q.move_nilsl rfl)) rfl ?_
            | refine Chain.cons _ (GQ.q rfl (Q.move_fn rfl)) rfl ?_
            | refine Chain.cons _ (GQ.q rfl (Q.move_tup rfl)) rfl ?_
            | refine Chain.cons _ (GQ.q rfl (Q.move_ep rfl)) rfl ?_
            | refine Chain.cons _ (GQ.q rfl (Q.move_dp rfl)) rfl ?_
            | refine Chain.cons _ (GQ.q rfl (Q.move_dcut rfl)) rfl ?_
            | refine Chain.cons _ (GQ.q rfl (Q.move rfl)) rfl ?_
          first
            | refine Chain.cons _ (GQ.q rfl (Q.idx_sl sl25 (by decide) rfl rfl (by omega) (by first | exact map_at0 hw | exact map_at0 ht2 | exact map_at (by assumption)))) rfl ?_
            | refine Chain.cons _ (GQ.q rfl (Q.idx_vs (kk := 0) sl25 rfl rfl rfl (by omega) (by omega))) rfl ?_
            | refine Chain.cons _ (GQ.q rfl (Q.idx_vs (kk := 1) sl25 rfl rfl rfl (by omega) (by omega))) rfl ?_
            | refine Chain.cons _ (GQ.q rfl (Q.idx_vs (kk := 2) sl25 rfl rfl rfl (by omega) (by omega))) rfl ?_
            | refine Chain.cons _ (GQ.q rfl (Q.idx_vs (kk := 3) sl25 rfl rfl rfl (by omega) (by omega))) rfl ?_
          first
            | refine Chain.cons _ (GQ.q rfl (Q.ld_dp ag3 rfl rfl)) rfl ?_
            | refine Chain.cons _ (GQ.q rfl (Q.ld_ptr (k := 0) ag3 rfl rfl rfl)) rfl ?_
            | refine Chain.cons _ (GQ.q rfl (Q.ld_ptr (k := 1) ag3 rfl rfl rfl)) rfl ?_
            | refine Chain.cons _ (GQ.q rfl (Q.ld_ptr (k := 2) ag3 rfl rfl rfl)) rfl ?_
            | refine Chain.cons _ (GQ.q rfl (Q.ld_ptr (k := 3) ag3 rfl rfl rfl)) rfl ?_
            | refine Chain.cons _ (GQ.q rfl (Q.ld_ep (k := 0) ag3 rfl rfl (by first | exact map_at0 hw | exact map_at0 ht2 | exact map_at (by assumption)) rfl)) rfl ?_
            | refine Chain.cons _ (GQ.q rfl (Q.ld_ep (k := 1) ag3 rfl rfl (by first | exact map_at0 hw | exact map_at0 ht2 | exact map_at (by assumption)) rfl)) rfl ?_
            | refine Chain.cons _ (GQ.q rfl (Q.ld_ep (k := 2) ag3 rfl rfl (by first | exact map_at0 hw | exact map_at0 ht2 | exact map_at (by assumption)) rfl)) rfl ?_
            | refine Chain.cons _ (GQ.q rfl (Q.ld_ep (k := 3) ag3 rfl rfl (by first | exact map_at0 hw | exact map_at0 ht2 | exact map_at (by assumption)) rfl)) rfl ?_
          first
            | refine Chain.cons _ (GQ.q rfl (Q.move_d rfl)) rfl ?_
            | refine Chain.cons _ (GQ.q rfl (Q.move_vs rfl)) rfl ?_
            | refine Chain.cons _ (GQ.q rfl (Q.move_ptr rfl)) rfl ?_
            | refine Chain.cons _ (GQ.q rfl (Q.move_nilsl rfl)) rfl ?_
            | refine Chain.cons _ (GQ.q rfl (Q.move_fn rfl)) rfl ?_
            | refine Chain.cons _ (GQ.q rfl (Q.move_tup rfl)) rfl ?_
            | refine Chain.cons _ (GQ.q rfl (Q.move_ep rfl)) rfl ?_
            | refine Chain.cons _ (GQ.q rfl (Q.move_dp rfl)) rfl ?_
            | refine Chain.cons _ (GQ.q rfl (Q.move_dcut rfl)) rfl ?_
            | refine Chain.cons _ (GQ.q rfl (Q.move rfl)) rfl ?_
          first
            | refine Chain.cons _ (GQ.q rfl (Q.move_d rfl)) rfl ?_
            | refine Chain.cons _ (GQ.q rfl (Q.move_vs rfl)) rfl ?_
            | refine Chain.cons _ (GQ.q rfl (Q.move_ptr rfl)) rfl ?_
            | refine Chain.cons _ (GQ.q rfl (Q.move_nilsl rfl)) rfl ?_
            | refine Chain.cons _ (GQ.q rfl (Q.move_fn rfl)) rfl ?_
            | refine Chain.cons _ (GQ.q rfl (Q.move_tup rfl)) rfl ?_
            | refine Chain.cons _ (GQ.q rfl (Q.move_ep rfl)) rfl ?_
            | refine Chain.cons _ (GQ.q rfl (Q.move_dp rfl)) rfl ?_
            | refine Chain.cons _ (GQ.q rfl (Q.move_dcut rfl)) rfl ?_
            | refine Chain.cons _ (GQ.q rfl (Q.move rfl)) rfl ?_
          first
            | refine Chain.cons _ (GQ.q rfl (Q.idx_sl sl25 (by decide) rfl rfl (by omega) (by first | exact map_at0 hw | exact map_at0 ht2 | exact map_at (by assumption)))) rfl ?_
            | refine Chain.cons _ (GQ.q rfl (Q.idx_vs (kk := 0) sl25 rfl rfl rfl (by omega) (by omega))) rfl ?_
            | refine Chain.cons _ (GQ.q rfl (Q.idx_vs (kk := 1) sl25 rfl rfl rfl (by omega) (by omega))) rfl ?_
            | refine Chain.cons _ (GQ.q rfl (Q.idx_vs (kk := 2) sl25 rfl rfl rfl (by omega) (by omega))) rfl ?_
            | refine Chain.cons _ (GQ.q rfl (Q.idx_vs (kk := 3) sl25 rfl rfl rfl (by omega) (by omega))) rfl ?_
          first
            | refine Chain.cons _ (GQ.q rfl (Q.ld_dp ag3 rfl rfl)) rfl ?_
            | refine Chain.cons _ (GQ.q rfl (Q.ld_ptr (k := 0) ag3 rfl rfl rfl)) rfl ?_
            | refine Chain.cons _ (GQ.q rfl (Q.ld_ptr (k := 1) ag3 rfl rfl rfl)) rfl ?_
            | refine Chain.cons _ (GQ.q rfl (Q.ld_ptr (k := 2) ag3 rfl rfl rfl)) rfl ?_
            | refine Chain.cons _ (GQ.q rfl (Q.ld_ptr (k := 3) ag3 rfl rfl rfl)) rfl ?_
            | refine Chain.cons _ (GQ.q rfl (Q.ld_ep (k := 0) ag3 rfl rfl (by first | exact map_at0 hw | exact map_at0 ht2 | exact map_at (by assumption)) rfl)) rfl ?_
            | refine Chain.cons _ (GQ.q rfl (Q.ld_ep (k := 1) ag3 rfl rfl (by first | exact map_at0 hw | exact map_at0 ht2 | exact map_at (by assumption)) rfl)) rfl ?_
            | refine Chain.cons _ (GQ.q rfl (Q.ld_ep (k := 2) ag3 rfl rfl (by first | exact map_at0 hw | exact map_at0 ht2 | exact map_at (by assumption)) rfl)) rfl ?_
            | refine Chain.cons _ (GQ.q rfl (Q.ld_ep (k := 3) ag3 rfl rfl (by first | exact map_at0 hw | exact map_at0 ht2 | exact map_at (by assumption)) rfl)) rfl ?_
          first
            | refine Chain.cons _ (GQ.q rfl (Q.gtr rfl rfl)) rfl ?_
            | refine Chain.cons _ (GQ.q rfl (Q.gtr_str rfl rfl)) rfl ?_
          refine Chain.nil ?_
          refine XOps.nil ?_
          refine W.cond rfl (fun hc81 => ?_) (fun hc81 => ?_)
          · try simp only [Bool.or_eq_true, Bool.or_eq_false_iff, Bool.and_eq_true, Bool.and_eq_false_iff, decide_eq_true_eq, decide_eq_false_iff_not, Bool.not_eq_true', Bool.not_eq_false', Int.not_lt, Int.not_le, List.length_map] at hc81
            exact absurd hc81 (by omega)
          · try simp only [Bool.or_eq_true, Bool.or_eq_false_iff, Bool.and_eq_true, Bool.and_eq_false_iff, decide_eq_true_eq, decide_eq_false_iff_not, Bool.not_eq_true', Bool.not_eq_false', Int.not_lt, Int.not_le, List.length_map] at hc81
            refine W.skip ?_
            refine W.region ?_
            first
              | refine XOps.s rfl rfl rfl (Q.add rfl rfl (wi64 (by omega) (by omega))) ?_
              | refine XOps.s rfl rfl rfl (Q.add rfl rfl rfl) ?_
              | refine XOps.s rfl rfl rfl (Q.adds rfl rfl (by omega)) ?_
            first
              | refine XOps.s rfl rfl rfl (Q.move_d rfl) ?_
              | refine XOps.s rfl rfl rfl (Q.move_vs rfl) ?_
              | refine XOps.s rfl rfl rfl (Q.move_ptr rfl) ?_
              | refine XOps.s rfl rfl rfl (Q.move_nilsl rfl) ?_
              | refine XOps.s rfl rfl rfl (Q.move_fn rfl) ?_
              | refine XOps.s rfl rfl rfl (Q.move_tup rfl) ?_
              | refine XOps.s rfl rfl rfl (Q.move_ep rfl) ?_
              | refine XOps.s rfl rfl rfl (Q.move_dp rfl) ?_
              | refine XOps.s rfl rfl rfl (Q.move_dcut rfl) ?_
              | refine XOps.s rfl rfl rfl (Q.move rfl) ?_
            refine XOps.nil ?_
            refine ⟨k + 1, ?_, ?_, ?_, ?_⟩
            · omega
            · omega
            · exact ⟨by first | rfl | exact len_eq (by simp) | exact int_eq (by simp; done) | exact int_eq (by omega), by first | rfl | exact len_eq (by simp) | exact int_eq (by simp; done) | exact int_eq (by omega), by first | rfl | exact len_eq (by simp) | exact int_eq (by simp; done) | exact int_eq (by omega), by first | rfl | exact len_eq (by simp) | exact int_eq (by simp; done) | exact int_eq (by omega), trivial⟩
            · repeat (first | exact HLe.refl _ | refine HLe.cons' (by first | rfl | (simp; done)) ?_ | refine HLe.skip _ ?_)
        · try simp only [Bool.or_eq_true, Bool.or_eq_false_iff, Bool.and_eq_true, Bool.and_eq_false_iff, decide_eq_true_eq, decide_eq_false_iff_not, Bool.not_eq_true', Bool.not_eq_false', Int.not_lt, Int.not_le, List.length_map] at hc71
          refine W.exit ?_
          refine W.reg ?_
          first
            | refine XOps.s rfl rfl rfl (Q.assign_d rfl) ?_
            | refine XOps.s rfl rfl rfl (Q.assign_vs rfl) ?_
            | refine XOps.s rfl rfl rfl (Q.assign_ptr rfl) ?_
            | refine XOps.s rfl rfl rfl (Q.assign_nilsl rfl) ?_
            | refine XOps.s rfl rfl rfl (Q.assign_fn rfl) ?_
            | refine XOps.s rfl rfl rfl (Q.assign_tup rfl) ?_
            | refine XOps.s rfl rfl rfl (Q.assign_ep rfl) ?_
            | refine XOps.s rfl rfl rfl (Q.assign_dp rfl) ?_
            | refine XOps.s rfl rfl rfl (Q.assign_dcut rfl) ?_
            | refine XOps.s rfl rfl rfl (Q.assign rfl) ?_
          refine XOps.nil ?_
          refine W.ret ?_
          refine ⟨_, hs, rfl, by repeat (first | exact HLe.refl _ | refine HLe.cons' (by first | rfl | (simp; done)) ?_ | refine HLe.skip _ ?_), ?_⟩
          first | rfl | (simp [ht]; done) | (simp [ht]; rfl)
end Go.Proofs.YtiibdlifdneagaaA
