/- approach.Order, approach.Late, the law ApproachPromised. -/
import Derived.Test.YtiibdlifdneagaaBase
import Derived.Test.YtiibdlifdneagaaWalkE
set_option linter.unusedVariables false
set_option linter.unusedSimpArgs false
set_option linter.unnecessarySimpa false
namespace Go.Proofs.YtiibdlifdneagaaA.FWalkF
open Go
theorem ag24 : tAgg P 24 = some ((true, 16)) := by kernel_rfl
theorem ag3 : tAgg P 3 = some ((false, 1)) := by kernel_rfl
theorem ag32 : tAgg P 32 = some ((true, 4)) := by kernel_rfl
theorem ap22 : tApp P 22 = some ((4, 40)) := by kernel_rfl
theorem ap25 : tApp P 25 = some ((1, 8)) := by kernel_rfl
theorem fl32_2 : tFld P 32 2 = some (2) := by kernel_rfl
theorem fl32_3 : tFld P 32 3 = some (3) := by kernel_rfl
theorem go10 : callGo Go.Proofs.Try.f10 = true := by kernel_rfl
theorem go16 : callGo Go.Proofs.Try.f16 = true := by kernel_rfl
theorem go17 : callGo Go.Proofs.Try.f17 = true := by kernel_rfl
theorem go18 : callGo Go.Proofs.Try.f18 = true := by kernel_rfl
theorem go19 : callGo Go.Proofs.Try.f19 = true := by kernel_rfl
theorem go23 : callGo Go.Proofs.Try.f23 = true := by kernel_rfl
theorem go24 : callGo Go.Proofs.Try.f24 = true := by kernel_rfl
theorem go25 : callGo Go.Proofs.Try.f25 = true := by kernel_rfl
theorem go9 : callGo Go.Proofs.Try.f9 = true := by kernel_rfl
theorem isl22 : isSl P 22 = true := by kernel_rfl
theorem isl25 : isSl P 25 = true := by kernel_rfl
theorem sl22 : tSl P 22 = some (4) := by kernel_rfl
theorem sl25 : tSl P 25 = some (1) := by kernel_rfl
theorem zr22 : tZrow P 22 = some ([.string ⟨#[]⟩, .int .i64 0, .int .i64 0, .int .i64 0]) := by kernel_rfl
theorem zr25 : tZrow P 25 = some ([.int .i64 0]) := by kernel_rfl
theorem zrd22 : cellsD [.string ⟨#[]⟩, .int .i64 0, .int .i64 0, .int .i64 0] = some ([.str ⟨#[]⟩, .int .i64 0, .int .i64 0, .int .i64 0]) := rfl
theorem zrd25 : cellsD [.int .i64 0] = some ([.int .i64 0]) := rfl
end Go.Proofs.YtiibdlifdneagaaA.FWalkF
namespace Go.Proofs.YtiibdlifdneagaaA
open Go FWalkF
theorem vs_eq {id n m sz : Nat} (h : n = m) : AV.vs id 0 n sz = .vs id 0 m sz := by rw [h]

set_option maxHeartbeats 1000000 in
set_option maxRecDepth 100000 in
theorem order_c (l : List Item) (gv : Nat → Int) (hs : Hp) : AC P 16 [.d (slI l), .d (.agg (gD gv))] hs (fun r h => r = .tup [.d (.sl 1 ((ordS l gv).1.map nE)), .d (.int .i64 (ordS l gv).2)] ∧ h = hs) := by
  refine AC.of 26 Try.func16 rfl rfl rfl ?_
  refine W.reg ?_
  first
    | (refine XOps.loud rfl (L.boxn rfl rfl) ?_; rintro _ _ ⟨b3, rfl, rfl⟩)
    | (refine XOps.loud rfl (L.box rfl rfl rfl) ?_; rintro _ _ ⟨b3, rfl, rfl⟩)
  refine XOps.s rfl rfl rfl (Q.assign_nil 1 rfl) ?_
  first
    | refine XOps.s rfl rfl rfl (Q.assign_d rfl) ?_
    | refine XOps.s rfl rfl rfl (Q.assign_vs rfl) ?_
    | refine XOps.s rfl rfl rfl (Q.assign_ptr rfl) ?_
    | refine XOps.s rfl rfl rfl (Q.assign_nilsl rfl) ?_
    | refine XOps.s rfl rfl rfl (Q.assign_fn rfl) ?_
    | refine XOps.s rfl rfl rfl (Q.assign_tup rfl) ?_
    | refine XOps.s rfl rfl rfl (Q.assign_ep rfl) ?_
    | refine XOps.s rfl rfl rfl (Q.assign_dp rfl) ?_
    | refine XOps.s rfl rfl rfl (Q.assign_dcut rfl) ?_
    | refine XOps.s rfl rfl rfl (Q.assign rfl) ?_
  refine XOps.nil ?_
  refine W.seq ?_
  refine W.reg ?_
  first
    | refine XOps.s rfl rfl rfl (Q.move_d rfl) ?_
    | refine XOps.s rfl rfl rfl (Q.move_vs rfl) ?_
    | refine XOps.s rfl rfl rfl (Q.move_ptr rfl) ?_
    | refine XOps.s rfl rfl rfl (Q.move_nilsl rfl) ?_
    | refine XOps.s rfl rfl rfl (Q.move_fn rfl) ?_
    | refine XOps.s rfl rfl rfl (Q.move_tup rfl) ?_
    | refine XOps.s rfl rfl rfl (Q.move_ep rfl) ?_
    | refine XOps.s rfl rfl rfl (Q.move_dp rfl) ?_
    | refine XOps.s rfl rfl rfl (Q.move_dcut rfl) ?_
    | refine XOps.s rfl rfl rfl (Q.move rfl) ?_
  first
    | refine XOps.s rfl rfl rfl (Q.ld_dpn ag24 rfl rfl) ?_
    | refine XOps.s rfl rfl rfl (Q.ld_ptrn (k := 0) ag24 rfl rfl rfl) ?_
    | refine XOps.s rfl rfl rfl (Q.ld_ptrn (k := 1) ag24 rfl rfl rfl) ?_
    | refine XOps.s rfl rfl rfl (Q.ld_ptrn (k := 2) ag24 rfl rfl rfl) ?_
    | refine XOps.s rfl rfl rfl (Q.ld_ptrn (k := 3) ag24 rfl rfl rfl) ?_
    | refine XOps.s rfl rfl rfl (Q.ld_epn (k := 0) ag24 rfl rfl (by first | exact map_at (by assumption) | exact map_at0 (by assumption) | assumption) rfl) ?_
    | refine XOps.s rfl rfl rfl (Q.ld_epn (k := 1) ag24 rfl rfl (by first | exact map_at (by assumption) | exact map_at0 (by assumption) | assumption) rfl) ?_
    | refine XOps.s rfl rfl rfl (Q.ld_epn (k := 2) ag24 rfl rfl (by first | exact map_at (by assumption) | exact map_at0 (by assumption) | assumption) rfl) ?_
    | refine XOps.s rfl rfl rfl (Q.ld_epn (k := 3) ag24 rfl rfl (by first | exact map_at (by assumption) | exact map_at0 (by assumption) | assumption) rfl) ?_
  refine XOps.s rfl rfl rfl (Q.call rfl Try.func10 go10 rfl (check_c l gv _)) ?_
  first
    | refine XOps.s rfl rfl rfl (Q.assign_d rfl) ?_
    | refine XOps.s rfl rfl rfl (Q.assign_vs rfl) ?_
    | refine XOps.s rfl rfl rfl (Q.assign_ptr rfl) ?_
    | refine XOps.s rfl rfl rfl (Q.assign_nilsl rfl) ?_
    | refine XOps.s rfl rfl rfl (Q.assign_fn rfl) ?_
    | refine XOps.s rfl rfl rfl (Q.assign_tup rfl) ?_
    | refine XOps.s rfl rfl rfl (Q.assign_ep rfl) ?_
    | refine XOps.s rfl rfl rfl (Q.assign_dp rfl) ?_
    | refine XOps.s rfl rfl rfl (Q.assign_dcut rfl) ?_
    | refine XOps.s rfl rfl rfl (Q.assign rfl) ?_
  refine XOps.nil ?_
  refine W.reg ?_
  first
    | refine XOps.s rfl rfl rfl (Q.move_d rfl) ?_
    | refine XOps.s rfl rfl rfl (Q.move_vs rfl) ?_
    | refine XOps.s rfl rfl rfl (Q.move_ptr rfl) ?_
    | refine XOps.s rfl rfl rfl (Q.move_nilsl rfl) ?_
    | refine XOps.s rfl rfl rfl (Q.move_fn rfl) ?_
    | refine XOps.s rfl rfl rfl (Q.move_tup rfl) ?_
    | refine XOps.s rfl rfl rfl (Q.move_ep rfl) ?_
    | refine XOps.s rfl rfl rfl (Q.move_dp rfl) ?_
    | refine XOps.s rfl rfl rfl (Q.move_dcut rfl) ?_
    | refine XOps.s rfl rfl rfl (Q.move rfl) ?_
  first
    | refine XOps.s rfl rfl rfl (Q.neq rfl rfl) ?_
    | refine XOps.s rfl rfl rfl (Q.neq_str rfl rfl) ?_
  refine XOps.nil ?_
  refine W.cond rfl (fun hc12 => ?_) (fun hc12 => ?_)
  · try simp only [Bool.or_eq_true, Bool.or_eq_false_iff, Bool.and_eq_true, Bool.and_eq_false_iff, decide_eq_true_eq, decide_eq_false_iff_not, Bool.not_eq_true', Bool.not_eq_false', Int.not_lt, Int.not_le, List.length_map] at hc12
    have hres : ordS l gv = ([], checkA l gv) := by unfold ordS; rw [if_pos hc12]
    refine W.reg ?_
    first
      | refine XOps.s rfl rfl rfl (Q.move_d rfl) ?_
      | refine XOps.s rfl rfl rfl (Q.move_vs rfl) ?_
      | refine XOps.s rfl rfl rfl (Q.move_ptr rfl) ?_
      | refine XOps.s rfl rfl rfl (Q.move_nilsl rfl) ?_
      | refine XOps.s rfl rfl rfl (Q.move_fn rfl) ?_
      | refine XOps.s rfl rfl rfl (Q.move_tup rfl) ?_
      | refine XOps.s rfl rfl rfl (Q.move_ep rfl) ?_
      | refine XOps.s rfl rfl rfl (Q.move_dp rfl) ?_
      | refine XOps.s rfl rfl rfl (Q.move_dcut rfl) ?_
      | refine XOps.s rfl rfl rfl (Q.move rfl) ?_
    refine XOps.s rfl rfl rfl (Q.assign_nil 1 rfl) ?_
    first
      | refine XOps.s rfl rfl rfl (Q.assign_d rfl) ?_
      | refine XOps.s rfl rfl rfl (Q.assign_vs rfl) ?_
      | refine XOps.s rfl rfl rfl (Q.assign_ptr rfl) ?_
      | refine XOps.s rfl rfl rfl (Q.assign_nilsl rfl) ?_
      | refine XOps.s rfl rfl rfl (Q.assign_fn rfl) ?_
      | refine XOps.s rfl rfl rfl (Q.assign_tup rfl) ?_
      | refine XOps.s rfl rfl rfl (Q.assign_ep rfl) ?_
      | refine XOps.s rfl rfl rfl (Q.assign_dp rfl) ?_
      | refine XOps.s rfl rfl rfl (Q.assign_dcut rfl) ?_
      | refine XOps.s rfl rfl rfl (Q.assign rfl) ?_
    refine XOps.nil ?_
    refine W.ret ?_
    refine ⟨_, hs, rfl, by repeat (first | exact HLe.refl _ | refine HLe.cons' (by first | rfl | (simp; done)) ?_ | refine HLe.skip _ ?_), ?_, rfl⟩
    rw [hres]; rfl
  · try simp only [Bool.or_eq_true, Bool.or_eq_false_iff, Bool.and_eq_true, Bool.and_eq_false_iff, decide_eq_true_eq, decide_eq_false_iff_not, Bool.not_eq_true', Bool.not_eq_false', Int.not_lt, Int.not_le, List.length_map] at hc12
    have h0 : checkA l gv = 0 := by omega
    obtain ⟨hg, hl, hn⟩ := checkA_zero h0
    refine W.skip ?_
    refine W.seq ?_
    refine W.reg ?_
    first
      | refine XOps.s rfl rfl rfl (Q.move_d rfl) ?_
      | refine XOps.s rfl rfl rfl (Q.move_vs rfl) ?_
      | refine XOps.s rfl rfl rfl (Q.move_ptr rfl) ?_
      | refine XOps.s rfl rfl rfl (Q.move_nilsl rfl) ?_
      | refine XOps.s rfl rfl rfl (Q.move_fn rfl) ?_
      | refine XOps.s rfl rfl rfl (Q.move_tup rfl) ?_
      | refine XOps.s rfl rfl rfl (Q.move_ep rfl) ?_
      | refine XOps.s rfl rfl rfl (Q.move_dp rfl) ?_
      | refine XOps.s rfl rfl rfl (Q.move_dcut rfl) ?_
      | refine XOps.s rfl rfl rfl (Q.move rfl) ?_
    first
      | refine XOps.s rfl rfl rfl (Q.len_sl isl22 rfl) ?_
      | refine XOps.s rfl rfl rfl (Q.len_vs isl22 rfl) ?_
      | refine XOps.s rfl rfl rfl (Q.len_nil isl22 rfl) ?_
      | refine XOps.s rfl rfl rfl (Q.len_dcut isl22 rfl) ?_
    first
      | refine XOps.s rfl rfl rfl (Q.gtr rfl rfl) ?_
      | refine XOps.s rfl rfl rfl (Q.gtr_str rfl rfl) ?_
    refine XOps.nil ?_
    refine W.cond rfl (fun hc16 => ?_) (fun hc16 => ?_)
    · try simp only [Bool.or_eq_true, Bool.or_eq_false_iff, Bool.and_eq_true, Bool.and_eq_false_iff, decide_eq_true_eq, decide_eq_false_iff_not, Bool.not_eq_true', Bool.not_eq_false', Int.not_lt, Int.not_le, List.length_map] at hc16
      have hres : ordS l gv = ([], 2) := by unfold ordS; rw [if_neg (by omega), if_pos (by omega)]
      refine W.reg ?_
      refine XOps.s rfl rfl rfl (Q.assign_nil 1 rfl) ?_
      first
        | refine XOps.s rfl rfl rfl (Q.assign_d rfl) ?_
        | refine XOps.s rfl rfl rfl (Q.assign_vs rfl) ?_
        | refine XOps.s rfl rfl rfl (Q.assign_ptr rfl) ?_
        | refine XOps.s rfl rfl rfl (Q.assign_nilsl rfl) ?_
        | refine XOps.s rfl rfl rfl (Q.assign_fn rfl) ?_
        | refine XOps.s rfl rfl rfl (Q.assign_tup rfl) ?_
        | refine XOps.s rfl rfl rfl (Q.assign_ep rfl) ?_
        | refine XOps.s rfl rfl rfl (Q.assign_dp rfl) ?_
        | refine XOps.s rfl rfl rfl (Q.assign_dcut rfl) ?_
        | refine XOps.s rfl rfl rfl (Q.assign rfl) ?_
      refine XOps.nil ?_
      refine W.ret ?_
      refine ⟨_, hs, rfl, by repeat (first | exact HLe.refl _ | refine HLe.cons' (by first | rfl | (simp; done)) ?_ | refine HLe.skip _ ?_), ?_, rfl⟩
      rw [hres]; rfl
    · try simp only [Bool.or_eq_true, Bool.or_eq_false_iff, Bool.and_eq_true, Bool.and_eq_false_iff, decide_eq_true_eq, decide_eq_false_iff_not, Bool.not_eq_true', Bool.not_eq_false', Int.not_lt, Int.not_le, List.length_map] at hc16
      refine W.skip ?_
      refine W.seq ?_
      refine W.reg ?_
      first
        | refine XOps.s rfl rfl rfl (Q.move_d rfl) ?_
        | refine XOps.s rfl rfl rfl (Q.move_vs rfl) ?_
        | refine XOps.s rfl rfl rfl (Q.move_ptr rfl) ?_
        | refine XOps.s rfl rfl rfl (Q.move_nilsl rfl) ?_
        | refine XOps.s rfl rfl rfl (Q.move_fn rfl) ?_
        | refine XOps.s rfl rfl rfl (Q.move_tup rfl) ?_
        | refine XOps.s rfl rfl rfl (Q.move_ep rfl) ?_
        | refine XOps.s rfl rfl rfl (Q.move_dp rfl) ?_
        | refine XOps.s rfl rfl rfl (Q.move_dcut rfl) ?_
        | refine XOps.s rfl rfl rfl (Q.move rfl) ?_
      first
        | refine XOps.s rfl rfl rfl (Q.len_sl isl22 rfl) ?_
        | refine XOps.s rfl rfl rfl (Q.len_vs isl22 rfl) ?_
        | refine XOps.s rfl rfl rfl (Q.len_nil isl22 rfl) ?_
        | refine XOps.s rfl rfl rfl (Q.len_dcut isl22 rfl) ?_
      first
        | refine XOps.s rfl rfl rfl (Q.eql rfl rfl) ?_
        | refine XOps.s rfl rfl rfl (Q.eql_str rfl rfl) ?_
      refine XOps.nil ?_
      refine W.cond rfl (fun hc19 => ?_) (fun hc19 => ?_)
      · try simp only [Bool.or_eq_true, Bool.or_eq_false_iff, Bool.and_eq_true, Bool.and_eq_false_iff, decide_eq_true_eq, decide_eq_false_iff_not, Bool.not_eq_true', Bool.not_eq_false', Int.not_lt, Int.not_le, List.length_map] at hc19
        have hres : ordS l gv = ([], 0) := by unfold ordS; rw [if_neg (by omega), if_neg (by omega), if_pos (by omega)]
        refine W.reg ?_
        refine XOps.s rfl rfl rfl (Q.assign_nil 1 rfl) ?_
        first
          | refine XOps.s rfl rfl rfl (Q.assign_d rfl) ?_
          | refine XOps.s rfl rfl rfl (Q.assign_vs rfl) ?_
          | refine XOps.s rfl rfl rfl (Q.assign_ptr rfl) ?_
          | refine XOps.s rfl rfl rfl (Q.assign_nilsl rfl) ?_
          | refine XOps.s rfl rfl rfl (Q.assign_fn rfl) ?_
          | refine XOps.s rfl rfl rfl (Q.assign_tup rfl) ?_
          | refine XOps.s rfl rfl rfl (Q.assign_ep rfl) ?_
          | refine XOps.s rfl rfl rfl (Q.assign_dp rfl) ?_
          | refine XOps.s rfl rfl rfl (Q.assign_dcut rfl) ?_
          | refine XOps.s rfl rfl rfl (Q.assign rfl) ?_
        refine XOps.nil ?_
        refine W.ret ?_
        refine ⟨_, hs, rfl, by repeat (first | exact HLe.refl _ | refine HLe.cons' (by first | rfl | (simp; done)) ?_ | refine HLe.skip _ ?_), ?_, rfl⟩
        rw [hres]; rfl
      · try simp only [Bool.or_eq_true, Bool.or_eq_false_iff, Bool.and_eq_true, Bool.and_eq_false_iff, decide_eq_true_eq, decide_eq_false_iff_not, Bool.not_eq_true', Bool.not_eq_false', Int.not_lt, Int.not_le, List.length_map] at hc19
        have hne : ∀ r, ((srch l gv l.length [] []).map (fun r => r.map nE)) = some r → r ≠ [] := fun r hr he => by
          subst he
          obtain ⟨r, h1, h2⟩ := Option.map_eq_some_iff.1 hr
          have := (srch_good h1).2.1
          simp at h2
          subst h2
          simp at this
          omega
        refine W.skip ?_
        refine W.reg ?_
        first
          | refine XOps.s rfl rfl rfl (Q.move_d rfl) ?_
          | refine XOps.s rfl rfl rfl (Q.move_vs rfl) ?_
          | refine XOps.s rfl rfl rfl (Q.move_ptr rfl) ?_
          | refine XOps.s rfl rfl rfl (Q.move_nilsl rfl) ?_
          | refine XOps.s rfl rfl rfl (Q.move_fn rfl) ?_
          | refine XOps.s rfl rfl rfl (Q.move_tup rfl) ?_
          | refine XOps.s rfl rfl rfl (Q.move_ep rfl) ?_
          | refine XOps.s rfl rfl rfl (Q.move_dp rfl) ?_
          | refine XOps.s rfl rfl rfl (Q.move_dcut rfl) ?_
          | refine XOps.s rfl rfl rfl (Q.move rfl) ?_
        first
          | refine XOps.s rfl rfl rfl (Q.ld_dpn ag24 rfl rfl) ?_
          | refine XOps.s rfl rfl rfl (Q.ld_ptrn (k := 0) ag24 rfl rfl rfl) ?_
          | refine XOps.s rfl rfl rfl (Q.ld_ptrn (k := 1) ag24 rfl rfl rfl) ?_
          | refine XOps.s rfl rfl rfl (Q.ld_ptrn (k := 2) ag24 rfl rfl rfl) ?_
          | refine XOps.s rfl rfl rfl (Q.ld_ptrn (k := 3) ag24 rfl rfl rfl) ?_
          | refine XOps.s rfl rfl rfl (Q.ld_epn (k := 0) ag24 rfl rfl (by first | exact map_at (by assumption) | exact map_at0 (by assumption) | assumption) rfl) ?_
          | refine XOps.s rfl rfl rfl (Q.ld_epn (k := 1) ag24 rfl rfl (by first | exact map_at (by assumption) | exact map_at0 (by assumption) | assumption) rfl) ?_
          | refine XOps.s rfl rfl rfl (Q.ld_epn (k := 2) ag24 rfl rfl (by first | exact map_at (by assumption) | exact map_at0 (by assumption) | assumption) rfl) ?_
          | refine XOps.s rfl rfl rfl (Q.ld_epn (k := 3) ag24 rfl rfl (by first | exact map_at (by assumption) | exact map_at0 (by assumption) | assumption) rfl) ?_
        refine XOps.s rfl rfl rfl (Q.call rfl Try.func24 go24 rfl (AC.args (search_c l gv hg hl hn l.length [] [] _ (by simp) (by simp) rfl (by simp)) (.same (.same (.nilsl 1 (.nilsl 1 .nil)))))) ?_
        first
          | refine XOps.s rfl rfl rfl (Q.assign_d rfl) ?_
          | refine XOps.s rfl rfl rfl (Q.assign_vs rfl) ?_
          | refine XOps.s rfl rfl rfl (Q.assign_ptr rfl) ?_
          | refine XOps.s rfl rfl rfl (Q.assign_nilsl rfl) ?_
          | refine XOps.s rfl rfl rfl (Q.assign_fn rfl) ?_
          | refine XOps.s rfl rfl rfl (Q.assign_tup rfl) ?_
          | refine XOps.s rfl rfl rfl (Q.assign_ep rfl) ?_
          | refine XOps.s rfl rfl rfl (Q.assign_dp rfl) ?_
          | refine XOps.s rfl rfl rfl (Q.assign_dcut rfl) ?_
          | refine XOps.s rfl rfl rfl (Q.assign rfl) ?_
        refine XOps.nil ?_
        refine W.seq ?_
        refine W.reg ?_
        first
          | refine XOps.s rfl rfl rfl (Q.move_d rfl) ?_
          | refine XOps.s rfl rfl rfl (Q.move_vs rfl) ?_
          | refine XOps.s rfl rfl rfl (Q.move_ptr rfl) ?_
          | refine XOps.s rfl rfl rfl (Q.move_nilsl rfl) ?_
          | refine XOps.s rfl rfl rfl (Q.move_fn rfl) ?_
          | refine XOps.s rfl rfl rfl (Q.move_tup rfl) ?_
          | refine XOps.s rfl rfl rfl (Q.move_ep rfl) ?_
          | refine XOps.s rfl rfl rfl (Q.move_dp rfl) ?_
          | refine XOps.s rfl rfl rfl (Q.move_dcut rfl) ?_
          | refine XOps.s rfl rfl rfl (Q.move rfl) ?_
        refine XOps.s rfl rfl rfl (Q.eqnil_opt sl25 (by decide) rfl rfl hne) ?_
        refine XOps.nil ?_
        refine W.cond rfl (fun hc24 => ?_) (fun hc24 => ?_)
        · try simp only [Bool.or_eq_true, Bool.or_eq_false_iff, Bool.and_eq_true, Bool.and_eq_false_iff, decide_eq_true_eq, decide_eq_false_iff_not, Bool.not_eq_true', Bool.not_eq_false', Int.not_lt, Int.not_le, List.length_map] at hc24
          have hno : srch l gv l.length [] [] = none := by simpa using hc24
          have hres : ordS l gv = ([], 8) := by unfold ordS; rw [if_neg (by omega), if_neg (by omega), if_neg (by omega), hno]
          refine W.reg ?_
          refine XOps.s rfl rfl rfl (Q.assign_nil 1 rfl) ?_
          first
            | refine XOps.s rfl rfl rfl (Q.assign_d rfl) ?_
            | refine XOps.s rfl rfl rfl (Q.assign_vs rfl) ?_
            | refine XOps.s rfl rfl rfl (Q.assign_ptr rfl) ?_
            | refine XOps.s rfl rfl rfl (Q.assign_nilsl rfl) ?_
            | refine XOps.s rfl rfl rfl (Q.assign_fn rfl) ?_
            | refine XOps.s rfl rfl rfl (Q.assign_tup rfl) ?_
            | refine XOps.s rfl rfl rfl (Q.assign_ep rfl) ?_
            | refine XOps.s rfl rfl rfl (Q.assign_dp rfl) ?_
            | refine XOps.s rfl rfl rfl (Q.assign_dcut rfl) ?_
            | refine XOps.s rfl rfl rfl (Q.assign rfl) ?_
          refine XOps.nil ?_
          refine W.ret ?_
          refine ⟨_, hs, rfl, by repeat (first | exact HLe.refl _ | refine HLe.cons' (by first | rfl | (simp; done)) ?_ | refine HLe.skip _ ?_), ?_, rfl⟩
          rw [hres]; rfl
        · try simp only [Bool.or_eq_true, Bool.or_eq_false_iff, Bool.and_eq_true, Bool.and_eq_false_iff, decide_eq_true_eq, decide_eq_false_iff_not, Bool.not_eq_true', Bool.not_eq_false', Int.not_lt, Int.not_le, List.length_map] at hc24
          obtain ⟨o, hso⟩ : ∃ o, srch l gv l.length [] [] = some o := by
            cases hx : srch l gv l.length [] [] with
            | none => rw [hx] at hc24; cases hc24
            | some o => exact ⟨o, rfl⟩
          have hres : ordS l gv = (o, 0) := by unfold ordS; rw [if_neg (by omega), if_neg (by omega), if_neg (by omega), hso]
          rw [hso]
          refine W.skip ?_
          refine W.reg ?_
          first
            | refine XOps.s rfl rfl rfl (Q.move_d rfl) ?_
            | refine XOps.s rfl rfl rfl (Q.move_vs rfl) ?_
            | refine XOps.s rfl rfl rfl (Q.move_ptr rfl) ?_
            | refine XOps.s rfl rfl rfl (Q.move_nilsl rfl) ?_
            | refine XOps.s rfl rfl rfl (Q.move_fn rfl) ?_
            | refine XOps.s rfl rfl rfl (Q.move_tup rfl) ?_
            | refine XOps.s rfl rfl rfl (Q.move_ep rfl) ?_
            | refine XOps.s rfl rfl rfl (Q.move_dp rfl) ?_
            | refine XOps.s rfl rfl rfl (Q.move_dcut rfl) ?_
            | refine XOps.s rfl rfl rfl (Q.move rfl) ?_
          first
            | refine XOps.s rfl rfl rfl (Q.assign_d rfl) ?_
            | refine XOps.s rfl rfl rfl (Q.assign_vs rfl) ?_
            | refine XOps.s rfl rfl rfl (Q.assign_ptr rfl) ?_
            | refine XOps.s rfl rfl rfl (Q.assign_nilsl rfl) ?_
            | refine XOps.s rfl rfl rfl (Q.assign_fn rfl) ?_
            | refine XOps.s rfl rfl rfl (Q.assign_tup rfl) ?_
            | refine XOps.s rfl rfl rfl (Q.assign_ep rfl) ?_
            | refine XOps.s rfl rfl rfl (Q.assign_dp rfl) ?_
            | refine XOps.s rfl rfl rfl (Q.assign_dcut rfl) ?_
            | refine XOps.s rfl rfl rfl (Q.assign rfl) ?_
          first
            | refine XOps.s rfl rfl rfl (Q.assign_d rfl) ?_
            | refine XOps.s rfl rfl rfl (Q.assign_vs rfl) ?_
            | refine XOps.s rfl rfl rfl (Q.assign_ptr rfl) ?_
            | refine XOps.s rfl rfl rfl (Q.assign_nilsl rfl) ?_
            | refine XOps.s rfl rfl rfl (Q.assign_fn rfl) ?_
            | refine XOps.s rfl rfl rfl (Q.assign_tup rfl) ?_
            | refine XOps.s rfl rfl rfl (Q.assign_ep rfl) ?_
            | refine XOps.s rfl rfl rfl (Q.assign_dp rfl) ?_
            | refine XOps.s rfl rfl rfl (Q.assign_dcut rfl) ?_
            | refine XOps.s rfl rfl rfl (Q.assign rfl) ?_
          refine XOps.nil ?_
          refine W.ret ?_
          refine ⟨_, hs, rfl, by repeat (first | exact HLe.refl _ | refine HLe.cons' (by first | rfl | (simp; done)) ?_ | refine HLe.skip _ ?_), ?_, rfl⟩
          rw [hres]; rfl

set_option maxHeartbeats 1000000 in
set_option maxRecDepth 100000 in
theorem late_c (l : List Item) (gv : Nat → Int) (hs : Hp) (h0 : checkA l gv = 0) : AC P 17 [.d (slI l), .d (.agg (gD gv))] hs (fun r h => r = .tup [.d (.sl 1 ((lateS l (timesS l gv) l.length).map nE)), .d (.int .i64 0)] ∧ h = hs) := by
  obtain ⟨hg, hl, hn⟩ := checkA_zero h0
  have htl := timesS_length l gv
  refine AC.of 38 Try.func17 rfl rfl rfl ?_
  refine W.reg ?_
  first
    | (refine XOps.loud rfl (L.boxn rfl rfl) ?_; rintro _ _ ⟨b3, rfl, rfl⟩)
    | (refine XOps.loud rfl (L.box rfl rfl rfl) ?_; rintro _ _ ⟨b3, rfl, rfl⟩)
  first
    | refine XOps.s rfl rfl rfl (Q.assign_d rfl) ?_
    | refine XOps.s rfl rfl rfl (Q.assign_vs rfl) ?_
    | refine XOps.s rfl rfl rfl (Q.assign_ptr rfl) ?_
    | refine XOps.s rfl rfl rfl (Q.assign_nilsl rfl) ?_
    | refine XOps.s rfl rfl rfl (Q.assign_fn rfl) ?_
    | refine XOps.s rfl rfl rfl (Q.assign_tup rfl) ?_
    | refine XOps.s rfl rfl rfl (Q.assign_ep rfl) ?_
    | refine XOps.s rfl rfl rfl (Q.assign_dp rfl) ?_
    | refine XOps.s rfl rfl rfl (Q.assign_dcut rfl) ?_
    | refine XOps.s rfl rfl rfl (Q.assign rfl) ?_
  first
    | refine XOps.s rfl rfl rfl (Q.assign_d rfl) ?_
    | refine XOps.s rfl rfl rfl (Q.assign_vs rfl) ?_
    | refine XOps.s rfl rfl rfl (Q.assign_ptr rfl) ?_
    | refine XOps.s rfl rfl rfl (Q.assign_nilsl rfl) ?_
    | refine XOps.s rfl rfl rfl (Q.assign_fn rfl) ?_
    | refine XOps.s rfl rfl rfl (Q.assign_tup rfl) ?_
    | refine XOps.s rfl rfl rfl (Q.assign_ep rfl) ?_
    | refine XOps.s rfl rfl rfl (Q.assign_dp rfl) ?_
    | refine XOps.s rfl rfl rfl (Q.assign_dcut rfl) ?_
    | refine XOps.s rfl rfl rfl (Q.assign rfl) ?_
  refine XOps.nil ?_
  refine W.seq ?_
  refine W.reg ?_
  first
    | refine XOps.s rfl rfl rfl (Q.move_d rfl) ?_
    | refine XOps.s rfl rfl rfl (Q.move_vs rfl) ?_
    | refine XOps.s rfl rfl rfl (Q.move_ptr rfl) ?_
    | refine XOps.s rfl rfl rfl (Q.move_nilsl rfl) ?_
    | refine XOps.s rfl rfl rfl (Q.move_fn rfl) ?_
    | refine XOps.s rfl rfl rfl (Q.move_tup rfl) ?_
    | refine XOps.s rfl rfl rfl (Q.move_ep rfl) ?_
    | refine XOps.s rfl rfl rfl (Q.move_dp rfl) ?_
    | refine XOps.s rfl rfl rfl (Q.move_dcut rfl) ?_
    | refine XOps.s rfl rfl rfl (Q.move rfl) ?_
  first
    | refine XOps.s rfl rfl rfl (Q.ld_dpn ag24 rfl rfl) ?_
    | refine XOps.s rfl rfl rfl (Q.ld_ptrn (k := 0) ag24 rfl rfl rfl) ?_
    | refine XOps.s rfl rfl rfl (Q.ld_ptrn (k := 1) ag24 rfl rfl rfl) ?_
    | refine XOps.s rfl rfl rfl (Q.ld_ptrn (k := 2) ag24 rfl rfl rfl) ?_
    | refine XOps.s rfl rfl rfl (Q.ld_ptrn (k := 3) ag24 rfl rfl rfl) ?_
    | refine XOps.s rfl rfl rfl (Q.ld_epn (k := 0) ag24 rfl rfl (by first | exact map_at (by assumption) | exact map_at0 (by assumption) | assumption) rfl) ?_
    | refine XOps.s rfl rfl rfl (Q.ld_epn (k := 1) ag24 rfl rfl (by first | exact map_at (by assumption) | exact map_at0 (by assumption) | assumption) rfl) ?_
    | refine XOps.s rfl rfl rfl (Q.ld_epn (k := 2) ag24 rfl rfl (by first | exact map_at (by assumption) | exact map_at0 (by assumption) | assumption) rfl) ?_
    | refine XOps.s rfl rfl rfl (Q.ld_epn (k := 3) ag24 rfl rfl (by first | exact map_at (by assumption) | exact map_at0 (by assumption) | assumption) rfl) ?_
  refine XOps.s rfl rfl rfl (Q.call rfl Try.func10 go10 rfl (check_c l gv _)) ?_
  first
    | refine XOps.s rfl rfl rfl (Q.assign_d rfl) ?_
    | refine XOps.s rfl rfl rfl (Q.assign_vs rfl) ?_
    | refine XOps.s rfl rfl rfl (Q.assign_ptr rfl) ?_
    | refine XOps.s rfl rfl rfl (Q.assign_nilsl rfl) ?_
    | refine XOps.s rfl rfl rfl (Q.assign_fn rfl) ?_
    | refine XOps.s rfl rfl rfl (Q.assign_tup rfl) ?_
    | refine XOps.s rfl rfl rfl (Q.assign_ep rfl) ?_
    | refine XOps.s rfl rfl rfl (Q.assign_dp rfl) ?_
    | refine XOps.s rfl rfl rfl (Q.assign_dcut rfl) ?_
    | refine XOps.s rfl rfl rfl (Q.assign rfl) ?_
  refine XOps.nil ?_
  refine W.reg ?_
  first
    | refine XOps.s rfl rfl rfl (Q.move_d rfl) ?_
    | refine XOps.s rfl rfl rfl (Q.move_vs rfl) ?_
    | refine XOps.s rfl rfl rfl (Q.move_ptr rfl) ?_
    | refine XOps.s rfl rfl rfl (Q.move_nilsl rfl) ?_
    | refine XOps.s rfl rfl rfl (Q.move_fn rfl) ?_
    | refine XOps.s rfl rfl rfl (Q.move_tup rfl) ?_
    | refine XOps.s rfl rfl rfl (Q.move_ep rfl) ?_
    | refine XOps.s rfl rfl rfl (Q.move_dp rfl) ?_
    | refine XOps.s rfl rfl rfl (Q.move_dcut rfl) ?_
    | refine XOps.s rfl rfl rfl (Q.move rfl) ?_
  first
    | refine XOps.s rfl rfl rfl (Q.neq rfl rfl) ?_
    | refine XOps.s rfl rfl rfl (Q.neq_str rfl rfl) ?_
  refine XOps.nil ?_
  refine W.cond rfl (fun hc14 => ?_) (fun hc14 => ?_)
  · try simp only [Bool.or_eq_true, Bool.or_eq_false_iff, Bool.and_eq_true, Bool.and_eq_false_iff, decide_eq_true_eq, decide_eq_false_iff_not, Bool.not_eq_true', Bool.not_eq_false', Int.not_lt, Int.not_le, List.length_map] at hc14
    exact absurd h0 hc14
  · try simp only [Bool.or_eq_true, Bool.or_eq_false_iff, Bool.and_eq_true, Bool.and_eq_false_iff, decide_eq_true_eq, decide_eq_false_iff_not, Bool.not_eq_true', Bool.not_eq_false', Int.not_lt, Int.not_le, List.length_map] at hc14
    refine W.skip ?_
    refine W.reg ?_
    first
      | refine XOps.s rfl rfl rfl (Q.assign_d rfl) ?_
      | refine XOps.s rfl rfl rfl (Q.assign_vs rfl) ?_
      | refine XOps.s rfl rfl rfl (Q.assign_ptr rfl) ?_
      | refine XOps.s rfl rfl rfl (Q.assign_nilsl rfl) ?_
      | refine XOps.s rfl rfl rfl (Q.assign_fn rfl) ?_
      | refine XOps.s rfl rfl rfl (Q.assign_tup rfl) ?_
      | refine XOps.s rfl rfl rfl (Q.assign_ep rfl) ?_
      | refine XOps.s rfl rfl rfl (Q.assign_dp rfl) ?_
      | refine XOps.s rfl rfl rfl (Q.assign_dcut rfl) ?_
      | refine XOps.s rfl rfl rfl (Q.assign rfl) ?_
    refine XOps.nil ?_
    refine W.seq ?_
    refine W.ghost 7 1 (by decide) rfl (by decide) (fun v7 => ?_)
    refine W.reg ?_
    first
      | refine XOps.s rfl rfl rfl (Q.move_d rfl) ?_
      | refine XOps.s rfl rfl rfl (Q.move_vs rfl) ?_
      | refine XOps.s rfl rfl rfl (Q.move_ptr rfl) ?_
      | refine XOps.s rfl rfl rfl (Q.move_nilsl rfl) ?_
      | refine XOps.s rfl rfl rfl (Q.move_fn rfl) ?_
      | refine XOps.s rfl rfl rfl (Q.move_tup rfl) ?_
      | refine XOps.s rfl rfl rfl (Q.move_ep rfl) ?_
      | refine XOps.s rfl rfl rfl (Q.move_dp rfl) ?_
      | refine XOps.s rfl rfl rfl (Q.move_dcut rfl) ?_
      | refine XOps.s rfl rfl rfl (Q.move rfl) ?_
    first
      | refine XOps.s rfl rfl rfl (Q.ld_dpn ag24 rfl rfl) ?_
      | refine XOps.s rfl rfl rfl (Q.ld_ptrn (k := 0) ag24 rfl rfl rfl) ?_
      | refine XOps.s rfl rfl rfl (Q.ld_ptrn (k := 1) ag24 rfl rfl rfl) ?_
      | refine XOps.s rfl rfl rfl (Q.ld_ptrn (k := 2) ag24 rfl rfl rfl) ?_
      | refine XOps.s rfl rfl rfl (Q.ld_ptrn (k := 3) ag24 rfl rfl rfl) ?_
      | refine XOps.s rfl rfl rfl (Q.ld_epn (k := 0) ag24 rfl rfl (by first | exact map_at (by assumption) | exact map_at0 (by assumption) | assumption) rfl) ?_
      | refine XOps.s rfl rfl rfl (Q.ld_epn (k := 1) ag24 rfl rfl (by first | exact map_at (by assumption) | exact map_at0 (by assumption) | assumption) rfl) ?_
      | refine XOps.s rfl rfl rfl (Q.ld_epn (k := 2) ag24 rfl rfl (by first | exact map_at (by assumption) | exact map_at0 (by assumption) | assumption) rfl) ?_
      | refine XOps.s rfl rfl rfl (Q.ld_epn (k := 3) ag24 rfl rfl (by first | exact map_at (by assumption) | exact map_at0 (by assumption) | assumption) rfl) ?_
    refine XOps.s rfl rfl rfl (Q.call rfl Try.func23 go23 rfl (times_c l gv _ hg hl hn)) ?_
    first
      | refine XOps.s rfl rfl rfl (Q.len_sl isl25 rfl) ?_
      | refine XOps.s rfl rfl rfl (Q.len_vs isl25 rfl) ?_
      | refine XOps.s rfl rfl rfl (Q.len_nil isl25 rfl) ?_
      | refine XOps.s rfl rfl rfl (Q.len_dcut isl25 rfl) ?_
    first
      | refine XOps.s rfl rfl rfl (Q.move_d rfl) ?_
      | refine XOps.s rfl rfl rfl (Q.move_vs rfl) ?_
      | refine XOps.s rfl rfl rfl (Q.move_ptr rfl) ?_
      | refine XOps.s rfl rfl rfl (Q.move_nilsl rfl) ?_
      | refine XOps.s rfl rfl rfl (Q.move_fn rfl) ?_
      | refine XOps.s rfl rfl rfl (Q.move_tup rfl) ?_
      | refine XOps.s rfl rfl rfl (Q.move_ep rfl) ?_
      | refine XOps.s rfl rfl rfl (Q.move_dp rfl) ?_
      | refine XOps.s rfl rfl rfl (Q.move_dcut rfl) ?_
      | refine XOps.s rfl rfl rfl (Q.move rfl) ?_
    refine XOps.nil ?_
    refine W.block ?_
    refine W.loop (ι := Nat × Nat) (fun p => [(0, .d (slI l)), (5, .d (.int .i64 0)), (7, .vs p.2 0 (lateS l (timesS l gv) p.1).length 1), (18, .d (slN (timesS l gv))), (19, .d (.int .i64 (timesS l gv).length)), (20, .d (.int .i64 p.1))]) (fun p => (p.2, .lst 1 ((lateS l (timesS l gv) p.1).map nE)) :: hs) (fun p => p.1 ≤ l.length) (fun p => l.length - p.1) (0, v7) ?_ ?_ ?_ ?_
    · exact Nat.zero_le _
    · exact ⟨by first | rfl | exact len_eq (by simp) | exact int_eq (by simp; done) | exact int_eq (by omega), by first | rfl | exact len_eq (by simp) | exact int_eq (by simp; done) | exact int_eq (by omega), by first | rfl | exact len_eq (by simp) | exact int_eq (by simp; done) | exact int_eq (by omega), by first | rfl | exact len_eq (by simp) | exact int_eq (by simp; done) | exact int_eq (by omega), by first | rfl | exact len_eq (by simp) | exact int_eq (by simp; done) | exact int_eq (by omega), by first | rfl | exact len_eq (by simp) | exact int_eq (by simp; done) | exact int_eq (by omega), trivial⟩
    · repeat (first | exact HLe.refl _ | refine HLe.cons' (by first | rfl | (simp [nE]; done)) ?_ | refine HLe.skip _ ?_)
    · rintro ⟨k, v⟩ hk
      try dsimp only at hk ⊢
      refine W.reg ?_
      first
        | refine XOps.s rfl rfl rfl (Q.lss rfl rfl) ?_
        | refine XOps.s rfl rfl rfl (Q.lss_str rfl rfl) ?_
      refine XOps.nil ?_
      refine W.seq ?_
      refine W.cond rfl (fun hc21 => ?_) (fun hc21 => ?_)
      · try simp only [Bool.or_eq_true, Bool.or_eq_false_iff, Bool.and_eq_true, Bool.and_eq_false_iff, decide_eq_true_eq, decide_eq_false_iff_not, Bool.not_eq_true', Bool.not_eq_false', Int.not_lt, Int.not_le, List.length_map] at hc21
        obtain ⟨x, hx⟩ : ∃ x, l[k]? = some x := ⟨_, List.getElem?_eq_getElem (by omega)⟩
        obtain ⟨t, ht⟩ : ∃ t, (timesS l gv)[k]? = some t := ⟨_, List.getElem?_eq_getElem (by omega)⟩
        have hlS := lateS_succ l (timesS l gv) k
        rw [show (l.getD k d0) = x from by simp [List.getD_eq_getElem?_getD, hx], show (timesS l gv).getD k 0 = t from by simp [List.getD_eq_getElem?_getD, ht]] at hlS
        have hlen : (lateS l (timesS l gv) k).length ≤ k := by have := List.length_filter_le (fun i => decide ((l.getD i d0).slot < (timesS l gv).getD i 0)) (List.range k); rw [List.length_range] at this; exact this
        refine W.skip ?_
        refine W.seq ?_
        refine W.block ?_
        refine W.reg ?_
        first
          | refine XOps.s rfl rfl rfl (Q.move_d rfl) ?_
          | refine XOps.s rfl rfl rfl (Q.move_vs rfl) ?_
          | refine XOps.s rfl rfl rfl (Q.move_ptr rfl) ?_
          | refine XOps.s rfl rfl rfl (Q.move_nilsl rfl) ?_
          | refine XOps.s rfl rfl rfl (Q.move_fn rfl) ?_
          | refine XOps.s rfl rfl rfl (Q.move_tup rfl) ?_
          | refine XOps.s rfl rfl rfl (Q.move_ep rfl) ?_
          | refine XOps.s rfl rfl rfl (Q.move_dp rfl) ?_
          | refine XOps.s rfl rfl rfl (Q.move_dcut rfl) ?_
          | refine XOps.s rfl rfl rfl (Q.move rfl) ?_
        first
          | refine XOps.s rfl rfl rfl (Q.idx_sl sl25 (by decide) rfl rfl (by omega) (by first | exact map_at (by assumption) | exact map_at0 (by assumption) | assumption)) ?_
          | refine XOps.s rfl rfl rfl (Q.idx_vs (kk := 0) sl25 rfl rfl rfl (by omega) (by omega)) ?_
          | refine XOps.s rfl rfl rfl (Q.idx_vs (kk := 1) sl25 rfl rfl rfl (by omega) (by omega)) ?_
          | refine XOps.s rfl rfl rfl (Q.idx_vs (kk := 2) sl25 rfl rfl rfl (by omega) (by omega)) ?_
          | refine XOps.s rfl rfl rfl (Q.idx_vs (kk := 3) sl25 rfl rfl rfl (by omega) (by omega)) ?_
        first
          | refine XOps.s rfl rfl rfl (Q.ld_dp ag3 rfl rfl) ?_
          | refine XOps.s rfl rfl rfl (Q.ld_ptr (k := 0) ag3 rfl rfl rfl) ?_
          | refine XOps.s rfl rfl rfl (Q.ld_ptr (k := 1) ag3 rfl rfl rfl) ?_
          | refine XOps.s rfl rfl rfl (Q.ld_ptr (k := 2) ag3 rfl rfl rfl) ?_
          | refine XOps.s rfl rfl rfl (Q.ld_ptr (k := 3) ag3 rfl rfl rfl) ?_
          | refine XOps.s rfl rfl rfl (Q.ld_ep (k := 0) ag3 rfl rfl (by first | exact map_at (by assumption) | exact map_at0 (by assumption) | assumption) rfl) ?_
          | refine XOps.s rfl rfl rfl (Q.ld_ep (k := 1) ag3 rfl rfl (by first | exact map_at (by assumption) | exact map_at0 (by assumption) | assumption) rfl) ?_
          | refine XOps.s rfl rfl rfl (Q.ld_ep (k := 2) ag3 rfl rfl (by first | exact map_at (by assumption) | exact map_at0 (by assumption) | assumption) rfl) ?_
          | refine XOps.s rfl rfl rfl (Q.ld_ep (k := 3) ag3 rfl rfl (by first | exact map_at (by assumption) | exact map_at0 (by assumption) | assumption) rfl) ?_
        first
          | refine XOps.s rfl rfl rfl (Q.assign_d rfl) ?_
          | refine XOps.s rfl rfl rfl (Q.assign_vs rfl) ?_
          | refine XOps.s rfl rfl rfl (Q.assign_ptr rfl) ?_
          | refine XOps.s rfl rfl rfl (Q.assign_nilsl rfl) ?_
          | refine XOps.s rfl rfl rfl (Q.assign_fn rfl) ?_
          | refine XOps.s rfl rfl rfl (Q.assign_tup rfl) ?_
          | refine XOps.s rfl rfl rfl (Q.assign_ep rfl) ?_
          | refine XOps.s rfl rfl rfl (Q.assign_dp rfl) ?_
          | refine XOps.s rfl rfl rfl (Q.assign_dcut rfl) ?_
          | refine XOps.s rfl rfl rfl (Q.assign rfl) ?_
        first
          | refine XOps.s rfl rfl rfl (Q.assign_d rfl) ?_
          | refine XOps.s rfl rfl rfl (Q.assign_vs rfl) ?_
          | refine XOps.s rfl rfl rfl (Q.assign_ptr rfl) ?_
          | refine XOps.s rfl rfl rfl (Q.assign_nilsl rfl) ?_
          | refine XOps.s rfl rfl rfl (Q.assign_fn rfl) ?_
          | refine XOps.s rfl rfl rfl (Q.assign_tup rfl) ?_
          | refine XOps.s rfl rfl rfl (Q.assign_ep rfl) ?_
          | refine XOps.s rfl rfl rfl (Q.assign_dp rfl) ?_
          | refine XOps.s rfl rfl rfl (Q.assign_dcut rfl) ?_
          | refine XOps.s rfl rfl rfl (Q.assign rfl) ?_
        refine XOps.nil ?_
        refine W.reg ?_
        first
          | refine XOps.s rfl rfl rfl (Q.move_d rfl) ?_
          | refine XOps.s rfl rfl rfl (Q.move_vs rfl) ?_
          | refine XOps.s rfl rfl rfl (Q.move_ptr rfl) ?_
          | refine XOps.s rfl rfl rfl (Q.move_nilsl rfl) ?_
          | refine XOps.s rfl rfl rfl (Q.move_fn rfl) ?_
          | refine XOps.s rfl rfl rfl (Q.move_tup rfl) ?_
          | refine XOps.s rfl rfl rfl (Q.move_ep rfl) ?_
          | refine XOps.s rfl rfl rfl (Q.move_dp rfl) ?_
          | refine XOps.s rfl rfl rfl (Q.move_dcut rfl) ?_
          | refine XOps.s rfl rfl rfl (Q.move rfl) ?_
        first
          | refine XOps.s rfl rfl rfl (Q.move_d rfl) ?_
          | refine XOps.s rfl rfl rfl (Q.move_vs rfl) ?_
          | refine XOps.s rfl rfl rfl (Q.move_ptr rfl) ?_
          | refine XOps.s rfl rfl rfl (Q.move_nilsl rfl) ?_
          | refine XOps.s rfl rfl rfl (Q.move_fn rfl) ?_
          | refine XOps.s rfl rfl rfl (Q.move_tup rfl) ?_
          | refine XOps.s rfl rfl rfl (Q.move_ep rfl) ?_
          | refine XOps.s rfl rfl rfl (Q.move_dp rfl) ?_
          | refine XOps.s rfl rfl rfl (Q.move_dcut rfl) ?_
          | refine XOps.s rfl rfl rfl (Q.move rfl) ?_
        first
          | refine XOps.s rfl rfl rfl (Q.move_d rfl) ?_
          | refine XOps.s rfl rfl rfl (Q.move_vs rfl) ?_
          | refine XOps.s rfl rfl rfl (Q.move_ptr rfl) ?_
          | refine XOps.s rfl rfl rfl (Q.move_nilsl rfl) ?_
          | refine XOps.s rfl rfl rfl (Q.move_fn rfl) ?_
          | refine XOps.s rfl rfl rfl (Q.move_tup rfl) ?_
          | refine XOps.s rfl rfl rfl (Q.move_ep rfl) ?_
          | refine XOps.s rfl rfl rfl (Q.move_dp rfl) ?_
          | refine XOps.s rfl rfl rfl (Q.move_dcut rfl) ?_
          | refine XOps.s rfl rfl rfl (Q.move rfl) ?_
        first
          | refine XOps.s rfl rfl rfl (Q.idx_sl sl22 (by decide) rfl rfl (by omega) (by first | exact map_at (by assumption) | exact map_at0 (by assumption) | assumption)) ?_
          | refine XOps.s rfl rfl rfl (Q.idx_vs (kk := 0) sl22 rfl rfl rfl (by omega) (by omega)) ?_
          | refine XOps.s rfl rfl rfl (Q.idx_vs (kk := 1) sl22 rfl rfl rfl (by omega) (by omega)) ?_
          | refine XOps.s rfl rfl rfl (Q.idx_vs (kk := 2) sl22 rfl rfl rfl (by omega) (by omega)) ?_
          | refine XOps.s rfl rfl rfl (Q.idx_vs (kk := 3) sl22 rfl rfl rfl (by omega) (by omega)) ?_
        first
          | refine XOps.s rfl rfl rfl (Q.fld_ptr fl32_3 rfl) ?_
          | refine XOps.s rfl rfl rfl (Q.fld_dp fl32_3 rfl) ?_
          | refine XOps.s rfl rfl rfl (Q.fld_ep fl32_3 rfl) ?_
        first
          | refine XOps.s rfl rfl rfl (Q.ld_dp ag3 rfl rfl) ?_
          | refine XOps.s rfl rfl rfl (Q.ld_ptr (k := 0) ag3 rfl rfl rfl) ?_
          | refine XOps.s rfl rfl rfl (Q.ld_ptr (k := 1) ag3 rfl rfl rfl) ?_
          | refine XOps.s rfl rfl rfl (Q.ld_ptr (k := 2) ag3 rfl rfl rfl) ?_
          | refine XOps.s rfl rfl rfl (Q.ld_ptr (k := 3) ag3 rfl rfl rfl) ?_
          | refine XOps.s rfl rfl rfl (Q.ld_ep (k := 0) ag3 rfl rfl (by first | exact map_at (by assumption) | exact map_at0 (by assumption) | assumption) rfl) ?_
          | refine XOps.s rfl rfl rfl (Q.ld_ep (k := 1) ag3 rfl rfl (by first | exact map_at (by assumption) | exact map_at0 (by assumption) | assumption) rfl) ?_
          | refine XOps.s rfl rfl rfl (Q.ld_ep (k := 2) ag3 rfl rfl (by first | exact map_at (by assumption) | exact map_at0 (by assumption) | assumption) rfl) ?_
          | refine XOps.s rfl rfl rfl (Q.ld_ep (k := 3) ag3 rfl rfl (by first | exact map_at (by assumption) | exact map_at0 (by assumption) | assumption) rfl) ?_
        first
          | refine XOps.s rfl rfl rfl (Q.gtr rfl rfl) ?_
          | refine XOps.s rfl rfl rfl (Q.gtr_str rfl rfl) ?_
        refine XOps.nil ?_
        refine W.cond rfl (fun hc31 => ?_) (fun hc31 => ?_)
        · try simp only [Bool.or_eq_true, Bool.or_eq_false_iff, Bool.and_eq_true, Bool.and_eq_false_iff, decide_eq_true_eq, decide_eq_false_iff_not, Bool.not_eq_true', Bool.not_eq_false', Int.not_lt, Int.not_le, List.length_map] at hc31
          rw [if_pos hc31] at hlS
          refine W.region ?_
          first
            | refine XOps.s rfl rfl rfl (Q.move_d rfl) ?_
            | refine XOps.s rfl rfl rfl (Q.move_vs rfl) ?_
            | refine XOps.s rfl rfl rfl (Q.move_ptr rfl) ?_
            | refine XOps.s rfl rfl rfl (Q.move_nilsl rfl) ?_
            | refine XOps.s rfl rfl rfl (Q.move_fn rfl) ?_
            | refine XOps.s rfl rfl rfl (Q.move_tup rfl) ?_
            | refine XOps.s rfl rfl rfl (Q.move_ep rfl) ?_
            | refine XOps.s rfl rfl rfl (Q.move_dp rfl) ?_
            | refine XOps.s rfl rfl rfl (Q.move_dcut rfl) ?_
            | refine XOps.s rfl rfl rfl (Q.move rfl) ?_
          first
            | refine XOps.s rfl rfl rfl (Q.move_d rfl) ?_
            | refine XOps.s rfl rfl rfl (Q.move_vs rfl) ?_
            | refine XOps.s rfl rfl rfl (Q.move_ptr rfl) ?_
            | refine XOps.s rfl rfl rfl (Q.move_nilsl rfl) ?_
            | refine XOps.s rfl rfl rfl (Q.move_fn rfl) ?_
            | refine XOps.s rfl rfl rfl (Q.move_tup rfl) ?_
            | refine XOps.s rfl rfl rfl (Q.move_ep rfl) ?_
            | refine XOps.s rfl rfl rfl (Q.move_dp rfl) ?_
            | refine XOps.s rfl rfl rfl (Q.move_dcut rfl) ?_
            | refine XOps.s rfl rfl rfl (Q.move rfl) ?_
          first
            | refine XOps.s rfl rfl rfl (Q.bsl1 sl25 zr25 rfl zrd25 rfl rfl) ?_
            | refine XOps.s rfl rfl rfl (Q.bsl1n sl25 (by decide) zr25 rfl zrd25 rfl rfl (by decide)) ?_
            | refine XOps.s rfl rfl rfl (Q.bsl sl25 (by decide) zr25 rfl zrd25 (by decide) rfl rfl) ?_
          first
            | (refine XOps.loud rfl (L.app_new ap25 (.inl rfl) (by first | exact .inl rfl | exact .inr (by simp)) rfl (by simp; omega) rfl) ?_; rintro _ _ ⟨v35, rfl, rfl⟩)
            | (refine XOps.loud rfl (L.app_new (rows := []) ap25 (.inr ⟨rfl, rfl⟩) (.inl rfl) rfl (by simp; omega) rfl) ?_; rintro _ _ ⟨v35, rfl, rfl⟩)
            | (refine XOps.loud rfl (L.app (k := 0) ap25 rfl rfl (by first | rfl | (simp [List.length_map]; done)) rfl (by simp; omega) rfl) ?_; rintro _ _ ⟨v35, rfl, rfl⟩)
            | (refine XOps.loud rfl (L.app (k := 1) ap25 rfl rfl (by first | rfl | (simp [List.length_map]; done)) rfl (by simp; omega) rfl) ?_; rintro _ _ ⟨v35, rfl, rfl⟩)
            | (refine XOps.loud rfl (L.app (k := 2) ap25 rfl rfl (by first | rfl | (simp [List.length_map]; done)) rfl (by simp; omega) rfl) ?_; rintro _ _ ⟨v35, rfl, rfl⟩)
            | (refine XOps.loud rfl (L.app (k := 3) ap25 rfl rfl (by first | rfl | (simp [List.length_map]; done)) rfl (by simp; omega) rfl) ?_; rintro _ _ ⟨v35, rfl, rfl⟩)
            | (refine XOps.loud rfl (L.app_in (k := 0) ap25 rfl rfl rfl (by simp; omega) (by simp; omega) rfl) ?_; rintro _ _ ⟨rfl, rfl⟩)
            | (refine XOps.loud rfl (L.app_in (k := 1) ap25 rfl rfl rfl (by simp; omega) (by simp; omega) rfl) ?_; rintro _ _ ⟨rfl, rfl⟩)
            | (refine XOps.loud rfl (L.app_in (k := 2) ap25 rfl rfl rfl (by simp; omega) (by simp; omega) rfl) ?_; rintro _ _ ⟨rfl, rfl⟩)
            | (refine XOps.loud rfl (L.app_in (k := 3) ap25 rfl rfl rfl (by simp; omega) (by simp; omega) rfl) ?_; rintro _ _ ⟨rfl, rfl⟩)
          first
            | refine XOps.s rfl rfl rfl (Q.assign_d rfl) ?_
            | refine XOps.s rfl rfl rfl (Q.assign_vs rfl) ?_
            | refine XOps.s rfl rfl rfl (Q.assign_ptr rfl) ?_
            | refine XOps.s rfl rfl rfl (Q.assign_nilsl rfl) ?_
            | refine XOps.s rfl rfl rfl (Q.assign_fn rfl) ?_
            | refine XOps.s rfl rfl rfl (Q.assign_tup rfl) ?_
            | refine XOps.s rfl rfl rfl (Q.assign_ep rfl) ?_
            | refine XOps.s rfl rfl rfl (Q.assign_dp rfl) ?_
            | refine XOps.s rfl rfl rfl (Q.assign_dcut rfl) ?_
            | refine XOps.s rfl rfl rfl (Q.assign rfl) ?_
          refine XOps.nil ?_
          obtain ⟨vn, rfl⟩ : ∃ x : Nat, x = v35 := ⟨_, rfl⟩
          refine W.region ?_
          first
            | refine XOps.s rfl rfl rfl (Q.add rfl rfl (wi64 (by omega) (by omega))) ?_
            | refine XOps.s rfl rfl rfl (Q.add rfl rfl rfl) ?_
            | refine XOps.s rfl rfl rfl (Q.adds rfl rfl (by omega)) ?_
          first
            | refine XOps.s rfl rfl rfl (Q.move_d rfl) ?_
            | refine XOps.s rfl rfl rfl (Q.move_vs rfl) ?_
            | refine XOps.s rfl rfl rfl (Q.move_ptr rfl) ?_
            | refine XOps.s rfl rfl rfl (Q.move_nilsl rfl) ?_
            | refine XOps.s rfl rfl rfl (Q.move_fn rfl) ?_
            | refine XOps.s rfl rfl rfl (Q.move_tup rfl) ?_
            | refine XOps.s rfl rfl rfl (Q.move_ep rfl) ?_
            | refine XOps.s rfl rfl rfl (Q.move_dp rfl) ?_
            | refine XOps.s rfl rfl rfl (Q.move_dcut rfl) ?_
            | refine XOps.s rfl rfl rfl (Q.move rfl) ?_
          refine XOps.nil ?_
          refine ⟨(k + 1, vn), ?_, ?_, ?_, ?_⟩
          · show k + 1 ≤ l.length; omega
          · show l.length - (k + 1) < l.length - k; omega
          · exact ⟨by first | rfl | exact len_eq (by simp) | exact int_eq (by simp; done) | exact int_eq (by omega), by first | rfl | exact len_eq (by simp) | exact int_eq (by simp; done) | exact int_eq (by omega), by (show AV.vs _ 0 _ 1 = .vs _ 0 _ 1; first | (rw [hlS]; done) | (rw [hlS]; simp; done)), by first | rfl | exact len_eq (by simp) | exact int_eq (by simp; done) | exact int_eq (by omega), by first | rfl | exact len_eq (by simp) | exact int_eq (by simp; done) | exact int_eq (by omega), by first | rfl | exact len_eq (by simp) | exact int_eq (by simp; done) | exact int_eq (by omega), trivial⟩
          · refine HLe.cons' (by first | (rw [hlS]; done) | (rw [hlS]; simp [nE]; done)) ?_
            repeat (first | exact HLe.refl _ | refine HLe.skip _ ?_)
        · try simp only [Bool.or_eq_true, Bool.or_eq_false_iff, Bool.and_eq_true, Bool.and_eq_false_iff, decide_eq_true_eq, decide_eq_false_iff_not, Bool.not_eq_true', Bool.not_eq_false', Int.not_lt, Int.not_le, List.length_map] at hc31
          rw [if_neg (by omega)] at hlS
          obtain ⟨vn, rfl⟩ : ∃ x : Nat, x = v := ⟨_, rfl⟩
          refine W.skip ?_
          refine W.region ?_
          first
            | refine XOps.s rfl rfl rfl (Q.add rfl rfl (wi64 (by omega) (by omega))) ?_
            | refine XOps.s rfl rfl rfl (Q.add rfl rfl rfl) ?_
            | refine XOps.s rfl rfl rfl (Q.adds rfl rfl (by omega)) ?_
          first
            | refine XOps.s rfl rfl rfl (Q.move_d rfl) ?_
            | refine XOps.s rfl rfl rfl (Q.move_vs rfl) ?_
            | refine XOps.s rfl rfl rfl (Q.move_ptr rfl) ?_
            | refine XOps.s rfl rfl rfl (Q.move_nilsl rfl) ?_
            | refine XOps.s rfl rfl rfl (Q.move_fn rfl) ?_
            | refine XOps.s rfl rfl rfl (Q.move_tup rfl) ?_
            | refine XOps.s rfl rfl rfl (Q.move_ep rfl) ?_
            | refine XOps.s rfl rfl rfl (Q.move_dp rfl) ?_
            | refine XOps.s rfl rfl rfl (Q.move_dcut rfl) ?_
            | refine XOps.s rfl rfl rfl (Q.move rfl) ?_
          refine XOps.nil ?_
          refine ⟨(k + 1, vn), ?_, ?_, ?_, ?_⟩
          · show k + 1 ≤ l.length; omega
          · show l.length - (k + 1) < l.length - k; omega
          · exact ⟨by first | rfl | exact len_eq (by simp) | exact int_eq (by simp; done) | exact int_eq (by omega), by first | rfl | exact len_eq (by simp) | exact int_eq (by simp; done) | exact int_eq (by omega), by (show AV.vs _ 0 _ 1 = .vs _ 0 _ 1; first | (rw [hlS]; done) | (rw [hlS]; simp; done)), by first | rfl | exact len_eq (by simp) | exact int_eq (by simp; done) | exact int_eq (by omega), by first | rfl | exact len_eq (by simp) | exact int_eq (by simp; done) | exact int_eq (by omega), by first | rfl | exact len_eq (by simp) | exact int_eq (by simp; done) | exact int_eq (by omega), trivial⟩
          · refine HLe.cons' (by first | (rw [hlS]; done) | (rw [hlS]; simp [nE]; done)) ?_
            repeat (first | exact HLe.refl _ | refine HLe.skip _ ?_)
      · try simp only [Bool.or_eq_true, Bool.or_eq_false_iff, Bool.and_eq_true, Bool.and_eq_false_iff, decide_eq_true_eq, decide_eq_false_iff_not, Bool.not_eq_true', Bool.not_eq_false', Int.not_lt, Int.not_le, List.length_map] at hc21
        refine W.exit ?_
        obtain rfl : k = l.length := by omega
        refine W.freeze 7 0 rfl rfl (by simp) ?_
        refine W.reg ?_
        first
          | refine XOps.s rfl rfl rfl (Q.move_d rfl) ?_
          | refine XOps.s rfl rfl rfl (Q.move_vs rfl) ?_
          | refine XOps.s rfl rfl rfl (Q.move_ptr rfl) ?_
          | refine XOps.s rfl rfl rfl (Q.move_nilsl rfl) ?_
          | refine XOps.s rfl rfl rfl (Q.move_fn rfl) ?_
          | refine XOps.s rfl rfl rfl (Q.move_tup rfl) ?_
          | refine XOps.s rfl rfl rfl (Q.move_ep rfl) ?_
          | refine XOps.s rfl rfl rfl (Q.move_dp rfl) ?_
          | refine XOps.s rfl rfl rfl (Q.move_dcut rfl) ?_
          | refine XOps.s rfl rfl rfl (Q.move rfl) ?_
        first
          | refine XOps.s rfl rfl rfl (Q.assign_d rfl) ?_
          | refine XOps.s rfl rfl rfl (Q.assign_vs rfl) ?_
          | refine XOps.s rfl rfl rfl (Q.assign_ptr rfl) ?_
          | refine XOps.s rfl rfl rfl (Q.assign_nilsl rfl) ?_
          | refine XOps.s rfl rfl rfl (Q.assign_fn rfl) ?_
          | refine XOps.s rfl rfl rfl (Q.assign_tup rfl) ?_
          | refine XOps.s rfl rfl rfl (Q.assign_ep rfl) ?_
          | refine XOps.s rfl rfl rfl (Q.assign_dp rfl) ?_
          | refine XOps.s rfl rfl rfl (Q.assign_dcut rfl) ?_
          | refine XOps.s rfl rfl rfl (Q.assign rfl) ?_
        first
          | refine XOps.s rfl rfl rfl (Q.assign_d rfl) ?_
          | refine XOps.s rfl rfl rfl (Q.assign_vs rfl) ?_
          | refine XOps.s rfl rfl rfl (Q.assign_ptr rfl) ?_
          | refine XOps.s rfl rfl rfl (Q.assign_nilsl rfl) ?_
          | refine XOps.s rfl rfl rfl (Q.assign_fn rfl) ?_
          | refine XOps.s rfl rfl rfl (Q.assign_tup rfl) ?_
          | refine XOps.s rfl rfl rfl (Q.assign_ep rfl) ?_
          | refine XOps.s rfl rfl rfl (Q.assign_dp rfl) ?_
          | refine XOps.s rfl rfl rfl (Q.assign_dcut rfl) ?_
          | refine XOps.s rfl rfl rfl (Q.assign rfl) ?_
        refine XOps.nil ?_
        refine W.ret ?_
        refine ⟨_, hs, rfl, by repeat (first | exact HLe.refl _ | refine HLe.cons' (by first | rfl | (simp [nE]; done)) ?_ | refine HLe.skip _ ?_), ?_, rfl⟩
        rfl

set_option maxHeartbeats 1000000 in
set_option maxRecDepth 100000 in
theorem gt_c (x : Item) (hs : Hp) : AC P 19 [.d (.agg x.enc)] hs (fun r h => r = .d (.bool (decide (x.slot < x.ready))) ∧ h = hs) := by
  refine AC.of 8 Try.func19 rfl rfl rfl ?_
  refine W.reg ?_
  first
    | (refine XOps.loud rfl (L.boxn rfl rfl) ?_; rintro _ _ ⟨b1, rfl, rfl⟩)
    | (refine XOps.loud rfl (L.box rfl rfl rfl) ?_; rintro _ _ ⟨b1, rfl, rfl⟩)
  first
    | refine XOps.s rfl rfl rfl (Q.assign_d rfl) ?_
    | refine XOps.s rfl rfl rfl (Q.assign_vs rfl) ?_
    | refine XOps.s rfl rfl rfl (Q.assign_ptr rfl) ?_
    | refine XOps.s rfl rfl rfl (Q.assign_nilsl rfl) ?_
    | refine XOps.s rfl rfl rfl (Q.assign_fn rfl) ?_
    | refine XOps.s rfl rfl rfl (Q.assign_tup rfl) ?_
    | refine XOps.s rfl rfl rfl (Q.assign_ep rfl) ?_
    | refine XOps.s rfl rfl rfl (Q.assign_dp rfl) ?_
    | refine XOps.s rfl rfl rfl (Q.assign_dcut rfl) ?_
    | refine XOps.s rfl rfl rfl (Q.assign rfl) ?_
  refine XOps.nil ?_
  refine W.reg ?_
  first
    | refine XOps.s rfl rfl rfl (Q.fld_ptr fl32_2 rfl) ?_
    | refine XOps.s rfl rfl rfl (Q.fld_dp fl32_2 rfl) ?_
    | refine XOps.s rfl rfl rfl (Q.fld_ep fl32_2 rfl) ?_
  first
    | refine XOps.s rfl rfl rfl (Q.ld_dp ag3 rfl rfl) ?_
    | refine XOps.s rfl rfl rfl (Q.ld_ptr (k := 0) ag3 rfl rfl rfl) ?_
    | refine XOps.s rfl rfl rfl (Q.ld_ptr (k := 1) ag3 rfl rfl rfl) ?_
    | refine XOps.s rfl rfl rfl (Q.ld_ptr (k := 2) ag3 rfl rfl rfl) ?_
    | refine XOps.s rfl rfl rfl (Q.ld_ptr (k := 3) ag3 rfl rfl rfl) ?_
    | refine XOps.s rfl rfl rfl (Q.ld_ep (k := 0) ag3 rfl rfl (by first | exact map_at (by assumption) | exact map_at0 (by assumption) | assumption) rfl) ?_
    | refine XOps.s rfl rfl rfl (Q.ld_ep (k := 1) ag3 rfl rfl (by first | exact map_at (by assumption) | exact map_at0 (by assumption) | assumption) rfl) ?_
    | refine XOps.s rfl rfl rfl (Q.ld_ep (k := 2) ag3 rfl rfl (by first | exact map_at (by assumption) | exact map_at0 (by assumption) | assumption) rfl) ?_
    | refine XOps.s rfl rfl rfl (Q.ld_ep (k := 3) ag3 rfl rfl (by first | exact map_at (by assumption) | exact map_at0 (by assumption) | assumption) rfl) ?_
  first
    | refine XOps.s rfl rfl rfl (Q.fld_ptr fl32_3 rfl) ?_
    | refine XOps.s rfl rfl rfl (Q.fld_dp fl32_3 rfl) ?_
    | refine XOps.s rfl rfl rfl (Q.fld_ep fl32_3 rfl) ?_
  first
    | refine XOps.s rfl rfl rfl (Q.ld_dp ag3 rfl rfl) ?_
    | refine XOps.s rfl rfl rfl (Q.ld_ptr (k := 0) ag3 rfl rfl rfl) ?_
    | refine XOps.s rfl rfl rfl (Q.ld_ptr (k := 1) ag3 rfl rfl rfl) ?_
    | refine XOps.s rfl rfl rfl (Q.ld_ptr (k := 2) ag3 rfl rfl rfl) ?_
    | refine XOps.s rfl rfl rfl (Q.ld_ptr (k := 3) ag3 rfl rfl rfl) ?_
    | refine XOps.s rfl rfl rfl (Q.ld_ep (k := 0) ag3 rfl rfl (by first | exact map_at (by assumption) | exact map_at0 (by assumption) | assumption) rfl) ?_
    | refine XOps.s rfl rfl rfl (Q.ld_ep (k := 1) ag3 rfl rfl (by first | exact map_at (by assumption) | exact map_at0 (by assumption) | assumption) rfl) ?_
    | refine XOps.s rfl rfl rfl (Q.ld_ep (k := 2) ag3 rfl rfl (by first | exact map_at (by assumption) | exact map_at0 (by assumption) | assumption) rfl) ?_
    | refine XOps.s rfl rfl rfl (Q.ld_ep (k := 3) ag3 rfl rfl (by first | exact map_at (by assumption) | exact map_at0 (by assumption) | assumption) rfl) ?_
  first
    | refine XOps.s rfl rfl rfl (Q.gtr rfl rfl) ?_
    | refine XOps.s rfl rfl rfl (Q.gtr_str rfl rfl) ?_
  first
    | refine XOps.s rfl rfl rfl (Q.assign_d rfl) ?_
    | refine XOps.s rfl rfl rfl (Q.assign_vs rfl) ?_
    | refine XOps.s rfl rfl rfl (Q.assign_ptr rfl) ?_
    | refine XOps.s rfl rfl rfl (Q.assign_nilsl rfl) ?_
    | refine XOps.s rfl rfl rfl (Q.assign_fn rfl) ?_
    | refine XOps.s rfl rfl rfl (Q.assign_tup rfl) ?_
    | refine XOps.s rfl rfl rfl (Q.assign_ep rfl) ?_
    | refine XOps.s rfl rfl rfl (Q.assign_dp rfl) ?_
    | refine XOps.s rfl rfl rfl (Q.assign_dcut rfl) ?_
    | refine XOps.s rfl rfl rfl (Q.assign rfl) ?_
  refine XOps.nil ?_
  refine W.ret ?_
  refine ⟨_, hs, rfl, by repeat (first | exact HLe.refl _ | refine HLe.cons' (by first | rfl | (simp; done)) ?_ | refine HLe.skip _ ?_), ?_, rfl⟩
  rfl

set_option maxHeartbeats 1000000 in
set_option maxRecDepth 100000 in
theorem index_c (l : List Item) (hs : Hp) (hL : l.length * 40 ≤ 140737488351232) (hno : ∀ x ∈ l, x.ready ≤ x.slot) : AC P 25 [.d (slI l), .fn 19 []] hs (fun r h => r = .d (.int .i64 (-1)) ∧ h = hs) := by
  refine AC.of 19 Try.func25 rfl rfl rfl ?_
  refine W.reg ?_
  first
    | refine XOps.s rfl rfl rfl (Q.assign_d rfl) ?_
    | refine XOps.s rfl rfl rfl (Q.assign_vs rfl) ?_
    | refine XOps.s rfl rfl rfl (Q.assign_ptr rfl) ?_
    | refine XOps.s rfl rfl rfl (Q.assign_nilsl rfl) ?_
    | refine XOps.s rfl rfl rfl (Q.assign_fn rfl) ?_
    | refine XOps.s rfl rfl rfl (Q.assign_tup rfl) ?_
    | refine XOps.s rfl rfl rfl (Q.assign_ep rfl) ?_
    | refine XOps.s rfl rfl rfl (Q.assign_dp rfl) ?_
    | refine XOps.s rfl rfl rfl (Q.assign_dcut rfl) ?_
    | refine XOps.s rfl rfl rfl (Q.assign rfl) ?_
  refine XOps.nil ?_
  refine W.seq ?_
  refine W.reg ?_
  first
    | refine XOps.s rfl rfl rfl (Q.move_d rfl) ?_
    | refine XOps.s rfl rfl rfl (Q.move_vs rfl) ?_
    | refine XOps.s rfl rfl rfl (Q.move_ptr rfl) ?_
    | refine XOps.s rfl rfl rfl (Q.move_nilsl rfl) ?_
    | refine XOps.s rfl rfl rfl (Q.move_fn rfl) ?_
    | refine XOps.s rfl rfl rfl (Q.move_tup rfl) ?_
    | refine XOps.s rfl rfl rfl (Q.move_ep rfl) ?_
    | refine XOps.s rfl rfl rfl (Q.move_dp rfl) ?_
    | refine XOps.s rfl rfl rfl (Q.move_dcut rfl) ?_
    | refine XOps.s rfl rfl rfl (Q.move rfl) ?_
  first
    | refine XOps.s rfl rfl rfl (Q.len_sl isl22 rfl) ?_
    | refine XOps.s rfl rfl rfl (Q.len_vs isl22 rfl) ?_
    | refine XOps.s rfl rfl rfl (Q.len_nil isl22 rfl) ?_
    | refine XOps.s rfl rfl rfl (Q.len_dcut isl22 rfl) ?_
  first
    | refine XOps.s rfl rfl rfl (Q.move_d rfl) ?_
    | refine XOps.s rfl rfl rfl (Q.move_vs rfl) ?_
    | refine XOps.s rfl rfl rfl (Q.move_ptr rfl) ?_
    | refine XOps.s rfl rfl rfl (Q.move_nilsl rfl) ?_
    | refine XOps.s rfl rfl rfl (Q.move_fn rfl) ?_
    | refine XOps.s rfl rfl rfl (Q.move_tup rfl) ?_
    | refine XOps.s rfl rfl rfl (Q.move_ep rfl) ?_
    | refine XOps.s rfl rfl rfl (Q.move_dp rfl) ?_
    | refine XOps.s rfl rfl rfl (Q.move_dcut rfl) ?_
    | refine XOps.s rfl rfl rfl (Q.move rfl) ?_
  refine XOps.nil ?_
  refine W.block ?_
  refine W.loop (ι := Nat) (fun k => [(0, .d (slI l)), (1, .fn 19 []), (7, .d (.int .i64 l.length)), (8, .d (.int .i64 k))]) (fun k => hs) (fun k => k ≤ l.length) (fun k => l.length - k) 0 ?_ ?_ ?_ ?_
  · exact Nat.zero_le _
  · exact ⟨by first | rfl | exact len_eq (by simp) | exact int_eq (by simp; done) | exact int_eq (by omega), by first | rfl | exact len_eq (by simp) | exact int_eq (by simp; done) | exact int_eq (by omega), by first | rfl | exact len_eq (by simp) | exact int_eq (by simp; done) | exact int_eq (by omega), by first | rfl | exact len_eq (by simp) | exact int_eq (by simp; done) | exact int_eq (by omega), trivial⟩
  · repeat (first | exact HLe.refl _ | refine HLe.cons' (by first | rfl | (simp; done)) ?_ | refine HLe.skip _ ?_)
  · rintro k hk
    try dsimp only
    refine W.reg ?_
    first
      | refine XOps.s rfl rfl rfl (Q.lss rfl rfl) ?_
      | refine XOps.s rfl rfl rfl (Q.lss_str rfl rfl) ?_
    refine XOps.nil ?_
    refine W.seq ?_
    refine W.cond rfl (fun hc9 => ?_) (fun hc9 => ?_)
    · try simp only [Bool.or_eq_true, Bool.or_eq_false_iff, Bool.and_eq_true, Bool.and_eq_false_iff, decide_eq_true_eq, decide_eq_false_iff_not, Bool.not_eq_true', Bool.not_eq_false', Int.not_lt, Int.not_le, List.length_map] at hc9
      obtain ⟨x, hx⟩ : ∃ x, l[k]? = some x := ⟨_, List.getElem?_eq_getElem (by omega)⟩
      have hxs := hno x (List.mem_of_getElem? hx)
      refine W.skip ?_
      refine W.seq ?_
      refine W.block ?_
      refine W.reg ?_
      first
        | refine XOps.s rfl rfl rfl (Q.move_d rfl) ?_
        | refine XOps.s rfl rfl rfl (Q.move_vs rfl) ?_
        | refine XOps.s rfl rfl rfl (Q.move_ptr rfl) ?_
        | refine XOps.s rfl rfl rfl (Q.move_nilsl rfl) ?_
        | refine XOps.s rfl rfl rfl (Q.move_fn rfl) ?_
        | refine XOps.s rfl rfl rfl (Q.move_tup rfl) ?_
        | refine XOps.s rfl rfl rfl (Q.move_ep rfl) ?_
        | refine XOps.s rfl rfl rfl (Q.move_dp rfl) ?_
        | refine XOps.s rfl rfl rfl (Q.move_dcut rfl) ?_
        | refine XOps.s rfl rfl rfl (Q.move rfl) ?_
      first
        | refine XOps.s rfl rfl rfl (Q.assign_d rfl) ?_
        | refine XOps.s rfl rfl rfl (Q.assign_vs rfl) ?_
        | refine XOps.s rfl rfl rfl (Q.assign_ptr rfl) ?_
        | refine XOps.s rfl rfl rfl (Q.assign_nilsl rfl) ?_
        | refine XOps.s rfl rfl rfl (Q.assign_fn rfl) ?_
        | refine XOps.s rfl rfl rfl (Q.assign_tup rfl) ?_
        | refine XOps.s rfl rfl rfl (Q.assign_ep rfl) ?_
        | refine XOps.s rfl rfl rfl (Q.assign_dp rfl) ?_
        | refine XOps.s rfl rfl rfl (Q.assign_dcut rfl) ?_
        | refine XOps.s rfl rfl rfl (Q.assign rfl) ?_
      refine XOps.nil ?_
      refine W.reg ?_
      first
        | refine XOps.s rfl rfl rfl (Q.move_d rfl) ?_
        | refine XOps.s rfl rfl rfl (Q.move_vs rfl) ?_
        | refine XOps.s rfl rfl rfl (Q.move_ptr rfl) ?_
        | refine XOps.s rfl rfl rfl (Q.move_nilsl rfl) ?_
        | refine XOps.s rfl rfl rfl (Q.move_fn rfl) ?_
        | refine XOps.s rfl rfl rfl (Q.move_tup rfl) ?_
        | refine XOps.s rfl rfl rfl (Q.move_ep rfl) ?_
        | refine XOps.s rfl rfl rfl (Q.move_dp rfl) ?_
        | refine XOps.s rfl rfl rfl (Q.move_dcut rfl) ?_
        | refine XOps.s rfl rfl rfl (Q.move rfl) ?_
      first
        | refine XOps.s rfl rfl rfl (Q.move_d rfl) ?_
        | refine XOps.s rfl rfl rfl (Q.move_vs rfl) ?_
        | refine XOps.s rfl rfl rfl (Q.move_ptr rfl) ?_
        | refine XOps.s rfl rfl rfl (Q.move_nilsl rfl) ?_
        | refine XOps.s rfl rfl rfl (Q.move_fn rfl) ?_
        | refine XOps.s rfl rfl rfl (Q.move_tup rfl) ?_
        | refine XOps.s rfl rfl rfl (Q.move_ep rfl) ?_
        | refine XOps.s rfl rfl rfl (Q.move_dp rfl) ?_
        | refine XOps.s rfl rfl rfl (Q.move_dcut rfl) ?_
        | refine XOps.s rfl rfl rfl (Q.move rfl) ?_
      first
        | refine XOps.s rfl rfl rfl (Q.move_d rfl) ?_
        | refine XOps.s rfl rfl rfl (Q.move_vs rfl) ?_
        | refine XOps.s rfl rfl rfl (Q.move_ptr rfl) ?_
        | refine XOps.s rfl rfl rfl (Q.move_nilsl rfl) ?_
        | refine XOps.s rfl rfl rfl (Q.move_fn rfl) ?_
        | refine XOps.s rfl rfl rfl (Q.move_tup rfl) ?_
        | refine XOps.s rfl rfl rfl (Q.move_ep rfl) ?_
        | refine XOps.s rfl rfl rfl (Q.move_dp rfl) ?_
        | refine XOps.s rfl rfl rfl (Q.move_dcut rfl) ?_
        | refine XOps.s rfl rfl rfl (Q.move rfl) ?_
      first
        | refine XOps.s rfl rfl rfl (Q.idx_sl sl22 (by decide) rfl rfl (by omega) (by first | exact map_at (by assumption) | exact map_at0 (by assumption) | assumption)) ?_
        | refine XOps.s rfl rfl rfl (Q.idx_vs (kk := 0) sl22 rfl rfl rfl (by omega) (by omega)) ?_
        | refine XOps.s rfl rfl rfl (Q.idx_vs (kk := 1) sl22 rfl rfl rfl (by omega) (by omega)) ?_
        | refine XOps.s rfl rfl rfl (Q.idx_vs (kk := 2) sl22 rfl rfl rfl (by omega) (by omega)) ?_
        | refine XOps.s rfl rfl rfl (Q.idx_vs (kk := 3) sl22 rfl rfl rfl (by omega) (by omega)) ?_
      first
        | refine XOps.s rfl rfl rfl (Q.ld_dpn ag32 rfl rfl) ?_
        | refine XOps.s rfl rfl rfl (Q.ld_ptrn (k := 0) ag32 rfl rfl rfl) ?_
        | refine XOps.s rfl rfl rfl (Q.ld_ptrn (k := 1) ag32 rfl rfl rfl) ?_
        | refine XOps.s rfl rfl rfl (Q.ld_ptrn (k := 2) ag32 rfl rfl rfl) ?_
        | refine XOps.s rfl rfl rfl (Q.ld_ptrn (k := 3) ag32 rfl rfl rfl) ?_
        | refine XOps.s rfl rfl rfl (Q.ld_epn (k := 0) ag32 rfl rfl (by first | exact map_at (by assumption) | exact map_at0 (by assumption) | assumption) rfl) ?_
        | refine XOps.s rfl rfl rfl (Q.ld_epn (k := 1) ag32 rfl rfl (by first | exact map_at (by assumption) | exact map_at0 (by assumption) | assumption) rfl) ?_
        | refine XOps.s rfl rfl rfl (Q.ld_epn (k := 2) ag32 rfl rfl (by first | exact map_at (by assumption) | exact map_at0 (by assumption) | assumption) rfl) ?_
        | refine XOps.s rfl rfl rfl (Q.ld_epn (k := 3) ag32 rfl rfl (by first | exact map_at (by assumption) | exact map_at0 (by assumption) | assumption) rfl) ?_
      refine XOps.s rfl rfl rfl (Q.call rfl Try.func19 go19 rfl (gt_c x _)) ?_
      refine XOps.nil ?_
      refine W.cond rfl (fun hc16 => ?_) (fun hc16 => ?_)
      · try simp only [Bool.or_eq_true, Bool.or_eq_false_iff, Bool.and_eq_true, Bool.and_eq_false_iff, decide_eq_true_eq, decide_eq_false_iff_not, Bool.not_eq_true', Bool.not_eq_false', Int.not_lt, Int.not_le, List.length_map] at hc16
        exact absurd hc16 (by omega)
      · try simp only [Bool.or_eq_true, Bool.or_eq_false_iff, Bool.and_eq_true, Bool.and_eq_false_iff, decide_eq_true_eq, decide_eq_false_iff_not, Bool.not_eq_true', Bool.not_eq_false', Int.not_lt, Int.not_le, List.length_map] at hc16
        refine W.skip ?_
        refine W.region ?_
        first
          | refine XOps.s rfl rfl rfl (Q.add rfl rfl (wi64 (by omega) (by omega))) ?_
          | refine XOps.s rfl rfl rfl (Q.add rfl rfl rfl) ?_
          | refine XOps.s rfl rfl rfl (Q.adds rfl rfl (by omega)) ?_
        first
          | refine XOps.s rfl rfl rfl (Q.move_d rfl) ?_
          | refine XOps.s rfl rfl rfl (Q.move_vs rfl) ?_
          | refine XOps.s rfl rfl rfl (Q.move_ptr rfl) ?_
          | refine XOps.s rfl rfl rfl (Q.move_nilsl rfl) ?_
          | refine XOps.s rfl rfl rfl (Q.move_fn rfl) ?_
          | refine XOps.s rfl rfl rfl (Q.move_tup rfl) ?_
          | refine XOps.s rfl rfl rfl (Q.move_ep rfl) ?_
          | refine XOps.s rfl rfl rfl (Q.move_dp rfl) ?_
          | refine XOps.s rfl rfl rfl (Q.move_dcut rfl) ?_
          | refine XOps.s rfl rfl rfl (Q.move rfl) ?_
        refine XOps.nil ?_
        refine ⟨k + 1, ?_, ?_, ?_, ?_⟩
        · omega
        · omega
        · exact ⟨by first | rfl | exact len_eq (by simp) | exact int_eq (by simp; done) | exact int_eq (by omega), by first | rfl | exact len_eq (by simp) | exact int_eq (by simp; done) | exact int_eq (by omega), by first | rfl | exact len_eq (by simp) | exact int_eq (by simp; done) | exact int_eq (by omega), by first | rfl | exact len_eq (by simp) | exact int_eq (by simp; done) | exact int_eq (by omega), trivial⟩
        · repeat (first | exact HLe.refl _ | refine HLe.cons' (by first | rfl | (simp; done)) ?_ | refine HLe.skip _ ?_)
    · try simp only [Bool.or_eq_true, Bool.or_eq_false_iff, Bool.and_eq_true, Bool.and_eq_false_iff, decide_eq_true_eq, decide_eq_false_iff_not, Bool.not_eq_true', Bool.not_eq_false', Int.not_lt, Int.not_le, List.length_map] at hc9
      refine W.exit ?_
      refine W.reg ?_
      first
        | refine XOps.s rfl rfl rfl (Q.assign_d rfl) ?_
        | refine XOps.s rfl rfl rfl (Q.assign_vs rfl) ?_
        | refine XOps.s rfl rfl rfl (Q.assign_ptr rfl) ?_
        | refine XOps.s rfl rfl rfl (Q.assign_nilsl rfl) ?_
        | refine XOps.s rfl rfl rfl (Q.assign_fn rfl) ?_
        | refine XOps.s rfl rfl rfl (Q.assign_tup rfl) ?_
        | refine XOps.s rfl rfl rfl (Q.assign_ep rfl) ?_
        | refine XOps.s rfl rfl rfl (Q.assign_dp rfl) ?_
        | refine XOps.s rfl rfl rfl (Q.assign_dcut rfl) ?_
        | refine XOps.s rfl rfl rfl (Q.assign rfl) ?_
      refine XOps.nil ?_
      refine W.ret ?_
      refine ⟨_, hs, rfl, by repeat (first | exact HLe.refl _ | refine HLe.cons' (by first | rfl | (simp; done)) ?_ | refine HLe.skip _ ?_), ?_, rfl⟩
      rfl

set_option maxHeartbeats 1000000 in
set_option maxRecDepth 100000 in
theorem contains_c (l : List Item) (hs : Hp) (hL : l.length * 40 ≤ 140737488351232) (hno : ∀ x ∈ l, x.ready ≤ x.slot) : AC P 18 [.d (slI l), .fn 19 []] hs (fun r h => r = .d (.bool false) ∧ h = hs) := by
  refine AC.of 9 Try.func18 rfl rfl rfl ?_
  refine W.reg ?_
  first
    | refine XOps.s rfl rfl rfl (Q.assign_d rfl) ?_
    | refine XOps.s rfl rfl rfl (Q.assign_vs rfl) ?_
    | refine XOps.s rfl rfl rfl (Q.assign_ptr rfl) ?_
    | refine XOps.s rfl rfl rfl (Q.assign_nilsl rfl) ?_
    | refine XOps.s rfl rfl rfl (Q.assign_fn rfl) ?_
    | refine XOps.s rfl rfl rfl (Q.assign_tup rfl) ?_
    | refine XOps.s rfl rfl rfl (Q.assign_ep rfl) ?_
    | refine XOps.s rfl rfl rfl (Q.assign_dp rfl) ?_
    | refine XOps.s rfl rfl rfl (Q.assign_dcut rfl) ?_
    | refine XOps.s rfl rfl rfl (Q.assign rfl) ?_
  refine XOps.nil ?_
  refine W.reg ?_
  first
    | refine XOps.s rfl rfl rfl (Q.move_d rfl) ?_
    | refine XOps.s rfl rfl rfl (Q.move_vs rfl) ?_
    | refine XOps.s rfl rfl rfl (Q.move_ptr rfl) ?_
    | refine XOps.s rfl rfl rfl (Q.move_nilsl rfl) ?_
    | refine XOps.s rfl rfl rfl (Q.move_fn rfl) ?_
    | refine XOps.s rfl rfl rfl (Q.move_tup rfl) ?_
    | refine XOps.s rfl rfl rfl (Q.move_ep rfl) ?_
    | refine XOps.s rfl rfl rfl (Q.move_dp rfl) ?_
    | refine XOps.s rfl rfl rfl (Q.move_dcut rfl) ?_
    | refine XOps.s rfl rfl rfl (Q.move rfl) ?_
  first
    | refine XOps.s rfl rfl rfl (Q.move_d rfl) ?_
    | refine XOps.s rfl rfl rfl (Q.move_vs rfl) ?_
    | refine XOps.s rfl rfl rfl (Q.move_ptr rfl) ?_
    | refine XOps.s rfl rfl rfl (Q.move_nilsl rfl) ?_
    | refine XOps.s rfl rfl rfl (Q.move_fn rfl) ?_
    | refine XOps.s rfl rfl rfl (Q.move_tup rfl) ?_
    | refine XOps.s rfl rfl rfl (Q.move_ep rfl) ?_
    | refine XOps.s rfl rfl rfl (Q.move_dp rfl) ?_
    | refine XOps.s rfl rfl rfl (Q.move_dcut rfl) ?_
    | refine XOps.s rfl rfl rfl (Q.move rfl) ?_
  refine XOps.s rfl rfl rfl (Q.call rfl Try.func25 go25 rfl (index_c l _ hL hno)) ?_
  first
    | refine XOps.s rfl rfl rfl (Q.geq rfl rfl) ?_
    | refine XOps.s rfl rfl rfl (Q.geq_str rfl rfl) ?_
  first
    | refine XOps.s rfl rfl rfl (Q.assign_d rfl) ?_
    | refine XOps.s rfl rfl rfl (Q.assign_vs rfl) ?_
    | refine XOps.s rfl rfl rfl (Q.assign_ptr rfl) ?_
    | refine XOps.s rfl rfl rfl (Q.assign_nilsl rfl) ?_
    | refine XOps.s rfl rfl rfl (Q.assign_fn rfl) ?_
    | refine XOps.s rfl rfl rfl (Q.assign_tup rfl) ?_
    | refine XOps.s rfl rfl rfl (Q.assign_ep rfl) ?_
    | refine XOps.s rfl rfl rfl (Q.assign_dp rfl) ?_
    | refine XOps.s rfl rfl rfl (Q.assign_dcut rfl) ?_
    | refine XOps.s rfl rfl rfl (Q.assign rfl) ?_
  refine XOps.nil ?_
  refine W.ret ?_
  refine ⟨_, hs, rfl, by repeat (first | exact HLe.refl _ | refine HLe.cons' (by first | rfl | (simp; done)) ?_ | refine HLe.skip _ ?_), ?_, rfl⟩
  rfl

set_option maxHeartbeats 1000000 in
set_option maxRecDepth 100000 in
theorem promised_c (l : List Item) (gv : Nat → Int) (hs : Hp) (hL : l.length * 40 ≤ 140737488351232) : AC P 6 [.d (slI l), .d (.agg (gD gv))] hs (fun r _ => r = .d (.bool true)) := by
  have h6 : (l.take 6).length ≤ 6 := by rw [List.length_take]; omega
  refine AC.of 81 Try.func6 rfl rfl rfl ?_
  refine W.reg ?_
  first
    | (refine XOps.loud rfl (L.boxn rfl rfl) ?_; rintro _ _ ⟨b3, rfl, rfl⟩)
    | (refine XOps.loud rfl (L.box rfl rfl rfl) ?_; rintro _ _ ⟨b3, rfl, rfl⟩)
  first
    | refine XOps.s rfl rfl rfl (Q.assign_d rfl) ?_
    | refine XOps.s rfl rfl rfl (Q.assign_vs rfl) ?_
    | refine XOps.s rfl rfl rfl (Q.assign_ptr rfl) ?_
    | refine XOps.s rfl rfl rfl (Q.assign_nilsl rfl) ?_
    | refine XOps.s rfl rfl rfl (Q.assign_fn rfl) ?_
    | refine XOps.s rfl rfl rfl (Q.assign_tup rfl) ?_
    | refine XOps.s rfl rfl rfl (Q.assign_ep rfl) ?_
    | refine XOps.s rfl rfl rfl (Q.assign_dp rfl) ?_
    | refine XOps.s rfl rfl rfl (Q.assign_dcut rfl) ?_
    | refine XOps.s rfl rfl rfl (Q.assign rfl) ?_
  refine XOps.nil ?_
  refine W.reg ?_
  first
    | refine XOps.s rfl rfl rfl (Q.move_d rfl) ?_
    | refine XOps.s rfl rfl rfl (Q.move_vs rfl) ?_
    | refine XOps.s rfl rfl rfl (Q.move_ptr rfl) ?_
    | refine XOps.s rfl rfl rfl (Q.move_nilsl rfl) ?_
    | refine XOps.s rfl rfl rfl (Q.move_fn rfl) ?_
    | refine XOps.s rfl rfl rfl (Q.move_tup rfl) ?_
    | refine XOps.s rfl rfl rfl (Q.move_ep rfl) ?_
    | refine XOps.s rfl rfl rfl (Q.move_dp rfl) ?_
    | refine XOps.s rfl rfl rfl (Q.move_dcut rfl) ?_
    | refine XOps.s rfl rfl rfl (Q.move rfl) ?_
  first
    | refine XOps.s rfl rfl rfl (Q.move_d rfl) ?_
    | refine XOps.s rfl rfl rfl (Q.move_vs rfl) ?_
    | refine XOps.s rfl rfl rfl (Q.move_ptr rfl) ?_
    | refine XOps.s rfl rfl rfl (Q.move_nilsl rfl) ?_
    | refine XOps.s rfl rfl rfl (Q.move_fn rfl) ?_
    | refine XOps.s rfl rfl rfl (Q.move_tup rfl) ?_
    | refine XOps.s rfl rfl rfl (Q.move_ep rfl) ?_
    | refine XOps.s rfl rfl rfl (Q.move_dp rfl) ?_
    | refine XOps.s rfl rfl rfl (Q.move_dcut rfl) ?_
    | refine XOps.s rfl rfl rfl (Q.move rfl) ?_
  first
    | refine XOps.s rfl rfl rfl (Q.len_sl isl22 rfl) ?_
    | refine XOps.s rfl rfl rfl (Q.len_vs isl22 rfl) ?_
    | refine XOps.s rfl rfl rfl (Q.len_nil isl22 rfl) ?_
    | refine XOps.s rfl rfl rfl (Q.len_dcut isl22 rfl) ?_
  refine XOps.s rfl rfl rfl (Q.mini rfl rfl) ?_
  refine XOps.s rfl rfl rfl (Q.cut_slm sl22 rfl rfl rfl (by omega) (by simp; omega) (by simp; omega)) ?_
  first
    | refine XOps.s rfl rfl rfl (Q.assign_d rfl) ?_
    | refine XOps.s rfl rfl rfl (Q.assign_vs rfl) ?_
    | refine XOps.s rfl rfl rfl (Q.assign_ptr rfl) ?_
    | refine XOps.s rfl rfl rfl (Q.assign_nilsl rfl) ?_
    | refine XOps.s rfl rfl rfl (Q.assign_fn rfl) ?_
    | refine XOps.s rfl rfl rfl (Q.assign_tup rfl) ?_
    | refine XOps.s rfl rfl rfl (Q.assign_ep rfl) ?_
    | refine XOps.s rfl rfl rfl (Q.assign_dp rfl) ?_
    | refine XOps.s rfl rfl rfl (Q.assign_dcut rfl) ?_
    | refine XOps.s rfl rfl rfl (Q.assign rfl) ?_
  refine XOps.nil ?_
  refine W.as 0 (v' := .d (slI (l.take 6))) (by decide) rfl (fun κ w O u h => by rw [← take6]; exact h) ?_
  refine W.reg ?_
  first
    | refine XOps.s rfl rfl rfl (Q.move_d rfl) ?_
    | refine XOps.s rfl rfl rfl (Q.move_vs rfl) ?_
    | refine XOps.s rfl rfl rfl (Q.move_ptr rfl) ?_
    | refine XOps.s rfl rfl rfl (Q.move_nilsl rfl) ?_
    | refine XOps.s rfl rfl rfl (Q.move_fn rfl) ?_
    | refine XOps.s rfl rfl rfl (Q.move_tup rfl) ?_
    | refine XOps.s rfl rfl rfl (Q.move_ep rfl) ?_
    | refine XOps.s rfl rfl rfl (Q.move_dp rfl) ?_
    | refine XOps.s rfl rfl rfl (Q.move_dcut rfl) ?_
    | refine XOps.s rfl rfl rfl (Q.move rfl) ?_
  first
    | refine XOps.s rfl rfl rfl (Q.ld_dpn ag24 rfl rfl) ?_
    | refine XOps.s rfl rfl rfl (Q.ld_ptrn (k := 0) ag24 rfl rfl rfl) ?_
    | refine XOps.s rfl rfl rfl (Q.ld_ptrn (k := 1) ag24 rfl rfl rfl) ?_
    | refine XOps.s rfl rfl rfl (Q.ld_ptrn (k := 2) ag24 rfl rfl rfl) ?_
    | refine XOps.s rfl rfl rfl (Q.ld_ptrn (k := 3) ag24 rfl rfl rfl) ?_
    | refine XOps.s rfl rfl rfl (Q.ld_epn (k := 0) ag24 rfl rfl (by first | exact map_at (by assumption) | exact map_at0 (by assumption) | assumption) rfl) ?_
    | refine XOps.s rfl rfl rfl (Q.ld_epn (k := 1) ag24 rfl rfl (by first | exact map_at (by assumption) | exact map_at0 (by assumption) | assumption) rfl) ?_
    | refine XOps.s rfl rfl rfl (Q.ld_epn (k := 2) ag24 rfl rfl (by first | exact map_at (by assumption) | exact map_at0 (by assumption) | assumption) rfl) ?_
    | refine XOps.s rfl rfl rfl (Q.ld_epn (k := 3) ag24 rfl rfl (by first | exact map_at (by assumption) | exact map_at0 (by assumption) | assumption) rfl) ?_
  refine XOps.s rfl rfl rfl (Q.call rfl Try.func16 go16 rfl (order_c (l.take 6) gv _)) ?_
  first
    | refine XOps.s rfl rfl rfl (Q.move_d rfl) ?_
    | refine XOps.s rfl rfl rfl (Q.move_vs rfl) ?_
    | refine XOps.s rfl rfl rfl (Q.move_ptr rfl) ?_
    | refine XOps.s rfl rfl rfl (Q.move_nilsl rfl) ?_
    | refine XOps.s rfl rfl rfl (Q.move_fn rfl) ?_
    | refine XOps.s rfl rfl rfl (Q.move_tup rfl) ?_
    | refine XOps.s rfl rfl rfl (Q.move_ep rfl) ?_
    | refine XOps.s rfl rfl rfl (Q.move_dp rfl) ?_
    | refine XOps.s rfl rfl rfl (Q.move_dcut rfl) ?_
    | refine XOps.s rfl rfl rfl (Q.move rfl) ?_
  refine XOps.s rfl rfl rfl (Q.extract rfl rfl) ?_
  refine XOps.s rfl rfl rfl (Q.extract rfl rfl) ?_
  first
    | refine XOps.s rfl rfl rfl (Q.assign_d rfl) ?_
    | refine XOps.s rfl rfl rfl (Q.assign_vs rfl) ?_
    | refine XOps.s rfl rfl rfl (Q.assign_ptr rfl) ?_
    | refine XOps.s rfl rfl rfl (Q.assign_nilsl rfl) ?_
    | refine XOps.s rfl rfl rfl (Q.assign_fn rfl) ?_
    | refine XOps.s rfl rfl rfl (Q.assign_tup rfl) ?_
    | refine XOps.s rfl rfl rfl (Q.assign_ep rfl) ?_
    | refine XOps.s rfl rfl rfl (Q.assign_dp rfl) ?_
    | refine XOps.s rfl rfl rfl (Q.assign_dcut rfl) ?_
    | refine XOps.s rfl rfl rfl (Q.assign rfl) ?_
  first
    | refine XOps.s rfl rfl rfl (Q.assign_d rfl) ?_
    | refine XOps.s rfl rfl rfl (Q.assign_vs rfl) ?_
    | refine XOps.s rfl rfl rfl (Q.assign_ptr rfl) ?_
    | refine XOps.s rfl rfl rfl (Q.assign_nilsl rfl) ?_
    | refine XOps.s rfl rfl rfl (Q.assign_fn rfl) ?_
    | refine XOps.s rfl rfl rfl (Q.assign_tup rfl) ?_
    | refine XOps.s rfl rfl rfl (Q.assign_ep rfl) ?_
    | refine XOps.s rfl rfl rfl (Q.assign_dp rfl) ?_
    | refine XOps.s rfl rfl rfl (Q.assign_dcut rfl) ?_
    | refine XOps.s rfl rfl rfl (Q.assign rfl) ?_
  refine XOps.nil ?_
  refine W.seq ?_
  refine W.reg ?_
  first
    | refine XOps.s rfl rfl rfl (Q.move_d rfl) ?_
    | refine XOps.s rfl rfl rfl (Q.move_vs rfl) ?_
    | refine XOps.s rfl rfl rfl (Q.move_ptr rfl) ?_
    | refine XOps.s rfl rfl rfl (Q.move_nilsl rfl) ?_
    | refine XOps.s rfl rfl rfl (Q.move_fn rfl) ?_
    | refine XOps.s rfl rfl rfl (Q.move_tup rfl) ?_
    | refine XOps.s rfl rfl rfl (Q.move_ep rfl) ?_
    | refine XOps.s rfl rfl rfl (Q.move_dp rfl) ?_
    | refine XOps.s rfl rfl rfl (Q.move_dcut rfl) ?_
    | refine XOps.s rfl rfl rfl (Q.move rfl) ?_
  first
    | refine XOps.s rfl rfl rfl (Q.neq rfl rfl) ?_
    | refine XOps.s rfl rfl rfl (Q.neq_str rfl rfl) ?_
  refine XOps.nil ?_
  refine W.cond rfl (fun hc24 => ?_) (fun hc24 => ?_)
  · try simp only [Bool.or_eq_true, Bool.or_eq_false_iff, Bool.and_eq_true, Bool.and_eq_false_iff, decide_eq_true_eq, decide_eq_false_iff_not, Bool.not_eq_true', Bool.not_eq_false', Int.not_lt, Int.not_le, List.length_map] at hc24
    have hob := ordS_bad hc24
    rw [hob]
    refine W.reg ?_
    refine XOps.s rfl rfl rfl (Q.call rfl Try.func9 go9 rfl (fact_c _)) ?_
    first
      | refine XOps.s rfl rfl rfl (Q.move_d rfl) ?_
      | refine XOps.s rfl rfl rfl (Q.move_vs rfl) ?_
      | refine XOps.s rfl rfl rfl (Q.move_ptr rfl) ?_
      | refine XOps.s rfl rfl rfl (Q.move_nilsl rfl) ?_
      | refine XOps.s rfl rfl rfl (Q.move_fn rfl) ?_
      | refine XOps.s rfl rfl rfl (Q.move_tup rfl) ?_
      | refine XOps.s rfl rfl rfl (Q.move_ep rfl) ?_
      | refine XOps.s rfl rfl rfl (Q.move_dp rfl) ?_
      | refine XOps.s rfl rfl rfl (Q.move_dcut rfl) ?_
      | refine XOps.s rfl rfl rfl (Q.move rfl) ?_
    first
      | refine XOps.gs rfl rfl rfl rfl rfl rfl rfl (fun hg => Q.move_d rfl) ?_
      | refine XOps.gs rfl rfl rfl rfl rfl rfl rfl (fun hg => Q.move_vs rfl) ?_
      | refine XOps.gs rfl rfl rfl rfl rfl rfl rfl (fun hg => Q.move_ptr rfl) ?_
      | refine XOps.gs rfl rfl rfl rfl rfl rfl rfl (fun hg => Q.move_nilsl rfl) ?_
      | refine XOps.gs rfl rfl rfl rfl rfl rfl rfl (fun hg => Q.move_fn rfl) ?_
      | refine XOps.gs rfl rfl rfl rfl rfl rfl rfl (fun hg => Q.move_tup rfl) ?_
      | refine XOps.gs rfl rfl rfl rfl rfl rfl rfl (fun hg => Q.move_ep rfl) ?_
      | refine XOps.gs rfl rfl rfl rfl rfl rfl rfl (fun hg => Q.move_dp rfl) ?_
      | refine XOps.gs rfl rfl rfl rfl rfl rfl rfl (fun hg => Q.move_dcut rfl) ?_
      | refine XOps.gs rfl rfl rfl rfl rfl rfl rfl (fun hg => Q.move rfl) ?_
    first
      | refine XOps.gs rfl rfl rfl rfl rfl rfl rfl (fun hg => Quiet.open 27 hg rfl (Q.len_sl isl25 rfl)) ?_
      | refine XOps.gs rfl rfl rfl rfl rfl rfl rfl (fun hg => Quiet.open 27 hg rfl (Q.len_vs isl25 rfl)) ?_
      | refine XOps.gs rfl rfl rfl rfl rfl rfl rfl (fun hg => Quiet.open 27 hg rfl (Q.len_nil isl25 rfl)) ?_
      | refine XOps.gs rfl rfl rfl rfl rfl rfl rfl (fun hg => Quiet.open 27 hg rfl (Q.len_dcut isl25 rfl)) ?_
    first
      | refine XOps.gs rfl rfl rfl rfl rfl rfl rfl (fun hg => Quiet.open 28 hg rfl (Q.eql rfl rfl)) ?_
      | refine XOps.gs rfl rfl rfl rfl rfl rfl rfl (fun hg => Quiet.open 28 hg rfl (Q.eql_str rfl rfl)) ?_
    first
      | refine XOps.s rfl rfl rfl (Q.pick_and rfl rfl rfl (fun h => by rw [h]; rfl)) ?_
      | refine XOps.s rfl rfl rfl (Q.pick_or rfl rfl rfl (fun h => by rw [h]; rfl)) ?_
      | refine XOps.s rfl rfl rfl (Q.pick rfl rfl rfl) ?_
    first
      | refine XOps.s rfl rfl rfl (Q.assign_d rfl) ?_
      | refine XOps.s rfl rfl rfl (Q.assign_vs rfl) ?_
      | refine XOps.s rfl rfl rfl (Q.assign_ptr rfl) ?_
      | refine XOps.s rfl rfl rfl (Q.assign_nilsl rfl) ?_
      | refine XOps.s rfl rfl rfl (Q.assign_fn rfl) ?_
      | refine XOps.s rfl rfl rfl (Q.assign_tup rfl) ?_
      | refine XOps.s rfl rfl rfl (Q.assign_ep rfl) ?_
      | refine XOps.s rfl rfl rfl (Q.assign_dp rfl) ?_
      | refine XOps.s rfl rfl rfl (Q.assign_dcut rfl) ?_
      | refine XOps.s rfl rfl rfl (Q.assign rfl) ?_
    refine XOps.nil ?_
    refine W.ret ?_
    refine ⟨_, hs, rfl, by repeat (first | exact HLe.refl _ | refine HLe.cons' (by first | rfl | (simp [Item.enc, pick]; done)) ?_ | refine HLe.skip _ ?_), ?_⟩
    first | rfl | (simp; done) | (rw [hlate2]; simp [hpl, hol]; done) | (rw [hlate2]; simp [hpl, hol]; rfl)
  · try simp only [Bool.or_eq_true, Bool.or_eq_false_iff, Bool.and_eq_true, Bool.and_eq_false_iff, decide_eq_true_eq, decide_eq_false_iff_not, Bool.not_eq_true', Bool.not_eq_false', Int.not_lt, Int.not_le, List.length_map] at hc24
    have hoe : (ordS (l.take 6) gv).2 = 0 := by omega
    obtain ⟨hc0, hlt, hol, hpc, hlate, hno⟩ := ordS_ok hoe
    have hpl := pick_length (l.take 6) (ordS (l.take 6) gv).1
    have hlate2 : lateS (pick (l.take 6) (ordS (l.take 6) gv).1) (timesS (pick (l.take 6) (ordS (l.take 6) gv).1) gv) (pick (l.take 6) (ordS (l.take 6) gv).1).length = [] := by rw [hpl, hol]; exact hlate
    refine W.skip ?_
    refine W.reg ?_
    first
      | refine XOps.s rfl rfl rfl (Q.assign_d rfl) ?_
      | refine XOps.s rfl rfl rfl (Q.assign_vs rfl) ?_
      | refine XOps.s rfl rfl rfl (Q.assign_ptr rfl) ?_
      | refine XOps.s rfl rfl rfl (Q.assign_nilsl rfl) ?_
      | refine XOps.s rfl rfl rfl (Q.assign_fn rfl) ?_
      | refine XOps.s rfl rfl rfl (Q.assign_tup rfl) ?_
      | refine XOps.s rfl rfl rfl (Q.assign_ep rfl) ?_
      | refine XOps.s rfl rfl rfl (Q.assign_dp rfl) ?_
      | refine XOps.s rfl rfl rfl (Q.assign_dcut rfl) ?_
      | refine XOps.s rfl rfl rfl (Q.assign rfl) ?_
    refine XOps.nil ?_
    refine W.seq ?_
    refine W.ghost 7 4 (by decide) rfl (by decide) (fun v7 => ?_)
    refine W.reg ?_
    first
      | refine XOps.s rfl rfl rfl (Q.move_d rfl) ?_
      | refine XOps.s rfl rfl rfl (Q.move_vs rfl) ?_
      | refine XOps.s rfl rfl rfl (Q.move_ptr rfl) ?_
      | refine XOps.s rfl rfl rfl (Q.move_nilsl rfl) ?_
      | refine XOps.s rfl rfl rfl (Q.move_fn rfl) ?_
      | refine XOps.s rfl rfl rfl (Q.move_tup rfl) ?_
      | refine XOps.s rfl rfl rfl (Q.move_ep rfl) ?_
      | refine XOps.s rfl rfl rfl (Q.move_dp rfl) ?_
      | refine XOps.s rfl rfl rfl (Q.move_dcut rfl) ?_
      | refine XOps.s rfl rfl rfl (Q.move rfl) ?_
    first
      | refine XOps.s rfl rfl rfl (Q.len_sl isl25 rfl) ?_
      | refine XOps.s rfl rfl rfl (Q.len_vs isl25 rfl) ?_
      | refine XOps.s rfl rfl rfl (Q.len_nil isl25 rfl) ?_
      | refine XOps.s rfl rfl rfl (Q.len_dcut isl25 rfl) ?_
    first
      | refine XOps.s rfl rfl rfl (Q.move_d rfl) ?_
      | refine XOps.s rfl rfl rfl (Q.move_vs rfl) ?_
      | refine XOps.s rfl rfl rfl (Q.move_ptr rfl) ?_
      | refine XOps.s rfl rfl rfl (Q.move_nilsl rfl) ?_
      | refine XOps.s rfl rfl rfl (Q.move_fn rfl) ?_
      | refine XOps.s rfl rfl rfl (Q.move_tup rfl) ?_
      | refine XOps.s rfl rfl rfl (Q.move_ep rfl) ?_
      | refine XOps.s rfl rfl rfl (Q.move_dp rfl) ?_
      | refine XOps.s rfl rfl rfl (Q.move_dcut rfl) ?_
      | refine XOps.s rfl rfl rfl (Q.move rfl) ?_
    refine XOps.nil ?_
    refine W.block ?_
    refine W.loop (ι := Nat × Nat) (fun p => [(0, .d (slI (l.take 6))), (3, .ptr b3 0), (5, .d (.sl 1 ((ordS (l.take 6) gv).1.map nE))), (6, .d (.int .i64 (ordS (l.take 6) gv).2)), (7, .vs p.2 0 p.1 4), (31, .d (.sl 1 ((ordS (l.take 6) gv).1.map nE))), (32, .d (.int .i64 (ordS (l.take 6) gv).1.length)), (33, .d (.int .i64 p.1))]) (fun p => (p.2, .lst 4 ((((ordS (l.take 6) gv).1.take p.1).map (fun j => (l.take 6).getD j d0)).map Item.enc)) :: (b3, .cells ((gD gv).map .d)) :: hs) (fun p => p.1 ≤ (ordS (l.take 6) gv).1.length) (fun p => (ordS (l.take 6) gv).1.length - p.1) (0, v7) ?_ ?_ ?_ ?_
    · exact Nat.zero_le _
    · exact ⟨by first | rfl | exact len_eq (by simp) | exact int_eq (by simp; done) | exact int_eq (by omega), by first | rfl | exact len_eq (by simp) | exact int_eq (by simp; done) | exact int_eq (by omega), by first | rfl | exact len_eq (by simp) | exact int_eq (by simp; done) | exact int_eq (by omega), by first | rfl | exact len_eq (by simp) | exact int_eq (by simp; done) | exact int_eq (by omega), by first | rfl | exact len_eq (by simp) | exact int_eq (by simp; done) | exact int_eq (by omega), by first | rfl | exact len_eq (by simp) | exact int_eq (by simp; done) | exact int_eq (by omega), by first | rfl | exact len_eq (by simp) | exact int_eq (by simp; done) | exact int_eq (by omega), by first | rfl | exact len_eq (by simp) | exact int_eq (by simp; done) | exact int_eq (by omega), trivial⟩
    · repeat (first | exact HLe.refl _ | refine HLe.cons' (by first | rfl | (simp [Item.enc, pick]; done)) ?_ | refine HLe.skip _ ?_)
    · rintro ⟨k, v⟩ hk
      try dsimp only at hk ⊢
      refine W.reg ?_
      first
        | refine XOps.s rfl rfl rfl (Q.lss rfl rfl) ?_
        | refine XOps.s rfl rfl rfl (Q.lss_str rfl rfl) ?_
      refine XOps.nil ?_
      refine W.seq ?_
      refine W.cond rfl (fun hc34 => ?_) (fun hc34 => ?_)
      · try simp only [Bool.or_eq_true, Bool.or_eq_false_iff, Bool.and_eq_true, Bool.and_eq_false_iff, decide_eq_true_eq, decide_eq_false_iff_not, Bool.not_eq_true', Bool.not_eq_false', Int.not_lt, Int.not_le, List.length_map] at hc34
        obtain ⟨j, hj⟩ : ∃ j, (ordS (l.take 6) gv).1[k]? = some j := ⟨_, List.getElem?_eq_getElem (by omega)⟩
        have hjl := hlt j (List.mem_of_getElem? hj)
        obtain ⟨y, hy⟩ : ∃ y, (l.take 6)[j]? = some y := ⟨_, List.getElem?_eq_getElem hjl⟩
        have hyd : (l.take 6).getD j d0 = y := by simp only [List.getD_eq_getElem?_getD, hy, Option.getD_some]
        have hts : ((ordS (l.take 6) gv).1.take (k + 1)).map (fun j => (l.take 6).getD j d0) = ((ordS (l.take 6) gv).1.take k).map (fun j => (l.take 6).getD j d0) ++ [y] := by rw [List.take_add_one (i := k), hj, List.map_append]; simp only [Option.toList_some, List.map_cons, List.map_nil, hyd]
        refine W.skip ?_
        refine W.seq ?_
        refine W.block ?_
        refine W.reg ?_
        first
          | refine XOps.s rfl rfl rfl (Q.idx_sl sl25 (by decide) rfl rfl (by omega) (by first | exact map_at (by assumption) | exact map_at0 (by assumption) | assumption)) ?_
          | refine XOps.s rfl rfl rfl (Q.idx_vs (kk := 0) sl25 rfl rfl rfl (by omega) (by omega)) ?_
          | refine XOps.s rfl rfl rfl (Q.idx_vs (kk := 1) sl25 rfl rfl rfl (by omega) (by omega)) ?_
          | refine XOps.s rfl rfl rfl (Q.idx_vs (kk := 2) sl25 rfl rfl rfl (by omega) (by omega)) ?_
          | refine XOps.s rfl rfl rfl (Q.idx_vs (kk := 3) sl25 rfl rfl rfl (by omega) (by omega)) ?_
        first
          | refine XOps.s rfl rfl rfl (Q.ld_dp ag3 rfl rfl) ?_
          | refine XOps.s rfl rfl rfl (Q.ld_ptr (k := 0) ag3 rfl rfl rfl) ?_
          | refine XOps.s rfl rfl rfl (Q.ld_ptr (k := 1) ag3 rfl rfl rfl) ?_
          | refine XOps.s rfl rfl rfl (Q.ld_ptr (k := 2) ag3 rfl rfl rfl) ?_
          | refine XOps.s rfl rfl rfl (Q.ld_ptr (k := 3) ag3 rfl rfl rfl) ?_
          | refine XOps.s rfl rfl rfl (Q.ld_ep (k := 0) ag3 rfl rfl (by first | exact map_at (by assumption) | exact map_at0 (by assumption) | assumption) rfl) ?_
          | refine XOps.s rfl rfl rfl (Q.ld_ep (k := 1) ag3 rfl rfl (by first | exact map_at (by assumption) | exact map_at0 (by assumption) | assumption) rfl) ?_
          | refine XOps.s rfl rfl rfl (Q.ld_ep (k := 2) ag3 rfl rfl (by first | exact map_at (by assumption) | exact map_at0 (by assumption) | assumption) rfl) ?_
          | refine XOps.s rfl rfl rfl (Q.ld_ep (k := 3) ag3 rfl rfl (by first | exact map_at (by assumption) | exact map_at0 (by assumption) | assumption) rfl) ?_
        first
          | refine XOps.s rfl rfl rfl (Q.assign_d rfl) ?_
          | refine XOps.s rfl rfl rfl (Q.assign_vs rfl) ?_
          | refine XOps.s rfl rfl rfl (Q.assign_ptr rfl) ?_
          | refine XOps.s rfl rfl rfl (Q.assign_nilsl rfl) ?_
          | refine XOps.s rfl rfl rfl (Q.assign_fn rfl) ?_
          | refine XOps.s rfl rfl rfl (Q.assign_tup rfl) ?_
          | refine XOps.s rfl rfl rfl (Q.assign_ep rfl) ?_
          | refine XOps.s rfl rfl rfl (Q.assign_dp rfl) ?_
          | refine XOps.s rfl rfl rfl (Q.assign_dcut rfl) ?_
          | refine XOps.s rfl rfl rfl (Q.assign rfl) ?_
        refine XOps.nil ?_
        refine W.seq ?_
        refine W.reg ?_
        first
          | refine XOps.s rfl rfl rfl (Q.move_d rfl) ?_
          | refine XOps.s rfl rfl rfl (Q.move_vs rfl) ?_
          | refine XOps.s rfl rfl rfl (Q.move_ptr rfl) ?_
          | refine XOps.s rfl rfl rfl (Q.move_nilsl rfl) ?_
          | refine XOps.s rfl rfl rfl (Q.move_fn rfl) ?_
          | refine XOps.s rfl rfl rfl (Q.move_tup rfl) ?_
          | refine XOps.s rfl rfl rfl (Q.move_ep rfl) ?_
          | refine XOps.s rfl rfl rfl (Q.move_dp rfl) ?_
          | refine XOps.s rfl rfl rfl (Q.move_dcut rfl) ?_
          | refine XOps.s rfl rfl rfl (Q.move rfl) ?_
        first
          | refine XOps.s rfl rfl rfl (Q.lss rfl rfl) ?_
          | refine XOps.s rfl rfl rfl (Q.lss_str rfl rfl) ?_
        first
          | refine XOps.s rfl rfl rfl (Q.move_d rfl) ?_
          | refine XOps.s rfl rfl rfl (Q.move_vs rfl) ?_
          | refine XOps.s rfl rfl rfl (Q.move_ptr rfl) ?_
          | refine XOps.s rfl rfl rfl (Q.move_nilsl rfl) ?_
          | refine XOps.s rfl rfl rfl (Q.move_fn rfl) ?_
          | refine XOps.s rfl rfl rfl (Q.move_tup rfl) ?_
          | refine XOps.s rfl rfl rfl (Q.move_ep rfl) ?_
          | refine XOps.s rfl rfl rfl (Q.move_dp rfl) ?_
          | refine XOps.s rfl rfl rfl (Q.move_dcut rfl) ?_
          | refine XOps.s rfl rfl rfl (Q.move rfl) ?_
        first
          | refine XOps.gs rfl rfl rfl rfl rfl rfl rfl (fun hg => Q.move_d rfl) ?_
          | refine XOps.gs rfl rfl rfl rfl rfl rfl rfl (fun hg => Q.move_vs rfl) ?_
          | refine XOps.gs rfl rfl rfl rfl rfl rfl rfl (fun hg => Q.move_ptr rfl) ?_
          | refine XOps.gs rfl rfl rfl rfl rfl rfl rfl (fun hg => Q.move_nilsl rfl) ?_
          | refine XOps.gs rfl rfl rfl rfl rfl rfl rfl (fun hg => Q.move_fn rfl) ?_
          | refine XOps.gs rfl rfl rfl rfl rfl rfl rfl (fun hg => Q.move_tup rfl) ?_
          | refine XOps.gs rfl rfl rfl rfl rfl rfl rfl (fun hg => Q.move_ep rfl) ?_
          | refine XOps.gs rfl rfl rfl rfl rfl rfl rfl (fun hg => Q.move_dp rfl) ?_
          | refine XOps.gs rfl rfl rfl rfl rfl rfl rfl (fun hg => Q.move_dcut rfl) ?_
          | refine XOps.gs rfl rfl rfl rfl rfl rfl rfl (fun hg => Q.move rfl) ?_
        first
          | refine XOps.gs rfl rfl rfl rfl rfl rfl rfl (fun hg => Q.move_d rfl) ?_
          | refine XOps.gs rfl rfl rfl rfl rfl rfl rfl (fun hg => Q.move_vs rfl) ?_
          | refine XOps.gs rfl rfl rfl rfl rfl rfl rfl (fun hg => Q.move_ptr rfl) ?_
          | refine XOps.gs rfl rfl rfl rfl rfl rfl rfl (fun hg => Q.move_nilsl rfl) ?_
          | refine XOps.gs rfl rfl rfl rfl rfl rfl rfl (fun hg => Q.move_fn rfl) ?_
          | refine XOps.gs rfl rfl rfl rfl rfl rfl rfl (fun hg => Q.move_tup rfl) ?_
          | refine XOps.gs rfl rfl rfl rfl rfl rfl rfl (fun hg => Q.move_ep rfl) ?_
          | refine XOps.gs rfl rfl rfl rfl rfl rfl rfl (fun hg => Q.move_dp rfl) ?_
          | refine XOps.gs rfl rfl rfl rfl rfl rfl rfl (fun hg => Q.move_dcut rfl) ?_
          | refine XOps.gs rfl rfl rfl rfl rfl rfl rfl (fun hg => Q.move rfl) ?_
        first
          | refine XOps.gs rfl rfl rfl rfl rfl rfl rfl (fun hg => Quiet.open 41 hg rfl (Q.len_sl isl22 rfl)) ?_
          | refine XOps.gs rfl rfl rfl rfl rfl rfl rfl (fun hg => Quiet.open 41 hg rfl (Q.len_vs isl22 rfl)) ?_
          | refine XOps.gs rfl rfl rfl rfl rfl rfl rfl (fun hg => Quiet.open 41 hg rfl (Q.len_nil isl22 rfl)) ?_
          | refine XOps.gs rfl rfl rfl rfl rfl rfl rfl (fun hg => Quiet.open 41 hg rfl (Q.len_dcut isl22 rfl)) ?_
        first
          | refine XOps.gs rfl rfl rfl rfl rfl rfl rfl (fun hg => Quiet.open 40 hg rfl (Quiet.open 42 hg rfl (Q.geq rfl rfl))) ?_
          | refine XOps.gs rfl rfl rfl rfl rfl rfl rfl (fun hg => Quiet.open 40 hg rfl (Quiet.open 42 hg rfl (Q.geq_str rfl rfl))) ?_
        first
          | refine XOps.s rfl rfl rfl (Q.pick_and rfl rfl rfl (fun h => by rw [h]; rfl)) ?_
          | refine XOps.s rfl rfl rfl (Q.pick_or rfl rfl rfl (fun h => by rw [h]; rfl)) ?_
          | refine XOps.s rfl rfl rfl (Q.pick rfl rfl rfl) ?_
        refine XOps.nil ?_
        refine W.cond rfl (fun hc44 => ?_) (fun hc44 => ?_)
        · try simp only [Bool.or_eq_true, Bool.or_eq_false_iff, Bool.and_eq_true, Bool.and_eq_false_iff, decide_eq_true_eq, decide_eq_false_iff_not, Bool.not_eq_true', Bool.not_eq_false', Int.not_lt, Int.not_le, List.length_map] at hc44
          exact absurd hc44 (by omega)
        · try simp only [Bool.or_eq_true, Bool.or_eq_false_iff, Bool.and_eq_true, Bool.and_eq_false_iff, decide_eq_true_eq, decide_eq_false_iff_not, Bool.not_eq_true', Bool.not_eq_false', Int.not_lt, Int.not_le, List.length_map] at hc44
          refine W.skip ?_
          refine W.region ?_
          first
            | refine XOps.s rfl rfl rfl (Q.move_d rfl) ?_
            | refine XOps.s rfl rfl rfl (Q.move_vs rfl) ?_
            | refine XOps.s rfl rfl rfl (Q.move_ptr rfl) ?_
            | refine XOps.s rfl rfl rfl (Q.move_nilsl rfl) ?_
            | refine XOps.s rfl rfl rfl (Q.move_fn rfl) ?_
            | refine XOps.s rfl rfl rfl (Q.move_tup rfl) ?_
            | refine XOps.s rfl rfl rfl (Q.move_ep rfl) ?_
            | refine XOps.s rfl rfl rfl (Q.move_dp rfl) ?_
            | refine XOps.s rfl rfl rfl (Q.move_dcut rfl) ?_
            | refine XOps.s rfl rfl rfl (Q.move rfl) ?_
          first
            | refine XOps.s rfl rfl rfl (Q.move_d rfl) ?_
            | refine XOps.s rfl rfl rfl (Q.move_vs rfl) ?_
            | refine XOps.s rfl rfl rfl (Q.move_ptr rfl) ?_
            | refine XOps.s rfl rfl rfl (Q.move_nilsl rfl) ?_
            | refine XOps.s rfl rfl rfl (Q.move_fn rfl) ?_
            | refine XOps.s rfl rfl rfl (Q.move_tup rfl) ?_
            | refine XOps.s rfl rfl rfl (Q.move_ep rfl) ?_
            | refine XOps.s rfl rfl rfl (Q.move_dp rfl) ?_
            | refine XOps.s rfl rfl rfl (Q.move_dcut rfl) ?_
            | refine XOps.s rfl rfl rfl (Q.move rfl) ?_
          first
            | refine XOps.s rfl rfl rfl (Q.move_d rfl) ?_
            | refine XOps.s rfl rfl rfl (Q.move_vs rfl) ?_
            | refine XOps.s rfl rfl rfl (Q.move_ptr rfl) ?_
            | refine XOps.s rfl rfl rfl (Q.move_nilsl rfl) ?_
            | refine XOps.s rfl rfl rfl (Q.move_fn rfl) ?_
            | refine XOps.s rfl rfl rfl (Q.move_tup rfl) ?_
            | refine XOps.s rfl rfl rfl (Q.move_ep rfl) ?_
            | refine XOps.s rfl rfl rfl (Q.move_dp rfl) ?_
            | refine XOps.s rfl rfl rfl (Q.move_dcut rfl) ?_
            | refine XOps.s rfl rfl rfl (Q.move rfl) ?_
          first
            | refine XOps.s rfl rfl rfl (Q.idx_sl sl22 (by decide) rfl rfl (by omega) (by first | exact map_at (by assumption) | exact map_at0 (by assumption) | assumption)) ?_
            | refine XOps.s rfl rfl rfl (Q.idx_vs (kk := 0) sl22 rfl rfl rfl (by omega) (by omega)) ?_
            | refine XOps.s rfl rfl rfl (Q.idx_vs (kk := 1) sl22 rfl rfl rfl (by omega) (by omega)) ?_
            | refine XOps.s rfl rfl rfl (Q.idx_vs (kk := 2) sl22 rfl rfl rfl (by omega) (by omega)) ?_
            | refine XOps.s rfl rfl rfl (Q.idx_vs (kk := 3) sl22 rfl rfl rfl (by omega) (by omega)) ?_
          first
            | refine XOps.s rfl rfl rfl (Q.ld_dpn ag32 rfl rfl) ?_
            | refine XOps.s rfl rfl rfl (Q.ld_ptrn (k := 0) ag32 rfl rfl rfl) ?_
            | refine XOps.s rfl rfl rfl (Q.ld_ptrn (k := 1) ag32 rfl rfl rfl) ?_
            | refine XOps.s rfl rfl rfl (Q.ld_ptrn (k := 2) ag32 rfl rfl rfl) ?_
            | refine XOps.s rfl rfl rfl (Q.ld_ptrn (k := 3) ag32 rfl rfl rfl) ?_
            | refine XOps.s rfl rfl rfl (Q.ld_epn (k := 0) ag32 rfl rfl (by first | exact map_at (by assumption) | exact map_at0 (by assumption) | assumption) rfl) ?_
            | refine XOps.s rfl rfl rfl (Q.ld_epn (k := 1) ag32 rfl rfl (by first | exact map_at (by assumption) | exact map_at0 (by assumption) | assumption) rfl) ?_
            | refine XOps.s rfl rfl rfl (Q.ld_epn (k := 2) ag32 rfl rfl (by first | exact map_at (by assumption) | exact map_at0 (by assumption) | assumption) rfl) ?_
            | refine XOps.s rfl rfl rfl (Q.ld_epn (k := 3) ag32 rfl rfl (by first | exact map_at (by assumption) | exact map_at0 (by assumption) | assumption) rfl) ?_
          first
            | refine XOps.s rfl rfl rfl (Q.bsl1 sl22 zr22 rfl zrd22 rfl rfl) ?_
            | refine XOps.s rfl rfl rfl (Q.bsl1n sl22 (by decide) zr22 rfl zrd22 rfl rfl (by decide)) ?_
            | refine XOps.s rfl rfl rfl (Q.bsl sl22 (by decide) zr22 rfl zrd22 (by decide) rfl rfl) ?_
          first
            | (refine XOps.loud rfl (L.app_new ap22 (.inl rfl) (by first | exact .inl rfl | exact .inr (by simp)) rfl (by simp; omega) rfl) ?_; rintro _ _ ⟨v51, rfl, rfl⟩)
            | (refine XOps.loud rfl (L.app_new (rows := []) ap22 (.inr ⟨rfl, rfl⟩) (.inl rfl) rfl (by simp; omega) rfl) ?_; rintro _ _ ⟨v51, rfl, rfl⟩)
            | (refine XOps.loud rfl (L.app (k := 0) ap22 rfl rfl (by first | rfl | (simp [Nat.min_eq_left hk]; done)) rfl (by simp; omega) rfl) ?_; rintro _ _ ⟨v51, rfl, rfl⟩)
            | (refine XOps.loud rfl (L.app (k := 1) ap22 rfl rfl (by first | rfl | (simp [Nat.min_eq_left hk]; done)) rfl (by simp; omega) rfl) ?_; rintro _ _ ⟨v51, rfl, rfl⟩)
            | (refine XOps.loud rfl (L.app (k := 2) ap22 rfl rfl (by first | rfl | (simp [Nat.min_eq_left hk]; done)) rfl (by simp; omega) rfl) ?_; rintro _ _ ⟨v51, rfl, rfl⟩)
            | (refine XOps.loud rfl (L.app (k := 3) ap22 rfl rfl (by first | rfl | (simp [Nat.min_eq_left hk]; done)) rfl (by simp; omega) rfl) ?_; rintro _ _ ⟨v51, rfl, rfl⟩)
            | (refine XOps.loud rfl (L.app_in (k := 0) ap22 rfl rfl rfl (by simp; omega) (by simp; omega) rfl) ?_; rintro _ _ ⟨rfl, rfl⟩)
            | (refine XOps.loud rfl (L.app_in (k := 1) ap22 rfl rfl rfl (by simp; omega) (by simp; omega) rfl) ?_; rintro _ _ ⟨rfl, rfl⟩)
            | (refine XOps.loud rfl (L.app_in (k := 2) ap22 rfl rfl rfl (by simp; omega) (by simp; omega) rfl) ?_; rintro _ _ ⟨rfl, rfl⟩)
            | (refine XOps.loud rfl (L.app_in (k := 3) ap22 rfl rfl rfl (by simp; omega) (by simp; omega) rfl) ?_; rintro _ _ ⟨rfl, rfl⟩)
          first
            | refine XOps.s rfl rfl rfl (Q.assign_d rfl) ?_
            | refine XOps.s rfl rfl rfl (Q.assign_vs rfl) ?_
            | refine XOps.s rfl rfl rfl (Q.assign_ptr rfl) ?_
            | refine XOps.s rfl rfl rfl (Q.assign_nilsl rfl) ?_
            | refine XOps.s rfl rfl rfl (Q.assign_fn rfl) ?_
            | refine XOps.s rfl rfl rfl (Q.assign_tup rfl) ?_
            | refine XOps.s rfl rfl rfl (Q.assign_ep rfl) ?_
            | refine XOps.s rfl rfl rfl (Q.assign_dp rfl) ?_
            | refine XOps.s rfl rfl rfl (Q.assign_dcut rfl) ?_
            | refine XOps.s rfl rfl rfl (Q.assign rfl) ?_
          refine XOps.nil ?_
          refine W.region ?_
          first
            | refine XOps.s rfl rfl rfl (Q.add rfl rfl (wi64 (by omega) (by omega))) ?_
            | refine XOps.s rfl rfl rfl (Q.add rfl rfl rfl) ?_
            | refine XOps.s rfl rfl rfl (Q.adds rfl rfl (by omega)) ?_
          first
            | refine XOps.s rfl rfl rfl (Q.move_d rfl) ?_
            | refine XOps.s rfl rfl rfl (Q.move_vs rfl) ?_
            | refine XOps.s rfl rfl rfl (Q.move_ptr rfl) ?_
            | refine XOps.s rfl rfl rfl (Q.move_nilsl rfl) ?_
            | refine XOps.s rfl rfl rfl (Q.move_fn rfl) ?_
            | refine XOps.s rfl rfl rfl (Q.move_tup rfl) ?_
            | refine XOps.s rfl rfl rfl (Q.move_ep rfl) ?_
            | refine XOps.s rfl rfl rfl (Q.move_dp rfl) ?_
            | refine XOps.s rfl rfl rfl (Q.move_dcut rfl) ?_
            | refine XOps.s rfl rfl rfl (Q.move rfl) ?_
          refine XOps.nil ?_
          refine ⟨(k + 1, v51), ?_, ?_, ?_, ?_⟩
          · show k + 1 ≤ (ordS (l.take 6) gv).1.length; omega
          · show (ordS (l.take 6) gv).1.length - (k + 1) < (ordS (l.take 6) gv).1.length - k; omega
          · exact ⟨by first | rfl | exact len_eq (by simp) | exact int_eq (by simp; done) | exact int_eq (by omega), by first | rfl | exact len_eq (by simp) | exact int_eq (by simp; done) | exact int_eq (by omega), by first | rfl | exact len_eq (by simp) | exact int_eq (by simp; done) | exact int_eq (by omega), by first | rfl | exact len_eq (by simp) | exact int_eq (by simp; done) | exact int_eq (by omega), by exact vs_eq (by first | (simp; done) | (simp; omega) | omega), by first | rfl | exact len_eq (by simp) | exact int_eq (by simp; done) | exact int_eq (by omega), by first | rfl | exact len_eq (by simp) | exact int_eq (by simp; done) | exact int_eq (by omega), by first | rfl | exact len_eq (by simp) | exact int_eq (by simp; done) | exact int_eq (by omega), trivial⟩
          · refine HLe.cons' (by rw [hts]; simp [Item.enc]) ?_
            repeat (first | exact HLe.refl _ | refine HLe.skip _ ?_)
      · try simp only [Bool.or_eq_true, Bool.or_eq_false_iff, Bool.and_eq_true, Bool.and_eq_false_iff, decide_eq_true_eq, decide_eq_false_iff_not, Bool.not_eq_true', Bool.not_eq_false', Int.not_lt, Int.not_le, List.length_map] at hc34
        refine W.exit ?_
        obtain rfl : k = (ordS (l.take 6) gv).1.length := by omega
        refine W.freeze 7 0 rfl rfl (by simp) ?_
        refine W.as 7 (v' := .d (slI (pick (l.take 6) (ordS (l.take 6) gv).1))) (by decide) rfl (fun κ w O u h => by rw [show pick (l.take 6) (ordS (l.take 6) gv).1 = ((ordS (l.take 6) gv).1.take (ordS (l.take 6) gv).1.length).map (fun j => (l.take 6).getD j d0) from by rw [List.take_length]; rfl]; exact h) ?_
        refine W.reg ?_
        first
          | refine XOps.s rfl rfl rfl (Q.move_d rfl) ?_
          | refine XOps.s rfl rfl rfl (Q.move_vs rfl) ?_
          | refine XOps.s rfl rfl rfl (Q.move_ptr rfl) ?_
          | refine XOps.s rfl rfl rfl (Q.move_nilsl rfl) ?_
          | refine XOps.s rfl rfl rfl (Q.move_fn rfl) ?_
          | refine XOps.s rfl rfl rfl (Q.move_tup rfl) ?_
          | refine XOps.s rfl rfl rfl (Q.move_ep rfl) ?_
          | refine XOps.s rfl rfl rfl (Q.move_dp rfl) ?_
          | refine XOps.s rfl rfl rfl (Q.move_dcut rfl) ?_
          | refine XOps.s rfl rfl rfl (Q.move rfl) ?_
        first
          | refine XOps.s rfl rfl rfl (Q.ld_dpn ag24 rfl rfl) ?_
          | refine XOps.s rfl rfl rfl (Q.ld_ptrn (k := 0) ag24 rfl rfl rfl) ?_
          | refine XOps.s rfl rfl rfl (Q.ld_ptrn (k := 1) ag24 rfl rfl rfl) ?_
          | refine XOps.s rfl rfl rfl (Q.ld_ptrn (k := 2) ag24 rfl rfl rfl) ?_
          | refine XOps.s rfl rfl rfl (Q.ld_ptrn (k := 3) ag24 rfl rfl rfl) ?_
          | refine XOps.s rfl rfl rfl (Q.ld_epn (k := 0) ag24 rfl rfl (by first | exact map_at (by assumption) | exact map_at0 (by assumption) | assumption) rfl) ?_
          | refine XOps.s rfl rfl rfl (Q.ld_epn (k := 1) ag24 rfl rfl (by first | exact map_at (by assumption) | exact map_at0 (by assumption) | assumption) rfl) ?_
          | refine XOps.s rfl rfl rfl (Q.ld_epn (k := 2) ag24 rfl rfl (by first | exact map_at (by assumption) | exact map_at0 (by assumption) | assumption) rfl) ?_
          | refine XOps.s rfl rfl rfl (Q.ld_epn (k := 3) ag24 rfl rfl (by first | exact map_at (by assumption) | exact map_at0 (by assumption) | assumption) rfl) ?_
        refine XOps.s rfl rfl rfl (Q.call rfl Try.func17 go17 rfl (late_c (pick (l.take 6) (ordS (l.take 6) gv).1) gv _ hpc)) ?_
        first
          | refine XOps.s rfl rfl rfl (Q.move_d rfl) ?_
          | refine XOps.s rfl rfl rfl (Q.move_vs rfl) ?_
          | refine XOps.s rfl rfl rfl (Q.move_ptr rfl) ?_
          | refine XOps.s rfl rfl rfl (Q.move_nilsl rfl) ?_
          | refine XOps.s rfl rfl rfl (Q.move_fn rfl) ?_
          | refine XOps.s rfl rfl rfl (Q.move_tup rfl) ?_
          | refine XOps.s rfl rfl rfl (Q.move_ep rfl) ?_
          | refine XOps.s rfl rfl rfl (Q.move_dp rfl) ?_
          | refine XOps.s rfl rfl rfl (Q.move_dcut rfl) ?_
          | refine XOps.s rfl rfl rfl (Q.move rfl) ?_
        refine XOps.s rfl rfl rfl (Q.extract rfl rfl) ?_
        refine XOps.s rfl rfl rfl (Q.extract rfl rfl) ?_
        first
          | refine XOps.s rfl rfl rfl (Q.assign_d rfl) ?_
          | refine XOps.s rfl rfl rfl (Q.assign_vs rfl) ?_
          | refine XOps.s rfl rfl rfl (Q.assign_ptr rfl) ?_
          | refine XOps.s rfl rfl rfl (Q.assign_nilsl rfl) ?_
          | refine XOps.s rfl rfl rfl (Q.assign_fn rfl) ?_
          | refine XOps.s rfl rfl rfl (Q.assign_tup rfl) ?_
          | refine XOps.s rfl rfl rfl (Q.assign_ep rfl) ?_
          | refine XOps.s rfl rfl rfl (Q.assign_dp rfl) ?_
          | refine XOps.s rfl rfl rfl (Q.assign_dcut rfl) ?_
          | refine XOps.s rfl rfl rfl (Q.assign rfl) ?_
        first
          | refine XOps.s rfl rfl rfl (Q.assign_d rfl) ?_
          | refine XOps.s rfl rfl rfl (Q.assign_vs rfl) ?_
          | refine XOps.s rfl rfl rfl (Q.assign_ptr rfl) ?_
          | refine XOps.s rfl rfl rfl (Q.assign_nilsl rfl) ?_
          | refine XOps.s rfl rfl rfl (Q.assign_fn rfl) ?_
          | refine XOps.s rfl rfl rfl (Q.assign_tup rfl) ?_
          | refine XOps.s rfl rfl rfl (Q.assign_ep rfl) ?_
          | refine XOps.s rfl rfl rfl (Q.assign_dp rfl) ?_
          | refine XOps.s rfl rfl rfl (Q.assign_dcut rfl) ?_
          | refine XOps.s rfl rfl rfl (Q.assign rfl) ?_
        refine XOps.nil ?_
        refine W.reg ?_
        refine XOps.s rfl rfl rfl (Q.call rfl Try.func9 go9 rfl (fact_c _)) ?_
        first
          | refine XOps.s rfl rfl rfl (Q.move_d rfl) ?_
          | refine XOps.s rfl rfl rfl (Q.move_vs rfl) ?_
          | refine XOps.s rfl rfl rfl (Q.move_ptr rfl) ?_
          | refine XOps.s rfl rfl rfl (Q.move_nilsl rfl) ?_
          | refine XOps.s rfl rfl rfl (Q.move_fn rfl) ?_
          | refine XOps.s rfl rfl rfl (Q.move_tup rfl) ?_
          | refine XOps.s rfl rfl rfl (Q.move_ep rfl) ?_
          | refine XOps.s rfl rfl rfl (Q.move_dp rfl) ?_
          | refine XOps.s rfl rfl rfl (Q.move_dcut rfl) ?_
          | refine XOps.s rfl rfl rfl (Q.move rfl) ?_
        first
          | refine XOps.gs rfl rfl rfl rfl rfl rfl rfl (fun hg => Q.move_d rfl) ?_
          | refine XOps.gs rfl rfl rfl rfl rfl rfl rfl (fun hg => Q.move_vs rfl) ?_
          | refine XOps.gs rfl rfl rfl rfl rfl rfl rfl (fun hg => Q.move_ptr rfl) ?_
          | refine XOps.gs rfl rfl rfl rfl rfl rfl rfl (fun hg => Q.move_nilsl rfl) ?_
          | refine XOps.gs rfl rfl rfl rfl rfl rfl rfl (fun hg => Q.move_fn rfl) ?_
          | refine XOps.gs rfl rfl rfl rfl rfl rfl rfl (fun hg => Q.move_tup rfl) ?_
          | refine XOps.gs rfl rfl rfl rfl rfl rfl rfl (fun hg => Q.move_ep rfl) ?_
          | refine XOps.gs rfl rfl rfl rfl rfl rfl rfl (fun hg => Q.move_dp rfl) ?_
          | refine XOps.gs rfl rfl rfl rfl rfl rfl rfl (fun hg => Q.move_dcut rfl) ?_
          | refine XOps.gs rfl rfl rfl rfl rfl rfl rfl (fun hg => Q.move rfl) ?_
        first
          | refine XOps.gs rfl rfl rfl rfl rfl rfl rfl (fun hg => Quiet.open 61 hg rfl (Q.eql rfl rfl)) ?_
          | refine XOps.gs rfl rfl rfl rfl rfl rfl rfl (fun hg => Quiet.open 61 hg rfl (Q.eql_str rfl rfl)) ?_
        first
          | refine XOps.s rfl rfl rfl (Q.pick_and rfl rfl rfl (fun h => by rw [h]; rfl)) ?_
          | refine XOps.s rfl rfl rfl (Q.pick_or rfl rfl rfl (fun h => by rw [h]; rfl)) ?_
          | refine XOps.s rfl rfl rfl (Q.pick rfl rfl rfl) ?_
        first
          | refine XOps.s rfl rfl rfl (Q.move_d rfl) ?_
          | refine XOps.s rfl rfl rfl (Q.move_vs rfl) ?_
          | refine XOps.s rfl rfl rfl (Q.move_ptr rfl) ?_
          | refine XOps.s rfl rfl rfl (Q.move_nilsl rfl) ?_
          | refine XOps.s rfl rfl rfl (Q.move_fn rfl) ?_
          | refine XOps.s rfl rfl rfl (Q.move_tup rfl) ?_
          | refine XOps.s rfl rfl rfl (Q.move_ep rfl) ?_
          | refine XOps.s rfl rfl rfl (Q.move_dp rfl) ?_
          | refine XOps.s rfl rfl rfl (Q.move_dcut rfl) ?_
          | refine XOps.s rfl rfl rfl (Q.move rfl) ?_
        first
          | refine XOps.gs rfl rfl rfl rfl rfl rfl rfl (fun hg => Q.move_d rfl) ?_
          | refine XOps.gs rfl rfl rfl rfl rfl rfl rfl (fun hg => Q.move_vs rfl) ?_
          | refine XOps.gs rfl rfl rfl rfl rfl rfl rfl (fun hg => Q.move_ptr rfl) ?_
          | refine XOps.gs rfl rfl rfl rfl rfl rfl rfl (fun hg => Q.move_nilsl rfl) ?_
          | refine XOps.gs rfl rfl rfl rfl rfl rfl rfl (fun hg => Q.move_fn rfl) ?_
          | refine XOps.gs rfl rfl rfl rfl rfl rfl rfl (fun hg => Q.move_tup rfl) ?_
          | refine XOps.gs rfl rfl rfl rfl rfl rfl rfl (fun hg => Q.move_ep rfl) ?_
          | refine XOps.gs rfl rfl rfl rfl rfl rfl rfl (fun hg => Q.move_dp rfl) ?_
          | refine XOps.gs rfl rfl rfl rfl rfl rfl rfl (fun hg => Q.move_dcut rfl) ?_
          | refine XOps.gs rfl rfl rfl rfl rfl rfl rfl (fun hg => Q.move rfl) ?_
        first
          | refine XOps.gs rfl rfl rfl rfl rfl rfl rfl (fun hg => Quiet.open 65 hg rfl (Q.len_sl isl25 rfl)) ?_
          | refine XOps.gs rfl rfl rfl rfl rfl rfl rfl (fun hg => Quiet.open 65 hg rfl (Q.len_vs isl25 rfl)) ?_
          | refine XOps.gs rfl rfl rfl rfl rfl rfl rfl (fun hg => Quiet.open 65 hg rfl (Q.len_nil isl25 rfl)) ?_
          | refine XOps.gs rfl rfl rfl rfl rfl rfl rfl (fun hg => Quiet.open 65 hg rfl (Q.len_dcut isl25 rfl)) ?_
        first
          | refine XOps.gs rfl rfl rfl rfl rfl rfl rfl (fun hg => Quiet.open 66 hg rfl (Q.eql rfl rfl)) ?_
          | refine XOps.gs rfl rfl rfl rfl rfl rfl rfl (fun hg => Quiet.open 66 hg rfl (Q.eql_str rfl rfl)) ?_
        first
          | refine XOps.s rfl rfl rfl (Q.pick_and rfl rfl rfl (fun h => by rw [h]; rfl)) ?_
          | refine XOps.s rfl rfl rfl (Q.pick_or rfl rfl rfl (fun h => by rw [h]; rfl)) ?_
          | refine XOps.s rfl rfl rfl (Q.pick rfl rfl rfl) ?_
        first
          | refine XOps.s rfl rfl rfl (Q.move_d rfl) ?_
          | refine XOps.s rfl rfl rfl (Q.move_vs rfl) ?_
          | refine XOps.s rfl rfl rfl (Q.move_ptr rfl) ?_
          | refine XOps.s rfl rfl rfl (Q.move_nilsl rfl) ?_
          | refine XOps.s rfl rfl rfl (Q.move_fn rfl) ?_
          | refine XOps.s rfl rfl rfl (Q.move_tup rfl) ?_
          | refine XOps.s rfl rfl rfl (Q.move_ep rfl) ?_
          | refine XOps.s rfl rfl rfl (Q.move_dp rfl) ?_
          | refine XOps.s rfl rfl rfl (Q.move_dcut rfl) ?_
          | refine XOps.s rfl rfl rfl (Q.move rfl) ?_
        first
          | refine XOps.gs rfl rfl rfl rfl rfl rfl rfl (fun hg => Q.move_d rfl) ?_
          | refine XOps.gs rfl rfl rfl rfl rfl rfl rfl (fun hg => Q.move_vs rfl) ?_
          | refine XOps.gs rfl rfl rfl rfl rfl rfl rfl (fun hg => Q.move_ptr rfl) ?_
          | refine XOps.gs rfl rfl rfl rfl rfl rfl rfl (fun hg => Q.move_nilsl rfl) ?_
          | refine XOps.gs rfl rfl rfl rfl rfl rfl rfl (fun hg => Q.move_fn rfl) ?_
          | refine XOps.gs rfl rfl rfl rfl rfl rfl rfl (fun hg => Q.move_tup rfl) ?_
          | refine XOps.gs rfl rfl rfl rfl rfl rfl rfl (fun hg => Q.move_ep rfl) ?_
          | refine XOps.gs rfl rfl rfl rfl rfl rfl rfl (fun hg => Q.move_dp rfl) ?_
          | refine XOps.gs rfl rfl rfl rfl rfl rfl rfl (fun hg => Q.move_dcut rfl) ?_
          | refine XOps.gs rfl rfl rfl rfl rfl rfl rfl (fun hg => Q.move rfl) ?_
        first
          | refine XOps.gs rfl rfl rfl rfl rfl rfl rfl (fun hg => Quiet.open 70 hg rfl (Q.len_sl isl22 rfl)) ?_
          | refine XOps.gs rfl rfl rfl rfl rfl rfl rfl (fun hg => Quiet.open 70 hg rfl (Q.len_vs isl22 rfl)) ?_
          | refine XOps.gs rfl rfl rfl rfl rfl rfl rfl (fun hg => Quiet.open 70 hg rfl (Q.len_nil isl22 rfl)) ?_
          | refine XOps.gs rfl rfl rfl rfl rfl rfl rfl (fun hg => Quiet.open 70 hg rfl (Q.len_dcut isl22 rfl)) ?_
        first
          | refine XOps.gs rfl rfl rfl rfl rfl rfl rfl (fun hg => Q.move_d rfl) ?_
          | refine XOps.gs rfl rfl rfl rfl rfl rfl rfl (fun hg => Q.move_vs rfl) ?_
          | refine XOps.gs rfl rfl rfl rfl rfl rfl rfl (fun hg => Q.move_ptr rfl) ?_
          | refine XOps.gs rfl rfl rfl rfl rfl rfl rfl (fun hg => Q.move_nilsl rfl) ?_
          | refine XOps.gs rfl rfl rfl rfl rfl rfl rfl (fun hg => Q.move_fn rfl) ?_
          | refine XOps.gs rfl rfl rfl rfl rfl rfl rfl (fun hg => Q.move_tup rfl) ?_
          | refine XOps.gs rfl rfl rfl rfl rfl rfl rfl (fun hg => Q.move_ep rfl) ?_
          | refine XOps.gs rfl rfl rfl rfl rfl rfl rfl (fun hg => Q.move_dp rfl) ?_
          | refine XOps.gs rfl rfl rfl rfl rfl rfl rfl (fun hg => Q.move_dcut rfl) ?_
          | refine XOps.gs rfl rfl rfl rfl rfl rfl rfl (fun hg => Q.move rfl) ?_
        first
          | refine XOps.gs rfl rfl rfl rfl rfl rfl rfl (fun hg => Quiet.open 72 hg rfl (Q.len_sl isl22 rfl)) ?_
          | refine XOps.gs rfl rfl rfl rfl rfl rfl rfl (fun hg => Quiet.open 72 hg rfl (Q.len_vs isl22 rfl)) ?_
          | refine XOps.gs rfl rfl rfl rfl rfl rfl rfl (fun hg => Quiet.open 72 hg rfl (Q.len_nil isl22 rfl)) ?_
          | refine XOps.gs rfl rfl rfl rfl rfl rfl rfl (fun hg => Quiet.open 72 hg rfl (Q.len_dcut isl22 rfl)) ?_
        first
          | refine XOps.gs rfl rfl rfl rfl rfl rfl rfl (fun hg => Quiet.open 71 hg rfl (Quiet.open 73 hg rfl (Q.eql rfl rfl))) ?_
          | refine XOps.gs rfl rfl rfl rfl rfl rfl rfl (fun hg => Quiet.open 71 hg rfl (Quiet.open 73 hg rfl (Q.eql_str rfl rfl))) ?_
        first
          | refine XOps.s rfl rfl rfl (Q.pick_and rfl rfl rfl (fun h => by rw [h]; rfl)) ?_
          | refine XOps.s rfl rfl rfl (Q.pick_or rfl rfl rfl (fun h => by rw [h]; rfl)) ?_
          | refine XOps.s rfl rfl rfl (Q.pick rfl rfl rfl) ?_
        first
          | refine XOps.s rfl rfl rfl (Q.move_d rfl) ?_
          | refine XOps.s rfl rfl rfl (Q.move_vs rfl) ?_
          | refine XOps.s rfl rfl rfl (Q.move_ptr rfl) ?_
          | refine XOps.s rfl rfl rfl (Q.move_nilsl rfl) ?_
          | refine XOps.s rfl rfl rfl (Q.move_fn rfl) ?_
          | refine XOps.s rfl rfl rfl (Q.move_tup rfl) ?_
          | refine XOps.s rfl rfl rfl (Q.move_ep rfl) ?_
          | refine XOps.s rfl rfl rfl (Q.move_dp rfl) ?_
          | refine XOps.s rfl rfl rfl (Q.move_dcut rfl) ?_
          | refine XOps.s rfl rfl rfl (Q.move rfl) ?_
        first
          | refine XOps.gs rfl rfl rfl rfl rfl rfl rfl (fun hg => Q.move_d rfl) ?_
          | refine XOps.gs rfl rfl rfl rfl rfl rfl rfl (fun hg => Q.move_vs rfl) ?_
          | refine XOps.gs rfl rfl rfl rfl rfl rfl rfl (fun hg => Q.move_ptr rfl) ?_
          | refine XOps.gs rfl rfl rfl rfl rfl rfl rfl (fun hg => Q.move_nilsl rfl) ?_
          | refine XOps.gs rfl rfl rfl rfl rfl rfl rfl (fun hg => Q.move_fn rfl) ?_
          | refine XOps.gs rfl rfl rfl rfl rfl rfl rfl (fun hg => Q.move_tup rfl) ?_
          | refine XOps.gs rfl rfl rfl rfl rfl rfl rfl (fun hg => Q.move_ep rfl) ?_
          | refine XOps.gs rfl rfl rfl rfl rfl rfl rfl (fun hg => Q.move_dp rfl) ?_
          | refine XOps.gs rfl rfl rfl rfl rfl rfl rfl (fun hg => Q.move_dcut rfl) ?_
          | refine XOps.gs rfl rfl rfl rfl rfl rfl rfl (fun hg => Q.move rfl) ?_
        refine XOps.gs rfl rfl rfl rfl rfl rfl rfl (fun hg => Quiet.open 77 hg rfl (Q.call rfl Try.func18 go18 rfl (contains_c (l.take 6) _ (by omega) hno))) ?_
        refine XOps.gs rfl rfl rfl rfl rfl rfl rfl (fun hg => Quiet.open 78 hg rfl (Q.not rfl)) ?_
        first
          | refine XOps.s rfl rfl rfl (Q.pick_and rfl rfl rfl (fun h => by rw [h]; rfl)) ?_
          | refine XOps.s rfl rfl rfl (Q.pick_or rfl rfl rfl (fun h => by rw [h]; rfl)) ?_
          | refine XOps.s rfl rfl rfl (Q.pick rfl rfl rfl) ?_
        first
          | refine XOps.s rfl rfl rfl (Q.assign_d rfl) ?_
          | refine XOps.s rfl rfl rfl (Q.assign_vs rfl) ?_
          | refine XOps.s rfl rfl rfl (Q.assign_ptr rfl) ?_
          | refine XOps.s rfl rfl rfl (Q.assign_nilsl rfl) ?_
          | refine XOps.s rfl rfl rfl (Q.assign_fn rfl) ?_
          | refine XOps.s rfl rfl rfl (Q.assign_tup rfl) ?_
          | refine XOps.s rfl rfl rfl (Q.assign_ep rfl) ?_
          | refine XOps.s rfl rfl rfl (Q.assign_dp rfl) ?_
          | refine XOps.s rfl rfl rfl (Q.assign_dcut rfl) ?_
          | refine XOps.s rfl rfl rfl (Q.assign rfl) ?_
        refine XOps.nil ?_
        refine W.ret ?_
        refine ⟨_, hs, rfl, by repeat (first | exact HLe.refl _ | refine HLe.cons' (by first | rfl | (simp [Item.enc, pick]; done)) ?_ | refine HLe.skip _ ?_), ?_⟩
        first | rfl | (simp; done) | (rw [hlate2]; simp [hpl, hol]; done) | (rw [hlate2]; simp [hpl, hol]; rfl)
end Go.Proofs.YtiibdlifdneagaaA
