/- approach.search. -/
import Derived.Test.YtiibdlifdneagaaBase
import Derived.Test.YtiibdlifdneagaaWalkD
import Derived.Test.YtiibdlifdneagaaAbs14
set_option linter.unusedVariables false
set_option linter.unusedSimpArgs false
set_option linter.unnecessarySimpa false
namespace Go.Proofs.YtiibdlifdneagaaA.FWalkE
open Go
theorem ag24 : tAgg P 24 = some ((true, 16)) := by kernel_rfl
theorem ag3 : tAgg P 3 = some ((false, 1)) := by kernel_rfl
theorem ag32 : tAgg P 32 = some ((true, 4)) := by kernel_rfl
theorem ap25 : tApp P 25 = some ((1, 8)) := by kernel_rfl
theorem ar23 : tArr P 23 = some ((4, 1)) := by kernel_rfl
theorem ar24 : tArr P 24 = some ((4, 4)) := by kernel_rfl
theorem fl32_1 : tFld P 32 1 = some (1) := by kernel_rfl
theorem fl32_2 : tFld P 32 2 = some (2) := by kernel_rfl
theorem fl32_3 : tFld P 32 3 = some (3) := by kernel_rfl
theorem go24 : callGo Go.Proofs.Try.f24 = true := by kernel_rfl
theorem isl22 : isSl P 22 = true := by kernel_rfl
theorem isl25 : isSl P 25 = true := by kernel_rfl
theorem sl22 : tSl P 22 = some (4) := by kernel_rfl
theorem sl25 : tSl P 25 = some (1) := by kernel_rfl
theorem tz32 : tZero P 32 = some ([.string ⟨#[]⟩, .int .i64 0, .int .i64 0, .int .i64 0]) := by kernel_rfl
theorem zr25 : tZrow P 25 = some ([.int .i64 0]) := by kernel_rfl
theorem zrd25 : cellsD [.int .i64 0] = some ([.int .i64 0]) := rfl
end Go.Proofs.YtiibdlifdneagaaA.FWalkE
namespace Go.Proofs.YtiibdlifdneagaaA
open Go FWalkE
set_option maxHeartbeats 1000000 in
set_option maxRecDepth 100000 in
theorem search_c (l : List Item) (gv : Nat → Int) (hg : gapsOk gv) (hl : ∀ x ∈ l, itemOk x) (hn : l.length ≤ 32) : ∀ (n : Nat) (o : List Nat) (at' : List Int) (hs : Hp), o.length + n = l.length → (∀ j ∈ o, j < l.length) → at'.length = o.length →
    (∀ t ∈ at', 0 ≤ t ∧ t ≤ 200000 + 1000 * o.length) → AC P 24 [.d (slI l), .d (.agg (gD gv)), .d (.sl 1 (o.map nE)), .d (slN at')] hs (fun r h => r = resO 1 ((srch l gv n o at').map (fun r => r.map nE)) ∧ h = hs) := by
  intro n
  induction n using Nat.strongRecOn
  rename_i n ih
  intro o at' hs hlen ho hal hab
  refine AC.of 94 Try.func24 rfl rfl rfl ?_
  refine W.reg ?_
  first
    | (refine XOps.loud rfl (L.boxn rfl rfl) ?_; rintro _ _ ⟨b5, rfl, rfl⟩)
    | (refine XOps.loud rfl (L.box rfl rfl rfl) ?_; rintro _ _ ⟨b5, rfl, rfl⟩)
  first
    | refine XOps.s rfl rfl rfl (Q.assign_d rfl) ?_
    | refine XOps.s rfl rfl rfl (Q.assign_vs rfl) ?_
    | refine XOps.s rfl rfl rfl (Q.assign_ptr rfl) ?_
    | refine XOps.s rfl rfl rfl (Q.assign_nilsl rfl) ?_
    | refine XOps.s rfl rfl rfl (Q.assign_fn rfl) ?_
    | refine XOps.s rfl rfl rfl (Q.assign_tup rfl) ?_
    | refine XOps.s rfl rfl rfl (Q.assign_ep rfl) ?_
    | refine XOps.s rfl rfl rfl (Q.assign_dp rfl) ?_
    | refine XOps.s rfl rfl rfl (Q.assign_dcut rfl) ?_
    | refine XOps.s rfl rfl rfl (Q.assign rfl) ?_
  refine XOps.nil ?_
  refine W.seq ?_
  refine W.reg ?_
  first
    | refine XOps.s rfl rfl rfl (Q.move_d rfl) ?_
    | refine XOps.s rfl rfl rfl (Q.move_vs rfl) ?_
    | refine XOps.s rfl rfl rfl (Q.move_ptr rfl) ?_
    | refine XOps.s rfl rfl rfl (Q.move_nilsl rfl) ?_
    | refine XOps.s rfl rfl rfl (Q.move_fn rfl) ?_
    | refine XOps.s rfl rfl rfl (Q.move_tup rfl) ?_
    | refine XOps.s rfl rfl rfl (Q.move_ep rfl) ?_
    | refine XOps.s rfl rfl rfl (Q.move_dp rfl) ?_
    | refine XOps.s rfl rfl rfl (Q.move_dcut rfl) ?_
    | refine XOps.s rfl rfl rfl (Q.move rfl) ?_
  first
    | refine XOps.s rfl rfl rfl (Q.len_sl isl25 rfl) ?_
    | refine XOps.s rfl rfl rfl (Q.len_vs isl25 rfl) ?_
    | refine XOps.s rfl rfl rfl (Q.len_nil isl25 rfl) ?_
    | refine XOps.s rfl rfl rfl (Q.len_dcut isl25 rfl) ?_
  first
    | refine XOps.s rfl rfl rfl (Q.move_d rfl) ?_
    | refine XOps.s rfl rfl rfl (Q.move_vs rfl) ?_
    | refine XOps.s rfl rfl rfl (Q.move_ptr rfl) ?_
    | refine XOps.s rfl rfl rfl (Q.move_nilsl rfl) ?_
    | refine XOps.s rfl rfl rfl (Q.move_fn rfl) ?_
    | refine XOps.s rfl rfl rfl (Q.move_tup rfl) ?_
    | refine XOps.s rfl rfl rfl (Q.move_ep rfl) ?_
    | refine XOps.s rfl rfl rfl (Q.move_dp rfl) ?_
    | refine XOps.s rfl rfl rfl (Q.move_dcut rfl) ?_
    | refine XOps.s rfl rfl rfl (Q.move rfl) ?_
  first
    | refine XOps.s rfl rfl rfl (Q.len_sl isl22 rfl) ?_
    | refine XOps.s rfl rfl rfl (Q.len_vs isl22 rfl) ?_
    | refine XOps.s rfl rfl rfl (Q.len_nil isl22 rfl) ?_
    | refine XOps.s rfl rfl rfl (Q.len_dcut isl22 rfl) ?_
  first
    | refine XOps.s rfl rfl rfl (Q.eql rfl rfl) ?_
    | refine XOps.s rfl rfl rfl (Q.eql_str rfl rfl) ?_
  refine XOps.nil ?_
  refine W.cond rfl (fun hc20 => ?_) (fun hc20 => ?_)
  · try simp only [Bool.or_eq_true, Bool.or_eq_false_iff, Bool.and_eq_true, Bool.and_eq_false_iff, decide_eq_true_eq, decide_eq_false_iff_not, Bool.not_eq_true', Bool.not_eq_false', Int.not_lt, Int.not_le, List.length_map] at hc20
    obtain rfl : n = 0 := by omega
    have hres : srch l gv 0 o at' = some o := rfl
    refine W.reg ?_
    first
      | refine XOps.s rfl rfl rfl (Q.move_d rfl) ?_
      | refine XOps.s rfl rfl rfl (Q.move_vs rfl) ?_
      | refine XOps.s rfl rfl rfl (Q.move_ptr rfl) ?_
      | refine XOps.s rfl rfl rfl (Q.move_nilsl rfl) ?_
      | refine XOps.s rfl rfl rfl (Q.move_fn rfl) ?_
      | refine XOps.s rfl rfl rfl (Q.move_tup rfl) ?_
      | refine XOps.s rfl rfl rfl (Q.move_ep rfl) ?_
      | refine XOps.s rfl rfl rfl (Q.move_dp rfl) ?_
      | refine XOps.s rfl rfl rfl (Q.move_dcut rfl) ?_
      | refine XOps.s rfl rfl rfl (Q.move rfl) ?_
    first
      | refine XOps.s rfl rfl rfl (Q.assign_d rfl) ?_
      | refine XOps.s rfl rfl rfl (Q.assign_vs rfl) ?_
      | refine XOps.s rfl rfl rfl (Q.assign_ptr rfl) ?_
      | refine XOps.s rfl rfl rfl (Q.assign_nilsl rfl) ?_
      | refine XOps.s rfl rfl rfl (Q.assign_fn rfl) ?_
      | refine XOps.s rfl rfl rfl (Q.assign_tup rfl) ?_
      | refine XOps.s rfl rfl rfl (Q.assign_ep rfl) ?_
      | refine XOps.s rfl rfl rfl (Q.assign_dp rfl) ?_
      | refine XOps.s rfl rfl rfl (Q.assign_dcut rfl) ?_
      | refine XOps.s rfl rfl rfl (Q.assign rfl) ?_
    refine XOps.nil ?_
    refine W.ret ?_
    refine ⟨_, hs, rfl, by repeat (first | exact HLe.refl _ | refine HLe.cons' (by first | rfl | (simp; done)) ?_ | refine HLe.skip _ ?_), ?_, rfl⟩
    first | (show _ = resO _ _; rw [hres]; done) | (rw [hres]; rfl)
  · try simp only [Bool.or_eq_true, Bool.or_eq_false_iff, Bool.and_eq_true, Bool.and_eq_false_iff, decide_eq_true_eq, decide_eq_false_iff_not, Bool.not_eq_true', Bool.not_eq_false', Int.not_lt, Int.not_le, List.length_map] at hc20
    obtain ⟨m, rfl⟩ : ∃ m, n = m + 1 := ⟨n - 1, by omega⟩
    refine W.skip ?_
    refine W.seq ?_
    refine W.reg ?_
    first
      | refine XOps.s rfl rfl rfl (Q.move_d rfl) ?_
      | refine XOps.s rfl rfl rfl (Q.move_vs rfl) ?_
      | refine XOps.s rfl rfl rfl (Q.move_ptr rfl) ?_
      | refine XOps.s rfl rfl rfl (Q.move_nilsl rfl) ?_
      | refine XOps.s rfl rfl rfl (Q.move_fn rfl) ?_
      | refine XOps.s rfl rfl rfl (Q.move_tup rfl) ?_
      | refine XOps.s rfl rfl rfl (Q.move_ep rfl) ?_
      | refine XOps.s rfl rfl rfl (Q.move_dp rfl) ?_
      | refine XOps.s rfl rfl rfl (Q.move_dcut rfl) ?_
      | refine XOps.s rfl rfl rfl (Q.move rfl) ?_
    first
      | refine XOps.s rfl rfl rfl (Q.len_sl isl22 rfl) ?_
      | refine XOps.s rfl rfl rfl (Q.len_vs isl22 rfl) ?_
      | refine XOps.s rfl rfl rfl (Q.len_nil isl22 rfl) ?_
      | refine XOps.s rfl rfl rfl (Q.len_dcut isl22 rfl) ?_
    first
      | refine XOps.s rfl rfl rfl (Q.move_d rfl) ?_
      | refine XOps.s rfl rfl rfl (Q.move_vs rfl) ?_
      | refine XOps.s rfl rfl rfl (Q.move_ptr rfl) ?_
      | refine XOps.s rfl rfl rfl (Q.move_nilsl rfl) ?_
      | refine XOps.s rfl rfl rfl (Q.move_fn rfl) ?_
      | refine XOps.s rfl rfl rfl (Q.move_tup rfl) ?_
      | refine XOps.s rfl rfl rfl (Q.move_ep rfl) ?_
      | refine XOps.s rfl rfl rfl (Q.move_dp rfl) ?_
      | refine XOps.s rfl rfl rfl (Q.move_dcut rfl) ?_
      | refine XOps.s rfl rfl rfl (Q.move rfl) ?_
    refine XOps.nil ?_
    refine W.block ?_
    refine W.loop (ι := Nat) (fun i => [(0, .d (slI l)), (2, .d (.sl 1 (o.map nE))), (3, .d (slN at')), (5, .ptr b5 0), (22, .d (slI l)), (23, .d (.int .i64 l.length)), (24, .d (.int .i64 i))]) (fun i => (b5, .cells ((gD gv).map .d)) :: hs) (fun i => i ≤ l.length ∧ ∀ j, j < i → stepS l gv (srch l gv m) o at' j = none) (fun i => l.length - i) 0 ?_ ?_ ?_ ?_
    · exact ⟨Nat.zero_le _, fun j hj => absurd hj (Nat.not_lt_zero _)⟩
    · exact ⟨by first | rfl | exact len_eq (by simp) | exact int_eq (by simp; done) | exact int_eq (by omega), by first | rfl | exact len_eq (by simp) | exact int_eq (by simp; done) | exact int_eq (by omega), by first | rfl | exact len_eq (by simp) | exact int_eq (by simp; done) | exact int_eq (by omega), by first | rfl | exact len_eq (by simp) | exact int_eq (by simp; done) | exact int_eq (by omega), by first | rfl | exact len_eq (by simp) | exact int_eq (by simp; done) | exact int_eq (by omega), by first | rfl | exact len_eq (by simp) | exact int_eq (by simp; done) | exact int_eq (by omega), by first | rfl | exact len_eq (by simp) | exact int_eq (by simp; done) | exact int_eq (by omega), trivial⟩
    · repeat (first | exact HLe.refl _ | refine HLe.cons' (by first | rfl | (simp; done)) ?_ | refine HLe.skip _ ?_)
    · rintro i ⟨hi, hI⟩
      try dsimp only
      refine W.reg ?_
      first
        | refine XOps.s rfl rfl rfl (Q.lss rfl rfl) ?_
        | refine XOps.s rfl rfl rfl (Q.lss_str rfl rfl) ?_
      refine XOps.nil ?_
      refine W.seq ?_
      refine W.cond rfl (fun hc25 => ?_) (fun hc25 => ?_)
      · try simp only [Bool.or_eq_true, Bool.or_eq_false_iff, Bool.and_eq_true, Bool.and_eq_false_iff, decide_eq_true_eq, decide_eq_false_iff_not, Bool.not_eq_true', Bool.not_eq_false', Int.not_lt, Int.not_le, List.length_map] at hc25
        obtain ⟨x, hx⟩ : ∃ x, l[i]? = some x := ⟨_, List.getElem?_eq_getElem (by omega)⟩
        have hxd : l.getD i d0 = x := by simp [List.getD_eq_getElem?_getD, hx]
        refine W.skip ?_
        refine W.seq ?_
        refine W.block ?_
        refine W.reg ?_
        first
          | refine XOps.s rfl rfl rfl (Q.move_d rfl) ?_
          | refine XOps.s rfl rfl rfl (Q.move_vs rfl) ?_
          | refine XOps.s rfl rfl rfl (Q.move_ptr rfl) ?_
          | refine XOps.s rfl rfl rfl (Q.move_nilsl rfl) ?_
          | refine XOps.s rfl rfl rfl (Q.move_fn rfl) ?_
          | refine XOps.s rfl rfl rfl (Q.move_tup rfl) ?_
          | refine XOps.s rfl rfl rfl (Q.move_ep rfl) ?_
          | refine XOps.s rfl rfl rfl (Q.move_dp rfl) ?_
          | refine XOps.s rfl rfl rfl (Q.move_dcut rfl) ?_
          | refine XOps.s rfl rfl rfl (Q.move rfl) ?_
        first
          | refine XOps.s rfl rfl rfl (Q.idx_sl sl22 (by decide) rfl rfl (by omega) (by first | exact map_at (by assumption) | exact map_at0 (by assumption) | assumption)) ?_
          | refine XOps.s rfl rfl rfl (Q.idx_vs (kk := 0) sl22 rfl rfl rfl (by omega) (by omega)) ?_
          | refine XOps.s rfl rfl rfl (Q.idx_vs (kk := 1) sl22 rfl rfl rfl (by omega) (by omega)) ?_
          | refine XOps.s rfl rfl rfl (Q.idx_vs (kk := 2) sl22 rfl rfl rfl (by omega) (by omega)) ?_
          | refine XOps.s rfl rfl rfl (Q.idx_vs (kk := 3) sl22 rfl rfl rfl (by omega) (by omega)) ?_
        first
          | refine XOps.s rfl rfl rfl (Q.ld_dpn ag32 rfl rfl) ?_
          | refine XOps.s rfl rfl rfl (Q.ld_ptrn (k := 0) ag32 rfl rfl rfl) ?_
          | refine XOps.s rfl rfl rfl (Q.ld_ptrn (k := 1) ag32 rfl rfl rfl) ?_
          | refine XOps.s rfl rfl rfl (Q.ld_ptrn (k := 2) ag32 rfl rfl rfl) ?_
          | refine XOps.s rfl rfl rfl (Q.ld_ptrn (k := 3) ag32 rfl rfl rfl) ?_
          | refine XOps.s rfl rfl rfl (Q.ld_epn (k := 0) ag32 rfl rfl (by first | exact map_at (by assumption) | exact map_at0 (by assumption) | assumption) rfl) ?_
          | refine XOps.s rfl rfl rfl (Q.ld_epn (k := 1) ag32 rfl rfl (by first | exact map_at (by assumption) | exact map_at0 (by assumption) | assumption) rfl) ?_
          | refine XOps.s rfl rfl rfl (Q.ld_epn (k := 2) ag32 rfl rfl (by first | exact map_at (by assumption) | exact map_at0 (by assumption) | assumption) rfl) ?_
          | refine XOps.s rfl rfl rfl (Q.ld_epn (k := 3) ag32 rfl rfl (by first | exact map_at (by assumption) | exact map_at0 (by assumption) | assumption) rfl) ?_
        (refine XOps.loud rfl (L.alloc tz32 rfl rfl) ?_; rintro _ _ ⟨b10, rfl, rfl⟩)
        first
          | refine XOps.s rfl rfl rfl (Q.assign_d rfl) ?_
          | refine XOps.s rfl rfl rfl (Q.assign_vs rfl) ?_
          | refine XOps.s rfl rfl rfl (Q.assign_ptr rfl) ?_
          | refine XOps.s rfl rfl rfl (Q.assign_nilsl rfl) ?_
          | refine XOps.s rfl rfl rfl (Q.assign_fn rfl) ?_
          | refine XOps.s rfl rfl rfl (Q.assign_tup rfl) ?_
          | refine XOps.s rfl rfl rfl (Q.assign_ep rfl) ?_
          | refine XOps.s rfl rfl rfl (Q.assign_dp rfl) ?_
          | refine XOps.s rfl rfl rfl (Q.assign_dcut rfl) ?_
          | refine XOps.s rfl rfl rfl (Q.assign rfl) ?_
        first
          | (refine XOps.loud rfl (L.storen (k := 0) ag32 rfl rfl rfl rfl rfl) ?_; rintro _ _ ⟨rfl, rfl⟩)
          | (refine XOps.loud rfl (L.storen (k := 1) ag32 rfl rfl rfl rfl rfl) ?_; rintro _ _ ⟨rfl, rfl⟩)
          | (refine XOps.loud rfl (L.storen (k := 2) ag32 rfl rfl rfl rfl rfl) ?_; rintro _ _ ⟨rfl, rfl⟩)
          | (refine XOps.loud rfl (L.storen (k := 3) ag32 rfl rfl rfl rfl rfl) ?_; rintro _ _ ⟨rfl, rfl⟩)
          | (refine XOps.loud rfl (L.storen_ep (k := 0) ag32 rfl rfl (by first | exact map_at (by assumption) | exact map_at0 (by assumption) | assumption) rfl rfl rfl) ?_; rintro _ _ ⟨rfl, rfl⟩)
          | (refine XOps.loud rfl (L.storen_ep (k := 1) ag32 rfl rfl (by first | exact map_at (by assumption) | exact map_at0 (by assumption) | assumption) rfl rfl rfl) ?_; rintro _ _ ⟨rfl, rfl⟩)
          | (refine XOps.loud rfl (L.storen_ep (k := 2) ag32 rfl rfl (by first | exact map_at (by assumption) | exact map_at0 (by assumption) | assumption) rfl rfl rfl) ?_; rintro _ _ ⟨rfl, rfl⟩)
          | (refine XOps.loud rfl (L.storen_ep (k := 3) ag32 rfl rfl (by first | exact map_at (by assumption) | exact map_at0 (by assumption) | assumption) rfl rfl rfl) ?_; rintro _ _ ⟨rfl, rfl⟩)
        refine XOps.nil ?_
        refine W.reg ?_
        first
          | refine XOps.s rfl rfl rfl (Q.fld_ptr fl32_2 rfl) ?_
          | refine XOps.s rfl rfl rfl (Q.fld_dp fl32_2 rfl) ?_
          | refine XOps.s rfl rfl rfl (Q.fld_ep fl32_2 rfl) ?_
        first
          | refine XOps.s rfl rfl rfl (Q.ld_dp ag3 rfl rfl) ?_
          | refine XOps.s rfl rfl rfl (Q.ld_ptr (k := 0) ag3 rfl rfl rfl) ?_
          | refine XOps.s rfl rfl rfl (Q.ld_ptr (k := 1) ag3 rfl rfl rfl) ?_
          | refine XOps.s rfl rfl rfl (Q.ld_ptr (k := 2) ag3 rfl rfl rfl) ?_
          | refine XOps.s rfl rfl rfl (Q.ld_ptr (k := 3) ag3 rfl rfl rfl) ?_
          | refine XOps.s rfl rfl rfl (Q.ld_ep (k := 0) ag3 rfl rfl (by first | exact map_at (by assumption) | exact map_at0 (by assumption) | assumption) rfl) ?_
          | refine XOps.s rfl rfl rfl (Q.ld_ep (k := 1) ag3 rfl rfl (by first | exact map_at (by assumption) | exact map_at0 (by assumption) | assumption) rfl) ?_
          | refine XOps.s rfl rfl rfl (Q.ld_ep (k := 2) ag3 rfl rfl (by first | exact map_at (by assumption) | exact map_at0 (by assumption) | assumption) rfl) ?_
          | refine XOps.s rfl rfl rfl (Q.ld_ep (k := 3) ag3 rfl rfl (by first | exact map_at (by assumption) | exact map_at0 (by assumption) | assumption) rfl) ?_
        first
          | refine XOps.s rfl rfl rfl (Q.assign_d rfl) ?_
          | refine XOps.s rfl rfl rfl (Q.assign_vs rfl) ?_
          | refine XOps.s rfl rfl rfl (Q.assign_ptr rfl) ?_
          | refine XOps.s rfl rfl rfl (Q.assign_nilsl rfl) ?_
          | refine XOps.s rfl rfl rfl (Q.assign_fn rfl) ?_
          | refine XOps.s rfl rfl rfl (Q.assign_tup rfl) ?_
          | refine XOps.s rfl rfl rfl (Q.assign_ep rfl) ?_
          | refine XOps.s rfl rfl rfl (Q.assign_dp rfl) ?_
          | refine XOps.s rfl rfl rfl (Q.assign_dcut rfl) ?_
          | refine XOps.s rfl rfl rfl (Q.assign rfl) ?_
        first
          | refine XOps.s rfl rfl rfl (Q.assign_d rfl) ?_
          | refine XOps.s rfl rfl rfl (Q.assign_vs rfl) ?_
          | refine XOps.s rfl rfl rfl (Q.assign_ptr rfl) ?_
          | refine XOps.s rfl rfl rfl (Q.assign_nilsl rfl) ?_
          | refine XOps.s rfl rfl rfl (Q.assign_fn rfl) ?_
          | refine XOps.s rfl rfl rfl (Q.assign_tup rfl) ?_
          | refine XOps.s rfl rfl rfl (Q.assign_ep rfl) ?_
          | refine XOps.s rfl rfl rfl (Q.assign_dp rfl) ?_
          | refine XOps.s rfl rfl rfl (Q.assign_dcut rfl) ?_
          | refine XOps.s rfl rfl rfl (Q.assign rfl) ?_
        refine XOps.nil ?_
        refine W.seq ?_
        refine W.reg ?_
        first
          | refine XOps.s rfl rfl rfl (Q.move_d rfl) ?_
          | refine XOps.s rfl rfl rfl (Q.move_vs rfl) ?_
          | refine XOps.s rfl rfl rfl (Q.move_ptr rfl) ?_
          | refine XOps.s rfl rfl rfl (Q.move_nilsl rfl) ?_
          | refine XOps.s rfl rfl rfl (Q.move_fn rfl) ?_
          | refine XOps.s rfl rfl rfl (Q.move_tup rfl) ?_
          | refine XOps.s rfl rfl rfl (Q.move_ep rfl) ?_
          | refine XOps.s rfl rfl rfl (Q.move_dp rfl) ?_
          | refine XOps.s rfl rfl rfl (Q.move_dcut rfl) ?_
          | refine XOps.s rfl rfl rfl (Q.move rfl) ?_
        first
          | refine XOps.s rfl rfl rfl (Q.len_sl isl25 rfl) ?_
          | refine XOps.s rfl rfl rfl (Q.len_vs isl25 rfl) ?_
          | refine XOps.s rfl rfl rfl (Q.len_nil isl25 rfl) ?_
          | refine XOps.s rfl rfl rfl (Q.len_dcut isl25 rfl) ?_
        first
          | refine XOps.s rfl rfl rfl (Q.move_d rfl) ?_
          | refine XOps.s rfl rfl rfl (Q.move_vs rfl) ?_
          | refine XOps.s rfl rfl rfl (Q.move_ptr rfl) ?_
          | refine XOps.s rfl rfl rfl (Q.move_nilsl rfl) ?_
          | refine XOps.s rfl rfl rfl (Q.move_fn rfl) ?_
          | refine XOps.s rfl rfl rfl (Q.move_tup rfl) ?_
          | refine XOps.s rfl rfl rfl (Q.move_ep rfl) ?_
          | refine XOps.s rfl rfl rfl (Q.move_dp rfl) ?_
          | refine XOps.s rfl rfl rfl (Q.move_dcut rfl) ?_
          | refine XOps.s rfl rfl rfl (Q.move rfl) ?_
        refine XOps.nil ?_
        refine W.block ?_
        refine W.loop (ι := Nat × Bool) (fun q => [(0, .d (slI l)), (2, .d (.sl 1 (o.map nE))), (3, .d (slN at')), (5, .ptr b5 0), (22, .d (slI l)), (23, .d (.int .i64 l.length)), (24, .d (.int .i64 i)), (9, .d (.int .i64 i)), (10, .ptr b10 0), (11, (.d (.int .i64 (lnd l gv o at' i q.1)))), (12, .d (.bool q.2)), (31, .d (.sl 1 (o.map nE))), (32, .d (.int .i64 o.length)), (33, .d (.int .i64 q.1))]) (fun q => (b10, .cells [.d (.str x.call), .d (.int .i64 x.wake), .d (.int .i64 x.ready), .d (.int .i64 x.slot)]) :: (b5, .cells ((gD gv).map .d)) :: hs) (fun q => q.1 ≤ o.length ∧ q.2 = decide (i ∈ o.take q.1)) (fun q => o.length - q.1) (0, false) ?_ ?_ ?_ ?_
        · exact ⟨Nat.zero_le _, by simp⟩
        · exact ⟨by first | rfl | exact len_eq (by simp) | exact int_eq (by simp; done) | exact int_eq (by omega), by first | rfl | exact len_eq (by simp) | exact int_eq (by simp; done) | exact int_eq (by omega), by first | rfl | exact len_eq (by simp) | exact int_eq (by simp; done) | exact int_eq (by omega), by first | rfl | exact len_eq (by simp) | exact int_eq (by simp; done) | exact int_eq (by omega), by first | rfl | exact len_eq (by simp) | exact int_eq (by simp; done) | exact int_eq (by omega), by first | rfl | exact len_eq (by simp) | exact int_eq (by simp; done) | exact int_eq (by omega), by first | rfl | exact len_eq (by simp) | exact int_eq (by simp; done) | exact int_eq (by omega), by first | rfl | exact len_eq (by simp) | exact int_eq (by simp; done) | exact int_eq (by omega), by first | rfl | exact len_eq (by simp) | exact int_eq (by simp; done) | exact int_eq (by omega), by exact int_eq (by show _ = (l.getD i d0).ready; rw [hxd]), by first | rfl | exact len_eq (by simp) | exact int_eq (by simp; done) | exact int_eq (by omega), by first | rfl | exact len_eq (by simp) | exact int_eq (by simp; done) | exact int_eq (by omega), by first | rfl | exact len_eq (by simp) | exact int_eq (by simp; done) | exact int_eq (by omega), by first | rfl | exact len_eq (by simp) | exact int_eq (by simp; done) | exact int_eq (by omega), trivial⟩
        · repeat (first | exact HLe.refl _ | refine HLe.cons' (by first | rfl | (simp; done)) ?_ | refine HLe.skip _ ?_)
        · rintro ⟨k, u⟩ ⟨hk, hu⟩
          try dsimp only at hk hu ⊢
          refine W.reg ?_
          first
            | refine XOps.s rfl rfl rfl (Q.lss rfl rfl) ?_
            | refine XOps.s rfl rfl rfl (Q.lss_str rfl rfl) ?_
          refine XOps.nil ?_
          refine W.seq ?_
          refine W.cond rfl (fun hc34 => ?_) (fun hc34 => ?_)
          · try simp only [Bool.or_eq_true, Bool.or_eq_false_iff, Bool.and_eq_true, Bool.and_eq_false_iff, decide_eq_true_eq, decide_eq_false_iff_not, Bool.not_eq_true', Bool.not_eq_false', Int.not_lt, Int.not_le, List.length_map] at hc34
            obtain ⟨j, hj⟩ : ∃ j, o[k]? = some j := ⟨_, List.getElem?_eq_getElem (by omega)⟩
            have hjl := ho j (List.mem_of_getElem? hj)
            obtain ⟨y, hy⟩ : ∃ y, l[j]? = some y := ⟨_, List.getElem?_eq_getElem hjl⟩
            obtain ⟨tk, hat⟩ : ∃ t, at'[k]? = some t := ⟨_, List.getElem?_eq_getElem (by omega)⟩
            have hw1 := hl x (List.mem_of_getElem? hx)
            have hw2 := hl y (List.mem_of_getElem? hy)
            unfold itemOk at hw1 hw2
            have hgb := hg (4 * y.wake.toNat + x.wake.toNat) (by omega)
            have htk := hab tk (List.mem_of_getElem? hat)
            have hstep1 : lnd l gv o at' i (k + 1) = max (lnd l gv o at' i k) (tk + gv (4 * y.wake.toNat + x.wake.toNat)) := by
              simp only [lnd]; simp [List.getD_eq_getElem?_getD, hx, hj, hy, hat]
            refine W.skip ?_
            refine W.seq ?_
            refine W.block ?_
            refine W.reg ?_
            first
              | refine XOps.s rfl rfl rfl (Q.move_d rfl) ?_
              | refine XOps.s rfl rfl rfl (Q.move_vs rfl) ?_
              | refine XOps.s rfl rfl rfl (Q.move_ptr rfl) ?_
              | refine XOps.s rfl rfl rfl (Q.move_nilsl rfl) ?_
              | refine XOps.s rfl rfl rfl (Q.move_fn rfl) ?_
              | refine XOps.s rfl rfl rfl (Q.move_tup rfl) ?_
              | refine XOps.s rfl rfl rfl (Q.move_ep rfl) ?_
              | refine XOps.s rfl rfl rfl (Q.move_dp rfl) ?_
              | refine XOps.s rfl rfl rfl (Q.move_dcut rfl) ?_
              | refine XOps.s rfl rfl rfl (Q.move rfl) ?_
            first
              | refine XOps.s rfl rfl rfl (Q.idx_sl sl25 (by decide) rfl rfl (by omega) (by first | exact map_at (by assumption) | exact map_at0 (by assumption) | assumption)) ?_
              | refine XOps.s rfl rfl rfl (Q.idx_vs (kk := 0) sl25 rfl rfl rfl (by omega) (by omega)) ?_
              | refine XOps.s rfl rfl rfl (Q.idx_vs (kk := 1) sl25 rfl rfl rfl (by omega) (by omega)) ?_
              | refine XOps.s rfl rfl rfl (Q.idx_vs (kk := 2) sl25 rfl rfl rfl (by omega) (by omega)) ?_
              | refine XOps.s rfl rfl rfl (Q.idx_vs (kk := 3) sl25 rfl rfl rfl (by omega) (by omega)) ?_
            first
              | refine XOps.s rfl rfl rfl (Q.ld_dp ag3 rfl rfl) ?_
              | refine XOps.s rfl rfl rfl (Q.ld_ptr (k := 0) ag3 rfl rfl rfl) ?_
              | refine XOps.s rfl rfl rfl (Q.ld_ptr (k := 1) ag3 rfl rfl rfl) ?_
              | refine XOps.s rfl rfl rfl (Q.ld_ptr (k := 2) ag3 rfl rfl rfl) ?_
              | refine XOps.s rfl rfl rfl (Q.ld_ptr (k := 3) ag3 rfl rfl rfl) ?_
              | refine XOps.s rfl rfl rfl (Q.ld_ep (k := 0) ag3 rfl rfl (by first | exact map_at (by assumption) | exact map_at0 (by assumption) | assumption) rfl) ?_
              | refine XOps.s rfl rfl rfl (Q.ld_ep (k := 1) ag3 rfl rfl (by first | exact map_at (by assumption) | exact map_at0 (by assumption) | assumption) rfl) ?_
              | refine XOps.s rfl rfl rfl (Q.ld_ep (k := 2) ag3 rfl rfl (by first | exact map_at (by assumption) | exact map_at0 (by assumption) | assumption) rfl) ?_
              | refine XOps.s rfl rfl rfl (Q.ld_ep (k := 3) ag3 rfl rfl (by first | exact map_at (by assumption) | exact map_at0 (by assumption) | assumption) rfl) ?_
            first
              | refine XOps.s rfl rfl rfl (Q.assign_d rfl) ?_
              | refine XOps.s rfl rfl rfl (Q.assign_vs rfl) ?_
              | refine XOps.s rfl rfl rfl (Q.assign_ptr rfl) ?_
              | refine XOps.s rfl rfl rfl (Q.assign_nilsl rfl) ?_
              | refine XOps.s rfl rfl rfl (Q.assign_fn rfl) ?_
              | refine XOps.s rfl rfl rfl (Q.assign_tup rfl) ?_
              | refine XOps.s rfl rfl rfl (Q.assign_ep rfl) ?_
              | refine XOps.s rfl rfl rfl (Q.assign_dp rfl) ?_
              | refine XOps.s rfl rfl rfl (Q.assign_dcut rfl) ?_
              | refine XOps.s rfl rfl rfl (Q.assign rfl) ?_
            first
              | refine XOps.s rfl rfl rfl (Q.assign_d rfl) ?_
              | refine XOps.s rfl rfl rfl (Q.assign_vs rfl) ?_
              | refine XOps.s rfl rfl rfl (Q.assign_ptr rfl) ?_
              | refine XOps.s rfl rfl rfl (Q.assign_nilsl rfl) ?_
              | refine XOps.s rfl rfl rfl (Q.assign_fn rfl) ?_
              | refine XOps.s rfl rfl rfl (Q.assign_tup rfl) ?_
              | refine XOps.s rfl rfl rfl (Q.assign_ep rfl) ?_
              | refine XOps.s rfl rfl rfl (Q.assign_dp rfl) ?_
              | refine XOps.s rfl rfl rfl (Q.assign_dcut rfl) ?_
              | refine XOps.s rfl rfl rfl (Q.assign rfl) ?_
            refine XOps.nil ?_
            refine W.reg ?_
            first
              | refine XOps.s rfl rfl rfl (Q.move_d rfl) ?_
              | refine XOps.s rfl rfl rfl (Q.move_vs rfl) ?_
              | refine XOps.s rfl rfl rfl (Q.move_ptr rfl) ?_
              | refine XOps.s rfl rfl rfl (Q.move_nilsl rfl) ?_
              | refine XOps.s rfl rfl rfl (Q.move_fn rfl) ?_
              | refine XOps.s rfl rfl rfl (Q.move_tup rfl) ?_
              | refine XOps.s rfl rfl rfl (Q.move_ep rfl) ?_
              | refine XOps.s rfl rfl rfl (Q.move_dp rfl) ?_
              | refine XOps.s rfl rfl rfl (Q.move_dcut rfl) ?_
              | refine XOps.s rfl rfl rfl (Q.move rfl) ?_
            first
              | refine XOps.s rfl rfl rfl (Q.move_d rfl) ?_
              | refine XOps.s rfl rfl rfl (Q.move_vs rfl) ?_
              | refine XOps.s rfl rfl rfl (Q.move_ptr rfl) ?_
              | refine XOps.s rfl rfl rfl (Q.move_nilsl rfl) ?_
              | refine XOps.s rfl rfl rfl (Q.move_fn rfl) ?_
              | refine XOps.s rfl rfl rfl (Q.move_tup rfl) ?_
              | refine XOps.s rfl rfl rfl (Q.move_ep rfl) ?_
              | refine XOps.s rfl rfl rfl (Q.move_dp rfl) ?_
              | refine XOps.s rfl rfl rfl (Q.move_dcut rfl) ?_
              | refine XOps.s rfl rfl rfl (Q.move rfl) ?_
            first
              | refine XOps.gs rfl rfl rfl rfl rfl rfl rfl (fun hg => Q.move_d rfl) ?_
              | refine XOps.gs rfl rfl rfl rfl rfl rfl rfl (fun hg => Q.move_vs rfl) ?_
              | refine XOps.gs rfl rfl rfl rfl rfl rfl rfl (fun hg => Q.move_ptr rfl) ?_
              | refine XOps.gs rfl rfl rfl rfl rfl rfl rfl (fun hg => Q.move_nilsl rfl) ?_
              | refine XOps.gs rfl rfl rfl rfl rfl rfl rfl (fun hg => Q.move_fn rfl) ?_
              | refine XOps.gs rfl rfl rfl rfl rfl rfl rfl (fun hg => Q.move_tup rfl) ?_
              | refine XOps.gs rfl rfl rfl rfl rfl rfl rfl (fun hg => Q.move_ep rfl) ?_
              | refine XOps.gs rfl rfl rfl rfl rfl rfl rfl (fun hg => Q.move_dp rfl) ?_
              | refine XOps.gs rfl rfl rfl rfl rfl rfl rfl (fun hg => Q.move_dcut rfl) ?_
              | refine XOps.gs rfl rfl rfl rfl rfl rfl rfl (fun hg => Q.move rfl) ?_
            first
              | refine XOps.gs rfl rfl rfl rfl rfl rfl rfl (fun hg => Q.move_d rfl) ?_
              | refine XOps.gs rfl rfl rfl rfl rfl rfl rfl (fun hg => Q.move_vs rfl) ?_
              | refine XOps.gs rfl rfl rfl rfl rfl rfl rfl (fun hg => Q.move_ptr rfl) ?_
              | refine XOps.gs rfl rfl rfl rfl rfl rfl rfl (fun hg => Q.move_nilsl rfl) ?_
              | refine XOps.gs rfl rfl rfl rfl rfl rfl rfl (fun hg => Q.move_fn rfl) ?_
              | refine XOps.gs rfl rfl rfl rfl rfl rfl rfl (fun hg => Q.move_tup rfl) ?_
              | refine XOps.gs rfl rfl rfl rfl rfl rfl rfl (fun hg => Q.move_ep rfl) ?_
              | refine XOps.gs rfl rfl rfl rfl rfl rfl rfl (fun hg => Q.move_dp rfl) ?_
              | refine XOps.gs rfl rfl rfl rfl rfl rfl rfl (fun hg => Q.move_dcut rfl) ?_
              | refine XOps.gs rfl rfl rfl rfl rfl rfl rfl (fun hg => Q.move rfl) ?_
            first
              | refine XOps.gs rfl rfl rfl rfl rfl rfl rfl (fun hg => Quiet.open 40 hg rfl (Quiet.open 41 hg rfl (Q.eql rfl rfl))) ?_
              | refine XOps.gs rfl rfl rfl rfl rfl rfl rfl (fun hg => Quiet.open 40 hg rfl (Quiet.open 41 hg rfl (Q.eql_str rfl rfl))) ?_
            first
              | refine XOps.s rfl rfl rfl (Q.pick_and rfl rfl rfl (fun h => by rw [h]; rfl)) ?_
              | refine XOps.s rfl rfl rfl (Q.pick_or rfl rfl rfl (fun h => by rw [h]; rfl)) ?_
              | refine XOps.s rfl rfl rfl (Q.pick rfl rfl rfl) ?_
            first
              | refine XOps.s rfl rfl rfl (Q.assign_d rfl) ?_
              | refine XOps.s rfl rfl rfl (Q.assign_vs rfl) ?_
              | refine XOps.s rfl rfl rfl (Q.assign_ptr rfl) ?_
              | refine XOps.s rfl rfl rfl (Q.assign_nilsl rfl) ?_
              | refine XOps.s rfl rfl rfl (Q.assign_fn rfl) ?_
              | refine XOps.s rfl rfl rfl (Q.assign_tup rfl) ?_
              | refine XOps.s rfl rfl rfl (Q.assign_ep rfl) ?_
              | refine XOps.s rfl rfl rfl (Q.assign_dp rfl) ?_
              | refine XOps.s rfl rfl rfl (Q.assign_dcut rfl) ?_
              | refine XOps.s rfl rfl rfl (Q.assign rfl) ?_
            refine XOps.nil ?_
            refine W.draw 18 follows (by kernel_rfl) ?_
            first
              | refine Chain.cons _ (GQ.q rfl (Q.move_d rfl)) rfl ?_
              | refine Chain.cons _ (GQ.q rfl (Q.move_vs rfl)) rfl ?_
              | refine Chain.cons _ (GQ.q rfl (Q.move_ptr rfl)) rfl ?_
              | refine Chain.cons _ (GQ.q rfl (Q.move_nilsl rfl)) rfl ?_
              | refine Chain.cons _ (GQ.q rfl (Q.move_fn rfl)) rfl ?_
              | refine Chain.cons _ (GQ.q rfl (Q.move_tup rfl)) rfl ?_
              | refine Chain.cons _ (GQ.q rfl (Q.move_ep rfl)) rfl ?_
              | refine Chain.cons _ (GQ.q rfl (Q.move_dp rfl)) rfl ?_
              | refine Chain.cons _ (GQ.q rfl (Q.move_dcut rfl)) rfl ?_
              | refine Chain.cons _ (GQ.q rfl (Q.move rfl)) rfl ?_
            first
              | refine Chain.cons _ (GQ.q rfl (Q.move_d rfl)) rfl ?_
              | refine Chain.cons _ (GQ.q rfl (Q.move_vs rfl)) rfl ?_
              | refine Chain.cons _ (GQ.q rfl (Q.move_ptr rfl)) rfl ?_
              | refine Chain.cons _ (GQ.q rfl (Q.move_nilsl rfl)) rfl ?_
              | refine Chain.cons _ (GQ.q rfl (Q.move_fn rfl)) rfl ?_
              | refine Chain.cons _ (GQ.q rfl (Q.move_tup rfl)) rfl ?_
              | refine Chain.cons _ (GQ.q rfl (Q.move_ep rfl)) rfl ?_
              | refine Chain.cons _ (GQ.q rfl (Q.move_dp rfl)) rfl ?_
              | refine Chain.cons _ (GQ.q rfl (Q.move_dcut rfl)) rfl ?_
              | refine Chain.cons _ (GQ.q rfl (Q.move rfl)) rfl ?_
            first
              | refine Chain.cons _ (GQ.q rfl (Q.move_d rfl)) rfl ?_
              | refine Chain.cons _ (GQ.q rfl (Q.move_vs rfl)) rfl ?_
              | refine Chain.cons _ (GQ.q rfl (Q.move_ptr rfl)) rfl ?_
              | refine Chain.cons _ (GQ.q rfl (Q.move_nilsl rfl)) rfl ?_
              | refine Chain.cons _ (GQ.q rfl (Q.move_fn rfl)) rfl ?_
              | refine Chain.cons _ (GQ.q rfl (Q.move_tup rfl)) rfl ?_
              | refine Chain.cons _ (GQ.q rfl (Q.move_ep rfl)) rfl ?_
              | refine Chain.cons _ (GQ.q rfl (Q.move_dp rfl)) rfl ?_
              | refine Chain.cons _ (GQ.q rfl (Q.move_dcut rfl)) rfl ?_
              | refine Chain.cons _ (GQ.q rfl (Q.move rfl)) rfl ?_
            first
              | refine Chain.cons _ (GQ.q rfl (Q.idx_sl sl25 (by decide) rfl rfl (by omega) (by first | exact map_at (by assumption) | exact map_at0 (by assumption) | assumption))) rfl ?_
              | refine Chain.cons _ (GQ.q rfl (Q.idx_vs (kk := 0) sl25 rfl rfl rfl (by omega) (by omega))) rfl ?_
              | refine Chain.cons _ (GQ.q rfl (Q.idx_vs (kk := 1) sl25 rfl rfl rfl (by omega) (by omega))) rfl ?_
              | refine Chain.cons _ (GQ.q rfl (Q.idx_vs (kk := 2) sl25 rfl rfl rfl (by omega) (by omega))) rfl ?_
              | refine Chain.cons _ (GQ.q rfl (Q.idx_vs (kk := 3) sl25 rfl rfl rfl (by omega) (by omega))) rfl ?_
            first
              | refine Chain.cons _ (GQ.q rfl (Q.ld_dp ag3 rfl rfl)) rfl ?_
              | refine Chain.cons _ (GQ.q rfl (Q.ld_ptr (k := 0) ag3 rfl rfl rfl)) rfl ?_
              | refine Chain.cons _ (GQ.q rfl (Q.ld_ptr (k := 1) ag3 rfl rfl rfl)) rfl ?_
              | refine Chain.cons _ (GQ.q rfl (Q.ld_ptr (k := 2) ag3 rfl rfl rfl)) rfl ?_
              | refine Chain.cons _ (GQ.q rfl (Q.ld_ptr (k := 3) ag3 rfl rfl rfl)) rfl ?_
              | refine Chain.cons _ (GQ.q rfl (Q.ld_ep (k := 0) ag3 rfl rfl (by first | exact map_at (by assumption) | exact map_at0 (by assumption) | assumption) rfl)) rfl ?_
              | refine Chain.cons _ (GQ.q rfl (Q.ld_ep (k := 1) ag3 rfl rfl (by first | exact map_at (by assumption) | exact map_at0 (by assumption) | assumption) rfl)) rfl ?_
              | refine Chain.cons _ (GQ.q rfl (Q.ld_ep (k := 2) ag3 rfl rfl (by first | exact map_at (by assumption) | exact map_at0 (by assumption) | assumption) rfl)) rfl ?_
              | refine Chain.cons _ (GQ.q rfl (Q.ld_ep (k := 3) ag3 rfl rfl (by first | exact map_at (by assumption) | exact map_at0 (by assumption) | assumption) rfl)) rfl ?_
            first
              | refine Chain.cons _ (GQ.q rfl (Q.move_d rfl)) rfl ?_
              | refine Chain.cons _ (GQ.q rfl (Q.move_vs rfl)) rfl ?_
              | refine Chain.cons _ (GQ.q rfl (Q.move_ptr rfl)) rfl ?_
              | refine Chain.cons _ (GQ.q rfl (Q.move_nilsl rfl)) rfl ?_
              | refine Chain.cons _ (GQ.q rfl (Q.move_fn rfl)) rfl ?_
              | refine Chain.cons _ (GQ.q rfl (Q.move_tup rfl)) rfl ?_
              | refine Chain.cons _ (GQ.q rfl (Q.move_ep rfl)) rfl ?_
              | refine Chain.cons _ (GQ.q rfl (Q.move_dp rfl)) rfl ?_
              | refine Chain.cons _ (GQ.q rfl (Q.move_dcut rfl)) rfl ?_
              | refine Chain.cons _ (GQ.q rfl (Q.move rfl)) rfl ?_
            first
              | refine Chain.cons _ (GQ.q rfl (Q.move_d rfl)) rfl ?_
              | refine Chain.cons _ (GQ.q rfl (Q.move_vs rfl)) rfl ?_
              | refine Chain.cons _ (GQ.q rfl (Q.move_ptr rfl)) rfl ?_
              | refine Chain.cons _ (GQ.q rfl (Q.move_nilsl rfl)) rfl ?_
              | refine Chain.cons _ (GQ.q rfl (Q.move_fn rfl)) rfl ?_
              | refine Chain.cons _ (GQ.q rfl (Q.move_tup rfl)) rfl ?_
              | refine Chain.cons _ (GQ.q rfl (Q.move_ep rfl)) rfl ?_
              | refine Chain.cons _ (GQ.q rfl (Q.move_dp rfl)) rfl ?_
              | refine Chain.cons _ (GQ.q rfl (Q.move_dcut rfl)) rfl ?_
              | refine Chain.cons _ (GQ.q rfl (Q.move rfl)) rfl ?_
            first
              | refine Chain.cons _ (GQ.q rfl (Q.idx_sl sl22 (by decide) rfl rfl (by omega) (by first | exact map_at (by assumption) | exact map_at0 (by assumption) | assumption))) rfl ?_
              | refine Chain.cons _ (GQ.q rfl (Q.idx_vs (kk := 0) sl22 rfl rfl rfl (by omega) (by omega))) rfl ?_
              | refine Chain.cons _ (GQ.q rfl (Q.idx_vs (kk := 1) sl22 rfl rfl rfl (by omega) (by omega))) rfl ?_
              | refine Chain.cons _ (GQ.q rfl (Q.idx_vs (kk := 2) sl22 rfl rfl rfl (by omega) (by omega))) rfl ?_
              | refine Chain.cons _ (GQ.q rfl (Q.idx_vs (kk := 3) sl22 rfl rfl rfl (by omega) (by omega))) rfl ?_
            first
              | refine Chain.cons _ (GQ.q rfl (Q.fld_ptr fl32_1 rfl)) rfl ?_
              | refine Chain.cons _ (GQ.q rfl (Q.fld_dp fl32_1 rfl)) rfl ?_
              | refine Chain.cons _ (GQ.q rfl (Q.fld_ep fl32_1 rfl)) rfl ?_
            first
              | refine Chain.cons _ (GQ.q rfl (Q.ld_dp ag3 rfl rfl)) rfl ?_
              | refine Chain.cons _ (GQ.q rfl (Q.ld_ptr (k := 0) ag3 rfl rfl rfl)) rfl ?_
              | refine Chain.cons _ (GQ.q rfl (Q.ld_ptr (k := 1) ag3 rfl rfl rfl)) rfl ?_
              | refine Chain.cons _ (GQ.q rfl (Q.ld_ptr (k := 2) ag3 rfl rfl rfl)) rfl ?_
              | refine Chain.cons _ (GQ.q rfl (Q.ld_ptr (k := 3) ag3 rfl rfl rfl)) rfl ?_
              | refine Chain.cons _ (GQ.q rfl (Q.ld_ep (k := 0) ag3 rfl rfl (by first | exact map_at (by assumption) | exact map_at0 (by assumption) | assumption) rfl)) rfl ?_
              | refine Chain.cons _ (GQ.q rfl (Q.ld_ep (k := 1) ag3 rfl rfl (by first | exact map_at (by assumption) | exact map_at0 (by assumption) | assumption) rfl)) rfl ?_
              | refine Chain.cons _ (GQ.q rfl (Q.ld_ep (k := 2) ag3 rfl rfl (by first | exact map_at (by assumption) | exact map_at0 (by assumption) | assumption) rfl)) rfl ?_
              | refine Chain.cons _ (GQ.q rfl (Q.ld_ep (k := 3) ag3 rfl rfl (by first | exact map_at (by assumption) | exact map_at0 (by assumption) | assumption) rfl)) rfl ?_
            first
              | refine Chain.cons _ (GQ.q rfl (Q.fld_ptr fl32_1 rfl)) rfl ?_
              | refine Chain.cons _ (GQ.q rfl (Q.fld_dp fl32_1 rfl)) rfl ?_
              | refine Chain.cons _ (GQ.q rfl (Q.fld_ep fl32_1 rfl)) rfl ?_
            first
              | refine Chain.cons _ (GQ.q rfl (Q.ld_dp ag3 rfl rfl)) rfl ?_
              | refine Chain.cons _ (GQ.q rfl (Q.ld_ptr (k := 0) ag3 rfl rfl rfl)) rfl ?_
              | refine Chain.cons _ (GQ.q rfl (Q.ld_ptr (k := 1) ag3 rfl rfl rfl)) rfl ?_
              | refine Chain.cons _ (GQ.q rfl (Q.ld_ptr (k := 2) ag3 rfl rfl rfl)) rfl ?_
              | refine Chain.cons _ (GQ.q rfl (Q.ld_ptr (k := 3) ag3 rfl rfl rfl)) rfl ?_
              | refine Chain.cons _ (GQ.q rfl (Q.ld_ep (k := 0) ag3 rfl rfl (by first | exact map_at (by assumption) | exact map_at0 (by assumption) | assumption) rfl)) rfl ?_
              | refine Chain.cons _ (GQ.q rfl (Q.ld_ep (k := 1) ag3 rfl rfl (by first | exact map_at (by assumption) | exact map_at0 (by assumption) | assumption) rfl)) rfl ?_
              | refine Chain.cons _ (GQ.q rfl (Q.ld_ep (k := 2) ag3 rfl rfl (by first | exact map_at (by assumption) | exact map_at0 (by assumption) | assumption) rfl)) rfl ?_
              | refine Chain.cons _ (GQ.q rfl (Q.ld_ep (k := 3) ag3 rfl rfl (by first | exact map_at (by assumption) | exact map_at0 (by assumption) | assumption) rfl)) rfl ?_
            first
              | refine Chain.cons _ (GQ.q rfl (Q.idx_arr ar24 rfl rfl (by omega) (by omega))) rfl ?_
              | refine Chain.cons _ (GQ.q rfl (Q.idx_darr ar24 rfl rfl (by omega) (by omega))) rfl ?_
            first
              | refine Chain.cons _ (GQ.q rfl (Q.idx_arr ar23 rfl rfl (by omega) (by omega))) rfl ?_
              | refine Chain.cons _ (GQ.q rfl (Q.idx_darr ar23 rfl rfl (by omega) (by omega))) rfl ?_
            first
              | refine Chain.cons _ (GQ.q rfl (Q.ld_ptr (k := 0) ag3 rfl rfl (gD_at gv (by omega) (by omega) (by omega) (by omega)))) rfl ?_
              | refine Chain.cons _ (GQ.q rfl (Q.ld_ptr (k := 1) ag3 rfl rfl (gD_at gv (by omega) (by omega) (by omega) (by omega)))) rfl ?_
              | refine Chain.cons _ (GQ.q rfl (Q.ld_ptr (k := 2) ag3 rfl rfl (gD_at gv (by omega) (by omega) (by omega) (by omega)))) rfl ?_
              | refine Chain.cons _ (GQ.q rfl (Q.ld_ptr (k := 3) ag3 rfl rfl (gD_at gv (by omega) (by omega) (by omega) (by omega)))) rfl ?_
            first
              | refine Chain.cons _ (GQ.q rfl (Q.add rfl rfl (wi64 (by omega) (by omega)))) rfl ?_
              | refine Chain.cons _ (GQ.q rfl (Q.add rfl rfl rfl)) rfl ?_
              | refine Chain.cons _ (GQ.q rfl (Q.adds rfl rfl (by omega))) rfl ?_
            refine Chain.cons _ (GQ.q rfl (Q.maxi rfl rfl)) rfl ?_
            first
              | refine Chain.cons _ (GQ.q rfl (Q.assign_d rfl)) rfl ?_
              | refine Chain.cons _ (GQ.q rfl (Q.assign_vs rfl)) rfl ?_
              | refine Chain.cons _ (GQ.q rfl (Q.assign_ptr rfl)) rfl ?_
              | refine Chain.cons _ (GQ.q rfl (Q.assign_nilsl rfl)) rfl ?_
              | refine Chain.cons _ (GQ.q rfl (Q.assign_fn rfl)) rfl ?_
              | refine Chain.cons _ (GQ.q rfl (Q.assign_tup rfl)) rfl ?_
              | refine Chain.cons _ (GQ.q rfl (Q.assign_ep rfl)) rfl ?_
              | refine Chain.cons _ (GQ.q rfl (Q.assign_dp rfl)) rfl ?_
              | refine Chain.cons _ (GQ.q rfl (Q.assign_dcut rfl)) rfl ?_
              | refine Chain.cons _ (GQ.q rfl (Q.assign rfl)) rfl ?_
            refine Chain.nil ?_
            refine XOps.nil ?_
            refine W.region ?_
            first
              | refine XOps.s rfl rfl rfl (Q.add rfl rfl (wi64 (by omega) (by omega))) ?_
              | refine XOps.s rfl rfl rfl (Q.add rfl rfl rfl) ?_
              | refine XOps.s rfl rfl rfl (Q.adds rfl rfl (by omega)) ?_
            first
              | refine XOps.s rfl rfl rfl (Q.move_d rfl) ?_
              | refine XOps.s rfl rfl rfl (Q.move_vs rfl) ?_
              | refine XOps.s rfl rfl rfl (Q.move_ptr rfl) ?_
              | refine XOps.s rfl rfl rfl (Q.move_nilsl rfl) ?_
              | refine XOps.s rfl rfl rfl (Q.move_fn rfl) ?_
              | refine XOps.s rfl rfl rfl (Q.move_tup rfl) ?_
              | refine XOps.s rfl rfl rfl (Q.move_ep rfl) ?_
              | refine XOps.s rfl rfl rfl (Q.move_dp rfl) ?_
              | refine XOps.s rfl rfl rfl (Q.move_dcut rfl) ?_
              | refine XOps.s rfl rfl rfl (Q.move rfl) ?_
            refine XOps.nil ?_
            refine ⟨(k + 1, u || decide ((j : Int) = (i : Int))), ?_, ?_, ?_, ?_⟩
            · refine ⟨by show k + 1 ≤ o.length; omega, ?_⟩
              show (u || decide _) = decide _
              rw [hu, List.take_add_one, hj]
              by_cases h1 : i ∈ o.take k
              · simp [h1]
              · by_cases h2 : j = i
                · simp [h1, h2]
                · simp [h1, h2, show ¬ (j : Int) = (i : Int) by omega, show ¬ i = j by omega]
            · show o.length - (k + 1) < o.length - k; omega
            · exact ⟨by first | rfl | exact len_eq (by simp) | exact int_eq (by simp; done) | exact int_eq (by omega), by first | rfl | exact len_eq (by simp) | exact int_eq (by simp; done) | exact int_eq (by omega), by first | rfl | exact len_eq (by simp) | exact int_eq (by simp; done) | exact int_eq (by omega), by first | rfl | exact len_eq (by simp) | exact int_eq (by simp; done) | exact int_eq (by omega), by first | rfl | exact len_eq (by simp) | exact int_eq (by simp; done) | exact int_eq (by omega), by first | rfl | exact len_eq (by simp) | exact int_eq (by simp; done) | exact int_eq (by omega), by first | rfl | exact len_eq (by simp) | exact int_eq (by simp; done) | exact int_eq (by omega), by first | rfl | exact len_eq (by simp) | exact int_eq (by simp; done) | exact int_eq (by omega), by first | rfl | exact len_eq (by simp) | exact int_eq (by simp; done) | exact int_eq (by omega), by exact int_eq (by simp only [hstep1]), by first | rfl | exact len_eq (by simp) | exact int_eq (by simp; done) | exact int_eq (by omega), by first | rfl | exact len_eq (by simp) | exact int_eq (by simp; done) | exact int_eq (by omega), by first | rfl | exact len_eq (by simp) | exact int_eq (by simp; done) | exact int_eq (by omega), by first | rfl | exact len_eq (by simp) | exact int_eq (by simp; done) | exact int_eq (by omega), trivial⟩
            · repeat (first | exact HLe.refl _ | refine HLe.cons' (by first | rfl | (simp; done)) ?_ | refine HLe.skip _ ?_)
          · try simp only [Bool.or_eq_true, Bool.or_eq_false_iff, Bool.and_eq_true, Bool.and_eq_false_iff, decide_eq_true_eq, decide_eq_false_iff_not, Bool.not_eq_true', Bool.not_eq_false', Int.not_lt, Int.not_le, List.length_map] at hc34
            obtain rfl : k = o.length := by omega
            rw [List.take_length] at hu
            have htb := lnd_bound (B := 200000 + 1000 * o.length) hg hl (show i < l.length by omega) ho hal (by omega) hab o.length (Nat.le_refl _)
            refine W.exit ?_
            refine W.seq ?_
            refine W.reg ?_
            first
              | refine XOps.s rfl rfl rfl (Q.move_d rfl) ?_
              | refine XOps.s rfl rfl rfl (Q.move_vs rfl) ?_
              | refine XOps.s rfl rfl rfl (Q.move_ptr rfl) ?_
              | refine XOps.s rfl rfl rfl (Q.move_nilsl rfl) ?_
              | refine XOps.s rfl rfl rfl (Q.move_fn rfl) ?_
              | refine XOps.s rfl rfl rfl (Q.move_tup rfl) ?_
              | refine XOps.s rfl rfl rfl (Q.move_ep rfl) ?_
              | refine XOps.s rfl rfl rfl (Q.move_dp rfl) ?_
              | refine XOps.s rfl rfl rfl (Q.move_dcut rfl) ?_
              | refine XOps.s rfl rfl rfl (Q.move rfl) ?_
            first
              | refine XOps.s rfl rfl rfl (Q.move_d rfl) ?_
              | refine XOps.s rfl rfl rfl (Q.move_vs rfl) ?_
              | refine XOps.s rfl rfl rfl (Q.move_ptr rfl) ?_
              | refine XOps.s rfl rfl rfl (Q.move_nilsl rfl) ?_
              | refine XOps.s rfl rfl rfl (Q.move_fn rfl) ?_
              | refine XOps.s rfl rfl rfl (Q.move_tup rfl) ?_
              | refine XOps.s rfl rfl rfl (Q.move_ep rfl) ?_
              | refine XOps.s rfl rfl rfl (Q.move_dp rfl) ?_
              | refine XOps.s rfl rfl rfl (Q.move_dcut rfl) ?_
              | refine XOps.s rfl rfl rfl (Q.move rfl) ?_
            first
              | refine XOps.gs rfl rfl rfl rfl rfl rfl rfl (fun hg => Q.move_d rfl) ?_
              | refine XOps.gs rfl rfl rfl rfl rfl rfl rfl (fun hg => Q.move_vs rfl) ?_
              | refine XOps.gs rfl rfl rfl rfl rfl rfl rfl (fun hg => Q.move_ptr rfl) ?_
              | refine XOps.gs rfl rfl rfl rfl rfl rfl rfl (fun hg => Q.move_nilsl rfl) ?_
              | refine XOps.gs rfl rfl rfl rfl rfl rfl rfl (fun hg => Q.move_fn rfl) ?_
              | refine XOps.gs rfl rfl rfl rfl rfl rfl rfl (fun hg => Q.move_tup rfl) ?_
              | refine XOps.gs rfl rfl rfl rfl rfl rfl rfl (fun hg => Q.move_ep rfl) ?_
              | refine XOps.gs rfl rfl rfl rfl rfl rfl rfl (fun hg => Q.move_dp rfl) ?_
              | refine XOps.gs rfl rfl rfl rfl rfl rfl rfl (fun hg => Q.move_dcut rfl) ?_
              | refine XOps.gs rfl rfl rfl rfl rfl rfl rfl (fun hg => Q.move rfl) ?_
            first
              | refine XOps.gs rfl rfl rfl rfl rfl rfl rfl (fun hg => Q.fld_ptr fl32_3 rfl) ?_
              | refine XOps.gs rfl rfl rfl rfl rfl rfl rfl (fun hg => Q.fld_dp fl32_3 rfl) ?_
              | refine XOps.gs rfl rfl rfl rfl rfl rfl rfl (fun hg => Q.fld_ep fl32_3 rfl) ?_
            first
              | refine XOps.gs rfl rfl rfl rfl rfl rfl rfl (fun hg => Quiet.open 65 hg rfl (Q.ld_dp ag3 rfl rfl)) ?_
              | refine XOps.gs rfl rfl rfl rfl rfl rfl rfl (fun hg => Quiet.open 65 hg rfl (Q.ld_ptr (k := 0) ag3 rfl rfl rfl)) ?_
              | refine XOps.gs rfl rfl rfl rfl rfl rfl rfl (fun hg => Quiet.open 65 hg rfl (Q.ld_ptr (k := 1) ag3 rfl rfl rfl)) ?_
              | refine XOps.gs rfl rfl rfl rfl rfl rfl rfl (fun hg => Quiet.open 65 hg rfl (Q.ld_ptr (k := 2) ag3 rfl rfl rfl)) ?_
              | refine XOps.gs rfl rfl rfl rfl rfl rfl rfl (fun hg => Quiet.open 65 hg rfl (Q.ld_ptr (k := 3) ag3 rfl rfl rfl)) ?_
              | refine XOps.gs rfl rfl rfl rfl rfl rfl rfl (fun hg => Quiet.open 65 hg rfl (Q.ld_ep (k := 0) ag3 rfl rfl (by first | exact map_at (by assumption) | exact map_at0 (by assumption) | assumption) rfl)) ?_
              | refine XOps.gs rfl rfl rfl rfl rfl rfl rfl (fun hg => Quiet.open 65 hg rfl (Q.ld_ep (k := 1) ag3 rfl rfl (by first | exact map_at (by assumption) | exact map_at0 (by assumption) | assumption) rfl)) ?_
              | refine XOps.gs rfl rfl rfl rfl rfl rfl rfl (fun hg => Quiet.open 65 hg rfl (Q.ld_ep (k := 2) ag3 rfl rfl (by first | exact map_at (by assumption) | exact map_at0 (by assumption) | assumption) rfl)) ?_
              | refine XOps.gs rfl rfl rfl rfl rfl rfl rfl (fun hg => Quiet.open 65 hg rfl (Q.ld_ep (k := 3) ag3 rfl rfl (by first | exact map_at (by assumption) | exact map_at0 (by assumption) | assumption) rfl)) ?_
            first
              | refine XOps.gs rfl rfl rfl rfl rfl rfl rfl (fun hg => Quiet.open 64 hg rfl (Quiet.open 66 hg rfl (Q.gtr rfl rfl))) ?_
              | refine XOps.gs rfl rfl rfl rfl rfl rfl rfl (fun hg => Quiet.open 64 hg rfl (Quiet.open 66 hg rfl (Q.gtr_str rfl rfl))) ?_
            first
              | refine XOps.s rfl rfl rfl (Q.pick_and rfl rfl rfl (fun h => by rw [h]; rfl)) ?_
              | refine XOps.s rfl rfl rfl (Q.pick_or rfl rfl rfl (fun h => by rw [h]; rfl)) ?_
              | refine XOps.s rfl rfl rfl (Q.pick rfl rfl rfl) ?_
            refine XOps.nil ?_
            refine W.cond rfl (fun hc68 => ?_) (fun hc68 => ?_)
            · try simp only [Bool.or_eq_true, Bool.or_eq_false_iff, Bool.and_eq_true, Bool.and_eq_false_iff, decide_eq_true_eq, decide_eq_false_iff_not, Bool.not_eq_true', Bool.not_eq_false', Int.not_lt, Int.not_le, List.length_map] at hc68
              have hstep : stepS l gv (srch l gv m) o at' i = none := by
                unfold stepS
                rw [if_pos]
                rcases hc68 with h | h
                · rw [hu] at h; exact .inl (by simpa using h)
                · rw [hxd]; exact .inr h
              refine W.exit ?_
              refine W.region ?_
              first
                | refine XOps.s rfl rfl rfl (Q.add rfl rfl (wi64 (by omega) (by omega))) ?_
                | refine XOps.s rfl rfl rfl (Q.add rfl rfl rfl) ?_
                | refine XOps.s rfl rfl rfl (Q.adds rfl rfl (by omega)) ?_
              first
                | refine XOps.s rfl rfl rfl (Q.move_d rfl) ?_
                | refine XOps.s rfl rfl rfl (Q.move_vs rfl) ?_
                | refine XOps.s rfl rfl rfl (Q.move_ptr rfl) ?_
                | refine XOps.s rfl rfl rfl (Q.move_nilsl rfl) ?_
                | refine XOps.s rfl rfl rfl (Q.move_fn rfl) ?_
                | refine XOps.s rfl rfl rfl (Q.move_tup rfl) ?_
                | refine XOps.s rfl rfl rfl (Q.move_ep rfl) ?_
                | refine XOps.s rfl rfl rfl (Q.move_dp rfl) ?_
                | refine XOps.s rfl rfl rfl (Q.move_dcut rfl) ?_
                | refine XOps.s rfl rfl rfl (Q.move rfl) ?_
              refine XOps.nil ?_
              refine ⟨i + 1, ?_, ?_, ?_, ?_⟩
              · refine ⟨by omega, fun j hj => ?_⟩
                by_cases h : j = i
                · subst h; exact hstep
                · exact hI j (by omega)
              · omega
              · exact ⟨by first | rfl | exact len_eq (by simp) | exact int_eq (by simp; done) | exact int_eq (by omega), by first | rfl | exact len_eq (by simp) | exact int_eq (by simp; done) | exact int_eq (by omega), by first | rfl | exact len_eq (by simp) | exact int_eq (by simp; done) | exact int_eq (by omega), by first | rfl | exact len_eq (by simp) | exact int_eq (by simp; done) | exact int_eq (by omega), by first | rfl | exact len_eq (by simp) | exact int_eq (by simp; done) | exact int_eq (by omega), by first | rfl | exact len_eq (by simp) | exact int_eq (by simp; done) | exact int_eq (by omega), by first | rfl | exact len_eq (by simp) | exact int_eq (by simp; done) | exact int_eq (by omega), trivial⟩
              · repeat (first | exact HLe.refl _ | refine HLe.cons' (by first | rfl | (simp; done)) ?_ | refine HLe.skip _ ?_)
            · try simp only [Bool.or_eq_true, Bool.or_eq_false_iff, Bool.and_eq_true, Bool.and_eq_false_iff, decide_eq_true_eq, decide_eq_false_iff_not, Bool.not_eq_true', Bool.not_eq_false', Int.not_lt, Int.not_le, List.length_map] at hc68
              have hstep0 : stepS l gv (srch l gv m) o at' i = srch l gv m (o ++ [i]) (at' ++ [(lnd l gv o at' i o.length)]) := by
                unfold stepS
                rw [if_neg]
                rintro (h | h)
                · exact absurd hc68.1 (by rw [hu]; simpa using h)
                · rw [hxd] at h; omega
              have hne : ∀ r, ((srch l gv m (o ++ [i]) (at' ++ [(lnd l gv o at' i o.length)])).map (fun r => r.map nE)) = some r → r ≠ [] := fun r hr he => by
                subst he
                obtain ⟨r, h1, h2⟩ := Option.map_eq_some_iff.1 hr
                have := srch_len _ _ _ _ h1
                simp at h2 this
                subst h2
                simp at this
              refine W.skip ?_
              refine W.drawreg 22 follows (by kernel_rfl) ?_
              first
                | refine Chain.cons _ (GQ.q rfl (Q.move_d rfl)) rfl ?_
                | refine Chain.cons _ (GQ.q rfl (Q.move_vs rfl)) rfl ?_
                | refine Chain.cons _ (GQ.q rfl (Q.move_ptr rfl)) rfl ?_
                | refine Chain.cons _ (GQ.q rfl (Q.move_nilsl rfl)) rfl ?_
                | refine Chain.cons _ (GQ.q rfl (Q.move_fn rfl)) rfl ?_
                | refine Chain.cons _ (GQ.q rfl (Q.move_tup rfl)) rfl ?_
                | refine Chain.cons _ (GQ.q rfl (Q.move_ep rfl)) rfl ?_
                | refine Chain.cons _ (GQ.q rfl (Q.move_dp rfl)) rfl ?_
                | refine Chain.cons _ (GQ.q rfl (Q.move_dcut rfl)) rfl ?_
                | refine Chain.cons _ (GQ.q rfl (Q.move rfl)) rfl ?_
              first
                | refine Chain.cons _ (GQ.q rfl (Q.ld_dpn ag24 rfl rfl)) rfl ?_
                | refine Chain.cons _ (GQ.q rfl (Q.ld_ptrn (k := 0) ag24 rfl rfl rfl)) rfl ?_
                | refine Chain.cons _ (GQ.q rfl (Q.ld_ptrn (k := 1) ag24 rfl rfl rfl)) rfl ?_
                | refine Chain.cons _ (GQ.q rfl (Q.ld_ptrn (k := 2) ag24 rfl rfl rfl)) rfl ?_
                | refine Chain.cons _ (GQ.q rfl (Q.ld_ptrn (k := 3) ag24 rfl rfl rfl)) rfl ?_
                | refine Chain.cons _ (GQ.q rfl (Q.ld_epn (k := 0) ag24 rfl rfl (by first | exact map_at (by assumption) | exact map_at0 (by assumption) | assumption) rfl)) rfl ?_
                | refine Chain.cons _ (GQ.q rfl (Q.ld_epn (k := 1) ag24 rfl rfl (by first | exact map_at (by assumption) | exact map_at0 (by assumption) | assumption) rfl)) rfl ?_
                | refine Chain.cons _ (GQ.q rfl (Q.ld_epn (k := 2) ag24 rfl rfl (by first | exact map_at (by assumption) | exact map_at0 (by assumption) | assumption) rfl)) rfl ?_
                | refine Chain.cons _ (GQ.q rfl (Q.ld_epn (k := 3) ag24 rfl rfl (by first | exact map_at (by assumption) | exact map_at0 (by assumption) | assumption) rfl)) rfl ?_
              first
                | refine Chain.cons _ (GQ.q rfl (Q.move_d rfl)) rfl ?_
                | refine Chain.cons _ (GQ.q rfl (Q.move_vs rfl)) rfl ?_
                | refine Chain.cons _ (GQ.q rfl (Q.move_ptr rfl)) rfl ?_
                | refine Chain.cons _ (GQ.q rfl (Q.move_nilsl rfl)) rfl ?_
                | refine Chain.cons _ (GQ.q rfl (Q.move_fn rfl)) rfl ?_
                | refine Chain.cons _ (GQ.q rfl (Q.move_tup rfl)) rfl ?_
                | refine Chain.cons _ (GQ.q rfl (Q.move_ep rfl)) rfl ?_
                | refine Chain.cons _ (GQ.q rfl (Q.move_dp rfl)) rfl ?_
                | refine Chain.cons _ (GQ.q rfl (Q.move_dcut rfl)) rfl ?_
                | refine Chain.cons _ (GQ.q rfl (Q.move rfl)) rfl ?_
              first
                | refine Chain.cons _ (GQ.q rfl (Q.move_d rfl)) rfl ?_
                | refine Chain.cons _ (GQ.q rfl (Q.move_vs rfl)) rfl ?_
                | refine Chain.cons _ (GQ.q rfl (Q.move_ptr rfl)) rfl ?_
                | refine Chain.cons _ (GQ.q rfl (Q.move_nilsl rfl)) rfl ?_
                | refine Chain.cons _ (GQ.q rfl (Q.move_fn rfl)) rfl ?_
                | refine Chain.cons _ (GQ.q rfl (Q.move_tup rfl)) rfl ?_
                | refine Chain.cons _ (GQ.q rfl (Q.move_ep rfl)) rfl ?_
                | refine Chain.cons _ (GQ.q rfl (Q.move_dp rfl)) rfl ?_
                | refine Chain.cons _ (GQ.q rfl (Q.move_dcut rfl)) rfl ?_
                | refine Chain.cons _ (GQ.q rfl (Q.move rfl)) rfl ?_
              first
                | refine Chain.cons _ (GQ.q rfl (Q.len_sl isl25 rfl)) rfl ?_
                | refine Chain.cons _ (GQ.q rfl (Q.len_vs isl25 rfl)) rfl ?_
                | refine Chain.cons _ (GQ.q rfl (Q.len_nil isl25 rfl)) rfl ?_
                | refine Chain.cons _ (GQ.q rfl (Q.len_dcut isl25 rfl)) rfl ?_
              first
                | refine Chain.cons _ (GQ.q rfl (Q.move_d rfl)) rfl ?_
                | refine Chain.cons _ (GQ.q rfl (Q.move_vs rfl)) rfl ?_
                | refine Chain.cons _ (GQ.q rfl (Q.move_ptr rfl)) rfl ?_
                | refine Chain.cons _ (GQ.q rfl (Q.move_nilsl rfl)) rfl ?_
                | refine Chain.cons _ (GQ.q rfl (Q.move_fn rfl)) rfl ?_
                | refine Chain.cons _ (GQ.q rfl (Q.move_tup rfl)) rfl ?_
                | refine Chain.cons _ (GQ.q rfl (Q.move_ep rfl)) rfl ?_
                | refine Chain.cons _ (GQ.q rfl (Q.move_dp rfl)) rfl ?_
                | refine Chain.cons _ (GQ.q rfl (Q.move_dcut rfl)) rfl ?_
                | refine Chain.cons _ (GQ.q rfl (Q.move rfl)) rfl ?_
              first
                | refine Chain.cons _ (GQ.q rfl (Q.len_sl isl25 rfl)) rfl ?_
                | refine Chain.cons _ (GQ.q rfl (Q.len_vs isl25 rfl)) rfl ?_
                | refine Chain.cons _ (GQ.q rfl (Q.len_nil isl25 rfl)) rfl ?_
                | refine Chain.cons _ (GQ.q rfl (Q.len_dcut isl25 rfl)) rfl ?_
              refine Chain.cons _ (GQ.q rfl (Q.cut3_full sl25 rfl rfl rfl (by simp))) rfl ?_
              first
                | refine Chain.cons _ (GQ.q rfl (Q.move_d rfl)) rfl ?_
                | refine Chain.cons _ (GQ.q rfl (Q.move_vs rfl)) rfl ?_
                | refine Chain.cons _ (GQ.q rfl (Q.move_ptr rfl)) rfl ?_
                | refine Chain.cons _ (GQ.q rfl (Q.move_nilsl rfl)) rfl ?_
                | refine Chain.cons _ (GQ.q rfl (Q.move_fn rfl)) rfl ?_
                | refine Chain.cons _ (GQ.q rfl (Q.move_tup rfl)) rfl ?_
                | refine Chain.cons _ (GQ.q rfl (Q.move_ep rfl)) rfl ?_
                | refine Chain.cons _ (GQ.q rfl (Q.move_dp rfl)) rfl ?_
                | refine Chain.cons _ (GQ.q rfl (Q.move_dcut rfl)) rfl ?_
                | refine Chain.cons _ (GQ.q rfl (Q.move rfl)) rfl ?_
              first
                | refine Chain.cons _ (GQ.q rfl (Q.bsl1 sl25 zr25 rfl zrd25 rfl rfl)) rfl ?_
                | refine Chain.cons _ (GQ.q rfl (Q.bsl1n sl25 (by decide) zr25 rfl zrd25 rfl rfl (by decide))) rfl ?_
                | refine Chain.cons _ (GQ.q rfl (Q.bsl sl25 (by decide) zr25 rfl zrd25 (by decide) rfl rfl)) rfl ?_
              refine Chain.cons _ (GQ.q rfl (Q.app1 (f := nE) (z := i) ap25 rfl rfl (by omega))) rfl ?_
              first
                | refine Chain.cons _ (GQ.q rfl (Q.move_d rfl)) rfl ?_
                | refine Chain.cons _ (GQ.q rfl (Q.move_vs rfl)) rfl ?_
                | refine Chain.cons _ (GQ.q rfl (Q.move_ptr rfl)) rfl ?_
                | refine Chain.cons _ (GQ.q rfl (Q.move_nilsl rfl)) rfl ?_
                | refine Chain.cons _ (GQ.q rfl (Q.move_fn rfl)) rfl ?_
                | refine Chain.cons _ (GQ.q rfl (Q.move_tup rfl)) rfl ?_
                | refine Chain.cons _ (GQ.q rfl (Q.move_ep rfl)) rfl ?_
                | refine Chain.cons _ (GQ.q rfl (Q.move_dp rfl)) rfl ?_
                | refine Chain.cons _ (GQ.q rfl (Q.move_dcut rfl)) rfl ?_
                | refine Chain.cons _ (GQ.q rfl (Q.move rfl)) rfl ?_
              first
                | refine Chain.cons _ (GQ.q rfl (Q.move_d rfl)) rfl ?_
                | refine Chain.cons _ (GQ.q rfl (Q.move_vs rfl)) rfl ?_
                | refine Chain.cons _ (GQ.q rfl (Q.move_ptr rfl)) rfl ?_
                | refine Chain.cons _ (GQ.q rfl (Q.move_nilsl rfl)) rfl ?_
                | refine Chain.cons _ (GQ.q rfl (Q.move_fn rfl)) rfl ?_
                | refine Chain.cons _ (GQ.q rfl (Q.move_tup rfl)) rfl ?_
                | refine Chain.cons _ (GQ.q rfl (Q.move_ep rfl)) rfl ?_
                | refine Chain.cons _ (GQ.q rfl (Q.move_dp rfl)) rfl ?_
                | refine Chain.cons _ (GQ.q rfl (Q.move_dcut rfl)) rfl ?_
                | refine Chain.cons _ (GQ.q rfl (Q.move rfl)) rfl ?_
              first
                | refine Chain.cons _ (GQ.q rfl (Q.len_sl isl25 rfl)) rfl ?_
                | refine Chain.cons _ (GQ.q rfl (Q.len_vs isl25 rfl)) rfl ?_
                | refine Chain.cons _ (GQ.q rfl (Q.len_nil isl25 rfl)) rfl ?_
                | refine Chain.cons _ (GQ.q rfl (Q.len_dcut isl25 rfl)) rfl ?_
              first
                | refine Chain.cons _ (GQ.q rfl (Q.move_d rfl)) rfl ?_
                | refine Chain.cons _ (GQ.q rfl (Q.move_vs rfl)) rfl ?_
                | refine Chain.cons _ (GQ.q rfl (Q.move_ptr rfl)) rfl ?_
                | refine Chain.cons _ (GQ.q rfl (Q.move_nilsl rfl)) rfl ?_
                | refine Chain.cons _ (GQ.q rfl (Q.move_fn rfl)) rfl ?_
                | refine Chain.cons _ (GQ.q rfl (Q.move_tup rfl)) rfl ?_
                | refine Chain.cons _ (GQ.q rfl (Q.move_ep rfl)) rfl ?_
                | refine Chain.cons _ (GQ.q rfl (Q.move_dp rfl)) rfl ?_
                | refine Chain.cons _ (GQ.q rfl (Q.move_dcut rfl)) rfl ?_
                | refine Chain.cons _ (GQ.q rfl (Q.move rfl)) rfl ?_
              first
                | refine Chain.cons _ (GQ.q rfl (Q.len_sl isl25 rfl)) rfl ?_
                | refine Chain.cons _ (GQ.q rfl (Q.len_vs isl25 rfl)) rfl ?_
                | refine Chain.cons _ (GQ.q rfl (Q.len_nil isl25 rfl)) rfl ?_
                | refine Chain.cons _ (GQ.q rfl (Q.len_dcut isl25 rfl)) rfl ?_
              refine Chain.cons _ (GQ.q rfl (Q.cut3_full sl25 rfl rfl rfl (by simp))) rfl ?_
              first
                | refine Chain.cons _ (GQ.q rfl (Q.move_d rfl)) rfl ?_
                | refine Chain.cons _ (GQ.q rfl (Q.move_vs rfl)) rfl ?_
                | refine Chain.cons _ (GQ.q rfl (Q.move_ptr rfl)) rfl ?_
                | refine Chain.cons _ (GQ.q rfl (Q.move_nilsl rfl)) rfl ?_
                | refine Chain.cons _ (GQ.q rfl (Q.move_fn rfl)) rfl ?_
                | refine Chain.cons _ (GQ.q rfl (Q.move_tup rfl)) rfl ?_
                | refine Chain.cons _ (GQ.q rfl (Q.move_ep rfl)) rfl ?_
                | refine Chain.cons _ (GQ.q rfl (Q.move_dp rfl)) rfl ?_
                | refine Chain.cons _ (GQ.q rfl (Q.move_dcut rfl)) rfl ?_
                | refine Chain.cons _ (GQ.q rfl (Q.move rfl)) rfl ?_
              first
                | refine Chain.cons _ (GQ.q rfl (Q.bsl1 sl25 zr25 rfl zrd25 rfl rfl)) rfl ?_
                | refine Chain.cons _ (GQ.q rfl (Q.bsl1n sl25 (by decide) zr25 rfl zrd25 rfl rfl (by decide))) rfl ?_
                | refine Chain.cons _ (GQ.q rfl (Q.bsl sl25 (by decide) zr25 rfl zrd25 (by decide) rfl rfl)) rfl ?_
              refine Chain.cons _ (GQ.q rfl (Q.app1 (f := ie) (z := (lnd l gv o at' i o.length)) ap25 rfl rfl (by omega))) rfl ?_
              refine Chain.cons _ (GQ.q rfl (Q.call rfl Try.func24 go24 rfl (ih m (by omega) (o ++ [i]) (at' ++ [(lnd l gv o at' i o.length)]) _ (by simp; omega) (by intro j hj; rcases List.mem_append.1 hj with h | h; exact ho j h; simp at h; omega) (by simp [hal]) (by intro t ht; rw [List.length_append, List.length_singleton]; rcases List.mem_append.1 ht with h | h; have := hab t h; omega; simp at h; subst h; omega)))) rfl ?_
              first
                | refine Chain.cons _ (GQ.q rfl (Q.assign_d rfl)) rfl ?_
                | refine Chain.cons _ (GQ.q rfl (Q.assign_vs rfl)) rfl ?_
                | refine Chain.cons _ (GQ.q rfl (Q.assign_ptr rfl)) rfl ?_
                | refine Chain.cons _ (GQ.q rfl (Q.assign_nilsl rfl)) rfl ?_
                | refine Chain.cons _ (GQ.q rfl (Q.assign_fn rfl)) rfl ?_
                | refine Chain.cons _ (GQ.q rfl (Q.assign_tup rfl)) rfl ?_
                | refine Chain.cons _ (GQ.q rfl (Q.assign_ep rfl)) rfl ?_
                | refine Chain.cons _ (GQ.q rfl (Q.assign_dp rfl)) rfl ?_
                | refine Chain.cons _ (GQ.q rfl (Q.assign_dcut rfl)) rfl ?_
                | refine Chain.cons _ (GQ.q rfl (Q.assign rfl)) rfl ?_
              refine Chain.nil ?_
              refine XOps.nil ?_
              refine W.reg ?_
              first
                | refine XOps.s rfl rfl rfl (Q.move_d rfl) ?_
                | refine XOps.s rfl rfl rfl (Q.move_vs rfl) ?_
                | refine XOps.s rfl rfl rfl (Q.move_ptr rfl) ?_
                | refine XOps.s rfl rfl rfl (Q.move_nilsl rfl) ?_
                | refine XOps.s rfl rfl rfl (Q.move_fn rfl) ?_
                | refine XOps.s rfl rfl rfl (Q.move_tup rfl) ?_
                | refine XOps.s rfl rfl rfl (Q.move_ep rfl) ?_
                | refine XOps.s rfl rfl rfl (Q.move_dp rfl) ?_
                | refine XOps.s rfl rfl rfl (Q.move_dcut rfl) ?_
                | refine XOps.s rfl rfl rfl (Q.move rfl) ?_
              refine XOps.s rfl rfl rfl (Q.neqnil_opt sl25 (by decide) rfl rfl hne) ?_
              refine XOps.nil ?_
              refine W.cond rfl (fun hc91 => ?_) (fun hc91 => ?_)
              · try simp only [Bool.or_eq_true, Bool.or_eq_false_iff, Bool.and_eq_true, Bool.and_eq_false_iff, decide_eq_true_eq, decide_eq_false_iff_not, Bool.not_eq_true', Bool.not_eq_false', Int.not_lt, Int.not_le, List.length_map] at hc91
                obtain ⟨r, hr⟩ : ∃ r, srch l gv m (o ++ [i]) (at' ++ [(lnd l gv o at' i o.length)]) = some r := Option.isSome_iff_exists.1 (by simpa using hc91)
                have hres : srch l gv (m + 1) o at' = srch l gv m (o ++ [i]) (at' ++ [(lnd l gv o at' i o.length)]) := by
                  rw [hr, srch]
                  exact first_some _ i r (by omega) hI (hstep0.trans hr)
                refine W.reg ?_
                first
                  | refine XOps.s rfl rfl rfl (Q.move_d rfl) ?_
                  | refine XOps.s rfl rfl rfl (Q.move_vs rfl) ?_
                  | refine XOps.s rfl rfl rfl (Q.move_ptr rfl) ?_
                  | refine XOps.s rfl rfl rfl (Q.move_nilsl rfl) ?_
                  | refine XOps.s rfl rfl rfl (Q.move_fn rfl) ?_
                  | refine XOps.s rfl rfl rfl (Q.move_tup rfl) ?_
                  | refine XOps.s rfl rfl rfl (Q.move_ep rfl) ?_
                  | refine XOps.s rfl rfl rfl (Q.move_dp rfl) ?_
                  | refine XOps.s rfl rfl rfl (Q.move_dcut rfl) ?_
                  | refine XOps.s rfl rfl rfl (Q.move rfl) ?_
                first
                  | refine XOps.s rfl rfl rfl (Q.assign_d rfl) ?_
                  | refine XOps.s rfl rfl rfl (Q.assign_vs rfl) ?_
                  | refine XOps.s rfl rfl rfl (Q.assign_ptr rfl) ?_
                  | refine XOps.s rfl rfl rfl (Q.assign_nilsl rfl) ?_
                  | refine XOps.s rfl rfl rfl (Q.assign_fn rfl) ?_
                  | refine XOps.s rfl rfl rfl (Q.assign_tup rfl) ?_
                  | refine XOps.s rfl rfl rfl (Q.assign_ep rfl) ?_
                  | refine XOps.s rfl rfl rfl (Q.assign_dp rfl) ?_
                  | refine XOps.s rfl rfl rfl (Q.assign_dcut rfl) ?_
                  | refine XOps.s rfl rfl rfl (Q.assign rfl) ?_
                refine XOps.nil ?_
                refine W.ret ?_
                refine ⟨_, hs, rfl, by repeat (first | exact HLe.refl _ | refine HLe.cons' (by first | rfl | (simp; done)) ?_ | refine HLe.skip _ ?_), ?_, rfl⟩
                first | (show _ = resO _ _; rw [hres]; done) | (rw [hres]; rfl)
              · try simp only [Bool.or_eq_true, Bool.or_eq_false_iff, Bool.and_eq_true, Bool.and_eq_false_iff, decide_eq_true_eq, decide_eq_false_iff_not, Bool.not_eq_true', Bool.not_eq_false', Int.not_lt, Int.not_le, List.length_map] at hc91
                have hstep : stepS l gv (srch l gv m) o at' i = none := by rw [hstep0]; simpa using hc91
                refine W.skip ?_
                refine W.region ?_
                first
                  | refine XOps.s rfl rfl rfl (Q.add rfl rfl (wi64 (by omega) (by omega))) ?_
                  | refine XOps.s rfl rfl rfl (Q.add rfl rfl rfl) ?_
                  | refine XOps.s rfl rfl rfl (Q.adds rfl rfl (by omega)) ?_
                first
                  | refine XOps.s rfl rfl rfl (Q.move_d rfl) ?_
                  | refine XOps.s rfl rfl rfl (Q.move_vs rfl) ?_
                  | refine XOps.s rfl rfl rfl (Q.move_ptr rfl) ?_
                  | refine XOps.s rfl rfl rfl (Q.move_nilsl rfl) ?_
                  | refine XOps.s rfl rfl rfl (Q.move_fn rfl) ?_
                  | refine XOps.s rfl rfl rfl (Q.move_tup rfl) ?_
                  | refine XOps.s rfl rfl rfl (Q.move_ep rfl) ?_
                  | refine XOps.s rfl rfl rfl (Q.move_dp rfl) ?_
                  | refine XOps.s rfl rfl rfl (Q.move_dcut rfl) ?_
                  | refine XOps.s rfl rfl rfl (Q.move rfl) ?_
                refine XOps.nil ?_
                refine ⟨i + 1, ?_, ?_, ?_, ?_⟩
                · refine ⟨by omega, fun j hj => ?_⟩
                  by_cases h : j = i
                  · subst h; exact hstep
                  · exact hI j (by omega)
                · omega
                · exact ⟨by first | rfl | exact len_eq (by simp) | exact int_eq (by simp; done) | exact int_eq (by omega), by first | rfl | exact len_eq (by simp) | exact int_eq (by simp; done) | exact int_eq (by omega), by first | rfl | exact len_eq (by simp) | exact int_eq (by simp; done) | exact int_eq (by omega), by first | rfl | exact len_eq (by simp) | exact int_eq (by simp; done) | exact int_eq (by omega), by first | rfl | exact len_eq (by simp) | exact int_eq (by simp; done) | exact int_eq (by omega), by first | rfl | exact len_eq (by simp) | exact int_eq (by simp; done) | exact int_eq (by omega), by first | rfl | exact len_eq (by simp) | exact int_eq (by simp; done) | exact int_eq (by omega), trivial⟩
                · repeat (first | exact HLe.refl _ | refine HLe.cons' (by first | rfl | (simp; done)) ?_ | refine HLe.skip _ ?_)
      · try simp only [Bool.or_eq_true, Bool.or_eq_false_iff, Bool.and_eq_true, Bool.and_eq_false_iff, decide_eq_true_eq, decide_eq_false_iff_not, Bool.not_eq_true', Bool.not_eq_false', Int.not_lt, Int.not_le, List.length_map] at hc25
        have hres : srch l gv (m + 1) o at' = none := by
          rw [srch, List.findSome?_eq_none_iff]
          exact fun j hj => hI j (by have := List.mem_range.1 hj; omega)
        refine W.exit ?_
        refine W.reg ?_
        first
          | refine XOps.s rfl rfl rfl (Q.assign_d rfl) ?_
          | refine XOps.s rfl rfl rfl (Q.assign_vs rfl) ?_
          | refine XOps.s rfl rfl rfl (Q.assign_ptr rfl) ?_
          | refine XOps.s rfl rfl rfl (Q.assign_nilsl rfl) ?_
          | refine XOps.s rfl rfl rfl (Q.assign_fn rfl) ?_
          | refine XOps.s rfl rfl rfl (Q.assign_tup rfl) ?_
          | refine XOps.s rfl rfl rfl (Q.assign_ep rfl) ?_
          | refine XOps.s rfl rfl rfl (Q.assign_dp rfl) ?_
          | refine XOps.s rfl rfl rfl (Q.assign_dcut rfl) ?_
          | refine XOps.s rfl rfl rfl (Q.assign rfl) ?_
        refine XOps.nil ?_
        refine W.ret ?_
        refine ⟨_, hs, rfl, by repeat (first | exact HLe.refl _ | refine HLe.cons' (by first | rfl | (simp; done)) ?_ | refine HLe.skip _ ?_), ?_, rfl⟩
        first | (show _ = resO _ _; rw [hres]; done) | (rw [hres]; rfl)
end Go.Proofs.YtiibdlifdneagaaA
