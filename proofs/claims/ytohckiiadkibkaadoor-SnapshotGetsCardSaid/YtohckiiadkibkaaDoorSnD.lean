/- The laws SnapshotOrders and SnapshotGets. -/
import Derived.Test.YtohckiiadkibkaaDoorBase
import Derived.Test.YtohckiiadkibkaaDoorSnC
import Derived.Test.YtohckiiadkibkaaDoorSpec3
set_option linter.unusedVariables false
set_option linter.unusedSimpArgs false
set_option linter.unnecessarySimpa false
namespace Go.Proofs.YtohckiiadkibkaaDoorA.FSnD
open Go
theorem go10 : callGo Go.Proofs.Tryd.f10 = true := by kernel_rfl
theorem go11 : callGo Go.Proofs.Tryd.f11 = true := by kernel_rfl
theorem go12 : callGo Go.Proofs.Tryd.f12 = true := by kernel_rfl
theorem go13 : callGo Go.Proofs.Tryd.f13 = true := by kernel_rfl
theorem go9 : callGo Go.Proofs.Tryd.f9 = true := by kernel_rfl
theorem isl22 : isSl P 22 = true := by kernel_rfl
end Go.Proofs.YtohckiiadkibkaaDoorA.FSnD
namespace Go.Proofs.YtohckiiadkibkaaDoorA
open Go FSnD
attribute [local irreducible] XOps Quiet Loud W AC GQ DT
theorem szR_set {l : List SR} {c v : ByteArray} (e : setE l c v = 0) : szR (setL l c v) ∧ (setL l c v).length ≤ 64 := by
  obtain ⟨h, hn, ka, va, na, ea⟩ := setE_zero e
  have oa := put_ok h ka va
  have hl := setL_len e
  rw [ea]
  exact ⟨fun x hx => by have := oa.form x hx; have h1 := (keyed_size this.1).1; have h2 := (valued_size this.2).1; exact ⟨by omega, by omega⟩, hl⟩
theorem szR_len (l : List SR) (c v : ByteArray) (hL : l.length ≤ 4398046511104) : (setL l c v).length ≤ 64 := by
  by_cases h : setE l c v = 0
  · exact (szR_set h).2
  · unfold setL; rw [if_pos h]; simp

set_option maxHeartbeats 1000000 in
set_option maxRecDepth 100000 in
theorem orders_c (l : List SR) (a b v w : ByteArray) (gd : Nat) (hs : Hp) (hL : l.length ≤ 4398046511104) (hz : szR l) (ha : a.size ≤ 140737488351232) (hb : b.size ≤ 140737488351232) (hv : v.size ≤ 140737488351232) (hw : w.size ≤ 140737488351232) : AC P 3 [.d (.sl 2 (l.map SR.enc)), .d (.str a), .d (.str b), .d (.str v), .d (.str w)] ((gd, dbG) :: hs) (fun r h => r = .d (.bool true)) := by
  refine AC.of 69 Tryd.func3 rfl rfl rfl ?_
  refine W.reg ?_
  first
    | refine XOps.s rfl rfl rfl (Q.assign_d rfl) ?_
    | refine XOps.s rfl rfl rfl (Q.assign_vs rfl) ?_
    | refine XOps.s rfl rfl rfl (Q.assign_ptr rfl) ?_
    | refine XOps.s rfl rfl rfl (Q.assign_nilsl rfl) ?_
    | refine XOps.s rfl rfl rfl (Q.assign_fn rfl) ?_
    | refine XOps.s rfl rfl rfl (Q.assign_tup rfl) ?_
    | refine XOps.s rfl rfl rfl (Q.assign_ep rfl) ?_
    | refine XOps.s rfl rfl rfl (Q.assign_dp rfl) ?_
    | refine XOps.s rfl rfl rfl (Q.assign_dcut rfl) ?_
    | refine XOps.s rfl rfl rfl (Q.assign_aggv rfl) ?_
    | refine XOps.s rfl rfl rfl (Q.assign rfl) ?_
  refine XOps.nil ?_
  refine W.seq ?_
  refine W.reg ?_
  first
    | refine XOps.s rfl rfl rfl (Q.move_d rfl) ?_
    | refine XOps.s rfl rfl rfl (Q.move_vs rfl) ?_
    | refine XOps.s rfl rfl rfl (Q.move_ptr rfl) ?_
    | refine XOps.s rfl rfl rfl (Q.move_nilsl rfl) ?_
    | refine XOps.s rfl rfl rfl (Q.move_fn rfl) ?_
    | refine XOps.s rfl rfl rfl (Q.move_tup rfl) ?_
    | refine XOps.s rfl rfl rfl (Q.move_ep rfl) ?_
    | refine XOps.s rfl rfl rfl (Q.move_dp rfl) ?_
    | refine XOps.s rfl rfl rfl (Q.move_dcut rfl) ?_
    | refine XOps.s rfl rfl rfl (Q.move_aggv rfl) ?_
    | refine XOps.s rfl rfl rfl (Q.move rfl) ?_
  first
    | refine XOps.s rfl rfl rfl (Q.move_d rfl) ?_
    | refine XOps.s rfl rfl rfl (Q.move_vs rfl) ?_
    | refine XOps.s rfl rfl rfl (Q.move_ptr rfl) ?_
    | refine XOps.s rfl rfl rfl (Q.move_nilsl rfl) ?_
    | refine XOps.s rfl rfl rfl (Q.move_fn rfl) ?_
    | refine XOps.s rfl rfl rfl (Q.move_tup rfl) ?_
    | refine XOps.s rfl rfl rfl (Q.move_ep rfl) ?_
    | refine XOps.s rfl rfl rfl (Q.move_dp rfl) ?_
    | refine XOps.s rfl rfl rfl (Q.move_dcut rfl) ?_
    | refine XOps.s rfl rfl rfl (Q.move_aggv rfl) ?_
    | refine XOps.s rfl rfl rfl (Q.move rfl) ?_
  first
    | refine XOps.s rfl rfl rfl (Q.eql rfl rfl) ?_
    | refine XOps.s rfl rfl rfl (Q.eql_str rfl rfl) ?_
  refine XOps.nil ?_
  refine W.cond rfl (fun hc21 => ?_) (fun hc21 => ?_)
  · try simp only [decide_eq_true_eq, decide_eq_false_iff_not, Bool.or_eq_false_iff, Bool.or_eq_true, Bool.not_eq_true', Bool.not_eq_false'] at hc21
    refine W.reg ?_
    refine XOps.s rfl rfl rfl (Q.call rfl Tryd.func9 go9 rfl (fact_c gd hs)) ?_
    first
      | refine XOps.s rfl rfl rfl (Q.assign_d rfl) ?_
      | refine XOps.s rfl rfl rfl (Q.assign_vs rfl) ?_
      | refine XOps.s rfl rfl rfl (Q.assign_ptr rfl) ?_
      | refine XOps.s rfl rfl rfl (Q.assign_nilsl rfl) ?_
      | refine XOps.s rfl rfl rfl (Q.assign_fn rfl) ?_
      | refine XOps.s rfl rfl rfl (Q.assign_tup rfl) ?_
      | refine XOps.s rfl rfl rfl (Q.assign_ep rfl) ?_
      | refine XOps.s rfl rfl rfl (Q.assign_dp rfl) ?_
      | refine XOps.s rfl rfl rfl (Q.assign_dcut rfl) ?_
      | refine XOps.s rfl rfl rfl (Q.assign_aggv rfl) ?_
      | refine XOps.s rfl rfl rfl (Q.assign rfl) ?_
    refine XOps.nil ?_
    refine W.ret ?_
    first
      | exact ⟨_, _, rfl, HLe.refl _, rfl⟩
      | (refine ⟨_, _, rfl, HLe.refl _, ?_⟩; show AV.d (.bool _) = _; rw [ho1, ho2]; simp)
  · try simp only [decide_eq_true_eq, decide_eq_false_iff_not, Bool.or_eq_false_iff, Bool.or_eq_true, Bool.not_eq_true', Bool.not_eq_false'] at hc21
    have hab : a ≠ b := fun e => by subst e; exact absurd (seq_refl a) (by first | (rw [show seq a a = (a.toList == a.toList) from rfl, hc21]; simp) | (exact hc21) | (simpa using hc21))
    refine W.skip ?_
    refine W.reg ?_
    first
      | refine XOps.s rfl rfl rfl (Q.move_d rfl) ?_
      | refine XOps.s rfl rfl rfl (Q.move_vs rfl) ?_
      | refine XOps.s rfl rfl rfl (Q.move_ptr rfl) ?_
      | refine XOps.s rfl rfl rfl (Q.move_nilsl rfl) ?_
      | refine XOps.s rfl rfl rfl (Q.move_fn rfl) ?_
      | refine XOps.s rfl rfl rfl (Q.move_tup rfl) ?_
      | refine XOps.s rfl rfl rfl (Q.move_ep rfl) ?_
      | refine XOps.s rfl rfl rfl (Q.move_dp rfl) ?_
      | refine XOps.s rfl rfl rfl (Q.move_dcut rfl) ?_
      | refine XOps.s rfl rfl rfl (Q.move_aggv rfl) ?_
      | refine XOps.s rfl rfl rfl (Q.move rfl) ?_
    first
      | refine XOps.s rfl rfl rfl (Q.move_d rfl) ?_
      | refine XOps.s rfl rfl rfl (Q.move_vs rfl) ?_
      | refine XOps.s rfl rfl rfl (Q.move_ptr rfl) ?_
      | refine XOps.s rfl rfl rfl (Q.move_nilsl rfl) ?_
      | refine XOps.s rfl rfl rfl (Q.move_fn rfl) ?_
      | refine XOps.s rfl rfl rfl (Q.move_tup rfl) ?_
      | refine XOps.s rfl rfl rfl (Q.move_ep rfl) ?_
      | refine XOps.s rfl rfl rfl (Q.move_dp rfl) ?_
      | refine XOps.s rfl rfl rfl (Q.move_dcut rfl) ?_
      | refine XOps.s rfl rfl rfl (Q.move_aggv rfl) ?_
      | refine XOps.s rfl rfl rfl (Q.move rfl) ?_
    first
      | refine XOps.s rfl rfl rfl (Q.move_d rfl) ?_
      | refine XOps.s rfl rfl rfl (Q.move_vs rfl) ?_
      | refine XOps.s rfl rfl rfl (Q.move_ptr rfl) ?_
      | refine XOps.s rfl rfl rfl (Q.move_nilsl rfl) ?_
      | refine XOps.s rfl rfl rfl (Q.move_fn rfl) ?_
      | refine XOps.s rfl rfl rfl (Q.move_tup rfl) ?_
      | refine XOps.s rfl rfl rfl (Q.move_ep rfl) ?_
      | refine XOps.s rfl rfl rfl (Q.move_dp rfl) ?_
      | refine XOps.s rfl rfl rfl (Q.move_dcut rfl) ?_
      | refine XOps.s rfl rfl rfl (Q.move_aggv rfl) ?_
      | refine XOps.s rfl rfl rfl (Q.move rfl) ?_
    first
      | refine XOps.s rfl rfl rfl (Q.call rfl Tryd.func10 go10 rfl (set_c l a v _ hL hz ha hv)) ?_
      | refine XOps.s rfl rfl rfl (Q.call rfl Tryd.func10 go10 rfl (set_c l b w _ hL hz hb hw)) ?_
      | refine XOps.s rfl rfl rfl (Q.call rfl Tryd.func10 go10 rfl (set_c (setL l a v) b w _ (by omega) hsa.1 hb hw)) ?_
      | refine XOps.s rfl rfl rfl (Q.call rfl Tryd.func10 go10 rfl (set_c (setL l b w) a v _ (by omega) hsb.1 ha hv)) ?_
    first
      | refine XOps.s rfl rfl rfl (Q.move_d rfl) ?_
      | refine XOps.s rfl rfl rfl (Q.move_vs rfl) ?_
      | refine XOps.s rfl rfl rfl (Q.move_ptr rfl) ?_
      | refine XOps.s rfl rfl rfl (Q.move_nilsl rfl) ?_
      | refine XOps.s rfl rfl rfl (Q.move_fn rfl) ?_
      | refine XOps.s rfl rfl rfl (Q.move_tup rfl) ?_
      | refine XOps.s rfl rfl rfl (Q.move_ep rfl) ?_
      | refine XOps.s rfl rfl rfl (Q.move_dp rfl) ?_
      | refine XOps.s rfl rfl rfl (Q.move_dcut rfl) ?_
      | refine XOps.s rfl rfl rfl (Q.move_aggv rfl) ?_
      | refine XOps.s rfl rfl rfl (Q.move rfl) ?_
    refine XOps.s rfl rfl rfl (Q.extract rfl rfl) ?_
    refine XOps.s rfl rfl rfl (Q.extract rfl rfl) ?_
    first
      | refine XOps.s rfl rfl rfl (Q.assign_d rfl) ?_
      | refine XOps.s rfl rfl rfl (Q.assign_vs rfl) ?_
      | refine XOps.s rfl rfl rfl (Q.assign_ptr rfl) ?_
      | refine XOps.s rfl rfl rfl (Q.assign_nilsl rfl) ?_
      | refine XOps.s rfl rfl rfl (Q.assign_fn rfl) ?_
      | refine XOps.s rfl rfl rfl (Q.assign_tup rfl) ?_
      | refine XOps.s rfl rfl rfl (Q.assign_ep rfl) ?_
      | refine XOps.s rfl rfl rfl (Q.assign_dp rfl) ?_
      | refine XOps.s rfl rfl rfl (Q.assign_dcut rfl) ?_
      | refine XOps.s rfl rfl rfl (Q.assign_aggv rfl) ?_
      | refine XOps.s rfl rfl rfl (Q.assign rfl) ?_
    first
      | refine XOps.s rfl rfl rfl (Q.assign_d rfl) ?_
      | refine XOps.s rfl rfl rfl (Q.assign_vs rfl) ?_
      | refine XOps.s rfl rfl rfl (Q.assign_ptr rfl) ?_
      | refine XOps.s rfl rfl rfl (Q.assign_nilsl rfl) ?_
      | refine XOps.s rfl rfl rfl (Q.assign_fn rfl) ?_
      | refine XOps.s rfl rfl rfl (Q.assign_tup rfl) ?_
      | refine XOps.s rfl rfl rfl (Q.assign_ep rfl) ?_
      | refine XOps.s rfl rfl rfl (Q.assign_dp rfl) ?_
      | refine XOps.s rfl rfl rfl (Q.assign_dcut rfl) ?_
      | refine XOps.s rfl rfl rfl (Q.assign_aggv rfl) ?_
      | refine XOps.s rfl rfl rfl (Q.assign rfl) ?_
    refine XOps.nil ?_
    refine W.reg ?_
    first
      | refine XOps.s rfl rfl rfl (Q.move_d rfl) ?_
      | refine XOps.s rfl rfl rfl (Q.move_vs rfl) ?_
      | refine XOps.s rfl rfl rfl (Q.move_ptr rfl) ?_
      | refine XOps.s rfl rfl rfl (Q.move_nilsl rfl) ?_
      | refine XOps.s rfl rfl rfl (Q.move_fn rfl) ?_
      | refine XOps.s rfl rfl rfl (Q.move_tup rfl) ?_
      | refine XOps.s rfl rfl rfl (Q.move_ep rfl) ?_
      | refine XOps.s rfl rfl rfl (Q.move_dp rfl) ?_
      | refine XOps.s rfl rfl rfl (Q.move_dcut rfl) ?_
      | refine XOps.s rfl rfl rfl (Q.move_aggv rfl) ?_
      | refine XOps.s rfl rfl rfl (Q.move rfl) ?_
    first
      | refine XOps.s rfl rfl rfl (Q.move_d rfl) ?_
      | refine XOps.s rfl rfl rfl (Q.move_vs rfl) ?_
      | refine XOps.s rfl rfl rfl (Q.move_ptr rfl) ?_
      | refine XOps.s rfl rfl rfl (Q.move_nilsl rfl) ?_
      | refine XOps.s rfl rfl rfl (Q.move_fn rfl) ?_
      | refine XOps.s rfl rfl rfl (Q.move_tup rfl) ?_
      | refine XOps.s rfl rfl rfl (Q.move_ep rfl) ?_
      | refine XOps.s rfl rfl rfl (Q.move_dp rfl) ?_
      | refine XOps.s rfl rfl rfl (Q.move_dcut rfl) ?_
      | refine XOps.s rfl rfl rfl (Q.move_aggv rfl) ?_
      | refine XOps.s rfl rfl rfl (Q.move rfl) ?_
    first
      | refine XOps.s rfl rfl rfl (Q.move_d rfl) ?_
      | refine XOps.s rfl rfl rfl (Q.move_vs rfl) ?_
      | refine XOps.s rfl rfl rfl (Q.move_ptr rfl) ?_
      | refine XOps.s rfl rfl rfl (Q.move_nilsl rfl) ?_
      | refine XOps.s rfl rfl rfl (Q.move_fn rfl) ?_
      | refine XOps.s rfl rfl rfl (Q.move_tup rfl) ?_
      | refine XOps.s rfl rfl rfl (Q.move_ep rfl) ?_
      | refine XOps.s rfl rfl rfl (Q.move_dp rfl) ?_
      | refine XOps.s rfl rfl rfl (Q.move_dcut rfl) ?_
      | refine XOps.s rfl rfl rfl (Q.move_aggv rfl) ?_
      | refine XOps.s rfl rfl rfl (Q.move rfl) ?_
    first
      | refine XOps.s rfl rfl rfl (Q.call rfl Tryd.func10 go10 rfl (set_c l a v _ hL hz ha hv)) ?_
      | refine XOps.s rfl rfl rfl (Q.call rfl Tryd.func10 go10 rfl (set_c l b w _ hL hz hb hw)) ?_
      | refine XOps.s rfl rfl rfl (Q.call rfl Tryd.func10 go10 rfl (set_c (setL l a v) b w _ (by omega) hsa.1 hb hw)) ?_
      | refine XOps.s rfl rfl rfl (Q.call rfl Tryd.func10 go10 rfl (set_c (setL l b w) a v _ (by omega) hsb.1 ha hv)) ?_
    first
      | refine XOps.s rfl rfl rfl (Q.move_d rfl) ?_
      | refine XOps.s rfl rfl rfl (Q.move_vs rfl) ?_
      | refine XOps.s rfl rfl rfl (Q.move_ptr rfl) ?_
      | refine XOps.s rfl rfl rfl (Q.move_nilsl rfl) ?_
      | refine XOps.s rfl rfl rfl (Q.move_fn rfl) ?_
      | refine XOps.s rfl rfl rfl (Q.move_tup rfl) ?_
      | refine XOps.s rfl rfl rfl (Q.move_ep rfl) ?_
      | refine XOps.s rfl rfl rfl (Q.move_dp rfl) ?_
      | refine XOps.s rfl rfl rfl (Q.move_dcut rfl) ?_
      | refine XOps.s rfl rfl rfl (Q.move_aggv rfl) ?_
      | refine XOps.s rfl rfl rfl (Q.move rfl) ?_
    refine XOps.s rfl rfl rfl (Q.extract rfl rfl) ?_
    refine XOps.s rfl rfl rfl (Q.extract rfl rfl) ?_
    first
      | refine XOps.s rfl rfl rfl (Q.assign_d rfl) ?_
      | refine XOps.s rfl rfl rfl (Q.assign_vs rfl) ?_
      | refine XOps.s rfl rfl rfl (Q.assign_ptr rfl) ?_
      | refine XOps.s rfl rfl rfl (Q.assign_nilsl rfl) ?_
      | refine XOps.s rfl rfl rfl (Q.assign_fn rfl) ?_
      | refine XOps.s rfl rfl rfl (Q.assign_tup rfl) ?_
      | refine XOps.s rfl rfl rfl (Q.assign_ep rfl) ?_
      | refine XOps.s rfl rfl rfl (Q.assign_dp rfl) ?_
      | refine XOps.s rfl rfl rfl (Q.assign_dcut rfl) ?_
      | refine XOps.s rfl rfl rfl (Q.assign_aggv rfl) ?_
      | refine XOps.s rfl rfl rfl (Q.assign rfl) ?_
    first
      | refine XOps.s rfl rfl rfl (Q.assign_d rfl) ?_
      | refine XOps.s rfl rfl rfl (Q.assign_vs rfl) ?_
      | refine XOps.s rfl rfl rfl (Q.assign_ptr rfl) ?_
      | refine XOps.s rfl rfl rfl (Q.assign_nilsl rfl) ?_
      | refine XOps.s rfl rfl rfl (Q.assign_fn rfl) ?_
      | refine XOps.s rfl rfl rfl (Q.assign_tup rfl) ?_
      | refine XOps.s rfl rfl rfl (Q.assign_ep rfl) ?_
      | refine XOps.s rfl rfl rfl (Q.assign_dp rfl) ?_
      | refine XOps.s rfl rfl rfl (Q.assign_dcut rfl) ?_
      | refine XOps.s rfl rfl rfl (Q.assign_aggv rfl) ?_
      | refine XOps.s rfl rfl rfl (Q.assign rfl) ?_
    refine XOps.nil ?_
    refine W.seq ?_
    refine W.reg ?_
    first
      | refine XOps.s rfl rfl rfl (Q.move_d rfl) ?_
      | refine XOps.s rfl rfl rfl (Q.move_vs rfl) ?_
      | refine XOps.s rfl rfl rfl (Q.move_ptr rfl) ?_
      | refine XOps.s rfl rfl rfl (Q.move_nilsl rfl) ?_
      | refine XOps.s rfl rfl rfl (Q.move_fn rfl) ?_
      | refine XOps.s rfl rfl rfl (Q.move_tup rfl) ?_
      | refine XOps.s rfl rfl rfl (Q.move_ep rfl) ?_
      | refine XOps.s rfl rfl rfl (Q.move_dp rfl) ?_
      | refine XOps.s rfl rfl rfl (Q.move_dcut rfl) ?_
      | refine XOps.s rfl rfl rfl (Q.move_aggv rfl) ?_
      | refine XOps.s rfl rfl rfl (Q.move rfl) ?_
    first
      | refine XOps.s rfl rfl rfl (Q.neq rfl rfl) ?_
      | refine XOps.s rfl rfl rfl (Q.neq_str rfl rfl) ?_
    first
      | refine XOps.s rfl rfl rfl (Q.move_d rfl) ?_
      | refine XOps.s rfl rfl rfl (Q.move_vs rfl) ?_
      | refine XOps.s rfl rfl rfl (Q.move_ptr rfl) ?_
      | refine XOps.s rfl rfl rfl (Q.move_nilsl rfl) ?_
      | refine XOps.s rfl rfl rfl (Q.move_fn rfl) ?_
      | refine XOps.s rfl rfl rfl (Q.move_tup rfl) ?_
      | refine XOps.s rfl rfl rfl (Q.move_ep rfl) ?_
      | refine XOps.s rfl rfl rfl (Q.move_dp rfl) ?_
      | refine XOps.s rfl rfl rfl (Q.move_dcut rfl) ?_
      | refine XOps.s rfl rfl rfl (Q.move_aggv rfl) ?_
      | refine XOps.s rfl rfl rfl (Q.move rfl) ?_
    first
      | refine XOps.gs rfl rfl rfl rfl rfl rfl rfl (fun hg => Q.move_d rfl) ?_
      | refine XOps.gs rfl rfl rfl rfl rfl rfl rfl (fun hg => Q.move_vs rfl) ?_
      | refine XOps.gs rfl rfl rfl rfl rfl rfl rfl (fun hg => Q.move_ptr rfl) ?_
      | refine XOps.gs rfl rfl rfl rfl rfl rfl rfl (fun hg => Q.move_nilsl rfl) ?_
      | refine XOps.gs rfl rfl rfl rfl rfl rfl rfl (fun hg => Q.move_fn rfl) ?_
      | refine XOps.gs rfl rfl rfl rfl rfl rfl rfl (fun hg => Q.move_tup rfl) ?_
      | refine XOps.gs rfl rfl rfl rfl rfl rfl rfl (fun hg => Q.move_ep rfl) ?_
      | refine XOps.gs rfl rfl rfl rfl rfl rfl rfl (fun hg => Q.move_dp rfl) ?_
      | refine XOps.gs rfl rfl rfl rfl rfl rfl rfl (fun hg => Q.move_dcut rfl) ?_
      | refine XOps.gs rfl rfl rfl rfl rfl rfl rfl (fun hg => Q.move_aggv rfl) ?_
      | refine XOps.gs rfl rfl rfl rfl rfl rfl rfl (fun hg => Q.move rfl) ?_
    first
      | refine XOps.gs rfl rfl rfl rfl rfl rfl rfl (fun hg => Quiet.open 40 hg rfl (Q.neq rfl rfl)) ?_
      | refine XOps.gs rfl rfl rfl rfl rfl rfl rfl (fun hg => Quiet.open 40 hg rfl (Q.neq_str rfl rfl)) ?_
    first
      | refine XOps.s rfl rfl rfl (Q.pick_and rfl rfl rfl (fun h => by first | (rw [h]; rfl) | (rw [hg, h]; rfl) | (simp [h, hg]; done))) ?_
      | refine XOps.s rfl rfl rfl (Q.pick_or rfl rfl rfl (fun h => by first | (rw [h]; rfl) | (rw [hg, h]; rfl) | (simp [h, hg]; done))) ?_
      | refine XOps.s rfl rfl rfl (Q.pick rfl rfl rfl) ?_
    refine XOps.nil ?_
    refine W.cond rfl (fun hc42 => ?_) (fun hc42 => ?_)
    · try simp only [decide_eq_true_eq, decide_eq_false_iff_not, Bool.or_eq_false_iff, Bool.or_eq_true, Bool.not_eq_true', Bool.not_eq_false'] at hc42
      refine W.reg ?_
      refine XOps.s rfl rfl rfl (Q.call rfl Tryd.func9 go9 rfl (fact_c gd hs)) ?_
      first
        | refine XOps.s rfl rfl rfl (Q.assign_d rfl) ?_
        | refine XOps.s rfl rfl rfl (Q.assign_vs rfl) ?_
        | refine XOps.s rfl rfl rfl (Q.assign_ptr rfl) ?_
        | refine XOps.s rfl rfl rfl (Q.assign_nilsl rfl) ?_
        | refine XOps.s rfl rfl rfl (Q.assign_fn rfl) ?_
        | refine XOps.s rfl rfl rfl (Q.assign_tup rfl) ?_
        | refine XOps.s rfl rfl rfl (Q.assign_ep rfl) ?_
        | refine XOps.s rfl rfl rfl (Q.assign_dp rfl) ?_
        | refine XOps.s rfl rfl rfl (Q.assign_dcut rfl) ?_
        | refine XOps.s rfl rfl rfl (Q.assign_aggv rfl) ?_
        | refine XOps.s rfl rfl rfl (Q.assign rfl) ?_
      refine XOps.nil ?_
      refine W.ret ?_
      first
        | exact ⟨_, _, rfl, HLe.refl _, rfl⟩
        | (refine ⟨_, _, rfl, HLe.refl _, ?_⟩; show AV.d (.bool _) = _; rw [ho1, ho2]; simp)
    · try simp only [decide_eq_true_eq, decide_eq_false_iff_not, Bool.or_eq_false_iff, Bool.or_eq_true, Bool.not_eq_true', Bool.not_eq_false'] at hc42
      have he : setE l a v = 0 := hc42.1
      have hf : setE l b w = 0 := hc42.2
      have hsa := szR_set he
      have hsb := szR_set hf
      obtain ⟨ho1, ho2⟩ := orders hab he hf
      have hle := szR_len (setL l a v) b w (by omega)
      refine W.skip ?_
      refine W.reg ?_
      first
        | refine XOps.s rfl rfl rfl (Q.move_d rfl) ?_
        | refine XOps.s rfl rfl rfl (Q.move_vs rfl) ?_
        | refine XOps.s rfl rfl rfl (Q.move_ptr rfl) ?_
        | refine XOps.s rfl rfl rfl (Q.move_nilsl rfl) ?_
        | refine XOps.s rfl rfl rfl (Q.move_fn rfl) ?_
        | refine XOps.s rfl rfl rfl (Q.move_tup rfl) ?_
        | refine XOps.s rfl rfl rfl (Q.move_ep rfl) ?_
        | refine XOps.s rfl rfl rfl (Q.move_dp rfl) ?_
        | refine XOps.s rfl rfl rfl (Q.move_dcut rfl) ?_
        | refine XOps.s rfl rfl rfl (Q.move_aggv rfl) ?_
        | refine XOps.s rfl rfl rfl (Q.move rfl) ?_
      first
        | refine XOps.s rfl rfl rfl (Q.move_d rfl) ?_
        | refine XOps.s rfl rfl rfl (Q.move_vs rfl) ?_
        | refine XOps.s rfl rfl rfl (Q.move_ptr rfl) ?_
        | refine XOps.s rfl rfl rfl (Q.move_nilsl rfl) ?_
        | refine XOps.s rfl rfl rfl (Q.move_fn rfl) ?_
        | refine XOps.s rfl rfl rfl (Q.move_tup rfl) ?_
        | refine XOps.s rfl rfl rfl (Q.move_ep rfl) ?_
        | refine XOps.s rfl rfl rfl (Q.move_dp rfl) ?_
        | refine XOps.s rfl rfl rfl (Q.move_dcut rfl) ?_
        | refine XOps.s rfl rfl rfl (Q.move_aggv rfl) ?_
        | refine XOps.s rfl rfl rfl (Q.move rfl) ?_
      first
        | refine XOps.s rfl rfl rfl (Q.move_d rfl) ?_
        | refine XOps.s rfl rfl rfl (Q.move_vs rfl) ?_
        | refine XOps.s rfl rfl rfl (Q.move_ptr rfl) ?_
        | refine XOps.s rfl rfl rfl (Q.move_nilsl rfl) ?_
        | refine XOps.s rfl rfl rfl (Q.move_fn rfl) ?_
        | refine XOps.s rfl rfl rfl (Q.move_tup rfl) ?_
        | refine XOps.s rfl rfl rfl (Q.move_ep rfl) ?_
        | refine XOps.s rfl rfl rfl (Q.move_dp rfl) ?_
        | refine XOps.s rfl rfl rfl (Q.move_dcut rfl) ?_
        | refine XOps.s rfl rfl rfl (Q.move_aggv rfl) ?_
        | refine XOps.s rfl rfl rfl (Q.move rfl) ?_
      first
        | refine XOps.s rfl rfl rfl (Q.call rfl Tryd.func10 go10 rfl (set_c l a v _ hL hz ha hv)) ?_
        | refine XOps.s rfl rfl rfl (Q.call rfl Tryd.func10 go10 rfl (set_c l b w _ hL hz hb hw)) ?_
        | refine XOps.s rfl rfl rfl (Q.call rfl Tryd.func10 go10 rfl (set_c (setL l a v) b w _ (by omega) hsa.1 hb hw)) ?_
        | refine XOps.s rfl rfl rfl (Q.call rfl Tryd.func10 go10 rfl (set_c (setL l b w) a v _ (by omega) hsb.1 ha hv)) ?_
      first
        | refine XOps.s rfl rfl rfl (Q.move_d rfl) ?_
        | refine XOps.s rfl rfl rfl (Q.move_vs rfl) ?_
        | refine XOps.s rfl rfl rfl (Q.move_ptr rfl) ?_
        | refine XOps.s rfl rfl rfl (Q.move_nilsl rfl) ?_
        | refine XOps.s rfl rfl rfl (Q.move_fn rfl) ?_
        | refine XOps.s rfl rfl rfl (Q.move_tup rfl) ?_
        | refine XOps.s rfl rfl rfl (Q.move_ep rfl) ?_
        | refine XOps.s rfl rfl rfl (Q.move_dp rfl) ?_
        | refine XOps.s rfl rfl rfl (Q.move_dcut rfl) ?_
        | refine XOps.s rfl rfl rfl (Q.move_aggv rfl) ?_
        | refine XOps.s rfl rfl rfl (Q.move rfl) ?_
      refine XOps.s rfl rfl rfl (Q.extract rfl rfl) ?_
      refine XOps.s rfl rfl rfl (Q.extract rfl rfl) ?_
      first
        | refine XOps.s rfl rfl rfl (Q.assign_d rfl) ?_
        | refine XOps.s rfl rfl rfl (Q.assign_vs rfl) ?_
        | refine XOps.s rfl rfl rfl (Q.assign_ptr rfl) ?_
        | refine XOps.s rfl rfl rfl (Q.assign_nilsl rfl) ?_
        | refine XOps.s rfl rfl rfl (Q.assign_fn rfl) ?_
        | refine XOps.s rfl rfl rfl (Q.assign_tup rfl) ?_
        | refine XOps.s rfl rfl rfl (Q.assign_ep rfl) ?_
        | refine XOps.s rfl rfl rfl (Q.assign_dp rfl) ?_
        | refine XOps.s rfl rfl rfl (Q.assign_dcut rfl) ?_
        | refine XOps.s rfl rfl rfl (Q.assign_aggv rfl) ?_
        | refine XOps.s rfl rfl rfl (Q.assign rfl) ?_
      first
        | refine XOps.s rfl rfl rfl (Q.assign_d rfl) ?_
        | refine XOps.s rfl rfl rfl (Q.assign_vs rfl) ?_
        | refine XOps.s rfl rfl rfl (Q.assign_ptr rfl) ?_
        | refine XOps.s rfl rfl rfl (Q.assign_nilsl rfl) ?_
        | refine XOps.s rfl rfl rfl (Q.assign_fn rfl) ?_
        | refine XOps.s rfl rfl rfl (Q.assign_tup rfl) ?_
        | refine XOps.s rfl rfl rfl (Q.assign_ep rfl) ?_
        | refine XOps.s rfl rfl rfl (Q.assign_dp rfl) ?_
        | refine XOps.s rfl rfl rfl (Q.assign_dcut rfl) ?_
        | refine XOps.s rfl rfl rfl (Q.assign_aggv rfl) ?_
        | refine XOps.s rfl rfl rfl (Q.assign rfl) ?_
      refine XOps.nil ?_
      refine W.reg ?_
      first
        | refine XOps.s rfl rfl rfl (Q.move_d rfl) ?_
        | refine XOps.s rfl rfl rfl (Q.move_vs rfl) ?_
        | refine XOps.s rfl rfl rfl (Q.move_ptr rfl) ?_
        | refine XOps.s rfl rfl rfl (Q.move_nilsl rfl) ?_
        | refine XOps.s rfl rfl rfl (Q.move_fn rfl) ?_
        | refine XOps.s rfl rfl rfl (Q.move_tup rfl) ?_
        | refine XOps.s rfl rfl rfl (Q.move_ep rfl) ?_
        | refine XOps.s rfl rfl rfl (Q.move_dp rfl) ?_
        | refine XOps.s rfl rfl rfl (Q.move_dcut rfl) ?_
        | refine XOps.s rfl rfl rfl (Q.move_aggv rfl) ?_
        | refine XOps.s rfl rfl rfl (Q.move rfl) ?_
      first
        | refine XOps.s rfl rfl rfl (Q.move_d rfl) ?_
        | refine XOps.s rfl rfl rfl (Q.move_vs rfl) ?_
        | refine XOps.s rfl rfl rfl (Q.move_ptr rfl) ?_
        | refine XOps.s rfl rfl rfl (Q.move_nilsl rfl) ?_
        | refine XOps.s rfl rfl rfl (Q.move_fn rfl) ?_
        | refine XOps.s rfl rfl rfl (Q.move_tup rfl) ?_
        | refine XOps.s rfl rfl rfl (Q.move_ep rfl) ?_
        | refine XOps.s rfl rfl rfl (Q.move_dp rfl) ?_
        | refine XOps.s rfl rfl rfl (Q.move_dcut rfl) ?_
        | refine XOps.s rfl rfl rfl (Q.move_aggv rfl) ?_
        | refine XOps.s rfl rfl rfl (Q.move rfl) ?_
      first
        | refine XOps.s rfl rfl rfl (Q.move_d rfl) ?_
        | refine XOps.s rfl rfl rfl (Q.move_vs rfl) ?_
        | refine XOps.s rfl rfl rfl (Q.move_ptr rfl) ?_
        | refine XOps.s rfl rfl rfl (Q.move_nilsl rfl) ?_
        | refine XOps.s rfl rfl rfl (Q.move_fn rfl) ?_
        | refine XOps.s rfl rfl rfl (Q.move_tup rfl) ?_
        | refine XOps.s rfl rfl rfl (Q.move_ep rfl) ?_
        | refine XOps.s rfl rfl rfl (Q.move_dp rfl) ?_
        | refine XOps.s rfl rfl rfl (Q.move_dcut rfl) ?_
        | refine XOps.s rfl rfl rfl (Q.move_aggv rfl) ?_
        | refine XOps.s rfl rfl rfl (Q.move rfl) ?_
      first
        | refine XOps.s rfl rfl rfl (Q.call rfl Tryd.func10 go10 rfl (set_c l a v _ hL hz ha hv)) ?_
        | refine XOps.s rfl rfl rfl (Q.call rfl Tryd.func10 go10 rfl (set_c l b w _ hL hz hb hw)) ?_
        | refine XOps.s rfl rfl rfl (Q.call rfl Tryd.func10 go10 rfl (set_c (setL l a v) b w _ (by omega) hsa.1 hb hw)) ?_
        | refine XOps.s rfl rfl rfl (Q.call rfl Tryd.func10 go10 rfl (set_c (setL l b w) a v _ (by omega) hsb.1 ha hv)) ?_
      first
        | refine XOps.s rfl rfl rfl (Q.move_d rfl) ?_
        | refine XOps.s rfl rfl rfl (Q.move_vs rfl) ?_
        | refine XOps.s rfl rfl rfl (Q.move_ptr rfl) ?_
        | refine XOps.s rfl rfl rfl (Q.move_nilsl rfl) ?_
        | refine XOps.s rfl rfl rfl (Q.move_fn rfl) ?_
        | refine XOps.s rfl rfl rfl (Q.move_tup rfl) ?_
        | refine XOps.s rfl rfl rfl (Q.move_ep rfl) ?_
        | refine XOps.s rfl rfl rfl (Q.move_dp rfl) ?_
        | refine XOps.s rfl rfl rfl (Q.move_dcut rfl) ?_
        | refine XOps.s rfl rfl rfl (Q.move_aggv rfl) ?_
        | refine XOps.s rfl rfl rfl (Q.move rfl) ?_
      refine XOps.s rfl rfl rfl (Q.extract rfl rfl) ?_
      refine XOps.s rfl rfl rfl (Q.extract rfl rfl) ?_
      first
        | refine XOps.s rfl rfl rfl (Q.assign_d rfl) ?_
        | refine XOps.s rfl rfl rfl (Q.assign_vs rfl) ?_
        | refine XOps.s rfl rfl rfl (Q.assign_ptr rfl) ?_
        | refine XOps.s rfl rfl rfl (Q.assign_nilsl rfl) ?_
        | refine XOps.s rfl rfl rfl (Q.assign_fn rfl) ?_
        | refine XOps.s rfl rfl rfl (Q.assign_tup rfl) ?_
        | refine XOps.s rfl rfl rfl (Q.assign_ep rfl) ?_
        | refine XOps.s rfl rfl rfl (Q.assign_dp rfl) ?_
        | refine XOps.s rfl rfl rfl (Q.assign_dcut rfl) ?_
        | refine XOps.s rfl rfl rfl (Q.assign_aggv rfl) ?_
        | refine XOps.s rfl rfl rfl (Q.assign rfl) ?_
      first
        | refine XOps.s rfl rfl rfl (Q.assign_d rfl) ?_
        | refine XOps.s rfl rfl rfl (Q.assign_vs rfl) ?_
        | refine XOps.s rfl rfl rfl (Q.assign_ptr rfl) ?_
        | refine XOps.s rfl rfl rfl (Q.assign_nilsl rfl) ?_
        | refine XOps.s rfl rfl rfl (Q.assign_fn rfl) ?_
        | refine XOps.s rfl rfl rfl (Q.assign_tup rfl) ?_
        | refine XOps.s rfl rfl rfl (Q.assign_ep rfl) ?_
        | refine XOps.s rfl rfl rfl (Q.assign_dp rfl) ?_
        | refine XOps.s rfl rfl rfl (Q.assign_dcut rfl) ?_
        | refine XOps.s rfl rfl rfl (Q.assign_aggv rfl) ?_
        | refine XOps.s rfl rfl rfl (Q.assign rfl) ?_
      refine XOps.nil ?_
      refine W.reg ?_
      refine XOps.s rfl rfl rfl (Q.call rfl Tryd.func9 go9 rfl (fact_c gd hs)) ?_
      first
        | refine XOps.s rfl rfl rfl (Q.move_d rfl) ?_
        | refine XOps.s rfl rfl rfl (Q.move_vs rfl) ?_
        | refine XOps.s rfl rfl rfl (Q.move_ptr rfl) ?_
        | refine XOps.s rfl rfl rfl (Q.move_nilsl rfl) ?_
        | refine XOps.s rfl rfl rfl (Q.move_fn rfl) ?_
        | refine XOps.s rfl rfl rfl (Q.move_tup rfl) ?_
        | refine XOps.s rfl rfl rfl (Q.move_ep rfl) ?_
        | refine XOps.s rfl rfl rfl (Q.move_dp rfl) ?_
        | refine XOps.s rfl rfl rfl (Q.move_dcut rfl) ?_
        | refine XOps.s rfl rfl rfl (Q.move_aggv rfl) ?_
        | refine XOps.s rfl rfl rfl (Q.move rfl) ?_
      first
        | refine XOps.gs rfl rfl rfl rfl rfl rfl rfl (fun hg => Q.move_d rfl) ?_
        | refine XOps.gs rfl rfl rfl rfl rfl rfl rfl (fun hg => Q.move_vs rfl) ?_
        | refine XOps.gs rfl rfl rfl rfl rfl rfl rfl (fun hg => Q.move_ptr rfl) ?_
        | refine XOps.gs rfl rfl rfl rfl rfl rfl rfl (fun hg => Q.move_nilsl rfl) ?_
        | refine XOps.gs rfl rfl rfl rfl rfl rfl rfl (fun hg => Q.move_fn rfl) ?_
        | refine XOps.gs rfl rfl rfl rfl rfl rfl rfl (fun hg => Q.move_tup rfl) ?_
        | refine XOps.gs rfl rfl rfl rfl rfl rfl rfl (fun hg => Q.move_ep rfl) ?_
        | refine XOps.gs rfl rfl rfl rfl rfl rfl rfl (fun hg => Q.move_dp rfl) ?_
        | refine XOps.gs rfl rfl rfl rfl rfl rfl rfl (fun hg => Q.move_dcut rfl) ?_
        | refine XOps.gs rfl rfl rfl rfl rfl rfl rfl (fun hg => Q.move_aggv rfl) ?_
        | refine XOps.gs rfl rfl rfl rfl rfl rfl rfl (fun hg => Q.move rfl) ?_
      first
        | refine XOps.gs rfl rfl rfl rfl rfl rfl rfl (fun hg => Q.move_d rfl) ?_
        | refine XOps.gs rfl rfl rfl rfl rfl rfl rfl (fun hg => Q.move_vs rfl) ?_
        | refine XOps.gs rfl rfl rfl rfl rfl rfl rfl (fun hg => Q.move_ptr rfl) ?_
        | refine XOps.gs rfl rfl rfl rfl rfl rfl rfl (fun hg => Q.move_nilsl rfl) ?_
        | refine XOps.gs rfl rfl rfl rfl rfl rfl rfl (fun hg => Q.move_fn rfl) ?_
        | refine XOps.gs rfl rfl rfl rfl rfl rfl rfl (fun hg => Q.move_tup rfl) ?_
        | refine XOps.gs rfl rfl rfl rfl rfl rfl rfl (fun hg => Q.move_ep rfl) ?_
        | refine XOps.gs rfl rfl rfl rfl rfl rfl rfl (fun hg => Q.move_dp rfl) ?_
        | refine XOps.gs rfl rfl rfl rfl rfl rfl rfl (fun hg => Q.move_dcut rfl) ?_
        | refine XOps.gs rfl rfl rfl rfl rfl rfl rfl (fun hg => Q.move_aggv rfl) ?_
        | refine XOps.gs rfl rfl rfl rfl rfl rfl rfl (fun hg => Q.move rfl) ?_
      first
        | refine XOps.gs rfl rfl rfl rfl rfl rfl rfl (fun hg => Quiet.open 60 hg rfl (Quiet.open 61 hg rfl (Q.eql rfl rfl))) ?_
        | refine XOps.gs rfl rfl rfl rfl rfl rfl rfl (fun hg => Quiet.open 60 hg rfl (Quiet.open 61 hg rfl (Q.eql_str rfl rfl))) ?_
      first
        | refine XOps.s rfl rfl rfl (Q.pick_and rfl rfl rfl (fun h => by first | (rw [h]; rfl) | (rw [hg, h]; rfl) | (simp [h, hg]; done))) ?_
        | refine XOps.s rfl rfl rfl (Q.pick_or rfl rfl rfl (fun h => by first | (rw [h]; rfl) | (rw [hg, h]; rfl) | (simp [h, hg]; done))) ?_
        | refine XOps.s rfl rfl rfl (Q.pick rfl rfl rfl) ?_
      first
        | refine XOps.s rfl rfl rfl (Q.move_d rfl) ?_
        | refine XOps.s rfl rfl rfl (Q.move_vs rfl) ?_
        | refine XOps.s rfl rfl rfl (Q.move_ptr rfl) ?_
        | refine XOps.s rfl rfl rfl (Q.move_nilsl rfl) ?_
        | refine XOps.s rfl rfl rfl (Q.move_fn rfl) ?_
        | refine XOps.s rfl rfl rfl (Q.move_tup rfl) ?_
        | refine XOps.s rfl rfl rfl (Q.move_ep rfl) ?_
        | refine XOps.s rfl rfl rfl (Q.move_dp rfl) ?_
        | refine XOps.s rfl rfl rfl (Q.move_dcut rfl) ?_
        | refine XOps.s rfl rfl rfl (Q.move_aggv rfl) ?_
        | refine XOps.s rfl rfl rfl (Q.move rfl) ?_
      first
        | refine XOps.gs rfl rfl rfl rfl rfl rfl rfl (fun hg => Q.move_d rfl) ?_
        | refine XOps.gs rfl rfl rfl rfl rfl rfl rfl (fun hg => Q.move_vs rfl) ?_
        | refine XOps.gs rfl rfl rfl rfl rfl rfl rfl (fun hg => Q.move_ptr rfl) ?_
        | refine XOps.gs rfl rfl rfl rfl rfl rfl rfl (fun hg => Q.move_nilsl rfl) ?_
        | refine XOps.gs rfl rfl rfl rfl rfl rfl rfl (fun hg => Q.move_fn rfl) ?_
        | refine XOps.gs rfl rfl rfl rfl rfl rfl rfl (fun hg => Q.move_tup rfl) ?_
        | refine XOps.gs rfl rfl rfl rfl rfl rfl rfl (fun hg => Q.move_ep rfl) ?_
        | refine XOps.gs rfl rfl rfl rfl rfl rfl rfl (fun hg => Q.move_dp rfl) ?_
        | refine XOps.gs rfl rfl rfl rfl rfl rfl rfl (fun hg => Q.move_dcut rfl) ?_
        | refine XOps.gs rfl rfl rfl rfl rfl rfl rfl (fun hg => Q.move_aggv rfl) ?_
        | refine XOps.gs rfl rfl rfl rfl rfl rfl rfl (fun hg => Q.move rfl) ?_
      first
        | refine XOps.gs rfl rfl rfl rfl rfl rfl rfl (fun hg => Q.move_d rfl) ?_
        | refine XOps.gs rfl rfl rfl rfl rfl rfl rfl (fun hg => Q.move_vs rfl) ?_
        | refine XOps.gs rfl rfl rfl rfl rfl rfl rfl (fun hg => Q.move_ptr rfl) ?_
        | refine XOps.gs rfl rfl rfl rfl rfl rfl rfl (fun hg => Q.move_nilsl rfl) ?_
        | refine XOps.gs rfl rfl rfl rfl rfl rfl rfl (fun hg => Q.move_fn rfl) ?_
        | refine XOps.gs rfl rfl rfl rfl rfl rfl rfl (fun hg => Q.move_tup rfl) ?_
        | refine XOps.gs rfl rfl rfl rfl rfl rfl rfl (fun hg => Q.move_ep rfl) ?_
        | refine XOps.gs rfl rfl rfl rfl rfl rfl rfl (fun hg => Q.move_dp rfl) ?_
        | refine XOps.gs rfl rfl rfl rfl rfl rfl rfl (fun hg => Q.move_dcut rfl) ?_
        | refine XOps.gs rfl rfl rfl rfl rfl rfl rfl (fun hg => Q.move_aggv rfl) ?_
        | refine XOps.gs rfl rfl rfl rfl rfl rfl rfl (fun hg => Q.move rfl) ?_
      refine XOps.gs rfl rfl rfl rfl rfl rfl rfl (fun hg => Quiet.open 65 hg rfl (Quiet.open 66 hg rfl (Q.call rfl Tryd.func11 go11 rfl (same_c (setL (setL l a v) b w) (setL (setL l b w) a v) _ (by omega))))) ?_
      first
        | refine XOps.s rfl rfl rfl (Q.pick_and rfl rfl rfl (fun h => by first | (rw [h]; rfl) | (rw [hg, h]; rfl) | (simp [h, hg]; done))) ?_
        | refine XOps.s rfl rfl rfl (Q.pick_or rfl rfl rfl (fun h => by first | (rw [h]; rfl) | (rw [hg, h]; rfl) | (simp [h, hg]; done))) ?_
        | refine XOps.s rfl rfl rfl (Q.pick rfl rfl rfl) ?_
      first
        | refine XOps.s rfl rfl rfl (Q.assign_d rfl) ?_
        | refine XOps.s rfl rfl rfl (Q.assign_vs rfl) ?_
        | refine XOps.s rfl rfl rfl (Q.assign_ptr rfl) ?_
        | refine XOps.s rfl rfl rfl (Q.assign_nilsl rfl) ?_
        | refine XOps.s rfl rfl rfl (Q.assign_fn rfl) ?_
        | refine XOps.s rfl rfl rfl (Q.assign_tup rfl) ?_
        | refine XOps.s rfl rfl rfl (Q.assign_ep rfl) ?_
        | refine XOps.s rfl rfl rfl (Q.assign_dp rfl) ?_
        | refine XOps.s rfl rfl rfl (Q.assign_dcut rfl) ?_
        | refine XOps.s rfl rfl rfl (Q.assign_aggv rfl) ?_
        | refine XOps.s rfl rfl rfl (Q.assign rfl) ?_
      refine XOps.nil ?_
      refine W.ret ?_
      first
        | exact ⟨_, _, rfl, HLe.refl _, rfl⟩
        | (refine ⟨_, _, rfl, HLe.refl _, ?_⟩; show AV.d (.bool _) = _; rw [ho1, ho2]; simp)

set_option maxHeartbeats 4000000 in
set_option maxRecDepth 100000 in
theorem gets_c (l : List SR) (a v o : ByteArray) (gd : Nat) (hs : Hp) (hL : l.length ≤ 4398046511104) (hz : szR l) (ha : a.size ≤ 140737488351232) (hv : v.size ≤ 140737488351232) (ho : o.size ≤ 140737488351232) : AC P 4 [.d (.sl 2 (l.map SR.enc)), .d (.str a), .d (.str v), .d (.str o)] ((gd, dbG) :: hs) (fun r h => r = .d (.bool true)) := by
  refine AC.of 116 Tryd.func4 rfl rfl rfl ?_
  refine W.reg ?_
  first
    | refine XOps.s rfl rfl rfl (Q.assign_d rfl) ?_
    | refine XOps.s rfl rfl rfl (Q.assign_vs rfl) ?_
    | refine XOps.s rfl rfl rfl (Q.assign_ptr rfl) ?_
    | refine XOps.s rfl rfl rfl (Q.assign_nilsl rfl) ?_
    | refine XOps.s rfl rfl rfl (Q.assign_fn rfl) ?_
    | refine XOps.s rfl rfl rfl (Q.assign_tup rfl) ?_
    | refine XOps.s rfl rfl rfl (Q.assign_ep rfl) ?_
    | refine XOps.s rfl rfl rfl (Q.assign_dp rfl) ?_
    | refine XOps.s rfl rfl rfl (Q.assign_dcut rfl) ?_
    | refine XOps.s rfl rfl rfl (Q.assign_aggv rfl) ?_
    | refine XOps.s rfl rfl rfl (Q.assign rfl) ?_
  refine XOps.nil ?_
  refine W.reg ?_
  first
    | refine XOps.s rfl rfl rfl (Q.move_d rfl) ?_
    | refine XOps.s rfl rfl rfl (Q.move_vs rfl) ?_
    | refine XOps.s rfl rfl rfl (Q.move_ptr rfl) ?_
    | refine XOps.s rfl rfl rfl (Q.move_nilsl rfl) ?_
    | refine XOps.s rfl rfl rfl (Q.move_fn rfl) ?_
    | refine XOps.s rfl rfl rfl (Q.move_tup rfl) ?_
    | refine XOps.s rfl rfl rfl (Q.move_ep rfl) ?_
    | refine XOps.s rfl rfl rfl (Q.move_dp rfl) ?_
    | refine XOps.s rfl rfl rfl (Q.move_dcut rfl) ?_
    | refine XOps.s rfl rfl rfl (Q.move_aggv rfl) ?_
    | refine XOps.s rfl rfl rfl (Q.move rfl) ?_
  first
    | refine XOps.s rfl rfl rfl (Q.move_d rfl) ?_
    | refine XOps.s rfl rfl rfl (Q.move_vs rfl) ?_
    | refine XOps.s rfl rfl rfl (Q.move_ptr rfl) ?_
    | refine XOps.s rfl rfl rfl (Q.move_nilsl rfl) ?_
    | refine XOps.s rfl rfl rfl (Q.move_fn rfl) ?_
    | refine XOps.s rfl rfl rfl (Q.move_tup rfl) ?_
    | refine XOps.s rfl rfl rfl (Q.move_ep rfl) ?_
    | refine XOps.s rfl rfl rfl (Q.move_dp rfl) ?_
    | refine XOps.s rfl rfl rfl (Q.move_dcut rfl) ?_
    | refine XOps.s rfl rfl rfl (Q.move_aggv rfl) ?_
    | refine XOps.s rfl rfl rfl (Q.move rfl) ?_
  first
    | refine XOps.s rfl rfl rfl (Q.move_d rfl) ?_
    | refine XOps.s rfl rfl rfl (Q.move_vs rfl) ?_
    | refine XOps.s rfl rfl rfl (Q.move_ptr rfl) ?_
    | refine XOps.s rfl rfl rfl (Q.move_nilsl rfl) ?_
    | refine XOps.s rfl rfl rfl (Q.move_fn rfl) ?_
    | refine XOps.s rfl rfl rfl (Q.move_tup rfl) ?_
    | refine XOps.s rfl rfl rfl (Q.move_ep rfl) ?_
    | refine XOps.s rfl rfl rfl (Q.move_dp rfl) ?_
    | refine XOps.s rfl rfl rfl (Q.move_dcut rfl) ?_
    | refine XOps.s rfl rfl rfl (Q.move_aggv rfl) ?_
    | refine XOps.s rfl rfl rfl (Q.move rfl) ?_
  refine XOps.s rfl rfl rfl (Q.call rfl Tryd.func10 go10 rfl (set_c l a v _ hL hz ha hv)) ?_
  first
    | refine XOps.s rfl rfl rfl (Q.move_d rfl) ?_
    | refine XOps.s rfl rfl rfl (Q.move_vs rfl) ?_
    | refine XOps.s rfl rfl rfl (Q.move_ptr rfl) ?_
    | refine XOps.s rfl rfl rfl (Q.move_nilsl rfl) ?_
    | refine XOps.s rfl rfl rfl (Q.move_fn rfl) ?_
    | refine XOps.s rfl rfl rfl (Q.move_tup rfl) ?_
    | refine XOps.s rfl rfl rfl (Q.move_ep rfl) ?_
    | refine XOps.s rfl rfl rfl (Q.move_dp rfl) ?_
    | refine XOps.s rfl rfl rfl (Q.move_dcut rfl) ?_
    | refine XOps.s rfl rfl rfl (Q.move_aggv rfl) ?_
    | refine XOps.s rfl rfl rfl (Q.move rfl) ?_
  refine XOps.s rfl rfl rfl (Q.extract rfl rfl) ?_
  refine XOps.s rfl rfl rfl (Q.extract rfl rfl) ?_
  first
    | refine XOps.s rfl rfl rfl (Q.assign_d rfl) ?_
    | refine XOps.s rfl rfl rfl (Q.assign_vs rfl) ?_
    | refine XOps.s rfl rfl rfl (Q.assign_ptr rfl) ?_
    | refine XOps.s rfl rfl rfl (Q.assign_nilsl rfl) ?_
    | refine XOps.s rfl rfl rfl (Q.assign_fn rfl) ?_
    | refine XOps.s rfl rfl rfl (Q.assign_tup rfl) ?_
    | refine XOps.s rfl rfl rfl (Q.assign_ep rfl) ?_
    | refine XOps.s rfl rfl rfl (Q.assign_dp rfl) ?_
    | refine XOps.s rfl rfl rfl (Q.assign_dcut rfl) ?_
    | refine XOps.s rfl rfl rfl (Q.assign_aggv rfl) ?_
    | refine XOps.s rfl rfl rfl (Q.assign rfl) ?_
  first
    | refine XOps.s rfl rfl rfl (Q.assign_d rfl) ?_
    | refine XOps.s rfl rfl rfl (Q.assign_vs rfl) ?_
    | refine XOps.s rfl rfl rfl (Q.assign_ptr rfl) ?_
    | refine XOps.s rfl rfl rfl (Q.assign_nilsl rfl) ?_
    | refine XOps.s rfl rfl rfl (Q.assign_fn rfl) ?_
    | refine XOps.s rfl rfl rfl (Q.assign_tup rfl) ?_
    | refine XOps.s rfl rfl rfl (Q.assign_ep rfl) ?_
    | refine XOps.s rfl rfl rfl (Q.assign_dp rfl) ?_
    | refine XOps.s rfl rfl rfl (Q.assign_dcut rfl) ?_
    | refine XOps.s rfl rfl rfl (Q.assign_aggv rfl) ?_
    | refine XOps.s rfl rfl rfl (Q.assign rfl) ?_
  refine XOps.nil ?_
  refine W.seq ?_
  refine W.reg ?_
  first
    | refine XOps.s rfl rfl rfl (Q.move_d rfl) ?_
    | refine XOps.s rfl rfl rfl (Q.move_vs rfl) ?_
    | refine XOps.s rfl rfl rfl (Q.move_ptr rfl) ?_
    | refine XOps.s rfl rfl rfl (Q.move_nilsl rfl) ?_
    | refine XOps.s rfl rfl rfl (Q.move_fn rfl) ?_
    | refine XOps.s rfl rfl rfl (Q.move_tup rfl) ?_
    | refine XOps.s rfl rfl rfl (Q.move_ep rfl) ?_
    | refine XOps.s rfl rfl rfl (Q.move_dp rfl) ?_
    | refine XOps.s rfl rfl rfl (Q.move_dcut rfl) ?_
    | refine XOps.s rfl rfl rfl (Q.move_aggv rfl) ?_
    | refine XOps.s rfl rfl rfl (Q.move rfl) ?_
  first
    | refine XOps.s rfl rfl rfl (Q.neq rfl rfl) ?_
    | refine XOps.s rfl rfl rfl (Q.neq_str rfl rfl) ?_
  refine XOps.nil ?_
  refine W.cond rfl (fun hc31 => ?_) (fun hc31 => ?_)
  · try simp only [decide_eq_true_eq, decide_eq_false_iff_not, Bool.or_eq_false_iff, Bool.or_eq_true, Bool.not_eq_true', Bool.not_eq_false'] at hc31
    have hV : setL l a v = [] := if_pos hc31
    rw [hV]
    refine W.reg ?_
    refine XOps.s rfl rfl rfl (Q.call rfl Tryd.func9 go9 rfl (fact_c gd hs)) ?_
    first
      | refine XOps.s rfl rfl rfl (Q.move_d rfl) ?_
      | refine XOps.s rfl rfl rfl (Q.move_vs rfl) ?_
      | refine XOps.s rfl rfl rfl (Q.move_ptr rfl) ?_
      | refine XOps.s rfl rfl rfl (Q.move_nilsl rfl) ?_
      | refine XOps.s rfl rfl rfl (Q.move_fn rfl) ?_
      | refine XOps.s rfl rfl rfl (Q.move_tup rfl) ?_
      | refine XOps.s rfl rfl rfl (Q.move_ep rfl) ?_
      | refine XOps.s rfl rfl rfl (Q.move_dp rfl) ?_
      | refine XOps.s rfl rfl rfl (Q.move_dcut rfl) ?_
      | refine XOps.s rfl rfl rfl (Q.move_aggv rfl) ?_
      | refine XOps.s rfl rfl rfl (Q.move rfl) ?_
    first
      | refine XOps.gs rfl rfl rfl rfl rfl rfl rfl (fun hg => Q.move_d rfl) ?_
      | refine XOps.gs rfl rfl rfl rfl rfl rfl rfl (fun hg => Q.move_vs rfl) ?_
      | refine XOps.gs rfl rfl rfl rfl rfl rfl rfl (fun hg => Q.move_ptr rfl) ?_
      | refine XOps.gs rfl rfl rfl rfl rfl rfl rfl (fun hg => Q.move_nilsl rfl) ?_
      | refine XOps.gs rfl rfl rfl rfl rfl rfl rfl (fun hg => Q.move_fn rfl) ?_
      | refine XOps.gs rfl rfl rfl rfl rfl rfl rfl (fun hg => Q.move_tup rfl) ?_
      | refine XOps.gs rfl rfl rfl rfl rfl rfl rfl (fun hg => Q.move_ep rfl) ?_
      | refine XOps.gs rfl rfl rfl rfl rfl rfl rfl (fun hg => Q.move_dp rfl) ?_
      | refine XOps.gs rfl rfl rfl rfl rfl rfl rfl (fun hg => Q.move_dcut rfl) ?_
      | refine XOps.gs rfl rfl rfl rfl rfl rfl rfl (fun hg => Q.move_aggv rfl) ?_
      | refine XOps.gs rfl rfl rfl rfl rfl rfl rfl (fun hg => Q.move rfl) ?_
    first
      | refine XOps.gs rfl rfl rfl rfl rfl rfl rfl (fun hg => Quiet.open 34 hg rfl (Q.len_sl isl22 rfl)) ?_
      | refine XOps.gs rfl rfl rfl rfl rfl rfl rfl (fun hg => Quiet.open 34 hg rfl (Q.len_vs isl22 rfl)) ?_
      | refine XOps.gs rfl rfl rfl rfl rfl rfl rfl (fun hg => Quiet.open 34 hg rfl (Q.len_nil isl22 rfl)) ?_
      | refine XOps.gs rfl rfl rfl rfl rfl rfl rfl (fun hg => Quiet.open 34 hg rfl (Q.len_dcut isl22 rfl)) ?_
    first
      | refine XOps.gs rfl rfl rfl rfl rfl rfl rfl (fun hg => Quiet.open 35 hg rfl (Q.eql rfl rfl)) ?_
      | refine XOps.gs rfl rfl rfl rfl rfl rfl rfl (fun hg => Quiet.open 35 hg rfl (Q.eql_str rfl rfl)) ?_
    first
      | refine XOps.s rfl rfl rfl (Q.pick_and rfl rfl rfl (fun h => by first | (rw [h]; rfl) | (rw [hg, h]; rfl) | (simp [h, hg]; done))) ?_
      | refine XOps.s rfl rfl rfl (Q.pick_or rfl rfl rfl (fun h => by first | (rw [h]; rfl) | (rw [hg, h]; rfl) | (simp [h, hg]; done))) ?_
      | refine XOps.s rfl rfl rfl (Q.pick rfl rfl rfl) ?_
    first
      | refine XOps.s rfl rfl rfl (Q.assign_d rfl) ?_
      | refine XOps.s rfl rfl rfl (Q.assign_vs rfl) ?_
      | refine XOps.s rfl rfl rfl (Q.assign_ptr rfl) ?_
      | refine XOps.s rfl rfl rfl (Q.assign_nilsl rfl) ?_
      | refine XOps.s rfl rfl rfl (Q.assign_fn rfl) ?_
      | refine XOps.s rfl rfl rfl (Q.assign_tup rfl) ?_
      | refine XOps.s rfl rfl rfl (Q.assign_ep rfl) ?_
      | refine XOps.s rfl rfl rfl (Q.assign_dp rfl) ?_
      | refine XOps.s rfl rfl rfl (Q.assign_dcut rfl) ?_
      | refine XOps.s rfl rfl rfl (Q.assign_aggv rfl) ?_
      | refine XOps.s rfl rfl rfl (Q.assign rfl) ?_
    refine XOps.nil ?_
    refine W.ret ?_
    first
      | exact ⟨_, _, rfl, HLe.refl _, rfl⟩
      | (refine ⟨_, _, rfl, HLe.refl _, ?_⟩; show AV.d (.bool _) = _; refine congrArg (fun b => AV.d (D.bool b)) ?_; rcases q5 with rfl | ⟨w1, w2, w3, w4⟩; (simp); (rw [← w1, ← w2, ← w3, ← w4]; simp))
  · try simp only [decide_eq_true_eq, decide_eq_false_iff_not, Bool.or_eq_false_iff, Bool.or_eq_true, Bool.not_eq_true', Bool.not_eq_false'] at hc31
    have he : setE l a v = 0 := by omega
    have hsa := szR_set he
    obtain ⟨q1, q2, q3, q4, q5⟩ := gets (o := o) he
    have hcz : szR (cutLs (setL l a v) a) := fun x hx => by
      unfold cutLs at hx
      split at hx
      · cases hx
      · rcases List.mem_append.1 hx with hx | hx
        · exact hsa.1 x (List.mem_of_mem_take hx)
        · exact hsa.1 x (List.mem_of_mem_drop hx)
    have hcl : (cutLs (setL l a v) a).length ≤ 64 := by
      unfold cutLs delS
      split
      · simp
      · simp; omega
    refine W.skip ?_
    refine W.reg ?_
    first
      | refine XOps.s rfl rfl rfl (Q.move_d rfl) ?_
      | refine XOps.s rfl rfl rfl (Q.move_vs rfl) ?_
      | refine XOps.s rfl rfl rfl (Q.move_ptr rfl) ?_
      | refine XOps.s rfl rfl rfl (Q.move_nilsl rfl) ?_
      | refine XOps.s rfl rfl rfl (Q.move_fn rfl) ?_
      | refine XOps.s rfl rfl rfl (Q.move_tup rfl) ?_
      | refine XOps.s rfl rfl rfl (Q.move_ep rfl) ?_
      | refine XOps.s rfl rfl rfl (Q.move_dp rfl) ?_
      | refine XOps.s rfl rfl rfl (Q.move_dcut rfl) ?_
      | refine XOps.s rfl rfl rfl (Q.move_aggv rfl) ?_
      | refine XOps.s rfl rfl rfl (Q.move rfl) ?_
    first
      | refine XOps.s rfl rfl rfl (Q.move_d rfl) ?_
      | refine XOps.s rfl rfl rfl (Q.move_vs rfl) ?_
      | refine XOps.s rfl rfl rfl (Q.move_ptr rfl) ?_
      | refine XOps.s rfl rfl rfl (Q.move_nilsl rfl) ?_
      | refine XOps.s rfl rfl rfl (Q.move_fn rfl) ?_
      | refine XOps.s rfl rfl rfl (Q.move_tup rfl) ?_
      | refine XOps.s rfl rfl rfl (Q.move_ep rfl) ?_
      | refine XOps.s rfl rfl rfl (Q.move_dp rfl) ?_
      | refine XOps.s rfl rfl rfl (Q.move_dcut rfl) ?_
      | refine XOps.s rfl rfl rfl (Q.move_aggv rfl) ?_
      | refine XOps.s rfl rfl rfl (Q.move rfl) ?_
    first
      | refine XOps.s rfl rfl rfl (Q.call rfl Tryd.func12 go12 rfl (get_c (setL l a v) a _ (by omega) hsa.1)) ?_
      | refine XOps.s rfl rfl rfl (Q.call rfl Tryd.func12 go12 rfl (get_c (cutLs (setL l a v) a) a _ (by omega) hcz)) ?_
      | refine XOps.s rfl rfl rfl (Q.call rfl Tryd.func12 go12 rfl (get_c l o _ (by omega) hz)) ?_
      | refine XOps.s rfl rfl rfl (Q.call rfl Tryd.func12 go12 rfl (get_c (setL l a v) o _ (by omega) hsa.1)) ?_
      | refine XOps.s rfl rfl rfl (Q.call rfl Tryd.func12 go12 rfl (get_c (cutLs (setL l a v) a) o _ (by omega) hcz)) ?_
    first
      | refine XOps.s rfl rfl rfl (Q.move_d rfl) ?_
      | refine XOps.s rfl rfl rfl (Q.move_vs rfl) ?_
      | refine XOps.s rfl rfl rfl (Q.move_ptr rfl) ?_
      | refine XOps.s rfl rfl rfl (Q.move_nilsl rfl) ?_
      | refine XOps.s rfl rfl rfl (Q.move_fn rfl) ?_
      | refine XOps.s rfl rfl rfl (Q.move_tup rfl) ?_
      | refine XOps.s rfl rfl rfl (Q.move_ep rfl) ?_
      | refine XOps.s rfl rfl rfl (Q.move_dp rfl) ?_
      | refine XOps.s rfl rfl rfl (Q.move_dcut rfl) ?_
      | refine XOps.s rfl rfl rfl (Q.move_aggv rfl) ?_
      | refine XOps.s rfl rfl rfl (Q.move rfl) ?_
    refine XOps.s rfl rfl rfl (Q.extract rfl rfl) ?_
    refine XOps.s rfl rfl rfl (Q.extract rfl rfl) ?_
    first
      | refine XOps.s rfl rfl rfl (Q.assign_d rfl) ?_
      | refine XOps.s rfl rfl rfl (Q.assign_vs rfl) ?_
      | refine XOps.s rfl rfl rfl (Q.assign_ptr rfl) ?_
      | refine XOps.s rfl rfl rfl (Q.assign_nilsl rfl) ?_
      | refine XOps.s rfl rfl rfl (Q.assign_fn rfl) ?_
      | refine XOps.s rfl rfl rfl (Q.assign_tup rfl) ?_
      | refine XOps.s rfl rfl rfl (Q.assign_ep rfl) ?_
      | refine XOps.s rfl rfl rfl (Q.assign_dp rfl) ?_
      | refine XOps.s rfl rfl rfl (Q.assign_dcut rfl) ?_
      | refine XOps.s rfl rfl rfl (Q.assign_aggv rfl) ?_
      | refine XOps.s rfl rfl rfl (Q.assign rfl) ?_
    first
      | refine XOps.s rfl rfl rfl (Q.assign_d rfl) ?_
      | refine XOps.s rfl rfl rfl (Q.assign_vs rfl) ?_
      | refine XOps.s rfl rfl rfl (Q.assign_ptr rfl) ?_
      | refine XOps.s rfl rfl rfl (Q.assign_nilsl rfl) ?_
      | refine XOps.s rfl rfl rfl (Q.assign_fn rfl) ?_
      | refine XOps.s rfl rfl rfl (Q.assign_tup rfl) ?_
      | refine XOps.s rfl rfl rfl (Q.assign_ep rfl) ?_
      | refine XOps.s rfl rfl rfl (Q.assign_dp rfl) ?_
      | refine XOps.s rfl rfl rfl (Q.assign_dcut rfl) ?_
      | refine XOps.s rfl rfl rfl (Q.assign_aggv rfl) ?_
      | refine XOps.s rfl rfl rfl (Q.assign rfl) ?_
    refine XOps.nil ?_
    refine W.reg ?_
    first
      | refine XOps.s rfl rfl rfl (Q.move_d rfl) ?_
      | refine XOps.s rfl rfl rfl (Q.move_vs rfl) ?_
      | refine XOps.s rfl rfl rfl (Q.move_ptr rfl) ?_
      | refine XOps.s rfl rfl rfl (Q.move_nilsl rfl) ?_
      | refine XOps.s rfl rfl rfl (Q.move_fn rfl) ?_
      | refine XOps.s rfl rfl rfl (Q.move_tup rfl) ?_
      | refine XOps.s rfl rfl rfl (Q.move_ep rfl) ?_
      | refine XOps.s rfl rfl rfl (Q.move_dp rfl) ?_
      | refine XOps.s rfl rfl rfl (Q.move_dcut rfl) ?_
      | refine XOps.s rfl rfl rfl (Q.move_aggv rfl) ?_
      | refine XOps.s rfl rfl rfl (Q.move rfl) ?_
    first
      | refine XOps.s rfl rfl rfl (Q.move_d rfl) ?_
      | refine XOps.s rfl rfl rfl (Q.move_vs rfl) ?_
      | refine XOps.s rfl rfl rfl (Q.move_ptr rfl) ?_
      | refine XOps.s rfl rfl rfl (Q.move_nilsl rfl) ?_
      | refine XOps.s rfl rfl rfl (Q.move_fn rfl) ?_
      | refine XOps.s rfl rfl rfl (Q.move_tup rfl) ?_
      | refine XOps.s rfl rfl rfl (Q.move_ep rfl) ?_
      | refine XOps.s rfl rfl rfl (Q.move_dp rfl) ?_
      | refine XOps.s rfl rfl rfl (Q.move_dcut rfl) ?_
      | refine XOps.s rfl rfl rfl (Q.move_aggv rfl) ?_
      | refine XOps.s rfl rfl rfl (Q.move rfl) ?_
    refine XOps.s rfl rfl rfl (Q.call rfl Tryd.func13 go13 rfl (cutS_c (setL l a v) a _ (by omega) hsa.1)) ?_
    first
      | refine XOps.s rfl rfl rfl (Q.move_d rfl) ?_
      | refine XOps.s rfl rfl rfl (Q.move_vs rfl) ?_
      | refine XOps.s rfl rfl rfl (Q.move_ptr rfl) ?_
      | refine XOps.s rfl rfl rfl (Q.move_nilsl rfl) ?_
      | refine XOps.s rfl rfl rfl (Q.move_fn rfl) ?_
      | refine XOps.s rfl rfl rfl (Q.move_tup rfl) ?_
      | refine XOps.s rfl rfl rfl (Q.move_ep rfl) ?_
      | refine XOps.s rfl rfl rfl (Q.move_dp rfl) ?_
      | refine XOps.s rfl rfl rfl (Q.move_dcut rfl) ?_
      | refine XOps.s rfl rfl rfl (Q.move_aggv rfl) ?_
      | refine XOps.s rfl rfl rfl (Q.move rfl) ?_
    refine XOps.s rfl rfl rfl (Q.extract rfl rfl) ?_
    refine XOps.s rfl rfl rfl (Q.extract rfl rfl) ?_
    first
      | refine XOps.s rfl rfl rfl (Q.assign_d rfl) ?_
      | refine XOps.s rfl rfl rfl (Q.assign_vs rfl) ?_
      | refine XOps.s rfl rfl rfl (Q.assign_ptr rfl) ?_
      | refine XOps.s rfl rfl rfl (Q.assign_nilsl rfl) ?_
      | refine XOps.s rfl rfl rfl (Q.assign_fn rfl) ?_
      | refine XOps.s rfl rfl rfl (Q.assign_tup rfl) ?_
      | refine XOps.s rfl rfl rfl (Q.assign_ep rfl) ?_
      | refine XOps.s rfl rfl rfl (Q.assign_dp rfl) ?_
      | refine XOps.s rfl rfl rfl (Q.assign_dcut rfl) ?_
      | refine XOps.s rfl rfl rfl (Q.assign_aggv rfl) ?_
      | refine XOps.s rfl rfl rfl (Q.assign rfl) ?_
    first
      | refine XOps.s rfl rfl rfl (Q.assign_d rfl) ?_
      | refine XOps.s rfl rfl rfl (Q.assign_vs rfl) ?_
      | refine XOps.s rfl rfl rfl (Q.assign_ptr rfl) ?_
      | refine XOps.s rfl rfl rfl (Q.assign_nilsl rfl) ?_
      | refine XOps.s rfl rfl rfl (Q.assign_fn rfl) ?_
      | refine XOps.s rfl rfl rfl (Q.assign_tup rfl) ?_
      | refine XOps.s rfl rfl rfl (Q.assign_ep rfl) ?_
      | refine XOps.s rfl rfl rfl (Q.assign_dp rfl) ?_
      | refine XOps.s rfl rfl rfl (Q.assign_dcut rfl) ?_
      | refine XOps.s rfl rfl rfl (Q.assign_aggv rfl) ?_
      | refine XOps.s rfl rfl rfl (Q.assign rfl) ?_
    refine XOps.nil ?_
    refine W.reg ?_
    first
      | refine XOps.s rfl rfl rfl (Q.move_d rfl) ?_
      | refine XOps.s rfl rfl rfl (Q.move_vs rfl) ?_
      | refine XOps.s rfl rfl rfl (Q.move_ptr rfl) ?_
      | refine XOps.s rfl rfl rfl (Q.move_nilsl rfl) ?_
      | refine XOps.s rfl rfl rfl (Q.move_fn rfl) ?_
      | refine XOps.s rfl rfl rfl (Q.move_tup rfl) ?_
      | refine XOps.s rfl rfl rfl (Q.move_ep rfl) ?_
      | refine XOps.s rfl rfl rfl (Q.move_dp rfl) ?_
      | refine XOps.s rfl rfl rfl (Q.move_dcut rfl) ?_
      | refine XOps.s rfl rfl rfl (Q.move_aggv rfl) ?_
      | refine XOps.s rfl rfl rfl (Q.move rfl) ?_
    first
      | refine XOps.s rfl rfl rfl (Q.move_d rfl) ?_
      | refine XOps.s rfl rfl rfl (Q.move_vs rfl) ?_
      | refine XOps.s rfl rfl rfl (Q.move_ptr rfl) ?_
      | refine XOps.s rfl rfl rfl (Q.move_nilsl rfl) ?_
      | refine XOps.s rfl rfl rfl (Q.move_fn rfl) ?_
      | refine XOps.s rfl rfl rfl (Q.move_tup rfl) ?_
      | refine XOps.s rfl rfl rfl (Q.move_ep rfl) ?_
      | refine XOps.s rfl rfl rfl (Q.move_dp rfl) ?_
      | refine XOps.s rfl rfl rfl (Q.move_dcut rfl) ?_
      | refine XOps.s rfl rfl rfl (Q.move_aggv rfl) ?_
      | refine XOps.s rfl rfl rfl (Q.move rfl) ?_
    first
      | refine XOps.s rfl rfl rfl (Q.call rfl Tryd.func12 go12 rfl (get_c (setL l a v) a _ (by omega) hsa.1)) ?_
      | refine XOps.s rfl rfl rfl (Q.call rfl Tryd.func12 go12 rfl (get_c (cutLs (setL l a v) a) a _ (by omega) hcz)) ?_
      | refine XOps.s rfl rfl rfl (Q.call rfl Tryd.func12 go12 rfl (get_c l o _ (by omega) hz)) ?_
      | refine XOps.s rfl rfl rfl (Q.call rfl Tryd.func12 go12 rfl (get_c (setL l a v) o _ (by omega) hsa.1)) ?_
      | refine XOps.s rfl rfl rfl (Q.call rfl Tryd.func12 go12 rfl (get_c (cutLs (setL l a v) a) o _ (by omega) hcz)) ?_
    first
      | refine XOps.s rfl rfl rfl (Q.move_d rfl) ?_
      | refine XOps.s rfl rfl rfl (Q.move_vs rfl) ?_
      | refine XOps.s rfl rfl rfl (Q.move_ptr rfl) ?_
      | refine XOps.s rfl rfl rfl (Q.move_nilsl rfl) ?_
      | refine XOps.s rfl rfl rfl (Q.move_fn rfl) ?_
      | refine XOps.s rfl rfl rfl (Q.move_tup rfl) ?_
      | refine XOps.s rfl rfl rfl (Q.move_ep rfl) ?_
      | refine XOps.s rfl rfl rfl (Q.move_dp rfl) ?_
      | refine XOps.s rfl rfl rfl (Q.move_dcut rfl) ?_
      | refine XOps.s rfl rfl rfl (Q.move_aggv rfl) ?_
      | refine XOps.s rfl rfl rfl (Q.move rfl) ?_
    refine XOps.s rfl rfl rfl (Q.extract rfl rfl) ?_
    refine XOps.s rfl rfl rfl (Q.extract rfl rfl) ?_
    first
      | refine XOps.s rfl rfl rfl (Q.assign_d rfl) ?_
      | refine XOps.s rfl rfl rfl (Q.assign_vs rfl) ?_
      | refine XOps.s rfl rfl rfl (Q.assign_ptr rfl) ?_
      | refine XOps.s rfl rfl rfl (Q.assign_nilsl rfl) ?_
      | refine XOps.s rfl rfl rfl (Q.assign_fn rfl) ?_
      | refine XOps.s rfl rfl rfl (Q.assign_tup rfl) ?_
      | refine XOps.s rfl rfl rfl (Q.assign_ep rfl) ?_
      | refine XOps.s rfl rfl rfl (Q.assign_dp rfl) ?_
      | refine XOps.s rfl rfl rfl (Q.assign_dcut rfl) ?_
      | refine XOps.s rfl rfl rfl (Q.assign_aggv rfl) ?_
      | refine XOps.s rfl rfl rfl (Q.assign rfl) ?_
    first
      | refine XOps.s rfl rfl rfl (Q.assign_d rfl) ?_
      | refine XOps.s rfl rfl rfl (Q.assign_vs rfl) ?_
      | refine XOps.s rfl rfl rfl (Q.assign_ptr rfl) ?_
      | refine XOps.s rfl rfl rfl (Q.assign_nilsl rfl) ?_
      | refine XOps.s rfl rfl rfl (Q.assign_fn rfl) ?_
      | refine XOps.s rfl rfl rfl (Q.assign_tup rfl) ?_
      | refine XOps.s rfl rfl rfl (Q.assign_ep rfl) ?_
      | refine XOps.s rfl rfl rfl (Q.assign_dp rfl) ?_
      | refine XOps.s rfl rfl rfl (Q.assign_dcut rfl) ?_
      | refine XOps.s rfl rfl rfl (Q.assign_aggv rfl) ?_
      | refine XOps.s rfl rfl rfl (Q.assign rfl) ?_
    refine XOps.nil ?_
    refine W.seq ?_
    refine W.reg ?_
    first
      | refine XOps.s rfl rfl rfl (Q.move_d rfl) ?_
      | refine XOps.s rfl rfl rfl (Q.move_vs rfl) ?_
      | refine XOps.s rfl rfl rfl (Q.move_ptr rfl) ?_
      | refine XOps.s rfl rfl rfl (Q.move_nilsl rfl) ?_
      | refine XOps.s rfl rfl rfl (Q.move_fn rfl) ?_
      | refine XOps.s rfl rfl rfl (Q.move_tup rfl) ?_
      | refine XOps.s rfl rfl rfl (Q.move_ep rfl) ?_
      | refine XOps.s rfl rfl rfl (Q.move_dp rfl) ?_
      | refine XOps.s rfl rfl rfl (Q.move_dcut rfl) ?_
      | refine XOps.s rfl rfl rfl (Q.move_aggv rfl) ?_
      | refine XOps.s rfl rfl rfl (Q.move rfl) ?_
    first
      | refine XOps.s rfl rfl rfl (Q.neq rfl rfl) ?_
      | refine XOps.s rfl rfl rfl (Q.neq_str rfl rfl) ?_
    first
      | refine XOps.s rfl rfl rfl (Q.move_d rfl) ?_
      | refine XOps.s rfl rfl rfl (Q.move_vs rfl) ?_
      | refine XOps.s rfl rfl rfl (Q.move_ptr rfl) ?_
      | refine XOps.s rfl rfl rfl (Q.move_nilsl rfl) ?_
      | refine XOps.s rfl rfl rfl (Q.move_fn rfl) ?_
      | refine XOps.s rfl rfl rfl (Q.move_tup rfl) ?_
      | refine XOps.s rfl rfl rfl (Q.move_ep rfl) ?_
      | refine XOps.s rfl rfl rfl (Q.move_dp rfl) ?_
      | refine XOps.s rfl rfl rfl (Q.move_dcut rfl) ?_
      | refine XOps.s rfl rfl rfl (Q.move_aggv rfl) ?_
      | refine XOps.s rfl rfl rfl (Q.move rfl) ?_
    first
      | refine XOps.gs rfl rfl rfl rfl rfl rfl rfl (fun hg => Q.move_d rfl) ?_
      | refine XOps.gs rfl rfl rfl rfl rfl rfl rfl (fun hg => Q.move_vs rfl) ?_
      | refine XOps.gs rfl rfl rfl rfl rfl rfl rfl (fun hg => Q.move_ptr rfl) ?_
      | refine XOps.gs rfl rfl rfl rfl rfl rfl rfl (fun hg => Q.move_nilsl rfl) ?_
      | refine XOps.gs rfl rfl rfl rfl rfl rfl rfl (fun hg => Q.move_fn rfl) ?_
      | refine XOps.gs rfl rfl rfl rfl rfl rfl rfl (fun hg => Q.move_tup rfl) ?_
      | refine XOps.gs rfl rfl rfl rfl rfl rfl rfl (fun hg => Q.move_ep rfl) ?_
      | refine XOps.gs rfl rfl rfl rfl rfl rfl rfl (fun hg => Q.move_dp rfl) ?_
      | refine XOps.gs rfl rfl rfl rfl rfl rfl rfl (fun hg => Q.move_dcut rfl) ?_
      | refine XOps.gs rfl rfl rfl rfl rfl rfl rfl (fun hg => Q.move_aggv rfl) ?_
      | refine XOps.gs rfl rfl rfl rfl rfl rfl rfl (fun hg => Q.move rfl) ?_
    first
      | refine XOps.gs rfl rfl rfl rfl rfl rfl rfl (fun hg => Q.move_d rfl) ?_
      | refine XOps.gs rfl rfl rfl rfl rfl rfl rfl (fun hg => Q.move_vs rfl) ?_
      | refine XOps.gs rfl rfl rfl rfl rfl rfl rfl (fun hg => Q.move_ptr rfl) ?_
      | refine XOps.gs rfl rfl rfl rfl rfl rfl rfl (fun hg => Q.move_nilsl rfl) ?_
      | refine XOps.gs rfl rfl rfl rfl rfl rfl rfl (fun hg => Q.move_fn rfl) ?_
      | refine XOps.gs rfl rfl rfl rfl rfl rfl rfl (fun hg => Q.move_tup rfl) ?_
      | refine XOps.gs rfl rfl rfl rfl rfl rfl rfl (fun hg => Q.move_ep rfl) ?_
      | refine XOps.gs rfl rfl rfl rfl rfl rfl rfl (fun hg => Q.move_dp rfl) ?_
      | refine XOps.gs rfl rfl rfl rfl rfl rfl rfl (fun hg => Q.move_dcut rfl) ?_
      | refine XOps.gs rfl rfl rfl rfl rfl rfl rfl (fun hg => Q.move_aggv rfl) ?_
      | refine XOps.gs rfl rfl rfl rfl rfl rfl rfl (fun hg => Q.move rfl) ?_
    first
      | refine XOps.gs rfl rfl rfl rfl rfl rfl rfl (fun hg => Quiet.open 59 hg rfl (Quiet.open 60 hg rfl (Q.neq rfl rfl))) ?_
      | refine XOps.gs rfl rfl rfl rfl rfl rfl rfl (fun hg => Quiet.open 59 hg rfl (Quiet.open 60 hg rfl (Q.neq_str rfl rfl))) ?_
    first
      | refine XOps.s rfl rfl rfl (Q.pick_and rfl rfl rfl (fun h => by first | (rw [h]; rfl) | (rw [hg, h]; rfl) | (simp [h, hg]; done))) ?_
      | refine XOps.s rfl rfl rfl (Q.pick_or rfl rfl rfl (fun h => by first | (rw [h]; rfl) | (rw [hg, h]; rfl) | (simp [h, hg]; done))) ?_
      | refine XOps.s rfl rfl rfl (Q.pick rfl rfl rfl) ?_
    first
      | refine XOps.s rfl rfl rfl (Q.move_d rfl) ?_
      | refine XOps.s rfl rfl rfl (Q.move_vs rfl) ?_
      | refine XOps.s rfl rfl rfl (Q.move_ptr rfl) ?_
      | refine XOps.s rfl rfl rfl (Q.move_nilsl rfl) ?_
      | refine XOps.s rfl rfl rfl (Q.move_fn rfl) ?_
      | refine XOps.s rfl rfl rfl (Q.move_tup rfl) ?_
      | refine XOps.s rfl rfl rfl (Q.move_ep rfl) ?_
      | refine XOps.s rfl rfl rfl (Q.move_dp rfl) ?_
      | refine XOps.s rfl rfl rfl (Q.move_dcut rfl) ?_
      | refine XOps.s rfl rfl rfl (Q.move_aggv rfl) ?_
      | refine XOps.s rfl rfl rfl (Q.move rfl) ?_
    first
      | refine XOps.gs rfl rfl rfl rfl rfl rfl rfl (fun hg => Q.move_d rfl) ?_
      | refine XOps.gs rfl rfl rfl rfl rfl rfl rfl (fun hg => Q.move_vs rfl) ?_
      | refine XOps.gs rfl rfl rfl rfl rfl rfl rfl (fun hg => Q.move_ptr rfl) ?_
      | refine XOps.gs rfl rfl rfl rfl rfl rfl rfl (fun hg => Q.move_nilsl rfl) ?_
      | refine XOps.gs rfl rfl rfl rfl rfl rfl rfl (fun hg => Q.move_fn rfl) ?_
      | refine XOps.gs rfl rfl rfl rfl rfl rfl rfl (fun hg => Q.move_tup rfl) ?_
      | refine XOps.gs rfl rfl rfl rfl rfl rfl rfl (fun hg => Q.move_ep rfl) ?_
      | refine XOps.gs rfl rfl rfl rfl rfl rfl rfl (fun hg => Q.move_dp rfl) ?_
      | refine XOps.gs rfl rfl rfl rfl rfl rfl rfl (fun hg => Q.move_dcut rfl) ?_
      | refine XOps.gs rfl rfl rfl rfl rfl rfl rfl (fun hg => Q.move_aggv rfl) ?_
      | refine XOps.gs rfl rfl rfl rfl rfl rfl rfl (fun hg => Q.move rfl) ?_
    first
      | refine XOps.gs rfl rfl rfl rfl rfl rfl rfl (fun hg => Quiet.open 64 hg rfl (Q.neq rfl rfl)) ?_
      | refine XOps.gs rfl rfl rfl rfl rfl rfl rfl (fun hg => Quiet.open 64 hg rfl (Q.neq_str rfl rfl)) ?_
    first
      | refine XOps.s rfl rfl rfl (Q.pick_and rfl rfl rfl (fun h => by first | (rw [h]; rfl) | (rw [hg, h]; rfl) | (simp [h, hg]; done))) ?_
      | refine XOps.s rfl rfl rfl (Q.pick_or rfl rfl rfl (fun h => by first | (rw [h]; rfl) | (rw [hg, h]; rfl) | (simp [h, hg]; done))) ?_
      | refine XOps.s rfl rfl rfl (Q.pick rfl rfl rfl) ?_
    first
      | refine XOps.s rfl rfl rfl (Q.move_d rfl) ?_
      | refine XOps.s rfl rfl rfl (Q.move_vs rfl) ?_
      | refine XOps.s rfl rfl rfl (Q.move_ptr rfl) ?_
      | refine XOps.s rfl rfl rfl (Q.move_nilsl rfl) ?_
      | refine XOps.s rfl rfl rfl (Q.move_fn rfl) ?_
      | refine XOps.s rfl rfl rfl (Q.move_tup rfl) ?_
      | refine XOps.s rfl rfl rfl (Q.move_ep rfl) ?_
      | refine XOps.s rfl rfl rfl (Q.move_dp rfl) ?_
      | refine XOps.s rfl rfl rfl (Q.move_dcut rfl) ?_
      | refine XOps.s rfl rfl rfl (Q.move_aggv rfl) ?_
      | refine XOps.s rfl rfl rfl (Q.move rfl) ?_
    first
      | refine XOps.gs rfl rfl rfl rfl rfl rfl rfl (fun hg => Q.move_d rfl) ?_
      | refine XOps.gs rfl rfl rfl rfl rfl rfl rfl (fun hg => Q.move_vs rfl) ?_
      | refine XOps.gs rfl rfl rfl rfl rfl rfl rfl (fun hg => Q.move_ptr rfl) ?_
      | refine XOps.gs rfl rfl rfl rfl rfl rfl rfl (fun hg => Q.move_nilsl rfl) ?_
      | refine XOps.gs rfl rfl rfl rfl rfl rfl rfl (fun hg => Q.move_fn rfl) ?_
      | refine XOps.gs rfl rfl rfl rfl rfl rfl rfl (fun hg => Q.move_tup rfl) ?_
      | refine XOps.gs rfl rfl rfl rfl rfl rfl rfl (fun hg => Q.move_ep rfl) ?_
      | refine XOps.gs rfl rfl rfl rfl rfl rfl rfl (fun hg => Q.move_dp rfl) ?_
      | refine XOps.gs rfl rfl rfl rfl rfl rfl rfl (fun hg => Q.move_dcut rfl) ?_
      | refine XOps.gs rfl rfl rfl rfl rfl rfl rfl (fun hg => Q.move_aggv rfl) ?_
      | refine XOps.gs rfl rfl rfl rfl rfl rfl rfl (fun hg => Q.move rfl) ?_
    first
      | refine XOps.gs rfl rfl rfl rfl rfl rfl rfl (fun hg => Quiet.open 68 hg rfl (Q.neq rfl rfl)) ?_
      | refine XOps.gs rfl rfl rfl rfl rfl rfl rfl (fun hg => Quiet.open 68 hg rfl (Q.neq_str rfl rfl)) ?_
    first
      | refine XOps.s rfl rfl rfl (Q.pick_and rfl rfl rfl (fun h => by first | (rw [h]; rfl) | (rw [hg, h]; rfl) | (simp [h, hg]; done))) ?_
      | refine XOps.s rfl rfl rfl (Q.pick_or rfl rfl rfl (fun h => by first | (rw [h]; rfl) | (rw [hg, h]; rfl) | (simp [h, hg]; done))) ?_
      | refine XOps.s rfl rfl rfl (Q.pick rfl rfl rfl) ?_
    first
      | refine XOps.s rfl rfl rfl (Q.move_d rfl) ?_
      | refine XOps.s rfl rfl rfl (Q.move_vs rfl) ?_
      | refine XOps.s rfl rfl rfl (Q.move_ptr rfl) ?_
      | refine XOps.s rfl rfl rfl (Q.move_nilsl rfl) ?_
      | refine XOps.s rfl rfl rfl (Q.move_fn rfl) ?_
      | refine XOps.s rfl rfl rfl (Q.move_tup rfl) ?_
      | refine XOps.s rfl rfl rfl (Q.move_ep rfl) ?_
      | refine XOps.s rfl rfl rfl (Q.move_dp rfl) ?_
      | refine XOps.s rfl rfl rfl (Q.move_dcut rfl) ?_
      | refine XOps.s rfl rfl rfl (Q.move_aggv rfl) ?_
      | refine XOps.s rfl rfl rfl (Q.move rfl) ?_
    refine XOps.gs rfl rfl rfl rfl rfl rfl rfl (fun hg => Q.call rfl Tryd.func9 go9 rfl (fact_c gd hs)) ?_
    refine XOps.gs rfl rfl rfl rfl rfl rfl rfl (fun hg => Quiet.open 72 hg rfl (Q.not rfl)) ?_
    first
      | refine XOps.s rfl rfl rfl (Q.pick_and rfl rfl rfl (fun h => by first | (rw [h]; rfl) | (rw [hg, h]; rfl) | (simp [h, hg]; done))) ?_
      | refine XOps.s rfl rfl rfl (Q.pick_or rfl rfl rfl (fun h => by first | (rw [h]; rfl) | (rw [hg, h]; rfl) | (simp [h, hg]; done))) ?_
      | refine XOps.s rfl rfl rfl (Q.pick rfl rfl rfl) ?_
    refine XOps.nil ?_
    refine W.cond rfl (fun hc74 => ?_) (fun hc74 => ?_)
    · try simp only [decide_eq_true_eq, decide_eq_false_iff_not, Bool.or_eq_false_iff, Bool.or_eq_true, Bool.not_eq_true', Bool.not_eq_false'] at hc74
      exfalso
      rw [q1, q2, q3, q4] at hc74
      simp [seq_refl] at hc74 --done
    · try simp only [decide_eq_true_eq, decide_eq_false_iff_not, Bool.or_eq_false_iff, Bool.or_eq_true, Bool.not_eq_true', Bool.not_eq_false'] at hc74
      refine W.skip ?_
      refine W.reg ?_
      first
        | refine XOps.s rfl rfl rfl (Q.move_d rfl) ?_
        | refine XOps.s rfl rfl rfl (Q.move_vs rfl) ?_
        | refine XOps.s rfl rfl rfl (Q.move_ptr rfl) ?_
        | refine XOps.s rfl rfl rfl (Q.move_nilsl rfl) ?_
        | refine XOps.s rfl rfl rfl (Q.move_fn rfl) ?_
        | refine XOps.s rfl rfl rfl (Q.move_tup rfl) ?_
        | refine XOps.s rfl rfl rfl (Q.move_ep rfl) ?_
        | refine XOps.s rfl rfl rfl (Q.move_dp rfl) ?_
        | refine XOps.s rfl rfl rfl (Q.move_dcut rfl) ?_
        | refine XOps.s rfl rfl rfl (Q.move_aggv rfl) ?_
        | refine XOps.s rfl rfl rfl (Q.move rfl) ?_
      first
        | refine XOps.s rfl rfl rfl (Q.move_d rfl) ?_
        | refine XOps.s rfl rfl rfl (Q.move_vs rfl) ?_
        | refine XOps.s rfl rfl rfl (Q.move_ptr rfl) ?_
        | refine XOps.s rfl rfl rfl (Q.move_nilsl rfl) ?_
        | refine XOps.s rfl rfl rfl (Q.move_fn rfl) ?_
        | refine XOps.s rfl rfl rfl (Q.move_tup rfl) ?_
        | refine XOps.s rfl rfl rfl (Q.move_ep rfl) ?_
        | refine XOps.s rfl rfl rfl (Q.move_dp rfl) ?_
        | refine XOps.s rfl rfl rfl (Q.move_dcut rfl) ?_
        | refine XOps.s rfl rfl rfl (Q.move_aggv rfl) ?_
        | refine XOps.s rfl rfl rfl (Q.move rfl) ?_
      first
        | refine XOps.s rfl rfl rfl (Q.call rfl Tryd.func12 go12 rfl (get_c (setL l a v) a _ (by omega) hsa.1)) ?_
        | refine XOps.s rfl rfl rfl (Q.call rfl Tryd.func12 go12 rfl (get_c (cutLs (setL l a v) a) a _ (by omega) hcz)) ?_
        | refine XOps.s rfl rfl rfl (Q.call rfl Tryd.func12 go12 rfl (get_c l o _ (by omega) hz)) ?_
        | refine XOps.s rfl rfl rfl (Q.call rfl Tryd.func12 go12 rfl (get_c (setL l a v) o _ (by omega) hsa.1)) ?_
        | refine XOps.s rfl rfl rfl (Q.call rfl Tryd.func12 go12 rfl (get_c (cutLs (setL l a v) a) o _ (by omega) hcz)) ?_
      first
        | refine XOps.s rfl rfl rfl (Q.move_d rfl) ?_
        | refine XOps.s rfl rfl rfl (Q.move_vs rfl) ?_
        | refine XOps.s rfl rfl rfl (Q.move_ptr rfl) ?_
        | refine XOps.s rfl rfl rfl (Q.move_nilsl rfl) ?_
        | refine XOps.s rfl rfl rfl (Q.move_fn rfl) ?_
        | refine XOps.s rfl rfl rfl (Q.move_tup rfl) ?_
        | refine XOps.s rfl rfl rfl (Q.move_ep rfl) ?_
        | refine XOps.s rfl rfl rfl (Q.move_dp rfl) ?_
        | refine XOps.s rfl rfl rfl (Q.move_dcut rfl) ?_
        | refine XOps.s rfl rfl rfl (Q.move_aggv rfl) ?_
        | refine XOps.s rfl rfl rfl (Q.move rfl) ?_
      refine XOps.s rfl rfl rfl (Q.extract rfl rfl) ?_
      refine XOps.s rfl rfl rfl (Q.extract rfl rfl) ?_
      first
        | refine XOps.s rfl rfl rfl (Q.assign_d rfl) ?_
        | refine XOps.s rfl rfl rfl (Q.assign_vs rfl) ?_
        | refine XOps.s rfl rfl rfl (Q.assign_ptr rfl) ?_
        | refine XOps.s rfl rfl rfl (Q.assign_nilsl rfl) ?_
        | refine XOps.s rfl rfl rfl (Q.assign_fn rfl) ?_
        | refine XOps.s rfl rfl rfl (Q.assign_tup rfl) ?_
        | refine XOps.s rfl rfl rfl (Q.assign_ep rfl) ?_
        | refine XOps.s rfl rfl rfl (Q.assign_dp rfl) ?_
        | refine XOps.s rfl rfl rfl (Q.assign_dcut rfl) ?_
        | refine XOps.s rfl rfl rfl (Q.assign_aggv rfl) ?_
        | refine XOps.s rfl rfl rfl (Q.assign rfl) ?_
      first
        | refine XOps.s rfl rfl rfl (Q.assign_d rfl) ?_
        | refine XOps.s rfl rfl rfl (Q.assign_vs rfl) ?_
        | refine XOps.s rfl rfl rfl (Q.assign_ptr rfl) ?_
        | refine XOps.s rfl rfl rfl (Q.assign_nilsl rfl) ?_
        | refine XOps.s rfl rfl rfl (Q.assign_fn rfl) ?_
        | refine XOps.s rfl rfl rfl (Q.assign_tup rfl) ?_
        | refine XOps.s rfl rfl rfl (Q.assign_ep rfl) ?_
        | refine XOps.s rfl rfl rfl (Q.assign_dp rfl) ?_
        | refine XOps.s rfl rfl rfl (Q.assign_dcut rfl) ?_
        | refine XOps.s rfl rfl rfl (Q.assign_aggv rfl) ?_
        | refine XOps.s rfl rfl rfl (Q.assign rfl) ?_
      refine XOps.nil ?_
      refine W.reg ?_
      first
        | refine XOps.s rfl rfl rfl (Q.move_d rfl) ?_
        | refine XOps.s rfl rfl rfl (Q.move_vs rfl) ?_
        | refine XOps.s rfl rfl rfl (Q.move_ptr rfl) ?_
        | refine XOps.s rfl rfl rfl (Q.move_nilsl rfl) ?_
        | refine XOps.s rfl rfl rfl (Q.move_fn rfl) ?_
        | refine XOps.s rfl rfl rfl (Q.move_tup rfl) ?_
        | refine XOps.s rfl rfl rfl (Q.move_ep rfl) ?_
        | refine XOps.s rfl rfl rfl (Q.move_dp rfl) ?_
        | refine XOps.s rfl rfl rfl (Q.move_dcut rfl) ?_
        | refine XOps.s rfl rfl rfl (Q.move_aggv rfl) ?_
        | refine XOps.s rfl rfl rfl (Q.move rfl) ?_
      first
        | refine XOps.s rfl rfl rfl (Q.move_d rfl) ?_
        | refine XOps.s rfl rfl rfl (Q.move_vs rfl) ?_
        | refine XOps.s rfl rfl rfl (Q.move_ptr rfl) ?_
        | refine XOps.s rfl rfl rfl (Q.move_nilsl rfl) ?_
        | refine XOps.s rfl rfl rfl (Q.move_fn rfl) ?_
        | refine XOps.s rfl rfl rfl (Q.move_tup rfl) ?_
        | refine XOps.s rfl rfl rfl (Q.move_ep rfl) ?_
        | refine XOps.s rfl rfl rfl (Q.move_dp rfl) ?_
        | refine XOps.s rfl rfl rfl (Q.move_dcut rfl) ?_
        | refine XOps.s rfl rfl rfl (Q.move_aggv rfl) ?_
        | refine XOps.s rfl rfl rfl (Q.move rfl) ?_
      first
        | refine XOps.s rfl rfl rfl (Q.call rfl Tryd.func12 go12 rfl (get_c (setL l a v) a _ (by omega) hsa.1)) ?_
        | refine XOps.s rfl rfl rfl (Q.call rfl Tryd.func12 go12 rfl (get_c (cutLs (setL l a v) a) a _ (by omega) hcz)) ?_
        | refine XOps.s rfl rfl rfl (Q.call rfl Tryd.func12 go12 rfl (get_c l o _ (by omega) hz)) ?_
        | refine XOps.s rfl rfl rfl (Q.call rfl Tryd.func12 go12 rfl (get_c (setL l a v) o _ (by omega) hsa.1)) ?_
        | refine XOps.s rfl rfl rfl (Q.call rfl Tryd.func12 go12 rfl (get_c (cutLs (setL l a v) a) o _ (by omega) hcz)) ?_
      first
        | refine XOps.s rfl rfl rfl (Q.move_d rfl) ?_
        | refine XOps.s rfl rfl rfl (Q.move_vs rfl) ?_
        | refine XOps.s rfl rfl rfl (Q.move_ptr rfl) ?_
        | refine XOps.s rfl rfl rfl (Q.move_nilsl rfl) ?_
        | refine XOps.s rfl rfl rfl (Q.move_fn rfl) ?_
        | refine XOps.s rfl rfl rfl (Q.move_tup rfl) ?_
        | refine XOps.s rfl rfl rfl (Q.move_ep rfl) ?_
        | refine XOps.s rfl rfl rfl (Q.move_dp rfl) ?_
        | refine XOps.s rfl rfl rfl (Q.move_dcut rfl) ?_
        | refine XOps.s rfl rfl rfl (Q.move_aggv rfl) ?_
        | refine XOps.s rfl rfl rfl (Q.move rfl) ?_
      refine XOps.s rfl rfl rfl (Q.extract rfl rfl) ?_
      refine XOps.s rfl rfl rfl (Q.extract rfl rfl) ?_
      first
        | refine XOps.s rfl rfl rfl (Q.assign_d rfl) ?_
        | refine XOps.s rfl rfl rfl (Q.assign_vs rfl) ?_
        | refine XOps.s rfl rfl rfl (Q.assign_ptr rfl) ?_
        | refine XOps.s rfl rfl rfl (Q.assign_nilsl rfl) ?_
        | refine XOps.s rfl rfl rfl (Q.assign_fn rfl) ?_
        | refine XOps.s rfl rfl rfl (Q.assign_tup rfl) ?_
        | refine XOps.s rfl rfl rfl (Q.assign_ep rfl) ?_
        | refine XOps.s rfl rfl rfl (Q.assign_dp rfl) ?_
        | refine XOps.s rfl rfl rfl (Q.assign_dcut rfl) ?_
        | refine XOps.s rfl rfl rfl (Q.assign_aggv rfl) ?_
        | refine XOps.s rfl rfl rfl (Q.assign rfl) ?_
      first
        | refine XOps.s rfl rfl rfl (Q.assign_d rfl) ?_
        | refine XOps.s rfl rfl rfl (Q.assign_vs rfl) ?_
        | refine XOps.s rfl rfl rfl (Q.assign_ptr rfl) ?_
        | refine XOps.s rfl rfl rfl (Q.assign_nilsl rfl) ?_
        | refine XOps.s rfl rfl rfl (Q.assign_fn rfl) ?_
        | refine XOps.s rfl rfl rfl (Q.assign_tup rfl) ?_
        | refine XOps.s rfl rfl rfl (Q.assign_ep rfl) ?_
        | refine XOps.s rfl rfl rfl (Q.assign_dp rfl) ?_
        | refine XOps.s rfl rfl rfl (Q.assign_dcut rfl) ?_
        | refine XOps.s rfl rfl rfl (Q.assign_aggv rfl) ?_
        | refine XOps.s rfl rfl rfl (Q.assign rfl) ?_
      refine XOps.nil ?_
      refine W.reg ?_
      first
        | refine XOps.s rfl rfl rfl (Q.move_d rfl) ?_
        | refine XOps.s rfl rfl rfl (Q.move_vs rfl) ?_
        | refine XOps.s rfl rfl rfl (Q.move_ptr rfl) ?_
        | refine XOps.s rfl rfl rfl (Q.move_nilsl rfl) ?_
        | refine XOps.s rfl rfl rfl (Q.move_fn rfl) ?_
        | refine XOps.s rfl rfl rfl (Q.move_tup rfl) ?_
        | refine XOps.s rfl rfl rfl (Q.move_ep rfl) ?_
        | refine XOps.s rfl rfl rfl (Q.move_dp rfl) ?_
        | refine XOps.s rfl rfl rfl (Q.move_dcut rfl) ?_
        | refine XOps.s rfl rfl rfl (Q.move_aggv rfl) ?_
        | refine XOps.s rfl rfl rfl (Q.move rfl) ?_
      first
        | refine XOps.s rfl rfl rfl (Q.move_d rfl) ?_
        | refine XOps.s rfl rfl rfl (Q.move_vs rfl) ?_
        | refine XOps.s rfl rfl rfl (Q.move_ptr rfl) ?_
        | refine XOps.s rfl rfl rfl (Q.move_nilsl rfl) ?_
        | refine XOps.s rfl rfl rfl (Q.move_fn rfl) ?_
        | refine XOps.s rfl rfl rfl (Q.move_tup rfl) ?_
        | refine XOps.s rfl rfl rfl (Q.move_ep rfl) ?_
        | refine XOps.s rfl rfl rfl (Q.move_dp rfl) ?_
        | refine XOps.s rfl rfl rfl (Q.move_dcut rfl) ?_
        | refine XOps.s rfl rfl rfl (Q.move_aggv rfl) ?_
        | refine XOps.s rfl rfl rfl (Q.move rfl) ?_
      first
        | refine XOps.s rfl rfl rfl (Q.call rfl Tryd.func12 go12 rfl (get_c (setL l a v) a _ (by omega) hsa.1)) ?_
        | refine XOps.s rfl rfl rfl (Q.call rfl Tryd.func12 go12 rfl (get_c (cutLs (setL l a v) a) a _ (by omega) hcz)) ?_
        | refine XOps.s rfl rfl rfl (Q.call rfl Tryd.func12 go12 rfl (get_c l o _ (by omega) hz)) ?_
        | refine XOps.s rfl rfl rfl (Q.call rfl Tryd.func12 go12 rfl (get_c (setL l a v) o _ (by omega) hsa.1)) ?_
        | refine XOps.s rfl rfl rfl (Q.call rfl Tryd.func12 go12 rfl (get_c (cutLs (setL l a v) a) o _ (by omega) hcz)) ?_
      first
        | refine XOps.s rfl rfl rfl (Q.move_d rfl) ?_
        | refine XOps.s rfl rfl rfl (Q.move_vs rfl) ?_
        | refine XOps.s rfl rfl rfl (Q.move_ptr rfl) ?_
        | refine XOps.s rfl rfl rfl (Q.move_nilsl rfl) ?_
        | refine XOps.s rfl rfl rfl (Q.move_fn rfl) ?_
        | refine XOps.s rfl rfl rfl (Q.move_tup rfl) ?_
        | refine XOps.s rfl rfl rfl (Q.move_ep rfl) ?_
        | refine XOps.s rfl rfl rfl (Q.move_dp rfl) ?_
        | refine XOps.s rfl rfl rfl (Q.move_dcut rfl) ?_
        | refine XOps.s rfl rfl rfl (Q.move_aggv rfl) ?_
        | refine XOps.s rfl rfl rfl (Q.move rfl) ?_
      refine XOps.s rfl rfl rfl (Q.extract rfl rfl) ?_
      refine XOps.s rfl rfl rfl (Q.extract rfl rfl) ?_
      first
        | refine XOps.s rfl rfl rfl (Q.assign_d rfl) ?_
        | refine XOps.s rfl rfl rfl (Q.assign_vs rfl) ?_
        | refine XOps.s rfl rfl rfl (Q.assign_ptr rfl) ?_
        | refine XOps.s rfl rfl rfl (Q.assign_nilsl rfl) ?_
        | refine XOps.s rfl rfl rfl (Q.assign_fn rfl) ?_
        | refine XOps.s rfl rfl rfl (Q.assign_tup rfl) ?_
        | refine XOps.s rfl rfl rfl (Q.assign_ep rfl) ?_
        | refine XOps.s rfl rfl rfl (Q.assign_dp rfl) ?_
        | refine XOps.s rfl rfl rfl (Q.assign_dcut rfl) ?_
        | refine XOps.s rfl rfl rfl (Q.assign_aggv rfl) ?_
        | refine XOps.s rfl rfl rfl (Q.assign rfl) ?_
      first
        | refine XOps.s rfl rfl rfl (Q.assign_d rfl) ?_
        | refine XOps.s rfl rfl rfl (Q.assign_vs rfl) ?_
        | refine XOps.s rfl rfl rfl (Q.assign_ptr rfl) ?_
        | refine XOps.s rfl rfl rfl (Q.assign_nilsl rfl) ?_
        | refine XOps.s rfl rfl rfl (Q.assign_fn rfl) ?_
        | refine XOps.s rfl rfl rfl (Q.assign_tup rfl) ?_
        | refine XOps.s rfl rfl rfl (Q.assign_ep rfl) ?_
        | refine XOps.s rfl rfl rfl (Q.assign_dp rfl) ?_
        | refine XOps.s rfl rfl rfl (Q.assign_dcut rfl) ?_
        | refine XOps.s rfl rfl rfl (Q.assign_aggv rfl) ?_
        | refine XOps.s rfl rfl rfl (Q.assign rfl) ?_
      refine XOps.nil ?_
      refine W.reg ?_
      first
        | refine XOps.s rfl rfl rfl (Q.move_d rfl) ?_
        | refine XOps.s rfl rfl rfl (Q.move_vs rfl) ?_
        | refine XOps.s rfl rfl rfl (Q.move_ptr rfl) ?_
        | refine XOps.s rfl rfl rfl (Q.move_nilsl rfl) ?_
        | refine XOps.s rfl rfl rfl (Q.move_fn rfl) ?_
        | refine XOps.s rfl rfl rfl (Q.move_tup rfl) ?_
        | refine XOps.s rfl rfl rfl (Q.move_ep rfl) ?_
        | refine XOps.s rfl rfl rfl (Q.move_dp rfl) ?_
        | refine XOps.s rfl rfl rfl (Q.move_dcut rfl) ?_
        | refine XOps.s rfl rfl rfl (Q.move_aggv rfl) ?_
        | refine XOps.s rfl rfl rfl (Q.move rfl) ?_
      first
        | refine XOps.s rfl rfl rfl (Q.move_d rfl) ?_
        | refine XOps.s rfl rfl rfl (Q.move_vs rfl) ?_
        | refine XOps.s rfl rfl rfl (Q.move_ptr rfl) ?_
        | refine XOps.s rfl rfl rfl (Q.move_nilsl rfl) ?_
        | refine XOps.s rfl rfl rfl (Q.move_fn rfl) ?_
        | refine XOps.s rfl rfl rfl (Q.move_tup rfl) ?_
        | refine XOps.s rfl rfl rfl (Q.move_ep rfl) ?_
        | refine XOps.s rfl rfl rfl (Q.move_dp rfl) ?_
        | refine XOps.s rfl rfl rfl (Q.move_dcut rfl) ?_
        | refine XOps.s rfl rfl rfl (Q.move_aggv rfl) ?_
        | refine XOps.s rfl rfl rfl (Q.move rfl) ?_
      first
        | refine XOps.s rfl rfl rfl (Q.eql rfl rfl) ?_
        | refine XOps.s rfl rfl rfl (Q.eql_str rfl rfl) ?_
      first
        | refine XOps.s rfl rfl rfl (Q.move_d rfl) ?_
        | refine XOps.s rfl rfl rfl (Q.move_vs rfl) ?_
        | refine XOps.s rfl rfl rfl (Q.move_ptr rfl) ?_
        | refine XOps.s rfl rfl rfl (Q.move_nilsl rfl) ?_
        | refine XOps.s rfl rfl rfl (Q.move_fn rfl) ?_
        | refine XOps.s rfl rfl rfl (Q.move_tup rfl) ?_
        | refine XOps.s rfl rfl rfl (Q.move_ep rfl) ?_
        | refine XOps.s rfl rfl rfl (Q.move_dp rfl) ?_
        | refine XOps.s rfl rfl rfl (Q.move_dcut rfl) ?_
        | refine XOps.s rfl rfl rfl (Q.move_aggv rfl) ?_
        | refine XOps.s rfl rfl rfl (Q.move rfl) ?_
      first
        | refine XOps.gs rfl rfl rfl rfl rfl rfl rfl (fun hg => Q.move_d rfl) ?_
        | refine XOps.gs rfl rfl rfl rfl rfl rfl rfl (fun hg => Q.move_vs rfl) ?_
        | refine XOps.gs rfl rfl rfl rfl rfl rfl rfl (fun hg => Q.move_ptr rfl) ?_
        | refine XOps.gs rfl rfl rfl rfl rfl rfl rfl (fun hg => Q.move_nilsl rfl) ?_
        | refine XOps.gs rfl rfl rfl rfl rfl rfl rfl (fun hg => Q.move_fn rfl) ?_
        | refine XOps.gs rfl rfl rfl rfl rfl rfl rfl (fun hg => Q.move_tup rfl) ?_
        | refine XOps.gs rfl rfl rfl rfl rfl rfl rfl (fun hg => Q.move_ep rfl) ?_
        | refine XOps.gs rfl rfl rfl rfl rfl rfl rfl (fun hg => Q.move_dp rfl) ?_
        | refine XOps.gs rfl rfl rfl rfl rfl rfl rfl (fun hg => Q.move_dcut rfl) ?_
        | refine XOps.gs rfl rfl rfl rfl rfl rfl rfl (fun hg => Q.move_aggv rfl) ?_
        | refine XOps.gs rfl rfl rfl rfl rfl rfl rfl (fun hg => Q.move rfl) ?_
      first
        | refine XOps.gs rfl rfl rfl rfl rfl rfl rfl (fun hg => Q.move_d rfl) ?_
        | refine XOps.gs rfl rfl rfl rfl rfl rfl rfl (fun hg => Q.move_vs rfl) ?_
        | refine XOps.gs rfl rfl rfl rfl rfl rfl rfl (fun hg => Q.move_ptr rfl) ?_
        | refine XOps.gs rfl rfl rfl rfl rfl rfl rfl (fun hg => Q.move_nilsl rfl) ?_
        | refine XOps.gs rfl rfl rfl rfl rfl rfl rfl (fun hg => Q.move_fn rfl) ?_
        | refine XOps.gs rfl rfl rfl rfl rfl rfl rfl (fun hg => Q.move_tup rfl) ?_
        | refine XOps.gs rfl rfl rfl rfl rfl rfl rfl (fun hg => Q.move_ep rfl) ?_
        | refine XOps.gs rfl rfl rfl rfl rfl rfl rfl (fun hg => Q.move_dp rfl) ?_
        | refine XOps.gs rfl rfl rfl rfl rfl rfl rfl (fun hg => Q.move_dcut rfl) ?_
        | refine XOps.gs rfl rfl rfl rfl rfl rfl rfl (fun hg => Q.move_aggv rfl) ?_
        | refine XOps.gs rfl rfl rfl rfl rfl rfl rfl (fun hg => Q.move rfl) ?_
      first
        | refine XOps.gs rfl rfl rfl rfl rfl rfl rfl (fun hg => Quiet.open 97 hg rfl (Quiet.open 98 hg rfl (Q.eql rfl rfl))) ?_
        | refine XOps.gs rfl rfl rfl rfl rfl rfl rfl (fun hg => Quiet.open 97 hg rfl (Quiet.open 98 hg rfl (Q.eql_str rfl rfl))) ?_
      first
        | refine XOps.gs rfl rfl rfl rfl rfl rfl rfl (fun hg => Quiet.open 99 hg rfl (Q.move_d rfl)) ?_
        | refine XOps.gs rfl rfl rfl rfl rfl rfl rfl (fun hg => Quiet.open 99 hg rfl (Q.move_vs rfl)) ?_
        | refine XOps.gs rfl rfl rfl rfl rfl rfl rfl (fun hg => Quiet.open 99 hg rfl (Q.move_ptr rfl)) ?_
        | refine XOps.gs rfl rfl rfl rfl rfl rfl rfl (fun hg => Quiet.open 99 hg rfl (Q.move_nilsl rfl)) ?_
        | refine XOps.gs rfl rfl rfl rfl rfl rfl rfl (fun hg => Quiet.open 99 hg rfl (Q.move_fn rfl)) ?_
        | refine XOps.gs rfl rfl rfl rfl rfl rfl rfl (fun hg => Quiet.open 99 hg rfl (Q.move_tup rfl)) ?_
        | refine XOps.gs rfl rfl rfl rfl rfl rfl rfl (fun hg => Quiet.open 99 hg rfl (Q.move_ep rfl)) ?_
        | refine XOps.gs rfl rfl rfl rfl rfl rfl rfl (fun hg => Quiet.open 99 hg rfl (Q.move_dp rfl)) ?_
        | refine XOps.gs rfl rfl rfl rfl rfl rfl rfl (fun hg => Quiet.open 99 hg rfl (Q.move_dcut rfl)) ?_
        | refine XOps.gs rfl rfl rfl rfl rfl rfl rfl (fun hg => Quiet.open 99 hg rfl (Q.move_aggv rfl)) ?_
        | refine XOps.gs rfl rfl rfl rfl rfl rfl rfl (fun hg => Quiet.open 99 hg rfl (Q.move rfl)) ?_
      first
        | refine XOps.gsw rfl rfl rfl rfl rfl rfl rfl (fun hg => Q.move_d rfl) ?_
        | refine XOps.gsw rfl rfl rfl rfl rfl rfl rfl (fun hg => Q.move_vs rfl) ?_
        | refine XOps.gsw rfl rfl rfl rfl rfl rfl rfl (fun hg => Q.move_ptr rfl) ?_
        | refine XOps.gsw rfl rfl rfl rfl rfl rfl rfl (fun hg => Q.move_nilsl rfl) ?_
        | refine XOps.gsw rfl rfl rfl rfl rfl rfl rfl (fun hg => Q.move_fn rfl) ?_
        | refine XOps.gsw rfl rfl rfl rfl rfl rfl rfl (fun hg => Q.move_tup rfl) ?_
        | refine XOps.gsw rfl rfl rfl rfl rfl rfl rfl (fun hg => Q.move_ep rfl) ?_
        | refine XOps.gsw rfl rfl rfl rfl rfl rfl rfl (fun hg => Q.move_dp rfl) ?_
        | refine XOps.gsw rfl rfl rfl rfl rfl rfl rfl (fun hg => Q.move_dcut rfl) ?_
        | refine XOps.gsw rfl rfl rfl rfl rfl rfl rfl (fun hg => Q.move_aggv rfl) ?_
        | refine XOps.gsw rfl rfl rfl rfl rfl rfl rfl (fun hg => Q.move rfl) ?_
      first
        | refine XOps.gsw rfl rfl rfl rfl rfl rfl rfl (fun hg => Q.move_d rfl) ?_
        | refine XOps.gsw rfl rfl rfl rfl rfl rfl rfl (fun hg => Q.move_vs rfl) ?_
        | refine XOps.gsw rfl rfl rfl rfl rfl rfl rfl (fun hg => Q.move_ptr rfl) ?_
        | refine XOps.gsw rfl rfl rfl rfl rfl rfl rfl (fun hg => Q.move_nilsl rfl) ?_
        | refine XOps.gsw rfl rfl rfl rfl rfl rfl rfl (fun hg => Q.move_fn rfl) ?_
        | refine XOps.gsw rfl rfl rfl rfl rfl rfl rfl (fun hg => Q.move_tup rfl) ?_
        | refine XOps.gsw rfl rfl rfl rfl rfl rfl rfl (fun hg => Q.move_ep rfl) ?_
        | refine XOps.gsw rfl rfl rfl rfl rfl rfl rfl (fun hg => Q.move_dp rfl) ?_
        | refine XOps.gsw rfl rfl rfl rfl rfl rfl rfl (fun hg => Q.move_dcut rfl) ?_
        | refine XOps.gsw rfl rfl rfl rfl rfl rfl rfl (fun hg => Q.move_aggv rfl) ?_
        | refine XOps.gsw rfl rfl rfl rfl rfl rfl rfl (fun hg => Q.move rfl) ?_
      first
        | refine XOps.gsw rfl rfl rfl rfl rfl rfl rfl (fun hg => Quiet.open 101 hg rfl (Quiet.open 102 hg rfl (Q.eql rfl rfl))) ?_
        | refine XOps.gsw rfl rfl rfl rfl rfl rfl rfl (fun hg => Quiet.open 101 hg rfl (Quiet.open 102 hg rfl (Q.eql_str rfl rfl))) ?_
      first
        | refine XOps.gs rfl rfl rfl rfl rfl rfl rfl (fun hg => Quiet.open 100 hg rfl (Q.pick_and rfl rfl rfl (fun h => by first | (rw [h]; rfl) | (rw [hg, h]; rfl) | (simp [h, hg]; done)))) ?_
        | refine XOps.gs rfl rfl rfl rfl rfl rfl rfl (fun hg => Quiet.open 100 hg rfl (Q.pick_or rfl rfl rfl (fun h => by first | (rw [h]; rfl) | (rw [hg, h]; rfl) | (simp [h, hg]; done)))) ?_
        | refine XOps.gs rfl rfl rfl rfl rfl rfl rfl (fun hg => Quiet.open 100 hg rfl (Q.pick rfl rfl rfl)) ?_
      first
        | refine XOps.gs rfl rfl rfl rfl rfl rfl rfl (fun hg => Quiet.open 104 hg rfl (Q.move_d rfl)) ?_
        | refine XOps.gs rfl rfl rfl rfl rfl rfl rfl (fun hg => Quiet.open 104 hg rfl (Q.move_vs rfl)) ?_
        | refine XOps.gs rfl rfl rfl rfl rfl rfl rfl (fun hg => Quiet.open 104 hg rfl (Q.move_ptr rfl)) ?_
        | refine XOps.gs rfl rfl rfl rfl rfl rfl rfl (fun hg => Quiet.open 104 hg rfl (Q.move_nilsl rfl)) ?_
        | refine XOps.gs rfl rfl rfl rfl rfl rfl rfl (fun hg => Quiet.open 104 hg rfl (Q.move_fn rfl)) ?_
        | refine XOps.gs rfl rfl rfl rfl rfl rfl rfl (fun hg => Quiet.open 104 hg rfl (Q.move_tup rfl)) ?_
        | refine XOps.gs rfl rfl rfl rfl rfl rfl rfl (fun hg => Quiet.open 104 hg rfl (Q.move_ep rfl)) ?_
        | refine XOps.gs rfl rfl rfl rfl rfl rfl rfl (fun hg => Quiet.open 104 hg rfl (Q.move_dp rfl)) ?_
        | refine XOps.gs rfl rfl rfl rfl rfl rfl rfl (fun hg => Quiet.open 104 hg rfl (Q.move_dcut rfl)) ?_
        | refine XOps.gs rfl rfl rfl rfl rfl rfl rfl (fun hg => Quiet.open 104 hg rfl (Q.move_aggv rfl)) ?_
        | refine XOps.gs rfl rfl rfl rfl rfl rfl rfl (fun hg => Quiet.open 104 hg rfl (Q.move rfl)) ?_
      first
        | refine XOps.gsw rfl rfl rfl rfl rfl rfl rfl (fun hg => Q.move_d rfl) ?_
        | refine XOps.gsw rfl rfl rfl rfl rfl rfl rfl (fun hg => Q.move_vs rfl) ?_
        | refine XOps.gsw rfl rfl rfl rfl rfl rfl rfl (fun hg => Q.move_ptr rfl) ?_
        | refine XOps.gsw rfl rfl rfl rfl rfl rfl rfl (fun hg => Q.move_nilsl rfl) ?_
        | refine XOps.gsw rfl rfl rfl rfl rfl rfl rfl (fun hg => Q.move_fn rfl) ?_
        | refine XOps.gsw rfl rfl rfl rfl rfl rfl rfl (fun hg => Q.move_tup rfl) ?_
        | refine XOps.gsw rfl rfl rfl rfl rfl rfl rfl (fun hg => Q.move_ep rfl) ?_
        | refine XOps.gsw rfl rfl rfl rfl rfl rfl rfl (fun hg => Q.move_dp rfl) ?_
        | refine XOps.gsw rfl rfl rfl rfl rfl rfl rfl (fun hg => Q.move_dcut rfl) ?_
        | refine XOps.gsw rfl rfl rfl rfl rfl rfl rfl (fun hg => Q.move_aggv rfl) ?_
        | refine XOps.gsw rfl rfl rfl rfl rfl rfl rfl (fun hg => Q.move rfl) ?_
      first
        | refine XOps.gsw rfl rfl rfl rfl rfl rfl rfl (fun hg => Q.move_d rfl) ?_
        | refine XOps.gsw rfl rfl rfl rfl rfl rfl rfl (fun hg => Q.move_vs rfl) ?_
        | refine XOps.gsw rfl rfl rfl rfl rfl rfl rfl (fun hg => Q.move_ptr rfl) ?_
        | refine XOps.gsw rfl rfl rfl rfl rfl rfl rfl (fun hg => Q.move_nilsl rfl) ?_
        | refine XOps.gsw rfl rfl rfl rfl rfl rfl rfl (fun hg => Q.move_fn rfl) ?_
        | refine XOps.gsw rfl rfl rfl rfl rfl rfl rfl (fun hg => Q.move_tup rfl) ?_
        | refine XOps.gsw rfl rfl rfl rfl rfl rfl rfl (fun hg => Q.move_ep rfl) ?_
        | refine XOps.gsw rfl rfl rfl rfl rfl rfl rfl (fun hg => Q.move_dp rfl) ?_
        | refine XOps.gsw rfl rfl rfl rfl rfl rfl rfl (fun hg => Q.move_dcut rfl) ?_
        | refine XOps.gsw rfl rfl rfl rfl rfl rfl rfl (fun hg => Q.move_aggv rfl) ?_
        | refine XOps.gsw rfl rfl rfl rfl rfl rfl rfl (fun hg => Q.move rfl) ?_
      first
        | refine XOps.gsw rfl rfl rfl rfl rfl rfl rfl (fun hg => Quiet.open 106 hg rfl (Quiet.open 107 hg rfl (Q.eql rfl rfl))) ?_
        | refine XOps.gsw rfl rfl rfl rfl rfl rfl rfl (fun hg => Quiet.open 106 hg rfl (Quiet.open 107 hg rfl (Q.eql_str rfl rfl))) ?_
      first
        | refine XOps.gs rfl rfl rfl rfl rfl rfl rfl (fun hg => Quiet.open 105 hg rfl (Q.pick_and rfl rfl rfl (fun h => by first | (rw [h]; rfl) | (rw [hg, h]; rfl) | (simp [h, hg]; done)))) ?_
        | refine XOps.gs rfl rfl rfl rfl rfl rfl rfl (fun hg => Quiet.open 105 hg rfl (Q.pick_or rfl rfl rfl (fun h => by first | (rw [h]; rfl) | (rw [hg, h]; rfl) | (simp [h, hg]; done)))) ?_
        | refine XOps.gs rfl rfl rfl rfl rfl rfl rfl (fun hg => Quiet.open 105 hg rfl (Q.pick rfl rfl rfl)) ?_
      first
        | refine XOps.gs rfl rfl rfl rfl rfl rfl rfl (fun hg => Quiet.open 109 hg rfl (Q.move_d rfl)) ?_
        | refine XOps.gs rfl rfl rfl rfl rfl rfl rfl (fun hg => Quiet.open 109 hg rfl (Q.move_vs rfl)) ?_
        | refine XOps.gs rfl rfl rfl rfl rfl rfl rfl (fun hg => Quiet.open 109 hg rfl (Q.move_ptr rfl)) ?_
        | refine XOps.gs rfl rfl rfl rfl rfl rfl rfl (fun hg => Quiet.open 109 hg rfl (Q.move_nilsl rfl)) ?_
        | refine XOps.gs rfl rfl rfl rfl rfl rfl rfl (fun hg => Quiet.open 109 hg rfl (Q.move_fn rfl)) ?_
        | refine XOps.gs rfl rfl rfl rfl rfl rfl rfl (fun hg => Quiet.open 109 hg rfl (Q.move_tup rfl)) ?_
        | refine XOps.gs rfl rfl rfl rfl rfl rfl rfl (fun hg => Quiet.open 109 hg rfl (Q.move_ep rfl)) ?_
        | refine XOps.gs rfl rfl rfl rfl rfl rfl rfl (fun hg => Quiet.open 109 hg rfl (Q.move_dp rfl)) ?_
        | refine XOps.gs rfl rfl rfl rfl rfl rfl rfl (fun hg => Quiet.open 109 hg rfl (Q.move_dcut rfl)) ?_
        | refine XOps.gs rfl rfl rfl rfl rfl rfl rfl (fun hg => Quiet.open 109 hg rfl (Q.move_aggv rfl)) ?_
        | refine XOps.gs rfl rfl rfl rfl rfl rfl rfl (fun hg => Quiet.open 109 hg rfl (Q.move rfl)) ?_
      first
        | refine XOps.gsw rfl rfl rfl rfl rfl rfl rfl (fun hg => Q.move_d rfl) ?_
        | refine XOps.gsw rfl rfl rfl rfl rfl rfl rfl (fun hg => Q.move_vs rfl) ?_
        | refine XOps.gsw rfl rfl rfl rfl rfl rfl rfl (fun hg => Q.move_ptr rfl) ?_
        | refine XOps.gsw rfl rfl rfl rfl rfl rfl rfl (fun hg => Q.move_nilsl rfl) ?_
        | refine XOps.gsw rfl rfl rfl rfl rfl rfl rfl (fun hg => Q.move_fn rfl) ?_
        | refine XOps.gsw rfl rfl rfl rfl rfl rfl rfl (fun hg => Q.move_tup rfl) ?_
        | refine XOps.gsw rfl rfl rfl rfl rfl rfl rfl (fun hg => Q.move_ep rfl) ?_
        | refine XOps.gsw rfl rfl rfl rfl rfl rfl rfl (fun hg => Q.move_dp rfl) ?_
        | refine XOps.gsw rfl rfl rfl rfl rfl rfl rfl (fun hg => Q.move_dcut rfl) ?_
        | refine XOps.gsw rfl rfl rfl rfl rfl rfl rfl (fun hg => Q.move_aggv rfl) ?_
        | refine XOps.gsw rfl rfl rfl rfl rfl rfl rfl (fun hg => Q.move rfl) ?_
      first
        | refine XOps.gsw rfl rfl rfl rfl rfl rfl rfl (fun hg => Q.move_d rfl) ?_
        | refine XOps.gsw rfl rfl rfl rfl rfl rfl rfl (fun hg => Q.move_vs rfl) ?_
        | refine XOps.gsw rfl rfl rfl rfl rfl rfl rfl (fun hg => Q.move_ptr rfl) ?_
        | refine XOps.gsw rfl rfl rfl rfl rfl rfl rfl (fun hg => Q.move_nilsl rfl) ?_
        | refine XOps.gsw rfl rfl rfl rfl rfl rfl rfl (fun hg => Q.move_fn rfl) ?_
        | refine XOps.gsw rfl rfl rfl rfl rfl rfl rfl (fun hg => Q.move_tup rfl) ?_
        | refine XOps.gsw rfl rfl rfl rfl rfl rfl rfl (fun hg => Q.move_ep rfl) ?_
        | refine XOps.gsw rfl rfl rfl rfl rfl rfl rfl (fun hg => Q.move_dp rfl) ?_
        | refine XOps.gsw rfl rfl rfl rfl rfl rfl rfl (fun hg => Q.move_dcut rfl) ?_
        | refine XOps.gsw rfl rfl rfl rfl rfl rfl rfl (fun hg => Q.move_aggv rfl) ?_
        | refine XOps.gsw rfl rfl rfl rfl rfl rfl rfl (fun hg => Q.move rfl) ?_
      first
        | refine XOps.gsw rfl rfl rfl rfl rfl rfl rfl (fun hg => Quiet.open 111 hg rfl (Quiet.open 112 hg rfl (Q.eql rfl rfl))) ?_
        | refine XOps.gsw rfl rfl rfl rfl rfl rfl rfl (fun hg => Quiet.open 111 hg rfl (Quiet.open 112 hg rfl (Q.eql_str rfl rfl))) ?_
      first
        | refine XOps.gs rfl rfl rfl rfl rfl rfl rfl (fun hg => Quiet.open 110 hg rfl (Q.pick_and rfl rfl rfl (fun h => by first | (rw [h]; rfl) | (rw [hg, h]; rfl) | (simp [h, hg]; done)))) ?_
        | refine XOps.gs rfl rfl rfl rfl rfl rfl rfl (fun hg => Quiet.open 110 hg rfl (Q.pick_or rfl rfl rfl (fun h => by first | (rw [h]; rfl) | (rw [hg, h]; rfl) | (simp [h, hg]; done)))) ?_
        | refine XOps.gs rfl rfl rfl rfl rfl rfl rfl (fun hg => Quiet.open 110 hg rfl (Q.pick rfl rfl rfl)) ?_
      first
        | refine XOps.s rfl rfl rfl (Q.pick_and rfl rfl rfl (fun h => by first | (rw [h]; rfl) | (rw [hg, h]; rfl) | (simp [h, hg]; done))) ?_
        | refine XOps.s rfl rfl rfl (Q.pick_or rfl rfl rfl (fun h => by first | (rw [h]; rfl) | (rw [hg, h]; rfl) | (simp [h, hg]; done))) ?_
        | refine XOps.s rfl rfl rfl (Q.pick rfl rfl rfl) ?_
      first
        | refine XOps.s rfl rfl rfl (Q.assign_d rfl) ?_
        | refine XOps.s rfl rfl rfl (Q.assign_vs rfl) ?_
        | refine XOps.s rfl rfl rfl (Q.assign_ptr rfl) ?_
        | refine XOps.s rfl rfl rfl (Q.assign_nilsl rfl) ?_
        | refine XOps.s rfl rfl rfl (Q.assign_fn rfl) ?_
        | refine XOps.s rfl rfl rfl (Q.assign_tup rfl) ?_
        | refine XOps.s rfl rfl rfl (Q.assign_ep rfl) ?_
        | refine XOps.s rfl rfl rfl (Q.assign_dp rfl) ?_
        | refine XOps.s rfl rfl rfl (Q.assign_dcut rfl) ?_
        | refine XOps.s rfl rfl rfl (Q.assign_aggv rfl) ?_
        | refine XOps.s rfl rfl rfl (Q.assign rfl) ?_
      refine XOps.nil ?_
      refine W.ret ?_
      first
        | exact ⟨_, _, rfl, HLe.refl _, rfl⟩
        | (refine ⟨_, _, rfl, HLe.refl _, ?_⟩; show AV.d (.bool _) = _; refine congrArg (fun b => AV.d (D.bool b)) ?_; rcases q5 with rfl | ⟨w1, w2, w3, w4⟩; (simp); (rw [← w1, ← w2, ← w3, ← w4]; simp))
end Go.Proofs.YtohckiiadkibkaaDoorA
