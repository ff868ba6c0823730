/- Searching in strings. -/
import Derived.Test.YtlfapbkaknikpaaDoorFrB
import Derived.Test.YtlfapbkaknikpaaDoorStr
import Derived.Test.YtlfapbkaknikpaaDoorFrC
set_option linter.unusedVariables false
set_option linter.unusedSimpArgs false
set_option linter.unnecessarySimpa false
namespace Go.Proofs.YtlfapbkaknikpaaDoorA.FStrA
open Go
theorem go39 : callGo Go.Proofs.Tryd.f39 = true := by kernel_rfl
theorem go51 : callGo Go.Proofs.Tryd.f51 = true := by kernel_rfl
theorem go69 : callGo Go.Proofs.Tryd.f69 = true := by kernel_rfl
theorem ist9 : isStr P 9 = true := by kernel_rfl
end Go.Proofs.YtlfapbkaknikpaaDoorA.FStrA
namespace Go.Proofs.YtlfapbkaknikpaaDoorA
open Go FStrA
attribute [local irreducible] XOps Quiet Loud W AC GQ DT
set_option maxHeartbeats 1000000 in
set_option maxRecDepth 100000 in
theorem idxb_c (s : ByteArray) (c : UInt8) (hs : Hp) : AC P 69 [.d (.str s), .d (.int .u8 (c.toNat : Nat))] hs (fun r h => r = .d (.int .i64 (Lib.indexByte (bl s) c)) ∧ h = hs) := by
  refine AC.of 8 Tryd.func69 rfl rfl rfl ?_
  refine W.reg ?_
  first
    | refine XOps.s rfl rfl rfl (Q.assign_d rfl) ?_
    | refine XOps.s rfl rfl rfl (Q.assign_vs rfl) ?_
    | refine XOps.s rfl rfl rfl (Q.assign_ptr rfl) ?_
    | refine XOps.s rfl rfl rfl (Q.assign_nilsl rfl) ?_
    | refine XOps.s rfl rfl rfl (Q.assign_fn rfl) ?_
    | refine XOps.s rfl rfl rfl (Q.assign_tup rfl) ?_
    | refine XOps.s rfl rfl rfl (Q.assign_ep rfl) ?_
    | refine XOps.s rfl rfl rfl (Q.assign_dp rfl) ?_
    | refine XOps.s rfl rfl rfl (Q.assign_dcut rfl) ?_
    | refine XOps.s rfl rfl rfl (Q.assign_aggv rfl) ?_
    | refine XOps.s rfl rfl rfl (Q.assign rfl) ?_
  refine XOps.nil ?_
  refine W.reg ?_
  first
    | refine XOps.s rfl rfl rfl (Q.move_d rfl) ?_
    | refine XOps.s rfl rfl rfl (Q.move_vs rfl) ?_
    | refine XOps.s rfl rfl rfl (Q.move_ptr rfl) ?_
    | refine XOps.s rfl rfl rfl (Q.move_nilsl rfl) ?_
    | refine XOps.s rfl rfl rfl (Q.move_fn rfl) ?_
    | refine XOps.s rfl rfl rfl (Q.move_tup rfl) ?_
    | refine XOps.s rfl rfl rfl (Q.move_ep rfl) ?_
    | refine XOps.s rfl rfl rfl (Q.move_dp rfl) ?_
    | refine XOps.s rfl rfl rfl (Q.move_dcut rfl) ?_
    | refine XOps.s rfl rfl rfl (Q.move_aggv rfl) ?_
    | refine XOps.s rfl rfl rfl (Q.move rfl) ?_
  first
    | refine XOps.s rfl rfl rfl (Q.move_d rfl) ?_
    | refine XOps.s rfl rfl rfl (Q.move_vs rfl) ?_
    | refine XOps.s rfl rfl rfl (Q.move_ptr rfl) ?_
    | refine XOps.s rfl rfl rfl (Q.move_nilsl rfl) ?_
    | refine XOps.s rfl rfl rfl (Q.move_fn rfl) ?_
    | refine XOps.s rfl rfl rfl (Q.move_tup rfl) ?_
    | refine XOps.s rfl rfl rfl (Q.move_ep rfl) ?_
    | refine XOps.s rfl rfl rfl (Q.move_dp rfl) ?_
    | refine XOps.s rfl rfl rfl (Q.move_dcut rfl) ?_
    | refine XOps.s rfl rfl rfl (Q.move_aggv rfl) ?_
    | refine XOps.s rfl rfl rfl (Q.move rfl) ?_
  refine XOps.s rfl rfl rfl (Q.idxb rfl (run_callFunc_extern (e := Extern.BytealgIndexByte.indexByte) Tryd.func79 (by kernel_rfl) (by kernel_rfl) (by kernel_rfl) (by kernel_rfl)) rfl rfl) ?_
  first
    | refine XOps.s rfl rfl rfl (Q.assign_d rfl) ?_
    | refine XOps.s rfl rfl rfl (Q.assign_vs rfl) ?_
    | refine XOps.s rfl rfl rfl (Q.assign_ptr rfl) ?_
    | refine XOps.s rfl rfl rfl (Q.assign_nilsl rfl) ?_
    | refine XOps.s rfl rfl rfl (Q.assign_fn rfl) ?_
    | refine XOps.s rfl rfl rfl (Q.assign_tup rfl) ?_
    | refine XOps.s rfl rfl rfl (Q.assign_ep rfl) ?_
    | refine XOps.s rfl rfl rfl (Q.assign_dp rfl) ?_
    | refine XOps.s rfl rfl rfl (Q.assign_dcut rfl) ?_
    | refine XOps.s rfl rfl rfl (Q.assign_aggv rfl) ?_
    | refine XOps.s rfl rfl rfl (Q.assign rfl) ?_
  refine XOps.nil ?_
  refine W.ret ?_
  refine ⟨_, hs, rfl, by repeat (first | exact HLe.refl _ | refine HLe.cons' (by first | rfl | (simp; done)) ?_ | refine HLe.pick 1 rfl (by first | rfl | (simp; done)) ?_ | refine HLe.pick 2 rfl (by first | rfl | (simp; done)) ?_ | refine HLe.pick 3 rfl (by first | rfl | (simp; done)) ?_ | refine HLe.pick 4 rfl (by first | rfl | (simp; done)) ?_ | refine HLe.pick 5 rfl (by first | rfl | (simp; done)) ?_ | refine HLe.skip _ ?_), ?_, rfl⟩
  rfl

theorem one_eq {s : ByteArray} {c : UInt8} (h : ((⟨#[c]⟩ : ByteArray).toList == s.toList) = true) : Lib.indexByte (bl s) c = 0 := by
  have h2 : seq ⟨#[c]⟩ s = true := h
  rw [seq_iff] at h2
  subst h2
  show Lib.indexByte [c] c = 0
  simp [Lib.indexByte]

set_option maxHeartbeats 1000000 in
set_option maxRecDepth 100000 in
theorem index_c (s : ByteArray) (c : UInt8) (hs : Hp) : AC P 51 [.d (.str s), .d (.str ⟨#[c]⟩)] hs (fun r h => r = .d (.int .i64 (Lib.indexByte (bl s) c)) ∧ h = hs) := by
  refine AC.of 143 Tryd.func51 rfl rfl rfl ?_
  refine W.reg ?_
  first
    | refine XOps.s rfl rfl rfl (Q.assign_d rfl) ?_
    | refine XOps.s rfl rfl rfl (Q.assign_vs rfl) ?_
    | refine XOps.s rfl rfl rfl (Q.assign_ptr rfl) ?_
    | refine XOps.s rfl rfl rfl (Q.assign_nilsl rfl) ?_
    | refine XOps.s rfl rfl rfl (Q.assign_fn rfl) ?_
    | refine XOps.s rfl rfl rfl (Q.assign_tup rfl) ?_
    | refine XOps.s rfl rfl rfl (Q.assign_ep rfl) ?_
    | refine XOps.s rfl rfl rfl (Q.assign_dp rfl) ?_
    | refine XOps.s rfl rfl rfl (Q.assign_dcut rfl) ?_
    | refine XOps.s rfl rfl rfl (Q.assign_aggv rfl) ?_
    | refine XOps.s rfl rfl rfl (Q.assign rfl) ?_
  refine XOps.nil ?_
  refine W.reg ?_
  first
    | refine XOps.s rfl rfl rfl (Q.move_d rfl) ?_
    | refine XOps.s rfl rfl rfl (Q.move_vs rfl) ?_
    | refine XOps.s rfl rfl rfl (Q.move_ptr rfl) ?_
    | refine XOps.s rfl rfl rfl (Q.move_nilsl rfl) ?_
    | refine XOps.s rfl rfl rfl (Q.move_fn rfl) ?_
    | refine XOps.s rfl rfl rfl (Q.move_tup rfl) ?_
    | refine XOps.s rfl rfl rfl (Q.move_ep rfl) ?_
    | refine XOps.s rfl rfl rfl (Q.move_dp rfl) ?_
    | refine XOps.s rfl rfl rfl (Q.move_dcut rfl) ?_
    | refine XOps.s rfl rfl rfl (Q.move_aggv rfl) ?_
    | refine XOps.s rfl rfl rfl (Q.move rfl) ?_
  first
    | refine XOps.s rfl rfl rfl (Q.len_str ist9 rfl) ?_
  first
    | refine XOps.s rfl rfl rfl (Q.assign_d rfl) ?_
    | refine XOps.s rfl rfl rfl (Q.assign_vs rfl) ?_
    | refine XOps.s rfl rfl rfl (Q.assign_ptr rfl) ?_
    | refine XOps.s rfl rfl rfl (Q.assign_nilsl rfl) ?_
    | refine XOps.s rfl rfl rfl (Q.assign_fn rfl) ?_
    | refine XOps.s rfl rfl rfl (Q.assign_tup rfl) ?_
    | refine XOps.s rfl rfl rfl (Q.assign_ep rfl) ?_
    | refine XOps.s rfl rfl rfl (Q.assign_dp rfl) ?_
    | refine XOps.s rfl rfl rfl (Q.assign_dcut rfl) ?_
    | refine XOps.s rfl rfl rfl (Q.assign_aggv rfl) ?_
    | refine XOps.s rfl rfl rfl (Q.assign rfl) ?_
  refine XOps.nil ?_
  refine W.seq ?_
  refine W.block ?_
  refine W.reg ?_
  first
    | refine XOps.s rfl rfl rfl (Q.move_d rfl) ?_
    | refine XOps.s rfl rfl rfl (Q.move_vs rfl) ?_
    | refine XOps.s rfl rfl rfl (Q.move_ptr rfl) ?_
    | refine XOps.s rfl rfl rfl (Q.move_nilsl rfl) ?_
    | refine XOps.s rfl rfl rfl (Q.move_fn rfl) ?_
    | refine XOps.s rfl rfl rfl (Q.move_tup rfl) ?_
    | refine XOps.s rfl rfl rfl (Q.move_ep rfl) ?_
    | refine XOps.s rfl rfl rfl (Q.move_dp rfl) ?_
    | refine XOps.s rfl rfl rfl (Q.move_dcut rfl) ?_
    | refine XOps.s rfl rfl rfl (Q.move_aggv rfl) ?_
    | refine XOps.s rfl rfl rfl (Q.move rfl) ?_
  first
    | refine XOps.s rfl rfl rfl (Q.eql rfl rfl) ?_
    | refine XOps.s rfl rfl rfl (Q.eql_str rfl rfl) ?_
  first
    | refine XOps.s rfl rfl rfl (Q.move_d rfl) ?_
    | refine XOps.s rfl rfl rfl (Q.move_vs rfl) ?_
    | refine XOps.s rfl rfl rfl (Q.move_ptr rfl) ?_
    | refine XOps.s rfl rfl rfl (Q.move_nilsl rfl) ?_
    | refine XOps.s rfl rfl rfl (Q.move_fn rfl) ?_
    | refine XOps.s rfl rfl rfl (Q.move_tup rfl) ?_
    | refine XOps.s rfl rfl rfl (Q.move_ep rfl) ?_
    | refine XOps.s rfl rfl rfl (Q.move_dp rfl) ?_
    | refine XOps.s rfl rfl rfl (Q.move_dcut rfl) ?_
    | refine XOps.s rfl rfl rfl (Q.move_aggv rfl) ?_
    | refine XOps.s rfl rfl rfl (Q.move rfl) ?_
  first
    | refine XOps.gs rfl rfl rfl rfl rfl rfl rfl (fun hg => Q.move_d rfl) ?_
    | refine XOps.gs rfl rfl rfl rfl rfl rfl rfl (fun hg => Q.move_vs rfl) ?_
    | refine XOps.gs rfl rfl rfl rfl rfl rfl rfl (fun hg => Q.move_ptr rfl) ?_
    | refine XOps.gs rfl rfl rfl rfl rfl rfl rfl (fun hg => Q.move_nilsl rfl) ?_
    | refine XOps.gs rfl rfl rfl rfl rfl rfl rfl (fun hg => Q.move_fn rfl) ?_
    | refine XOps.gs rfl rfl rfl rfl rfl rfl rfl (fun hg => Q.move_tup rfl) ?_
    | refine XOps.gs rfl rfl rfl rfl rfl rfl rfl (fun hg => Q.move_ep rfl) ?_
    | refine XOps.gs rfl rfl rfl rfl rfl rfl rfl (fun hg => Q.move_dp rfl) ?_
    | refine XOps.gs rfl rfl rfl rfl rfl rfl rfl (fun hg => Q.move_dcut rfl) ?_
    | refine XOps.gs rfl rfl rfl rfl rfl rfl rfl (fun hg => Q.move_aggv rfl) ?_
    | refine XOps.gs rfl rfl rfl rfl rfl rfl rfl (fun hg => Q.move rfl) ?_
  first
    | refine XOps.gs rfl rfl rfl rfl rfl rfl rfl (fun hg => Q.move_d rfl) ?_
    | refine XOps.gs rfl rfl rfl rfl rfl rfl rfl (fun hg => Q.move_vs rfl) ?_
    | refine XOps.gs rfl rfl rfl rfl rfl rfl rfl (fun hg => Q.move_ptr rfl) ?_
    | refine XOps.gs rfl rfl rfl rfl rfl rfl rfl (fun hg => Q.move_nilsl rfl) ?_
    | refine XOps.gs rfl rfl rfl rfl rfl rfl rfl (fun hg => Q.move_fn rfl) ?_
    | refine XOps.gs rfl rfl rfl rfl rfl rfl rfl (fun hg => Q.move_tup rfl) ?_
    | refine XOps.gs rfl rfl rfl rfl rfl rfl rfl (fun hg => Q.move_ep rfl) ?_
    | refine XOps.gs rfl rfl rfl rfl rfl rfl rfl (fun hg => Q.move_dp rfl) ?_
    | refine XOps.gs rfl rfl rfl rfl rfl rfl rfl (fun hg => Q.move_dcut rfl) ?_
    | refine XOps.gs rfl rfl rfl rfl rfl rfl rfl (fun hg => Q.move_aggv rfl) ?_
    | refine XOps.gs rfl rfl rfl rfl rfl rfl rfl (fun hg => Q.move rfl) ?_
  first
    | refine XOps.gs rfl rfl rfl rfl rfl rfl rfl (fun hg => Quiet.open 20 hg rfl (Quiet.open 21 hg rfl (Q.eql rfl rfl))) ?_
    | refine XOps.gs rfl rfl rfl rfl rfl rfl rfl (fun hg => Quiet.open 20 hg rfl (Quiet.open 21 hg rfl (Q.eql_str rfl rfl))) ?_
  first
    | refine XOps.s rfl rfl rfl (Q.pick_and rfl rfl rfl (fun h => by first | (rw [h]; rfl) | (rw [hg, h]; rfl) | (simp [h, hg]; done))) ?_
    | refine XOps.s rfl rfl rfl (Q.pick_or rfl rfl rfl (fun h => by first | (rw [h]; rfl) | (rw [hg, h]; rfl) | (simp [h, hg]; done))) ?_
    | refine XOps.s rfl rfl rfl (Q.pick rfl rfl rfl) ?_
  first
    | refine XOps.s rfl rfl rfl (Q.assign_d rfl) ?_
    | refine XOps.s rfl rfl rfl (Q.assign_vs rfl) ?_
    | refine XOps.s rfl rfl rfl (Q.assign_ptr rfl) ?_
    | refine XOps.s rfl rfl rfl (Q.assign_nilsl rfl) ?_
    | refine XOps.s rfl rfl rfl (Q.assign_fn rfl) ?_
    | refine XOps.s rfl rfl rfl (Q.assign_tup rfl) ?_
    | refine XOps.s rfl rfl rfl (Q.assign_ep rfl) ?_
    | refine XOps.s rfl rfl rfl (Q.assign_dp rfl) ?_
    | refine XOps.s rfl rfl rfl (Q.assign_dcut rfl) ?_
    | refine XOps.s rfl rfl rfl (Q.assign_aggv rfl) ?_
    | refine XOps.s rfl rfl rfl (Q.assign rfl) ?_
  refine XOps.nil ?_
  refine W.cond rfl (fun hc16 => ?_) (fun hc16 => ?_)
  · skip
    have hr : Lib.indexByte (bl s) c = 0 := one_eq (by
      rcases Bool.or_eq_true_iff.1 hc16 with h | h
      · exact absurd (of_decide_eq_true h) (by show ¬ ((1 : Nat) : Int) = 0; decide)
      · exact h)
    rw [hr]
    refine W.reg ?_
    first
      | refine XOps.s rfl rfl rfl (Q.assign_d rfl) ?_
      | refine XOps.s rfl rfl rfl (Q.assign_vs rfl) ?_
      | refine XOps.s rfl rfl rfl (Q.assign_ptr rfl) ?_
      | refine XOps.s rfl rfl rfl (Q.assign_nilsl rfl) ?_
      | refine XOps.s rfl rfl rfl (Q.assign_fn rfl) ?_
      | refine XOps.s rfl rfl rfl (Q.assign_tup rfl) ?_
      | refine XOps.s rfl rfl rfl (Q.assign_ep rfl) ?_
      | refine XOps.s rfl rfl rfl (Q.assign_dp rfl) ?_
      | refine XOps.s rfl rfl rfl (Q.assign_dcut rfl) ?_
      | refine XOps.s rfl rfl rfl (Q.assign_aggv rfl) ?_
      | refine XOps.s rfl rfl rfl (Q.assign rfl) ?_
    refine XOps.nil ?_
    refine W.ret ?_
    refine ⟨_, hs, rfl, by repeat (first | exact HLe.refl _ | refine HLe.cons' (by first | rfl | (simp; done)) ?_ | refine HLe.pick 1 rfl (by first | rfl | (simp; done)) ?_ | refine HLe.pick 2 rfl (by first | rfl | (simp; done)) ?_ | refine HLe.pick 3 rfl (by first | rfl | (simp; done)) ?_ | refine HLe.pick 4 rfl (by first | rfl | (simp; done)) ?_ | refine HLe.pick 5 rfl (by first | rfl | (simp; done)) ?_ | refine HLe.skip _ ?_), ?_, rfl⟩
    first | rfl | skip
  · skip
    refine W.reg ?_
    first
      | refine XOps.s rfl rfl rfl (Q.move_d rfl) ?_
      | refine XOps.s rfl rfl rfl (Q.move_vs rfl) ?_
      | refine XOps.s rfl rfl rfl (Q.move_ptr rfl) ?_
      | refine XOps.s rfl rfl rfl (Q.move_nilsl rfl) ?_
      | refine XOps.s rfl rfl rfl (Q.move_fn rfl) ?_
      | refine XOps.s rfl rfl rfl (Q.move_tup rfl) ?_
      | refine XOps.s rfl rfl rfl (Q.move_ep rfl) ?_
      | refine XOps.s rfl rfl rfl (Q.move_dp rfl) ?_
      | refine XOps.s rfl rfl rfl (Q.move_dcut rfl) ?_
      | refine XOps.s rfl rfl rfl (Q.move_aggv rfl) ?_
      | refine XOps.s rfl rfl rfl (Q.move rfl) ?_
    first
      | refine XOps.s rfl rfl rfl (Q.eql rfl rfl) ?_
      | refine XOps.s rfl rfl rfl (Q.eql_str rfl rfl) ?_
    first
      | refine XOps.s rfl rfl rfl (Q.assign_d rfl) ?_
      | refine XOps.s rfl rfl rfl (Q.assign_vs rfl) ?_
      | refine XOps.s rfl rfl rfl (Q.assign_ptr rfl) ?_
      | refine XOps.s rfl rfl rfl (Q.assign_nilsl rfl) ?_
      | refine XOps.s rfl rfl rfl (Q.assign_fn rfl) ?_
      | refine XOps.s rfl rfl rfl (Q.assign_tup rfl) ?_
      | refine XOps.s rfl rfl rfl (Q.assign_ep rfl) ?_
      | refine XOps.s rfl rfl rfl (Q.assign_dp rfl) ?_
      | refine XOps.s rfl rfl rfl (Q.assign_dcut rfl) ?_
      | refine XOps.s rfl rfl rfl (Q.assign_aggv rfl) ?_
      | refine XOps.s rfl rfl rfl (Q.assign rfl) ?_
    refine XOps.nil ?_
    refine W.cond rfl (fun hc24 => ?_) (fun hc24 => ?_)
    · skip
      refine W.reg ?_
      first
        | refine XOps.s rfl rfl rfl (Q.move_d rfl) ?_
        | refine XOps.s rfl rfl rfl (Q.move_vs rfl) ?_
        | refine XOps.s rfl rfl rfl (Q.move_ptr rfl) ?_
        | refine XOps.s rfl rfl rfl (Q.move_nilsl rfl) ?_
        | refine XOps.s rfl rfl rfl (Q.move_fn rfl) ?_
        | refine XOps.s rfl rfl rfl (Q.move_tup rfl) ?_
        | refine XOps.s rfl rfl rfl (Q.move_ep rfl) ?_
        | refine XOps.s rfl rfl rfl (Q.move_dp rfl) ?_
        | refine XOps.s rfl rfl rfl (Q.move_dcut rfl) ?_
        | refine XOps.s rfl rfl rfl (Q.move_aggv rfl) ?_
        | refine XOps.s rfl rfl rfl (Q.move rfl) ?_
      first
        | refine XOps.s rfl rfl rfl (Q.move_d rfl) ?_
        | refine XOps.s rfl rfl rfl (Q.move_vs rfl) ?_
        | refine XOps.s rfl rfl rfl (Q.move_ptr rfl) ?_
        | refine XOps.s rfl rfl rfl (Q.move_nilsl rfl) ?_
        | refine XOps.s rfl rfl rfl (Q.move_fn rfl) ?_
        | refine XOps.s rfl rfl rfl (Q.move_tup rfl) ?_
        | refine XOps.s rfl rfl rfl (Q.move_ep rfl) ?_
        | refine XOps.s rfl rfl rfl (Q.move_dp rfl) ?_
        | refine XOps.s rfl rfl rfl (Q.move_dcut rfl) ?_
        | refine XOps.s rfl rfl rfl (Q.move_aggv rfl) ?_
        | refine XOps.s rfl rfl rfl (Q.move rfl) ?_
      refine XOps.s rfl rfl rfl (Q.idx_str ist9 rfl rfl (by decide) (by show (0 : Int) < ((1 : Nat) : Int); decide)) ?_
      refine XOps.s rfl rfl rfl (Q.call rfl Tryd.func69 go69 rfl (idxb_c s c _)) ?_
      first
        | refine XOps.s rfl rfl rfl (Q.assign_d rfl) ?_
        | refine XOps.s rfl rfl rfl (Q.assign_vs rfl) ?_
        | refine XOps.s rfl rfl rfl (Q.assign_ptr rfl) ?_
        | refine XOps.s rfl rfl rfl (Q.assign_nilsl rfl) ?_
        | refine XOps.s rfl rfl rfl (Q.assign_fn rfl) ?_
        | refine XOps.s rfl rfl rfl (Q.assign_tup rfl) ?_
        | refine XOps.s rfl rfl rfl (Q.assign_ep rfl) ?_
        | refine XOps.s rfl rfl rfl (Q.assign_dp rfl) ?_
        | refine XOps.s rfl rfl rfl (Q.assign_dcut rfl) ?_
        | refine XOps.s rfl rfl rfl (Q.assign_aggv rfl) ?_
        | refine XOps.s rfl rfl rfl (Q.assign rfl) ?_
      refine XOps.nil ?_
      refine W.ret ?_
      refine ⟨_, hs, rfl, by repeat (first | exact HLe.refl _ | refine HLe.cons' (by first | rfl | (simp; done)) ?_ | refine HLe.pick 1 rfl (by first | rfl | (simp; done)) ?_ | refine HLe.pick 2 rfl (by first | rfl | (simp; done)) ?_ | refine HLe.pick 3 rfl (by first | rfl | (simp; done)) ?_ | refine HLe.pick 4 rfl (by first | rfl | (simp; done)) ?_ | refine HLe.pick 5 rfl (by first | rfl | (simp; done)) ?_ | refine HLe.skip _ ?_), ?_, rfl⟩
      first | rfl | skip
    · skip
      exact absurd (of_decide_eq_false hc24) (by show ¬ ¬ ((1 : Nat) : Int) = 1; decide)

set_option maxHeartbeats 1000000 in
set_option maxRecDepth 100000 in
theorem sindex_c (s : ByteArray) (c : UInt8) (hs : Hp) : AC P 30 [.d (.str s), .d (.str ⟨#[c]⟩)] hs (fun r h => r = .d (.int .i64 (Lib.indexByte (bl s) c)) ∧ h = hs) := by
  refine AC.of 8 Tryd.func30 rfl rfl rfl ?_
  refine W.reg ?_
  first
    | refine XOps.s rfl rfl rfl (Q.assign_d rfl) ?_
    | refine XOps.s rfl rfl rfl (Q.assign_vs rfl) ?_
    | refine XOps.s rfl rfl rfl (Q.assign_ptr rfl) ?_
    | refine XOps.s rfl rfl rfl (Q.assign_nilsl rfl) ?_
    | refine XOps.s rfl rfl rfl (Q.assign_fn rfl) ?_
    | refine XOps.s rfl rfl rfl (Q.assign_tup rfl) ?_
    | refine XOps.s rfl rfl rfl (Q.assign_ep rfl) ?_
    | refine XOps.s rfl rfl rfl (Q.assign_dp rfl) ?_
    | refine XOps.s rfl rfl rfl (Q.assign_dcut rfl) ?_
    | refine XOps.s rfl rfl rfl (Q.assign_aggv rfl) ?_
    | refine XOps.s rfl rfl rfl (Q.assign rfl) ?_
  refine XOps.nil ?_
  refine W.reg ?_
  first
    | refine XOps.s rfl rfl rfl (Q.move_d rfl) ?_
    | refine XOps.s rfl rfl rfl (Q.move_vs rfl) ?_
    | refine XOps.s rfl rfl rfl (Q.move_ptr rfl) ?_
    | refine XOps.s rfl rfl rfl (Q.move_nilsl rfl) ?_
    | refine XOps.s rfl rfl rfl (Q.move_fn rfl) ?_
    | refine XOps.s rfl rfl rfl (Q.move_tup rfl) ?_
    | refine XOps.s rfl rfl rfl (Q.move_ep rfl) ?_
    | refine XOps.s rfl rfl rfl (Q.move_dp rfl) ?_
    | refine XOps.s rfl rfl rfl (Q.move_dcut rfl) ?_
    | refine XOps.s rfl rfl rfl (Q.move_aggv rfl) ?_
    | refine XOps.s rfl rfl rfl (Q.move rfl) ?_
  first
    | refine XOps.s rfl rfl rfl (Q.move_d rfl) ?_
    | refine XOps.s rfl rfl rfl (Q.move_vs rfl) ?_
    | refine XOps.s rfl rfl rfl (Q.move_ptr rfl) ?_
    | refine XOps.s rfl rfl rfl (Q.move_nilsl rfl) ?_
    | refine XOps.s rfl rfl rfl (Q.move_fn rfl) ?_
    | refine XOps.s rfl rfl rfl (Q.move_tup rfl) ?_
    | refine XOps.s rfl rfl rfl (Q.move_ep rfl) ?_
    | refine XOps.s rfl rfl rfl (Q.move_dp rfl) ?_
    | refine XOps.s rfl rfl rfl (Q.move_dcut rfl) ?_
    | refine XOps.s rfl rfl rfl (Q.move_aggv rfl) ?_
    | refine XOps.s rfl rfl rfl (Q.move rfl) ?_
  refine XOps.s rfl rfl rfl (Q.call rfl Tryd.func51 go51 rfl (index_c s c _)) ?_
  first
    | refine XOps.s rfl rfl rfl (Q.assign_d rfl) ?_
    | refine XOps.s rfl rfl rfl (Q.assign_vs rfl) ?_
    | refine XOps.s rfl rfl rfl (Q.assign_ptr rfl) ?_
    | refine XOps.s rfl rfl rfl (Q.assign_nilsl rfl) ?_
    | refine XOps.s rfl rfl rfl (Q.assign_fn rfl) ?_
    | refine XOps.s rfl rfl rfl (Q.assign_tup rfl) ?_
    | refine XOps.s rfl rfl rfl (Q.assign_ep rfl) ?_
    | refine XOps.s rfl rfl rfl (Q.assign_dp rfl) ?_
    | refine XOps.s rfl rfl rfl (Q.assign_dcut rfl) ?_
    | refine XOps.s rfl rfl rfl (Q.assign_aggv rfl) ?_
    | refine XOps.s rfl rfl rfl (Q.assign rfl) ?_
  refine XOps.nil ?_
  refine W.ret ?_
  refine ⟨_, hs, rfl, by repeat (first | exact HLe.refl _ | refine HLe.cons' (by first | rfl | (simp; done)) ?_ | refine HLe.pick 1 rfl (by first | rfl | (simp; done)) ?_ | refine HLe.pick 2 rfl (by first | rfl | (simp; done)) ?_ | refine HLe.pick 3 rfl (by first | rfl | (simp; done)) ?_ | refine HLe.pick 4 rfl (by first | rfl | (simp; done)) ?_ | refine HLe.pick 5 rfl (by first | rfl | (simp; done)) ?_ | refine HLe.skip _ ?_), ?_, rfl⟩
  rfl

set_option maxHeartbeats 1000000 in
set_option maxRecDepth 100000 in
theorem count_c (s : ByteArray) (c : UInt8) (hs : Hp) : AC P 15 [.d (.str s), .d (.str ⟨#[c]⟩)] hs (fun r h => r = .d (.int .i64 ((bl s).count c : Nat)) ∧ h = hs) := by
  refine AC.of 34 Tryd.func15 rfl rfl rfl ?_
  refine W.reg ?_
  first
    | refine XOps.s rfl rfl rfl (Q.assign_d rfl) ?_
    | refine XOps.s rfl rfl rfl (Q.assign_vs rfl) ?_
    | refine XOps.s rfl rfl rfl (Q.assign_ptr rfl) ?_
    | refine XOps.s rfl rfl rfl (Q.assign_nilsl rfl) ?_
    | refine XOps.s rfl rfl rfl (Q.assign_fn rfl) ?_
    | refine XOps.s rfl rfl rfl (Q.assign_tup rfl) ?_
    | refine XOps.s rfl rfl rfl (Q.assign_ep rfl) ?_
    | refine XOps.s rfl rfl rfl (Q.assign_dp rfl) ?_
    | refine XOps.s rfl rfl rfl (Q.assign_dcut rfl) ?_
    | refine XOps.s rfl rfl rfl (Q.assign_aggv rfl) ?_
    | refine XOps.s rfl rfl rfl (Q.assign rfl) ?_
  refine XOps.nil ?_
  refine W.seq ?_
  refine W.reg ?_
  first
    | refine XOps.s rfl rfl rfl (Q.move_d rfl) ?_
    | refine XOps.s rfl rfl rfl (Q.move_vs rfl) ?_
    | refine XOps.s rfl rfl rfl (Q.move_ptr rfl) ?_
    | refine XOps.s rfl rfl rfl (Q.move_nilsl rfl) ?_
    | refine XOps.s rfl rfl rfl (Q.move_fn rfl) ?_
    | refine XOps.s rfl rfl rfl (Q.move_tup rfl) ?_
    | refine XOps.s rfl rfl rfl (Q.move_ep rfl) ?_
    | refine XOps.s rfl rfl rfl (Q.move_dp rfl) ?_
    | refine XOps.s rfl rfl rfl (Q.move_dcut rfl) ?_
    | refine XOps.s rfl rfl rfl (Q.move_aggv rfl) ?_
    | refine XOps.s rfl rfl rfl (Q.move rfl) ?_
  first
    | refine XOps.s rfl rfl rfl (Q.len_str ist9 rfl) ?_
  first
    | refine XOps.s rfl rfl rfl (Q.eql rfl rfl) ?_
    | refine XOps.s rfl rfl rfl (Q.eql_str rfl rfl) ?_
  refine XOps.nil ?_
  refine W.cond rfl (fun hc9 => ?_) (fun hc9 => ?_)
  · skip
    exact absurd (of_decide_eq_true hc9) (by show ¬ ((1 : Nat) : Int) = 0; decide)
  · skip
    refine W.skip ?_
    refine W.seq ?_
    refine W.reg ?_
    first
      | refine XOps.s rfl rfl rfl (Q.move_d rfl) ?_
      | refine XOps.s rfl rfl rfl (Q.move_vs rfl) ?_
      | refine XOps.s rfl rfl rfl (Q.move_ptr rfl) ?_
      | refine XOps.s rfl rfl rfl (Q.move_nilsl rfl) ?_
      | refine XOps.s rfl rfl rfl (Q.move_fn rfl) ?_
      | refine XOps.s rfl rfl rfl (Q.move_tup rfl) ?_
      | refine XOps.s rfl rfl rfl (Q.move_ep rfl) ?_
      | refine XOps.s rfl rfl rfl (Q.move_dp rfl) ?_
      | refine XOps.s rfl rfl rfl (Q.move_dcut rfl) ?_
      | refine XOps.s rfl rfl rfl (Q.move_aggv rfl) ?_
      | refine XOps.s rfl rfl rfl (Q.move rfl) ?_
    first
      | refine XOps.s rfl rfl rfl (Q.len_str ist9 rfl) ?_
    first
      | refine XOps.s rfl rfl rfl (Q.eql rfl rfl) ?_
      | refine XOps.s rfl rfl rfl (Q.eql_str rfl rfl) ?_
    refine XOps.nil ?_
    refine W.cond rfl (fun hc15 => ?_) (fun hc15 => ?_)
    · skip
      refine W.reg ?_
      first
        | refine XOps.s rfl rfl rfl (Q.move_d rfl) ?_
        | refine XOps.s rfl rfl rfl (Q.move_vs rfl) ?_
        | refine XOps.s rfl rfl rfl (Q.move_ptr rfl) ?_
        | refine XOps.s rfl rfl rfl (Q.move_nilsl rfl) ?_
        | refine XOps.s rfl rfl rfl (Q.move_fn rfl) ?_
        | refine XOps.s rfl rfl rfl (Q.move_tup rfl) ?_
        | refine XOps.s rfl rfl rfl (Q.move_ep rfl) ?_
        | refine XOps.s rfl rfl rfl (Q.move_dp rfl) ?_
        | refine XOps.s rfl rfl rfl (Q.move_dcut rfl) ?_
        | refine XOps.s rfl rfl rfl (Q.move_aggv rfl) ?_
        | refine XOps.s rfl rfl rfl (Q.move rfl) ?_
      first
        | refine XOps.s rfl rfl rfl (Q.move_d rfl) ?_
        | refine XOps.s rfl rfl rfl (Q.move_vs rfl) ?_
        | refine XOps.s rfl rfl rfl (Q.move_ptr rfl) ?_
        | refine XOps.s rfl rfl rfl (Q.move_nilsl rfl) ?_
        | refine XOps.s rfl rfl rfl (Q.move_fn rfl) ?_
        | refine XOps.s rfl rfl rfl (Q.move_tup rfl) ?_
        | refine XOps.s rfl rfl rfl (Q.move_ep rfl) ?_
        | refine XOps.s rfl rfl rfl (Q.move_dp rfl) ?_
        | refine XOps.s rfl rfl rfl (Q.move_dcut rfl) ?_
        | refine XOps.s rfl rfl rfl (Q.move_aggv rfl) ?_
        | refine XOps.s rfl rfl rfl (Q.move rfl) ?_
      refine XOps.s rfl rfl rfl (Q.idx_str ist9 rfl rfl (by decide) (by show (0 : Int) < ((1 : Nat) : Int); decide)) ?_
      refine XOps.s rfl rfl rfl (Q.cntb (c := c) rfl (run_callFunc_extern (e := Extern.BytealgCount.count) Tryd.func29 (by kernel_rfl) (by kernel_rfl) (by kernel_rfl) (by kernel_rfl)) rfl rfl) ?_
      first
        | refine XOps.s rfl rfl rfl (Q.assign_d rfl) ?_
        | refine XOps.s rfl rfl rfl (Q.assign_vs rfl) ?_
        | refine XOps.s rfl rfl rfl (Q.assign_ptr rfl) ?_
        | refine XOps.s rfl rfl rfl (Q.assign_nilsl rfl) ?_
        | refine XOps.s rfl rfl rfl (Q.assign_fn rfl) ?_
        | refine XOps.s rfl rfl rfl (Q.assign_tup rfl) ?_
        | refine XOps.s rfl rfl rfl (Q.assign_ep rfl) ?_
        | refine XOps.s rfl rfl rfl (Q.assign_dp rfl) ?_
        | refine XOps.s rfl rfl rfl (Q.assign_dcut rfl) ?_
        | refine XOps.s rfl rfl rfl (Q.assign_aggv rfl) ?_
        | refine XOps.s rfl rfl rfl (Q.assign rfl) ?_
      refine XOps.nil ?_
      refine W.ret ?_
      refine ⟨_, hs, rfl, by repeat (first | exact HLe.refl _ | refine HLe.cons' (by first | rfl | (simp; done)) ?_ | refine HLe.pick 1 rfl (by first | rfl | (simp; done)) ?_ | refine HLe.pick 2 rfl (by first | rfl | (simp; done)) ?_ | refine HLe.pick 3 rfl (by first | rfl | (simp; done)) ?_ | refine HLe.pick 4 rfl (by first | rfl | (simp; done)) ?_ | refine HLe.pick 5 rfl (by first | rfl | (simp; done)) ?_ | refine HLe.skip _ ?_), ?_, rfl⟩
      rfl
    · skip
      exact absurd (of_decide_eq_false hc15) (by show ¬ ¬ ((1 : Nat) : Int) = 1; decide)

set_option maxHeartbeats 1000000 in
set_option maxRecDepth 100000 in
theorem cmps_c (a b : ByteArray) (hs : Hp) : AC P 39 [.d (.str a), .d (.str b)] hs (fun r h => r = .d (.int .i64 (cmpB a b)) ∧ h = hs) := by
  refine AC.of 8 Tryd.func39 rfl rfl rfl ?_
  refine W.reg ?_
  first
    | refine XOps.s rfl rfl rfl (Q.assign_d rfl) ?_
    | refine XOps.s rfl rfl rfl (Q.assign_vs rfl) ?_
    | refine XOps.s rfl rfl rfl (Q.assign_ptr rfl) ?_
    | refine XOps.s rfl rfl rfl (Q.assign_nilsl rfl) ?_
    | refine XOps.s rfl rfl rfl (Q.assign_fn rfl) ?_
    | refine XOps.s rfl rfl rfl (Q.assign_tup rfl) ?_
    | refine XOps.s rfl rfl rfl (Q.assign_ep rfl) ?_
    | refine XOps.s rfl rfl rfl (Q.assign_dp rfl) ?_
    | refine XOps.s rfl rfl rfl (Q.assign_dcut rfl) ?_
    | refine XOps.s rfl rfl rfl (Q.assign_aggv rfl) ?_
    | refine XOps.s rfl rfl rfl (Q.assign rfl) ?_
  refine XOps.nil ?_
  refine W.reg ?_
  first
    | refine XOps.s rfl rfl rfl (Q.move_d rfl) ?_
    | refine XOps.s rfl rfl rfl (Q.move_vs rfl) ?_
    | refine XOps.s rfl rfl rfl (Q.move_ptr rfl) ?_
    | refine XOps.s rfl rfl rfl (Q.move_nilsl rfl) ?_
    | refine XOps.s rfl rfl rfl (Q.move_fn rfl) ?_
    | refine XOps.s rfl rfl rfl (Q.move_tup rfl) ?_
    | refine XOps.s rfl rfl rfl (Q.move_ep rfl) ?_
    | refine XOps.s rfl rfl rfl (Q.move_dp rfl) ?_
    | refine XOps.s rfl rfl rfl (Q.move_dcut rfl) ?_
    | refine XOps.s rfl rfl rfl (Q.move_aggv rfl) ?_
    | refine XOps.s rfl rfl rfl (Q.move rfl) ?_
  first
    | refine XOps.s rfl rfl rfl (Q.move_d rfl) ?_
    | refine XOps.s rfl rfl rfl (Q.move_vs rfl) ?_
    | refine XOps.s rfl rfl rfl (Q.move_ptr rfl) ?_
    | refine XOps.s rfl rfl rfl (Q.move_nilsl rfl) ?_
    | refine XOps.s rfl rfl rfl (Q.move_fn rfl) ?_
    | refine XOps.s rfl rfl rfl (Q.move_tup rfl) ?_
    | refine XOps.s rfl rfl rfl (Q.move_ep rfl) ?_
    | refine XOps.s rfl rfl rfl (Q.move_dp rfl) ?_
    | refine XOps.s rfl rfl rfl (Q.move_dcut rfl) ?_
    | refine XOps.s rfl rfl rfl (Q.move_aggv rfl) ?_
    | refine XOps.s rfl rfl rfl (Q.move rfl) ?_
  refine XOps.s rfl rfl rfl (Q.cmpstr rfl (run_callFunc_extern (e := Extern.BytealgCompare.compare) Tryd.func62 (by kernel_rfl) (by kernel_rfl) (by kernel_rfl) (by kernel_rfl)) rfl rfl) ?_
  first
    | refine XOps.s rfl rfl rfl (Q.assign_d rfl) ?_
    | refine XOps.s rfl rfl rfl (Q.assign_vs rfl) ?_
    | refine XOps.s rfl rfl rfl (Q.assign_ptr rfl) ?_
    | refine XOps.s rfl rfl rfl (Q.assign_nilsl rfl) ?_
    | refine XOps.s rfl rfl rfl (Q.assign_fn rfl) ?_
    | refine XOps.s rfl rfl rfl (Q.assign_tup rfl) ?_
    | refine XOps.s rfl rfl rfl (Q.assign_ep rfl) ?_
    | refine XOps.s rfl rfl rfl (Q.assign_dp rfl) ?_
    | refine XOps.s rfl rfl rfl (Q.assign_dcut rfl) ?_
    | refine XOps.s rfl rfl rfl (Q.assign_aggv rfl) ?_
    | refine XOps.s rfl rfl rfl (Q.assign rfl) ?_
  refine XOps.nil ?_
  refine W.ret ?_
  refine ⟨_, hs, rfl, by repeat (first | exact HLe.refl _ | refine HLe.cons' (by first | rfl | (simp; done)) ?_ | refine HLe.pick 1 rfl (by first | rfl | (simp; done)) ?_ | refine HLe.pick 2 rfl (by first | rfl | (simp; done)) ?_ | refine HLe.pick 3 rfl (by first | rfl | (simp; done)) ?_ | refine HLe.pick 4 rfl (by first | rfl | (simp; done)) ?_ | refine HLe.pick 5 rfl (by first | rfl | (simp; done)) ?_ | refine HLe.skip _ ?_), ?_, rfl⟩
  rfl

set_option maxHeartbeats 1000000 in
set_option maxRecDepth 100000 in
theorem compare_c (a b : ByteArray) (hs : Hp) : AC P 25 [.d (.str a), .d (.str b)] hs (fun r h => r = .d (.int .i64 (cmpB a b)) ∧ h = hs) := by
  refine AC.of 8 Tryd.func25 rfl rfl rfl ?_
  refine W.reg ?_
  first
    | refine XOps.s rfl rfl rfl (Q.assign_d rfl) ?_
    | refine XOps.s rfl rfl rfl (Q.assign_vs rfl) ?_
    | refine XOps.s rfl rfl rfl (Q.assign_ptr rfl) ?_
    | refine XOps.s rfl rfl rfl (Q.assign_nilsl rfl) ?_
    | refine XOps.s rfl rfl rfl (Q.assign_fn rfl) ?_
    | refine XOps.s rfl rfl rfl (Q.assign_tup rfl) ?_
    | refine XOps.s rfl rfl rfl (Q.assign_ep rfl) ?_
    | refine XOps.s rfl rfl rfl (Q.assign_dp rfl) ?_
    | refine XOps.s rfl rfl rfl (Q.assign_dcut rfl) ?_
    | refine XOps.s rfl rfl rfl (Q.assign_aggv rfl) ?_
    | refine XOps.s rfl rfl rfl (Q.assign rfl) ?_
  refine XOps.nil ?_
  refine W.reg ?_
  first
    | refine XOps.s rfl rfl rfl (Q.move_d rfl) ?_
    | refine XOps.s rfl rfl rfl (Q.move_vs rfl) ?_
    | refine XOps.s rfl rfl rfl (Q.move_ptr rfl) ?_
    | refine XOps.s rfl rfl rfl (Q.move_nilsl rfl) ?_
    | refine XOps.s rfl rfl rfl (Q.move_fn rfl) ?_
    | refine XOps.s rfl rfl rfl (Q.move_tup rfl) ?_
    | refine XOps.s rfl rfl rfl (Q.move_ep rfl) ?_
    | refine XOps.s rfl rfl rfl (Q.move_dp rfl) ?_
    | refine XOps.s rfl rfl rfl (Q.move_dcut rfl) ?_
    | refine XOps.s rfl rfl rfl (Q.move_aggv rfl) ?_
    | refine XOps.s rfl rfl rfl (Q.move rfl) ?_
  first
    | refine XOps.s rfl rfl rfl (Q.move_d rfl) ?_
    | refine XOps.s rfl rfl rfl (Q.move_vs rfl) ?_
    | refine XOps.s rfl rfl rfl (Q.move_ptr rfl) ?_
    | refine XOps.s rfl rfl rfl (Q.move_nilsl rfl) ?_
    | refine XOps.s rfl rfl rfl (Q.move_fn rfl) ?_
    | refine XOps.s rfl rfl rfl (Q.move_tup rfl) ?_
    | refine XOps.s rfl rfl rfl (Q.move_ep rfl) ?_
    | refine XOps.s rfl rfl rfl (Q.move_dp rfl) ?_
    | refine XOps.s rfl rfl rfl (Q.move_dcut rfl) ?_
    | refine XOps.s rfl rfl rfl (Q.move_aggv rfl) ?_
    | refine XOps.s rfl rfl rfl (Q.move rfl) ?_
  refine XOps.s rfl rfl rfl (Q.call rfl Tryd.func39 go39 rfl (cmps_c a b _)) ?_
  first
    | refine XOps.s rfl rfl rfl (Q.assign_d rfl) ?_
    | refine XOps.s rfl rfl rfl (Q.assign_vs rfl) ?_
    | refine XOps.s rfl rfl rfl (Q.assign_ptr rfl) ?_
    | refine XOps.s rfl rfl rfl (Q.assign_nilsl rfl) ?_
    | refine XOps.s rfl rfl rfl (Q.assign_fn rfl) ?_
    | refine XOps.s rfl rfl rfl (Q.assign_tup rfl) ?_
    | refine XOps.s rfl rfl rfl (Q.assign_ep rfl) ?_
    | refine XOps.s rfl rfl rfl (Q.assign_dp rfl) ?_
    | refine XOps.s rfl rfl rfl (Q.assign_dcut rfl) ?_
    | refine XOps.s rfl rfl rfl (Q.assign_aggv rfl) ?_
    | refine XOps.s rfl rfl rfl (Q.assign rfl) ?_
  refine XOps.nil ?_
  refine W.ret ?_
  refine ⟨_, hs, rfl, by repeat (first | exact HLe.refl _ | refine HLe.cons' (by first | rfl | (simp; done)) ?_ | refine HLe.pick 1 rfl (by first | rfl | (simp; done)) ?_ | refine HLe.pick 2 rfl (by first | rfl | (simp; done)) ?_ | refine HLe.pick 3 rfl (by first | rfl | (simp; done)) ?_ | refine HLe.pick 4 rfl (by first | rfl | (simp; done)) ?_ | refine HLe.pick 5 rfl (by first | rfl | (simp; done)) ?_ | refine HLe.skip _ ?_), ?_, rfl⟩
  rfl
end Go.Proofs.YtlfapbkaknikpaaDoorA
