/- Builders. -/
import Derived.Test.YtlfapbkaknikpaaDoorFrB
import Derived.Test.YtlfapbkaknikpaaDoorStr2
import Derived.Test.YtlfapbkaknikpaaDoorFrD
set_option linter.unusedVariables false
set_option linter.unusedSimpArgs false
set_option linter.unnecessarySimpa false
namespace Go.Proofs.YtlfapbkaknikpaaDoorA.FStrBu
open Go
theorem ag56 : tAgg P 56 = some ((false, 1)) := by kernel_rfl
theorem ag57 : tAgg P 57 = some ((false, 1)) := by kernel_rfl
theorem fl59_0 : tFld P 59 0 = some (0) := by kernel_rfl
theorem fl59_1 : tFld P 59 1 = some (1) := by kernel_rfl
theorem go52 : callGo Go.Proofs.Tryd.f52 = true := by kernel_rfl
theorem ipt56 : isPtr P 56 = true := by kernel_rfl
theorem isl57 : isSl P 57 = true := by kernel_rfl
theorem ist9 : isStr P 9 = true := by kernel_rfl
end Go.Proofs.YtlfapbkaknikpaaDoorA.FStrBu
namespace Go.Proofs.YtlfapbkaknikpaaDoorA
open Go FStrBu
attribute [local irreducible] XOps Quiet Loud W AC GQ DT
def bldr (b fb v fv : Nat) (l : List UInt8) (hs : Hp) : Hp := (b, .cells [.ptr b 0, .vs v 0 l.length 1]) :: (fb, .typ b 59) :: (v, .lst 1 (l.map bE)) :: (fv, .typ v 5) :: hs

set_option maxHeartbeats 1000000 in
set_option maxRecDepth 100000 in
theorem cc0_c (b fb : Nat) (x : AV) (hs : Hp) : AC P 52 [.ptr b 0] ((b, .cells [.d .nilp, x]) :: (fb, .typ b 59) :: hs) (fun r h => r = .tup [] ∧ h = (b, .cells [.ptr b 0, x]) :: (fb, .typ b 59) :: hs) := by
  refine AC.of 20 Tryd.func52 rfl rfl rfl ?_
  refine W.reg ?_
  first
    | refine XOps.s rfl rfl rfl (Q.move_d rfl) ?_
    | refine XOps.s rfl rfl rfl (Q.move_vs rfl) ?_
    | refine XOps.s rfl rfl rfl (Q.move_ptr rfl) ?_
    | refine XOps.s rfl rfl rfl (Q.move_nilsl rfl) ?_
    | refine XOps.s rfl rfl rfl (Q.move_fn rfl) ?_
    | refine XOps.s rfl rfl rfl (Q.move_tup rfl) ?_
    | refine XOps.s rfl rfl rfl (Q.move_ep rfl) ?_
    | refine XOps.s rfl rfl rfl (Q.move_dp rfl) ?_
    | refine XOps.s rfl rfl rfl (Q.move_dcut rfl) ?_
    | refine XOps.s rfl rfl rfl (Q.move_aggv rfl) ?_
    | refine XOps.s rfl rfl rfl (Q.move rfl) ?_
  first
    | refine XOps.s rfl rfl rfl (Q.nil_ptr rfl) ?_
    | refine XOps.s rfl rfl rfl (Q.nil_ep rfl) ?_
    | refine XOps.s rfl rfl rfl (Q.nil_dp rfl) ?_
    | refine XOps.s rfl rfl rfl (Q.nil_fn rfl) ?_
  first
    | refine XOps.s rfl rfl rfl (Q.fld_ptr fl59_0 rfl) ?_
    | refine XOps.s rfl rfl rfl (Q.fld_dp fl59_0 rfl) ?_
    | refine XOps.s rfl rfl rfl (Q.fld_ep fl59_0 rfl) ?_
  first
    | refine XOps.s rfl rfl rfl (Q.ld_dp ag56 rfl rfl) ?_
    | refine XOps.s rfl rfl rfl (Q.ld_ptr (k := 0) ag56 rfl rfl rfl) ?_
    | refine XOps.s rfl rfl rfl (Q.ld_ptr (k := 1) ag56 rfl rfl rfl) ?_
    | refine XOps.s rfl rfl rfl (Q.ld_ptr (k := 2) ag56 rfl rfl rfl) ?_
    | refine XOps.s rfl rfl rfl (Q.ld_ptr (k := 3) ag56 rfl rfl rfl) ?_
    | refine XOps.s rfl rfl rfl (Q.ld_ep (k := 0) ag56 rfl rfl (by first | exact map_at (by assumption) | exact map_at0 (by assumption) | assumption) rfl) ?_
    | refine XOps.s rfl rfl rfl (Q.ld_ep (k := 1) ag56 rfl rfl (by first | exact map_at (by assumption) | exact map_at0 (by assumption) | assumption) rfl) ?_
    | refine XOps.s rfl rfl rfl (Q.ld_ep (k := 2) ag56 rfl rfl (by first | exact map_at (by assumption) | exact map_at0 (by assumption) | assumption) rfl) ?_
    | refine XOps.s rfl rfl rfl (Q.ld_ep (k := 3) ag56 rfl rfl (by first | exact map_at (by assumption) | exact map_at0 (by assumption) | assumption) rfl) ?_
  refine XOps.s rfl rfl rfl (Q.eql_nilp ipt56 rfl rfl) ?_
  refine XOps.nil ?_
  refine W.cond_t rfl ?_
  refine W.region ?_
  first
    | refine XOps.s rfl rfl rfl (Q.move_d rfl) ?_
    | refine XOps.s rfl rfl rfl (Q.move_vs rfl) ?_
    | refine XOps.s rfl rfl rfl (Q.move_ptr rfl) ?_
    | refine XOps.s rfl rfl rfl (Q.move_nilsl rfl) ?_
    | refine XOps.s rfl rfl rfl (Q.move_fn rfl) ?_
    | refine XOps.s rfl rfl rfl (Q.move_tup rfl) ?_
    | refine XOps.s rfl rfl rfl (Q.move_ep rfl) ?_
    | refine XOps.s rfl rfl rfl (Q.move_dp rfl) ?_
    | refine XOps.s rfl rfl rfl (Q.move_dcut rfl) ?_
    | refine XOps.s rfl rfl rfl (Q.move_aggv rfl) ?_
    | refine XOps.s rfl rfl rfl (Q.move rfl) ?_
  first
    | refine XOps.s rfl rfl rfl (Q.move_d rfl) ?_
    | refine XOps.s rfl rfl rfl (Q.move_vs rfl) ?_
    | refine XOps.s rfl rfl rfl (Q.move_ptr rfl) ?_
    | refine XOps.s rfl rfl rfl (Q.move_nilsl rfl) ?_
    | refine XOps.s rfl rfl rfl (Q.move_fn rfl) ?_
    | refine XOps.s rfl rfl rfl (Q.move_tup rfl) ?_
    | refine XOps.s rfl rfl rfl (Q.move_ep rfl) ?_
    | refine XOps.s rfl rfl rfl (Q.move_dp rfl) ?_
    | refine XOps.s rfl rfl rfl (Q.move_dcut rfl) ?_
    | refine XOps.s rfl rfl rfl (Q.move_aggv rfl) ?_
    | refine XOps.s rfl rfl rfl (Q.move rfl) ?_
  refine XOps.s rfl rfl rfl (Q.to_uns (k := 0) (kt := 1) (by kernel_rfl) rfl rfl rfl rfl) ?_
  refine XOps.s rfl rfl rfl (Q.noesc rfl (run_callFunc_extern (e := Extern.AbiNoEscape.same) Tryd.func73 (by kernel_rfl) (by kernel_rfl) (by kernel_rfl) (by kernel_rfl)) rfl) ?_
  refine XOps.s rfl rfl rfl (Q.of_uns (k := 0) (kt := 1) rfl rfl rfl (by kernel_rfl)) ?_
  first
    | refine XOps.s rfl rfl rfl (Q.nil_ptr rfl) ?_
    | refine XOps.s rfl rfl rfl (Q.nil_ep rfl) ?_
    | refine XOps.s rfl rfl rfl (Q.nil_dp rfl) ?_
    | refine XOps.s rfl rfl rfl (Q.nil_fn rfl) ?_
  first
    | refine XOps.s rfl rfl rfl (Q.fld_ptr fl59_0 rfl) ?_
    | refine XOps.s rfl rfl rfl (Q.fld_dp fl59_0 rfl) ?_
    | refine XOps.s rfl rfl rfl (Q.fld_ep fl59_0 rfl) ?_
  first
    | (refine XOps.loud rfl (L.store (k := 0) ag56 rfl rfl rfl rfl rfl) ?_; rintro _ _ ⟨rfl, rfl⟩)
    | (refine XOps.loud rfl (L.store (k := 1) ag56 rfl rfl rfl rfl rfl) ?_; rintro _ _ ⟨rfl, rfl⟩)
    | (refine XOps.loud rfl (L.store (k := 2) ag56 rfl rfl rfl rfl rfl) ?_; rintro _ _ ⟨rfl, rfl⟩)
    | (refine XOps.loud rfl (L.store (k := 3) ag56 rfl rfl rfl rfl rfl) ?_; rintro _ _ ⟨rfl, rfl⟩)
    | (refine XOps.loud rfl (L.store_ep (k := 0) ag56 rfl rfl (by first | exact map_at (by assumption) | exact map_at0 (by assumption) | assumption) rfl rfl rfl) ?_; rintro _ _ ⟨rfl, rfl⟩)
    | (refine XOps.loud rfl (L.store_ep (k := 1) ag56 rfl rfl (by first | exact map_at (by assumption) | exact map_at0 (by assumption) | assumption) rfl rfl rfl) ?_; rintro _ _ ⟨rfl, rfl⟩)
    | (refine XOps.loud rfl (L.store_ep (k := 2) ag56 rfl rfl (by first | exact map_at (by assumption) | exact map_at0 (by assumption) | assumption) rfl rfl rfl) ?_; rintro _ _ ⟨rfl, rfl⟩)
    | (refine XOps.loud rfl (L.store_ep (k := 3) ag56 rfl rfl (by first | exact map_at (by assumption) | exact map_at0 (by assumption) | assumption) rfl rfl rfl) ?_; rintro _ _ ⟨rfl, rfl⟩)
  refine XOps.nil ?_
  exact ⟨_, _, rfl, HLe.refl _, rfl, rfl⟩

set_option maxHeartbeats 1000000 in
set_option maxRecDepth 100000 in
theorem cc1_c (b : Nat) (x : AV) (hs : Hp) : AC P 52 [.ptr b 0] ((b, .cells [.ptr b 0, x]) :: hs) (fun r h => r = .tup [] ∧ h = (b, .cells [.ptr b 0, x]) :: hs) := by
  refine AC.of 20 Tryd.func52 rfl rfl rfl ?_
  refine W.reg ?_
  first
    | refine XOps.s rfl rfl rfl (Q.move_d rfl) ?_
    | refine XOps.s rfl rfl rfl (Q.move_vs rfl) ?_
    | refine XOps.s rfl rfl rfl (Q.move_ptr rfl) ?_
    | refine XOps.s rfl rfl rfl (Q.move_nilsl rfl) ?_
    | refine XOps.s rfl rfl rfl (Q.move_fn rfl) ?_
    | refine XOps.s rfl rfl rfl (Q.move_tup rfl) ?_
    | refine XOps.s rfl rfl rfl (Q.move_ep rfl) ?_
    | refine XOps.s rfl rfl rfl (Q.move_dp rfl) ?_
    | refine XOps.s rfl rfl rfl (Q.move_dcut rfl) ?_
    | refine XOps.s rfl rfl rfl (Q.move_aggv rfl) ?_
    | refine XOps.s rfl rfl rfl (Q.move rfl) ?_
  first
    | refine XOps.s rfl rfl rfl (Q.nil_ptr rfl) ?_
    | refine XOps.s rfl rfl rfl (Q.nil_ep rfl) ?_
    | refine XOps.s rfl rfl rfl (Q.nil_dp rfl) ?_
    | refine XOps.s rfl rfl rfl (Q.nil_fn rfl) ?_
  first
    | refine XOps.s rfl rfl rfl (Q.fld_ptr fl59_0 rfl) ?_
    | refine XOps.s rfl rfl rfl (Q.fld_dp fl59_0 rfl) ?_
    | refine XOps.s rfl rfl rfl (Q.fld_ep fl59_0 rfl) ?_
  first
    | refine XOps.s rfl rfl rfl (Q.ld_dp ag56 rfl rfl) ?_
    | refine XOps.s rfl rfl rfl (Q.ld_ptr (k := 0) ag56 rfl rfl rfl) ?_
    | refine XOps.s rfl rfl rfl (Q.ld_ptr (k := 1) ag56 rfl rfl rfl) ?_
    | refine XOps.s rfl rfl rfl (Q.ld_ptr (k := 2) ag56 rfl rfl rfl) ?_
    | refine XOps.s rfl rfl rfl (Q.ld_ptr (k := 3) ag56 rfl rfl rfl) ?_
    | refine XOps.s rfl rfl rfl (Q.ld_ep (k := 0) ag56 rfl rfl (by first | exact map_at (by assumption) | exact map_at0 (by assumption) | assumption) rfl) ?_
    | refine XOps.s rfl rfl rfl (Q.ld_ep (k := 1) ag56 rfl rfl (by first | exact map_at (by assumption) | exact map_at0 (by assumption) | assumption) rfl) ?_
    | refine XOps.s rfl rfl rfl (Q.ld_ep (k := 2) ag56 rfl rfl (by first | exact map_at (by assumption) | exact map_at0 (by assumption) | assumption) rfl) ?_
    | refine XOps.s rfl rfl rfl (Q.ld_ep (k := 3) ag56 rfl rfl (by first | exact map_at (by assumption) | exact map_at0 (by assumption) | assumption) rfl) ?_
  refine XOps.s rfl rfl rfl (Q.eql_ptr ipt56 rfl rfl) ?_
  refine XOps.nil ?_
  refine W.cond_f rfl ?_
  refine W.reg ?_
  first
    | refine XOps.s rfl rfl rfl (Q.move_d rfl) ?_
    | refine XOps.s rfl rfl rfl (Q.move_vs rfl) ?_
    | refine XOps.s rfl rfl rfl (Q.move_ptr rfl) ?_
    | refine XOps.s rfl rfl rfl (Q.move_nilsl rfl) ?_
    | refine XOps.s rfl rfl rfl (Q.move_fn rfl) ?_
    | refine XOps.s rfl rfl rfl (Q.move_tup rfl) ?_
    | refine XOps.s rfl rfl rfl (Q.move_ep rfl) ?_
    | refine XOps.s rfl rfl rfl (Q.move_dp rfl) ?_
    | refine XOps.s rfl rfl rfl (Q.move_dcut rfl) ?_
    | refine XOps.s rfl rfl rfl (Q.move_aggv rfl) ?_
    | refine XOps.s rfl rfl rfl (Q.move rfl) ?_
  first
    | refine XOps.s rfl rfl rfl (Q.nil_ptr rfl) ?_
    | refine XOps.s rfl rfl rfl (Q.nil_ep rfl) ?_
    | refine XOps.s rfl rfl rfl (Q.nil_dp rfl) ?_
    | refine XOps.s rfl rfl rfl (Q.nil_fn rfl) ?_
  first
    | refine XOps.s rfl rfl rfl (Q.fld_ptr fl59_0 rfl) ?_
    | refine XOps.s rfl rfl rfl (Q.fld_dp fl59_0 rfl) ?_
    | refine XOps.s rfl rfl rfl (Q.fld_ep fl59_0 rfl) ?_
  first
    | refine XOps.s rfl rfl rfl (Q.ld_dp ag56 rfl rfl) ?_
    | refine XOps.s rfl rfl rfl (Q.ld_ptr (k := 0) ag56 rfl rfl rfl) ?_
    | refine XOps.s rfl rfl rfl (Q.ld_ptr (k := 1) ag56 rfl rfl rfl) ?_
    | refine XOps.s rfl rfl rfl (Q.ld_ptr (k := 2) ag56 rfl rfl rfl) ?_
    | refine XOps.s rfl rfl rfl (Q.ld_ptr (k := 3) ag56 rfl rfl rfl) ?_
    | refine XOps.s rfl rfl rfl (Q.ld_ep (k := 0) ag56 rfl rfl (by first | exact map_at (by assumption) | exact map_at0 (by assumption) | assumption) rfl) ?_
    | refine XOps.s rfl rfl rfl (Q.ld_ep (k := 1) ag56 rfl rfl (by first | exact map_at (by assumption) | exact map_at0 (by assumption) | assumption) rfl) ?_
    | refine XOps.s rfl rfl rfl (Q.ld_ep (k := 2) ag56 rfl rfl (by first | exact map_at (by assumption) | exact map_at0 (by assumption) | assumption) rfl) ?_
    | refine XOps.s rfl rfl rfl (Q.ld_ep (k := 3) ag56 rfl rfl (by first | exact map_at (by assumption) | exact map_at0 (by assumption) | assumption) rfl) ?_
  first
    | refine XOps.s rfl rfl rfl (Q.move_d rfl) ?_
    | refine XOps.s rfl rfl rfl (Q.move_vs rfl) ?_
    | refine XOps.s rfl rfl rfl (Q.move_ptr rfl) ?_
    | refine XOps.s rfl rfl rfl (Q.move_nilsl rfl) ?_
    | refine XOps.s rfl rfl rfl (Q.move_fn rfl) ?_
    | refine XOps.s rfl rfl rfl (Q.move_tup rfl) ?_
    | refine XOps.s rfl rfl rfl (Q.move_ep rfl) ?_
    | refine XOps.s rfl rfl rfl (Q.move_dp rfl) ?_
    | refine XOps.s rfl rfl rfl (Q.move_dcut rfl) ?_
    | refine XOps.s rfl rfl rfl (Q.move_aggv rfl) ?_
    | refine XOps.s rfl rfl rfl (Q.move rfl) ?_
  refine XOps.s rfl rfl rfl (Q.neq_same ipt56 (by kernel_rfl) rfl rfl) ?_
  refine XOps.nil ?_
  refine W.cond_f rfl ?_
  refine W.skip ?_
  exact ⟨_, _, rfl, HLe.refl _, rfl, rfl⟩

set_option maxHeartbeats 1000000 in
set_option maxRecDepth 100000 in
theorem ws0_c (b fb : Nat) (s : ByteArray) (hs : Hp) (h0 : s.size ≠ 0) (hL : s.size ≤ 140737488355328) : AC P 31 [.ptr b 0, .d (.str s)] ((b, .cells [.d .nilp, .nilsl]) :: (fb, .typ b 59) :: hs) (fun r h => ∃ v fv, r = .tup [.d (.int .i64 (s.size : Nat)), .d .nilif] ∧ h = bldr b fb v fv (bl s) hs) := by
  refine AC.of 19 Tryd.func31 rfl rfl rfl ?_
  refine W.reg ?_
  first
    | refine XOps.s rfl rfl rfl (Q.assign_d rfl) ?_
    | refine XOps.s rfl rfl rfl (Q.assign_vs rfl) ?_
    | refine XOps.s rfl rfl rfl (Q.assign_ptr rfl) ?_
    | refine XOps.s rfl rfl rfl (Q.assign_nilsl rfl) ?_
    | refine XOps.s rfl rfl rfl (Q.assign_fn rfl) ?_
    | refine XOps.s rfl rfl rfl (Q.assign_tup rfl) ?_
    | refine XOps.s rfl rfl rfl (Q.assign_ep rfl) ?_
    | refine XOps.s rfl rfl rfl (Q.assign_dp rfl) ?_
    | refine XOps.s rfl rfl rfl (Q.assign_dcut rfl) ?_
    | refine XOps.s rfl rfl rfl (Q.assign_aggv rfl) ?_
    | refine XOps.s rfl rfl rfl (Q.assign rfl) ?_
  first
    | refine XOps.s rfl rfl rfl (Q.assign_d rfl) ?_
    | refine XOps.s rfl rfl rfl (Q.assign_vs rfl) ?_
    | refine XOps.s rfl rfl rfl (Q.assign_ptr rfl) ?_
    | refine XOps.s rfl rfl rfl (Q.assign_nilsl rfl) ?_
    | refine XOps.s rfl rfl rfl (Q.assign_fn rfl) ?_
    | refine XOps.s rfl rfl rfl (Q.assign_tup rfl) ?_
    | refine XOps.s rfl rfl rfl (Q.assign_ep rfl) ?_
    | refine XOps.s rfl rfl rfl (Q.assign_dp rfl) ?_
    | refine XOps.s rfl rfl rfl (Q.assign_dcut rfl) ?_
    | refine XOps.s rfl rfl rfl (Q.assign_aggv rfl) ?_
    | refine XOps.s rfl rfl rfl (Q.assign rfl) ?_
  refine XOps.nil ?_
  refine W.reg ?_
  first
    | refine XOps.s rfl rfl rfl (Q.move_d rfl) ?_
    | refine XOps.s rfl rfl rfl (Q.move_vs rfl) ?_
    | refine XOps.s rfl rfl rfl (Q.move_ptr rfl) ?_
    | refine XOps.s rfl rfl rfl (Q.move_nilsl rfl) ?_
    | refine XOps.s rfl rfl rfl (Q.move_fn rfl) ?_
    | refine XOps.s rfl rfl rfl (Q.move_tup rfl) ?_
    | refine XOps.s rfl rfl rfl (Q.move_ep rfl) ?_
    | refine XOps.s rfl rfl rfl (Q.move_dp rfl) ?_
    | refine XOps.s rfl rfl rfl (Q.move_dcut rfl) ?_
    | refine XOps.s rfl rfl rfl (Q.move_aggv rfl) ?_
    | refine XOps.s rfl rfl rfl (Q.move rfl) ?_
  (refine XOps.loud rfl (L.call rfl Tryd.func52 go52 rfl (cc0_c b fb .nilsl hs) rfl) ?_; rintro _ _ ⟨_, rfl, rfl, rfl⟩)
  refine XOps.nil ?_
  refine W.reg ?_
  first
    | refine XOps.s rfl rfl rfl (Q.move_d rfl) ?_
    | refine XOps.s rfl rfl rfl (Q.move_vs rfl) ?_
    | refine XOps.s rfl rfl rfl (Q.move_ptr rfl) ?_
    | refine XOps.s rfl rfl rfl (Q.move_nilsl rfl) ?_
    | refine XOps.s rfl rfl rfl (Q.move_fn rfl) ?_
    | refine XOps.s rfl rfl rfl (Q.move_tup rfl) ?_
    | refine XOps.s rfl rfl rfl (Q.move_ep rfl) ?_
    | refine XOps.s rfl rfl rfl (Q.move_dp rfl) ?_
    | refine XOps.s rfl rfl rfl (Q.move_dcut rfl) ?_
    | refine XOps.s rfl rfl rfl (Q.move_aggv rfl) ?_
    | refine XOps.s rfl rfl rfl (Q.move rfl) ?_
  first
    | refine XOps.s rfl rfl rfl (Q.move_d rfl) ?_
    | refine XOps.s rfl rfl rfl (Q.move_vs rfl) ?_
    | refine XOps.s rfl rfl rfl (Q.move_ptr rfl) ?_
    | refine XOps.s rfl rfl rfl (Q.move_nilsl rfl) ?_
    | refine XOps.s rfl rfl rfl (Q.move_fn rfl) ?_
    | refine XOps.s rfl rfl rfl (Q.move_tup rfl) ?_
    | refine XOps.s rfl rfl rfl (Q.move_ep rfl) ?_
    | refine XOps.s rfl rfl rfl (Q.move_dp rfl) ?_
    | refine XOps.s rfl rfl rfl (Q.move_dcut rfl) ?_
    | refine XOps.s rfl rfl rfl (Q.move_aggv rfl) ?_
    | refine XOps.s rfl rfl rfl (Q.move rfl) ?_
  first
    | refine XOps.s rfl rfl rfl (Q.nil_ptr rfl) ?_
    | refine XOps.s rfl rfl rfl (Q.nil_ep rfl) ?_
    | refine XOps.s rfl rfl rfl (Q.nil_dp rfl) ?_
    | refine XOps.s rfl rfl rfl (Q.nil_fn rfl) ?_
  first
    | refine XOps.s rfl rfl rfl (Q.fld_ptr fl59_1 rfl) ?_
    | refine XOps.s rfl rfl rfl (Q.fld_dp fl59_1 rfl) ?_
    | refine XOps.s rfl rfl rfl (Q.fld_ep fl59_1 rfl) ?_
  first
    | refine XOps.s rfl rfl rfl (Q.ld_dp ag57 rfl rfl) ?_
    | refine XOps.s rfl rfl rfl (Q.ld_ptr (k := 0) ag57 rfl rfl rfl) ?_
    | refine XOps.s rfl rfl rfl (Q.ld_ptr (k := 1) ag57 rfl rfl rfl) ?_
    | refine XOps.s rfl rfl rfl (Q.ld_ptr (k := 2) ag57 rfl rfl rfl) ?_
    | refine XOps.s rfl rfl rfl (Q.ld_ptr (k := 3) ag57 rfl rfl rfl) ?_
    | refine XOps.s rfl rfl rfl (Q.ld_ep (k := 0) ag57 rfl rfl (by first | exact map_at (by assumption) | exact map_at0 (by assumption) | assumption) rfl) ?_
    | refine XOps.s rfl rfl rfl (Q.ld_ep (k := 1) ag57 rfl rfl (by first | exact map_at (by assumption) | exact map_at0 (by assumption) | assumption) rfl) ?_
    | refine XOps.s rfl rfl rfl (Q.ld_ep (k := 2) ag57 rfl rfl (by first | exact map_at (by assumption) | exact map_at0 (by assumption) | assumption) rfl) ?_
    | refine XOps.s rfl rfl rfl (Q.ld_ep (k := 3) ag57 rfl rfl (by first | exact map_at (by assumption) | exact map_at0 (by assumption) | assumption) rfl) ?_
  first
    | refine XOps.s rfl rfl rfl (Q.move_d rfl) ?_
    | refine XOps.s rfl rfl rfl (Q.move_vs rfl) ?_
    | refine XOps.s rfl rfl rfl (Q.move_ptr rfl) ?_
    | refine XOps.s rfl rfl rfl (Q.move_nilsl rfl) ?_
    | refine XOps.s rfl rfl rfl (Q.move_fn rfl) ?_
    | refine XOps.s rfl rfl rfl (Q.move_tup rfl) ?_
    | refine XOps.s rfl rfl rfl (Q.move_ep rfl) ?_
    | refine XOps.s rfl rfl rfl (Q.move_dp rfl) ?_
    | refine XOps.s rfl rfl rfl (Q.move_dcut rfl) ?_
    | refine XOps.s rfl rfl rfl (Q.move_aggv rfl) ?_
    | refine XOps.s rfl rfl rfl (Q.move rfl) ?_
  (refine XOps.loud rfl (L.app_str0T (e := 5) (by kernel_rfl) ist9 rfl rfl h0 hL rfl) ?_; rintro _ _ ⟨v, fv, rfl, rfl⟩)
  first
    | refine XOps.s rfl rfl rfl (Q.nil_ptr rfl) ?_
    | refine XOps.s rfl rfl rfl (Q.nil_ep rfl) ?_
    | refine XOps.s rfl rfl rfl (Q.nil_dp rfl) ?_
    | refine XOps.s rfl rfl rfl (Q.nil_fn rfl) ?_
  first
    | refine XOps.s rfl rfl rfl (Q.fld_ptr fl59_1 rfl) ?_
    | refine XOps.s rfl rfl rfl (Q.fld_dp fl59_1 rfl) ?_
    | refine XOps.s rfl rfl rfl (Q.fld_ep fl59_1 rfl) ?_
  first
    | (refine XOps.loud rfl (L.store (k := 0) ag57 rfl rfl rfl rfl rfl) ?_; rintro _ _ ⟨rfl, rfl⟩)
    | (refine XOps.loud rfl (L.store (k := 1) ag57 rfl rfl rfl rfl rfl) ?_; rintro _ _ ⟨rfl, rfl⟩)
    | (refine XOps.loud rfl (L.store (k := 2) ag57 rfl rfl rfl rfl rfl) ?_; rintro _ _ ⟨rfl, rfl⟩)
    | (refine XOps.loud rfl (L.store (k := 3) ag57 rfl rfl rfl rfl rfl) ?_; rintro _ _ ⟨rfl, rfl⟩)
    | (refine XOps.loud rfl (L.store_ep (k := 0) ag57 rfl rfl (by first | exact map_at (by assumption) | exact map_at0 (by assumption) | assumption) rfl rfl rfl) ?_; rintro _ _ ⟨rfl, rfl⟩)
    | (refine XOps.loud rfl (L.store_ep (k := 1) ag57 rfl rfl (by first | exact map_at (by assumption) | exact map_at0 (by assumption) | assumption) rfl rfl rfl) ?_; rintro _ _ ⟨rfl, rfl⟩)
    | (refine XOps.loud rfl (L.store_ep (k := 2) ag57 rfl rfl (by first | exact map_at (by assumption) | exact map_at0 (by assumption) | assumption) rfl rfl rfl) ?_; rintro _ _ ⟨rfl, rfl⟩)
    | (refine XOps.loud rfl (L.store_ep (k := 3) ag57 rfl rfl (by first | exact map_at (by assumption) | exact map_at0 (by assumption) | assumption) rfl rfl rfl) ?_; rintro _ _ ⟨rfl, rfl⟩)
  refine XOps.nil ?_
  refine W.reg ?_
  first
    | refine XOps.s rfl rfl rfl (Q.move_d rfl) ?_
    | refine XOps.s rfl rfl rfl (Q.move_vs rfl) ?_
    | refine XOps.s rfl rfl rfl (Q.move_ptr rfl) ?_
    | refine XOps.s rfl rfl rfl (Q.move_nilsl rfl) ?_
    | refine XOps.s rfl rfl rfl (Q.move_fn rfl) ?_
    | refine XOps.s rfl rfl rfl (Q.move_tup rfl) ?_
    | refine XOps.s rfl rfl rfl (Q.move_ep rfl) ?_
    | refine XOps.s rfl rfl rfl (Q.move_dp rfl) ?_
    | refine XOps.s rfl rfl rfl (Q.move_dcut rfl) ?_
    | refine XOps.s rfl rfl rfl (Q.move_aggv rfl) ?_
    | refine XOps.s rfl rfl rfl (Q.move rfl) ?_
  first
    | refine XOps.s rfl rfl rfl (Q.len_str ist9 rfl) ?_
  first
    | refine XOps.s rfl rfl rfl (Q.assign_d rfl) ?_
    | refine XOps.s rfl rfl rfl (Q.assign_vs rfl) ?_
    | refine XOps.s rfl rfl rfl (Q.assign_ptr rfl) ?_
    | refine XOps.s rfl rfl rfl (Q.assign_nilsl rfl) ?_
    | refine XOps.s rfl rfl rfl (Q.assign_fn rfl) ?_
    | refine XOps.s rfl rfl rfl (Q.assign_tup rfl) ?_
    | refine XOps.s rfl rfl rfl (Q.assign_ep rfl) ?_
    | refine XOps.s rfl rfl rfl (Q.assign_dp rfl) ?_
    | refine XOps.s rfl rfl rfl (Q.assign_dcut rfl) ?_
    | refine XOps.s rfl rfl rfl (Q.assign_aggv rfl) ?_
    | refine XOps.s rfl rfl rfl (Q.assign rfl) ?_
  first
    | refine XOps.s rfl rfl rfl (Q.assign_d rfl) ?_
    | refine XOps.s rfl rfl rfl (Q.assign_vs rfl) ?_
    | refine XOps.s rfl rfl rfl (Q.assign_ptr rfl) ?_
    | refine XOps.s rfl rfl rfl (Q.assign_nilsl rfl) ?_
    | refine XOps.s rfl rfl rfl (Q.assign_fn rfl) ?_
    | refine XOps.s rfl rfl rfl (Q.assign_tup rfl) ?_
    | refine XOps.s rfl rfl rfl (Q.assign_ep rfl) ?_
    | refine XOps.s rfl rfl rfl (Q.assign_dp rfl) ?_
    | refine XOps.s rfl rfl rfl (Q.assign_dcut rfl) ?_
    | refine XOps.s rfl rfl rfl (Q.assign_aggv rfl) ?_
    | refine XOps.s rfl rfl rfl (Q.assign rfl) ?_
  refine XOps.nil ?_
  refine W.ret ?_
  refine ⟨_, bldr b fb v fv (bl s) hs, rfl, ?_, v, fv, rfl, rfl⟩
  exact HLe.pick 2 rfl (by rw [bl_len]; rfl) (HLe.pick 2 rfl rfl (HLe.pick 1 rfl rfl (HLe.cons _ (HLe.refl _))))

set_option maxHeartbeats 1000000 in
set_option maxRecDepth 100000 in
theorem ws1_c (b fb v fv : Nat) (l : List UInt8) (s : ByteArray) (hs : Hp) (hL : l.length + s.size ≤ 140737488355328) : AC P 31 [.ptr b 0, .d (.str s)] (bldr b fb v fv l hs) (fun r h => ∃ v fv, r = .tup [.d (.int .i64 (s.size : Nat)), .d .nilif] ∧ h = bldr b fb v fv (l ++ bl s) hs) := by
  refine AC.of 19 Tryd.func31 rfl rfl rfl ?_
  refine W.reg ?_
  first
    | refine XOps.s rfl rfl rfl (Q.assign_d rfl) ?_
    | refine XOps.s rfl rfl rfl (Q.assign_vs rfl) ?_
    | refine XOps.s rfl rfl rfl (Q.assign_ptr rfl) ?_
    | refine XOps.s rfl rfl rfl (Q.assign_nilsl rfl) ?_
    | refine XOps.s rfl rfl rfl (Q.assign_fn rfl) ?_
    | refine XOps.s rfl rfl rfl (Q.assign_tup rfl) ?_
    | refine XOps.s rfl rfl rfl (Q.assign_ep rfl) ?_
    | refine XOps.s rfl rfl rfl (Q.assign_dp rfl) ?_
    | refine XOps.s rfl rfl rfl (Q.assign_dcut rfl) ?_
    | refine XOps.s rfl rfl rfl (Q.assign_aggv rfl) ?_
    | refine XOps.s rfl rfl rfl (Q.assign rfl) ?_
  first
    | refine XOps.s rfl rfl rfl (Q.assign_d rfl) ?_
    | refine XOps.s rfl rfl rfl (Q.assign_vs rfl) ?_
    | refine XOps.s rfl rfl rfl (Q.assign_ptr rfl) ?_
    | refine XOps.s rfl rfl rfl (Q.assign_nilsl rfl) ?_
    | refine XOps.s rfl rfl rfl (Q.assign_fn rfl) ?_
    | refine XOps.s rfl rfl rfl (Q.assign_tup rfl) ?_
    | refine XOps.s rfl rfl rfl (Q.assign_ep rfl) ?_
    | refine XOps.s rfl rfl rfl (Q.assign_dp rfl) ?_
    | refine XOps.s rfl rfl rfl (Q.assign_dcut rfl) ?_
    | refine XOps.s rfl rfl rfl (Q.assign_aggv rfl) ?_
    | refine XOps.s rfl rfl rfl (Q.assign rfl) ?_
  refine XOps.nil ?_
  refine W.reg ?_
  first
    | refine XOps.s rfl rfl rfl (Q.move_d rfl) ?_
    | refine XOps.s rfl rfl rfl (Q.move_vs rfl) ?_
    | refine XOps.s rfl rfl rfl (Q.move_ptr rfl) ?_
    | refine XOps.s rfl rfl rfl (Q.move_nilsl rfl) ?_
    | refine XOps.s rfl rfl rfl (Q.move_fn rfl) ?_
    | refine XOps.s rfl rfl rfl (Q.move_tup rfl) ?_
    | refine XOps.s rfl rfl rfl (Q.move_ep rfl) ?_
    | refine XOps.s rfl rfl rfl (Q.move_dp rfl) ?_
    | refine XOps.s rfl rfl rfl (Q.move_dcut rfl) ?_
    | refine XOps.s rfl rfl rfl (Q.move_aggv rfl) ?_
    | refine XOps.s rfl rfl rfl (Q.move rfl) ?_
  (refine XOps.loud rfl (L.call rfl Tryd.func52 go52 rfl (cc1_c b _ _) rfl) ?_; rintro _ _ ⟨_, rfl, rfl, rfl⟩)
  refine XOps.nil ?_
  refine W.reg ?_
  first
    | refine XOps.s rfl rfl rfl (Q.move_d rfl) ?_
    | refine XOps.s rfl rfl rfl (Q.move_vs rfl) ?_
    | refine XOps.s rfl rfl rfl (Q.move_ptr rfl) ?_
    | refine XOps.s rfl rfl rfl (Q.move_nilsl rfl) ?_
    | refine XOps.s rfl rfl rfl (Q.move_fn rfl) ?_
    | refine XOps.s rfl rfl rfl (Q.move_tup rfl) ?_
    | refine XOps.s rfl rfl rfl (Q.move_ep rfl) ?_
    | refine XOps.s rfl rfl rfl (Q.move_dp rfl) ?_
    | refine XOps.s rfl rfl rfl (Q.move_dcut rfl) ?_
    | refine XOps.s rfl rfl rfl (Q.move_aggv rfl) ?_
    | refine XOps.s rfl rfl rfl (Q.move rfl) ?_
  first
    | refine XOps.s rfl rfl rfl (Q.move_d rfl) ?_
    | refine XOps.s rfl rfl rfl (Q.move_vs rfl) ?_
    | refine XOps.s rfl rfl rfl (Q.move_ptr rfl) ?_
    | refine XOps.s rfl rfl rfl (Q.move_nilsl rfl) ?_
    | refine XOps.s rfl rfl rfl (Q.move_fn rfl) ?_
    | refine XOps.s rfl rfl rfl (Q.move_tup rfl) ?_
    | refine XOps.s rfl rfl rfl (Q.move_ep rfl) ?_
    | refine XOps.s rfl rfl rfl (Q.move_dp rfl) ?_
    | refine XOps.s rfl rfl rfl (Q.move_dcut rfl) ?_
    | refine XOps.s rfl rfl rfl (Q.move_aggv rfl) ?_
    | refine XOps.s rfl rfl rfl (Q.move rfl) ?_
  first
    | refine XOps.s rfl rfl rfl (Q.nil_ptr rfl) ?_
    | refine XOps.s rfl rfl rfl (Q.nil_ep rfl) ?_
    | refine XOps.s rfl rfl rfl (Q.nil_dp rfl) ?_
    | refine XOps.s rfl rfl rfl (Q.nil_fn rfl) ?_
  first
    | refine XOps.s rfl rfl rfl (Q.fld_ptr fl59_1 rfl) ?_
    | refine XOps.s rfl rfl rfl (Q.fld_dp fl59_1 rfl) ?_
    | refine XOps.s rfl rfl rfl (Q.fld_ep fl59_1 rfl) ?_
  first
    | refine XOps.s rfl rfl rfl (Q.ld_dp ag57 rfl rfl) ?_
    | refine XOps.s rfl rfl rfl (Q.ld_ptr (k := 0) ag57 rfl rfl rfl) ?_
    | refine XOps.s rfl rfl rfl (Q.ld_ptr (k := 1) ag57 rfl rfl rfl) ?_
    | refine XOps.s rfl rfl rfl (Q.ld_ptr (k := 2) ag57 rfl rfl rfl) ?_
    | refine XOps.s rfl rfl rfl (Q.ld_ptr (k := 3) ag57 rfl rfl rfl) ?_
    | refine XOps.s rfl rfl rfl (Q.ld_ep (k := 0) ag57 rfl rfl (by first | exact map_at (by assumption) | exact map_at0 (by assumption) | assumption) rfl) ?_
    | refine XOps.s rfl rfl rfl (Q.ld_ep (k := 1) ag57 rfl rfl (by first | exact map_at (by assumption) | exact map_at0 (by assumption) | assumption) rfl) ?_
    | refine XOps.s rfl rfl rfl (Q.ld_ep (k := 2) ag57 rfl rfl (by first | exact map_at (by assumption) | exact map_at0 (by assumption) | assumption) rfl) ?_
    | refine XOps.s rfl rfl rfl (Q.ld_ep (k := 3) ag57 rfl rfl (by first | exact map_at (by assumption) | exact map_at0 (by assumption) | assumption) rfl) ?_
  first
    | refine XOps.s rfl rfl rfl (Q.move_d rfl) ?_
    | refine XOps.s rfl rfl rfl (Q.move_vs rfl) ?_
    | refine XOps.s rfl rfl rfl (Q.move_ptr rfl) ?_
    | refine XOps.s rfl rfl rfl (Q.move_nilsl rfl) ?_
    | refine XOps.s rfl rfl rfl (Q.move_fn rfl) ?_
    | refine XOps.s rfl rfl rfl (Q.move_tup rfl) ?_
    | refine XOps.s rfl rfl rfl (Q.move_ep rfl) ?_
    | refine XOps.s rfl rfl rfl (Q.move_dp rfl) ?_
    | refine XOps.s rfl rfl rfl (Q.move_dcut rfl) ?_
    | refine XOps.s rfl rfl rfl (Q.move_aggv rfl) ?_
    | refine XOps.s rfl rfl rfl (Q.move rfl) ?_
  (refine XOps.loud rfl (L.app_strT (k := 2) (kt := 3) (e := 5) (by kernel_rfl) ist9 rfl rfl rfl rfl rfl hL rfl) ?_; rintro _ _ ⟨v2, fv2, rfl, rfl⟩)
  first
    | refine XOps.s rfl rfl rfl (Q.nil_ptr rfl) ?_
    | refine XOps.s rfl rfl rfl (Q.nil_ep rfl) ?_
    | refine XOps.s rfl rfl rfl (Q.nil_dp rfl) ?_
    | refine XOps.s rfl rfl rfl (Q.nil_fn rfl) ?_
  first
    | refine XOps.s rfl rfl rfl (Q.fld_ptr fl59_1 rfl) ?_
    | refine XOps.s rfl rfl rfl (Q.fld_dp fl59_1 rfl) ?_
    | refine XOps.s rfl rfl rfl (Q.fld_ep fl59_1 rfl) ?_
  first
    | (refine XOps.loud rfl (L.store (k := 0) ag57 rfl rfl rfl rfl rfl) ?_; rintro _ _ ⟨rfl, rfl⟩)
    | (refine XOps.loud rfl (L.store (k := 1) ag57 rfl rfl rfl rfl rfl) ?_; rintro _ _ ⟨rfl, rfl⟩)
    | (refine XOps.loud rfl (L.store (k := 2) ag57 rfl rfl rfl rfl rfl) ?_; rintro _ _ ⟨rfl, rfl⟩)
    | (refine XOps.loud rfl (L.store (k := 3) ag57 rfl rfl rfl rfl rfl) ?_; rintro _ _ ⟨rfl, rfl⟩)
    | (refine XOps.loud rfl (L.store_ep (k := 0) ag57 rfl rfl (by first | exact map_at (by assumption) | exact map_at0 (by assumption) | assumption) rfl rfl rfl) ?_; rintro _ _ ⟨rfl, rfl⟩)
    | (refine XOps.loud rfl (L.store_ep (k := 1) ag57 rfl rfl (by first | exact map_at (by assumption) | exact map_at0 (by assumption) | assumption) rfl rfl rfl) ?_; rintro _ _ ⟨rfl, rfl⟩)
    | (refine XOps.loud rfl (L.store_ep (k := 2) ag57 rfl rfl (by first | exact map_at (by assumption) | exact map_at0 (by assumption) | assumption) rfl rfl rfl) ?_; rintro _ _ ⟨rfl, rfl⟩)
    | (refine XOps.loud rfl (L.store_ep (k := 3) ag57 rfl rfl (by first | exact map_at (by assumption) | exact map_at0 (by assumption) | assumption) rfl rfl rfl) ?_; rintro _ _ ⟨rfl, rfl⟩)
  refine XOps.nil ?_
  refine W.reg ?_
  first
    | refine XOps.s rfl rfl rfl (Q.move_d rfl) ?_
    | refine XOps.s rfl rfl rfl (Q.move_vs rfl) ?_
    | refine XOps.s rfl rfl rfl (Q.move_ptr rfl) ?_
    | refine XOps.s rfl rfl rfl (Q.move_nilsl rfl) ?_
    | refine XOps.s rfl rfl rfl (Q.move_fn rfl) ?_
    | refine XOps.s rfl rfl rfl (Q.move_tup rfl) ?_
    | refine XOps.s rfl rfl rfl (Q.move_ep rfl) ?_
    | refine XOps.s rfl rfl rfl (Q.move_dp rfl) ?_
    | refine XOps.s rfl rfl rfl (Q.move_dcut rfl) ?_
    | refine XOps.s rfl rfl rfl (Q.move_aggv rfl) ?_
    | refine XOps.s rfl rfl rfl (Q.move rfl) ?_
  first
    | refine XOps.s rfl rfl rfl (Q.len_str ist9 rfl) ?_
  first
    | refine XOps.s rfl rfl rfl (Q.assign_d rfl) ?_
    | refine XOps.s rfl rfl rfl (Q.assign_vs rfl) ?_
    | refine XOps.s rfl rfl rfl (Q.assign_ptr rfl) ?_
    | refine XOps.s rfl rfl rfl (Q.assign_nilsl rfl) ?_
    | refine XOps.s rfl rfl rfl (Q.assign_fn rfl) ?_
    | refine XOps.s rfl rfl rfl (Q.assign_tup rfl) ?_
    | refine XOps.s rfl rfl rfl (Q.assign_ep rfl) ?_
    | refine XOps.s rfl rfl rfl (Q.assign_dp rfl) ?_
    | refine XOps.s rfl rfl rfl (Q.assign_dcut rfl) ?_
    | refine XOps.s rfl rfl rfl (Q.assign_aggv rfl) ?_
    | refine XOps.s rfl rfl rfl (Q.assign rfl) ?_
  first
    | refine XOps.s rfl rfl rfl (Q.assign_d rfl) ?_
    | refine XOps.s rfl rfl rfl (Q.assign_vs rfl) ?_
    | refine XOps.s rfl rfl rfl (Q.assign_ptr rfl) ?_
    | refine XOps.s rfl rfl rfl (Q.assign_nilsl rfl) ?_
    | refine XOps.s rfl rfl rfl (Q.assign_fn rfl) ?_
    | refine XOps.s rfl rfl rfl (Q.assign_tup rfl) ?_
    | refine XOps.s rfl rfl rfl (Q.assign_ep rfl) ?_
    | refine XOps.s rfl rfl rfl (Q.assign_dp rfl) ?_
    | refine XOps.s rfl rfl rfl (Q.assign_dcut rfl) ?_
    | refine XOps.s rfl rfl rfl (Q.assign_aggv rfl) ?_
    | refine XOps.s rfl rfl rfl (Q.assign rfl) ?_
  refine XOps.nil ?_
  refine W.ret ?_
  refine ⟨_, bldr b fb v2 fv2 (l ++ bl s) hs, rfl, ?_, v2, fv2, rfl, rfl⟩
  exact HLe.pick 2 rfl (by rw [List.length_append, bl_len]; rfl) (HLe.pick 2 rfl rfl (HLe.pick 1 rfl rfl (HLe.cons _ (HLe.skip _ (HLe.refl _)))))

set_option maxHeartbeats 1000000 in
set_option maxRecDepth 100000 in
theorem bstr0_c (b : Nat) (x : AV) (hs : Hp) : AC P 33 [.ptr b 0] ((b, .cells [x, .nilsl]) :: hs) (fun r h => r = .d (.str ⟨#[]⟩) ∧ h = hs) := by
  refine AC.of 14 Tryd.func33 rfl rfl rfl ?_
  refine W.reg ?_
  first
    | refine XOps.s rfl rfl rfl (Q.assign_d rfl) ?_
    | refine XOps.s rfl rfl rfl (Q.assign_vs rfl) ?_
    | refine XOps.s rfl rfl rfl (Q.assign_ptr rfl) ?_
    | refine XOps.s rfl rfl rfl (Q.assign_nilsl rfl) ?_
    | refine XOps.s rfl rfl rfl (Q.assign_fn rfl) ?_
    | refine XOps.s rfl rfl rfl (Q.assign_tup rfl) ?_
    | refine XOps.s rfl rfl rfl (Q.assign_ep rfl) ?_
    | refine XOps.s rfl rfl rfl (Q.assign_dp rfl) ?_
    | refine XOps.s rfl rfl rfl (Q.assign_dcut rfl) ?_
    | refine XOps.s rfl rfl rfl (Q.assign_aggv rfl) ?_
    | refine XOps.s rfl rfl rfl (Q.assign rfl) ?_
  refine XOps.nil ?_
  refine W.drawreg 11 follows (by kernel_rfl) ?_
  first
    | refine Chain.cons _ (GQ.q rfl (Q.move_d rfl)) rfl ?_
    | refine Chain.cons _ (GQ.q rfl (Q.move_vs rfl)) rfl ?_
    | refine Chain.cons _ (GQ.q rfl (Q.move_ptr rfl)) rfl ?_
    | refine Chain.cons _ (GQ.q rfl (Q.move_nilsl rfl)) rfl ?_
    | refine Chain.cons _ (GQ.q rfl (Q.move_fn rfl)) rfl ?_
    | refine Chain.cons _ (GQ.q rfl (Q.move_tup rfl)) rfl ?_
    | refine Chain.cons _ (GQ.q rfl (Q.move_ep rfl)) rfl ?_
    | refine Chain.cons _ (GQ.q rfl (Q.move_dp rfl)) rfl ?_
    | refine Chain.cons _ (GQ.q rfl (Q.move_dcut rfl)) rfl ?_
    | refine Chain.cons _ (GQ.q rfl (Q.move_aggv rfl)) rfl ?_
    | refine Chain.cons _ (GQ.q rfl (Q.move rfl)) rfl ?_
  first
    | refine Chain.cons _ (GQ.q rfl (Q.nil_ptr rfl)) rfl ?_
    | refine Chain.cons _ (GQ.q rfl (Q.nil_ep rfl)) rfl ?_
    | refine Chain.cons _ (GQ.q rfl (Q.nil_dp rfl)) rfl ?_
    | refine Chain.cons _ (GQ.q rfl (Q.nil_fn rfl)) rfl ?_
  first
    | refine Chain.cons _ (GQ.q rfl (Q.fld_ptr fl59_1 rfl)) rfl ?_
    | refine Chain.cons _ (GQ.q rfl (Q.fld_dp fl59_1 rfl)) rfl ?_
    | refine Chain.cons _ (GQ.q rfl (Q.fld_ep fl59_1 rfl)) rfl ?_
  first
    | refine Chain.cons _ (GQ.q rfl (Q.ld_dp ag57 rfl rfl)) rfl ?_
    | refine Chain.cons _ (GQ.q rfl (Q.ld_ptr (k := 0) ag57 rfl rfl rfl)) rfl ?_
    | refine Chain.cons _ (GQ.q rfl (Q.ld_ptr (k := 1) ag57 rfl rfl rfl)) rfl ?_
    | refine Chain.cons _ (GQ.q rfl (Q.ld_ptr (k := 2) ag57 rfl rfl rfl)) rfl ?_
    | refine Chain.cons _ (GQ.q rfl (Q.ld_ptr (k := 3) ag57 rfl rfl rfl)) rfl ?_
    | refine Chain.cons _ (GQ.q rfl (Q.ld_ep (k := 0) ag57 rfl rfl (by first | exact map_at (by assumption) | exact map_at0 (by assumption) | assumption) rfl)) rfl ?_
    | refine Chain.cons _ (GQ.q rfl (Q.ld_ep (k := 1) ag57 rfl rfl (by first | exact map_at (by assumption) | exact map_at0 (by assumption) | assumption) rfl)) rfl ?_
    | refine Chain.cons _ (GQ.q rfl (Q.ld_ep (k := 2) ag57 rfl rfl (by first | exact map_at (by assumption) | exact map_at0 (by assumption) | assumption) rfl)) rfl ?_
    | refine Chain.cons _ (GQ.q rfl (Q.ld_ep (k := 3) ag57 rfl rfl (by first | exact map_at (by assumption) | exact map_at0 (by assumption) | assumption) rfl)) rfl ?_
  refine Chain.cons _ (GQ.q rfl (Q.sdata_nil rfl)) rfl ?_
  first
    | refine Chain.cons _ (GQ.q rfl (Q.move_d rfl)) rfl ?_
    | refine Chain.cons _ (GQ.q rfl (Q.move_vs rfl)) rfl ?_
    | refine Chain.cons _ (GQ.q rfl (Q.move_ptr rfl)) rfl ?_
    | refine Chain.cons _ (GQ.q rfl (Q.move_nilsl rfl)) rfl ?_
    | refine Chain.cons _ (GQ.q rfl (Q.move_fn rfl)) rfl ?_
    | refine Chain.cons _ (GQ.q rfl (Q.move_tup rfl)) rfl ?_
    | refine Chain.cons _ (GQ.q rfl (Q.move_ep rfl)) rfl ?_
    | refine Chain.cons _ (GQ.q rfl (Q.move_dp rfl)) rfl ?_
    | refine Chain.cons _ (GQ.q rfl (Q.move_dcut rfl)) rfl ?_
    | refine Chain.cons _ (GQ.q rfl (Q.move_aggv rfl)) rfl ?_
    | refine Chain.cons _ (GQ.q rfl (Q.move rfl)) rfl ?_
  first
    | refine Chain.cons _ (GQ.q rfl (Q.nil_ptr rfl)) rfl ?_
    | refine Chain.cons _ (GQ.q rfl (Q.nil_ep rfl)) rfl ?_
    | refine Chain.cons _ (GQ.q rfl (Q.nil_dp rfl)) rfl ?_
    | refine Chain.cons _ (GQ.q rfl (Q.nil_fn rfl)) rfl ?_
  first
    | refine Chain.cons _ (GQ.q rfl (Q.fld_ptr fl59_1 rfl)) rfl ?_
    | refine Chain.cons _ (GQ.q rfl (Q.fld_dp fl59_1 rfl)) rfl ?_
    | refine Chain.cons _ (GQ.q rfl (Q.fld_ep fl59_1 rfl)) rfl ?_
  first
    | refine Chain.cons _ (GQ.q rfl (Q.ld_dp ag57 rfl rfl)) rfl ?_
    | refine Chain.cons _ (GQ.q rfl (Q.ld_ptr (k := 0) ag57 rfl rfl rfl)) rfl ?_
    | refine Chain.cons _ (GQ.q rfl (Q.ld_ptr (k := 1) ag57 rfl rfl rfl)) rfl ?_
    | refine Chain.cons _ (GQ.q rfl (Q.ld_ptr (k := 2) ag57 rfl rfl rfl)) rfl ?_
    | refine Chain.cons _ (GQ.q rfl (Q.ld_ptr (k := 3) ag57 rfl rfl rfl)) rfl ?_
    | refine Chain.cons _ (GQ.q rfl (Q.ld_ep (k := 0) ag57 rfl rfl (by first | exact map_at (by assumption) | exact map_at0 (by assumption) | assumption) rfl)) rfl ?_
    | refine Chain.cons _ (GQ.q rfl (Q.ld_ep (k := 1) ag57 rfl rfl (by first | exact map_at (by assumption) | exact map_at0 (by assumption) | assumption) rfl)) rfl ?_
    | refine Chain.cons _ (GQ.q rfl (Q.ld_ep (k := 2) ag57 rfl rfl (by first | exact map_at (by assumption) | exact map_at0 (by assumption) | assumption) rfl)) rfl ?_
    | refine Chain.cons _ (GQ.q rfl (Q.ld_ep (k := 3) ag57 rfl rfl (by first | exact map_at (by assumption) | exact map_at0 (by assumption) | assumption) rfl)) rfl ?_
  first
    | refine Chain.cons _ (GQ.q rfl (Q.len_sl isl57 rfl)) rfl ?_
    | refine Chain.cons _ (GQ.q rfl (Q.len_vs isl57 rfl)) rfl ?_
    | refine Chain.cons _ (GQ.q rfl (Q.len_nil isl57 rfl)) rfl ?_
    | refine Chain.cons _ (GQ.q rfl (Q.len_dcut isl57 rfl)) rfl ?_
  refine Chain.cons _ (GQ.q rfl (Q.ustr0 rfl rfl)) rfl ?_
  refine Chain.nil ?_
  first
    | refine XOps.s rfl rfl rfl (Q.assign_d rfl) ?_
    | refine XOps.s rfl rfl rfl (Q.assign_vs rfl) ?_
    | refine XOps.s rfl rfl rfl (Q.assign_ptr rfl) ?_
    | refine XOps.s rfl rfl rfl (Q.assign_nilsl rfl) ?_
    | refine XOps.s rfl rfl rfl (Q.assign_fn rfl) ?_
    | refine XOps.s rfl rfl rfl (Q.assign_tup rfl) ?_
    | refine XOps.s rfl rfl rfl (Q.assign_ep rfl) ?_
    | refine XOps.s rfl rfl rfl (Q.assign_dp rfl) ?_
    | refine XOps.s rfl rfl rfl (Q.assign_dcut rfl) ?_
    | refine XOps.s rfl rfl rfl (Q.assign_aggv rfl) ?_
    | refine XOps.s rfl rfl rfl (Q.assign rfl) ?_
  refine XOps.nil ?_
  refine W.ret ?_
  exact ⟨_, hs, rfl, HLe.skip _ (HLe.refl _), rfl, rfl⟩

set_option maxHeartbeats 1000000 in
set_option maxRecDepth 100000 in
theorem bstr1_c (b fb v fv : Nat) (l : List UInt8) (hs : Hp) (h0 : l ≠ []) : AC P 33 [.ptr b 0] (bldr b fb v fv l hs) (fun r h => r = .d (.str (bs l)) ∧ h = hs) := by
  refine AC.of 14 Tryd.func33 rfl rfl rfl ?_
  refine W.reg ?_
  first
    | refine XOps.s rfl rfl rfl (Q.assign_d rfl) ?_
    | refine XOps.s rfl rfl rfl (Q.assign_vs rfl) ?_
    | refine XOps.s rfl rfl rfl (Q.assign_ptr rfl) ?_
    | refine XOps.s rfl rfl rfl (Q.assign_nilsl rfl) ?_
    | refine XOps.s rfl rfl rfl (Q.assign_fn rfl) ?_
    | refine XOps.s rfl rfl rfl (Q.assign_tup rfl) ?_
    | refine XOps.s rfl rfl rfl (Q.assign_ep rfl) ?_
    | refine XOps.s rfl rfl rfl (Q.assign_dp rfl) ?_
    | refine XOps.s rfl rfl rfl (Q.assign_dcut rfl) ?_
    | refine XOps.s rfl rfl rfl (Q.assign_aggv rfl) ?_
    | refine XOps.s rfl rfl rfl (Q.assign rfl) ?_
  refine XOps.nil ?_
  refine W.drawTreg 11 [10] follows (by kernel_rfl) (by decide) ?_
  apply DT.moreF [.new, .new, .new, .new, .new, .new, .new, .new, .new, .new, .now] (by kernel_rfl)
  first
    | refine PC.new _ rfl (GQ.q rfl (Q.move_d rfl)) rfl ?_
    | refine PC.new _ rfl (GQ.q rfl (Q.move_vs rfl)) rfl ?_
    | refine PC.new _ rfl (GQ.q rfl (Q.move_ptr rfl)) rfl ?_
    | refine PC.new _ rfl (GQ.q rfl (Q.move_nilsl rfl)) rfl ?_
    | refine PC.new _ rfl (GQ.q rfl (Q.move_fn rfl)) rfl ?_
    | refine PC.new _ rfl (GQ.q rfl (Q.move_tup rfl)) rfl ?_
    | refine PC.new _ rfl (GQ.q rfl (Q.move_ep rfl)) rfl ?_
    | refine PC.new _ rfl (GQ.q rfl (Q.move_dp rfl)) rfl ?_
    | refine PC.new _ rfl (GQ.q rfl (Q.move_dcut rfl)) rfl ?_
    | refine PC.new _ rfl (GQ.q rfl (Q.move_aggv rfl)) rfl ?_
    | refine PC.new _ rfl (GQ.q rfl (Q.move rfl)) rfl ?_
  first
    | refine PC.new _ rfl (GQ.q rfl (Q.nil_ptr rfl)) rfl ?_
    | refine PC.new _ rfl (GQ.q rfl (Q.nil_ep rfl)) rfl ?_
    | refine PC.new _ rfl (GQ.q rfl (Q.nil_dp rfl)) rfl ?_
    | refine PC.new _ rfl (GQ.q rfl (Q.nil_fn rfl)) rfl ?_
  first
    | refine PC.new _ rfl (GQ.q rfl (Q.fld_ptr fl59_1 rfl)) rfl ?_
    | refine PC.new _ rfl (GQ.q rfl (Q.fld_dp fl59_1 rfl)) rfl ?_
    | refine PC.new _ rfl (GQ.q rfl (Q.fld_ep fl59_1 rfl)) rfl ?_
  first
    | refine PC.new _ rfl (GQ.q rfl (Q.ld_dp ag57 rfl rfl)) rfl ?_
    | refine PC.new _ rfl (GQ.q rfl (Q.ld_ptr (k := 0) ag57 rfl rfl rfl)) rfl ?_
    | refine PC.new _ rfl (GQ.q rfl (Q.ld_ptr (k := 1) ag57 rfl rfl rfl)) rfl ?_
    | refine PC.new _ rfl (GQ.q rfl (Q.ld_ptr (k := 2) ag57 rfl rfl rfl)) rfl ?_
    | refine PC.new _ rfl (GQ.q rfl (Q.ld_ptr (k := 3) ag57 rfl rfl rfl)) rfl ?_
    | refine PC.new _ rfl (GQ.q rfl (Q.ld_ep (k := 0) ag57 rfl rfl (by first | exact map_at (by assumption) | exact map_at0 (by assumption) | assumption) rfl)) rfl ?_
    | refine PC.new _ rfl (GQ.q rfl (Q.ld_ep (k := 1) ag57 rfl rfl (by first | exact map_at (by assumption) | exact map_at0 (by assumption) | assumption) rfl)) rfl ?_
    | refine PC.new _ rfl (GQ.q rfl (Q.ld_ep (k := 2) ag57 rfl rfl (by first | exact map_at (by assumption) | exact map_at0 (by assumption) | assumption) rfl)) rfl ?_
    | refine PC.new _ rfl (GQ.q rfl (Q.ld_ep (k := 3) ag57 rfl rfl (by first | exact map_at (by assumption) | exact map_at0 (by assumption) | assumption) rfl)) rfl ?_
  refine PC.new _ rfl (GQ.q rfl (Q.sdata_vs (k := 2) rfl rfl (by simp) (by simpa using h0))) rfl ?_
  first
    | refine PC.new _ rfl (GQ.q rfl (Q.move_d rfl)) rfl ?_
    | refine PC.new _ rfl (GQ.q rfl (Q.move_vs rfl)) rfl ?_
    | refine PC.new _ rfl (GQ.q rfl (Q.move_ptr rfl)) rfl ?_
    | refine PC.new _ rfl (GQ.q rfl (Q.move_nilsl rfl)) rfl ?_
    | refine PC.new _ rfl (GQ.q rfl (Q.move_fn rfl)) rfl ?_
    | refine PC.new _ rfl (GQ.q rfl (Q.move_tup rfl)) rfl ?_
    | refine PC.new _ rfl (GQ.q rfl (Q.move_ep rfl)) rfl ?_
    | refine PC.new _ rfl (GQ.q rfl (Q.move_dp rfl)) rfl ?_
    | refine PC.new _ rfl (GQ.q rfl (Q.move_dcut rfl)) rfl ?_
    | refine PC.new _ rfl (GQ.q rfl (Q.move_aggv rfl)) rfl ?_
    | refine PC.new _ rfl (GQ.q rfl (Q.move rfl)) rfl ?_
  first
    | refine PC.new _ rfl (GQ.q rfl (Q.nil_ptr rfl)) rfl ?_
    | refine PC.new _ rfl (GQ.q rfl (Q.nil_ep rfl)) rfl ?_
    | refine PC.new _ rfl (GQ.q rfl (Q.nil_dp rfl)) rfl ?_
    | refine PC.new _ rfl (GQ.q rfl (Q.nil_fn rfl)) rfl ?_
  first
    | refine PC.new _ rfl (GQ.q rfl (Q.fld_ptr fl59_1 rfl)) rfl ?_
    | refine PC.new _ rfl (GQ.q rfl (Q.fld_dp fl59_1 rfl)) rfl ?_
    | refine PC.new _ rfl (GQ.q rfl (Q.fld_ep fl59_1 rfl)) rfl ?_
  first
    | refine PC.new _ rfl (GQ.q rfl (Q.ld_dp ag57 rfl rfl)) rfl ?_
    | refine PC.new _ rfl (GQ.q rfl (Q.ld_ptr (k := 0) ag57 rfl rfl rfl)) rfl ?_
    | refine PC.new _ rfl (GQ.q rfl (Q.ld_ptr (k := 1) ag57 rfl rfl rfl)) rfl ?_
    | refine PC.new _ rfl (GQ.q rfl (Q.ld_ptr (k := 2) ag57 rfl rfl rfl)) rfl ?_
    | refine PC.new _ rfl (GQ.q rfl (Q.ld_ptr (k := 3) ag57 rfl rfl rfl)) rfl ?_
    | refine PC.new _ rfl (GQ.q rfl (Q.ld_ep (k := 0) ag57 rfl rfl (by first | exact map_at (by assumption) | exact map_at0 (by assumption) | assumption) rfl)) rfl ?_
    | refine PC.new _ rfl (GQ.q rfl (Q.ld_ep (k := 1) ag57 rfl rfl (by first | exact map_at (by assumption) | exact map_at0 (by assumption) | assumption) rfl)) rfl ?_
    | refine PC.new _ rfl (GQ.q rfl (Q.ld_ep (k := 2) ag57 rfl rfl (by first | exact map_at (by assumption) | exact map_at0 (by assumption) | assumption) rfl)) rfl ?_
    | refine PC.new _ rfl (GQ.q rfl (Q.ld_ep (k := 3) ag57 rfl rfl (by first | exact map_at (by assumption) | exact map_at0 (by assumption) | assumption) rfl)) rfl ?_
  first
    | refine PC.new _ rfl (GQ.q rfl (Q.len_sl isl57 rfl)) rfl ?_
    | refine PC.new _ rfl (GQ.q rfl (Q.len_vs isl57 rfl)) rfl ?_
    | refine PC.new _ rfl (GQ.q rfl (Q.len_nil isl57 rfl)) rfl ?_
    | refine PC.new _ rfl (GQ.q rfl (Q.len_dcut isl57 rfl)) rfl ?_
  refine PC.now rfl rfl (fun τ => Loud.to (L.ustr (k := 2) (kt := 3) (e := 5) (by kernel_rfl) rfl rfl rfl rfl rfl h0 rfl) (fun _ _ h => ⟨_, h.1, rfl, h.2⟩)) ?_
  refine PC.nil ?_
  rintro _ _ ⟨rfl, rfl⟩
  refine DT.last [.did, .did, .did, .did, .did, .did, .did, .did, .did, .did, .did] (by kernel_rfl) ?_
  refine PC.did rfl ?_
  refine PC.did rfl ?_
  refine PC.did rfl ?_
  refine PC.did rfl ?_
  refine PC.did rfl ?_
  refine PC.did rfl ?_
  refine PC.did rfl ?_
  refine PC.did rfl ?_
  refine PC.did rfl ?_
  refine PC.did rfl ?_
  refine PC.did rfl ?_
  refine PC.nil ?_
  first
    | refine XOps.s rfl rfl rfl (Q.assign_d rfl) ?_
    | refine XOps.s rfl rfl rfl (Q.assign_vs rfl) ?_
    | refine XOps.s rfl rfl rfl (Q.assign_ptr rfl) ?_
    | refine XOps.s rfl rfl rfl (Q.assign_nilsl rfl) ?_
    | refine XOps.s rfl rfl rfl (Q.assign_fn rfl) ?_
    | refine XOps.s rfl rfl rfl (Q.assign_tup rfl) ?_
    | refine XOps.s rfl rfl rfl (Q.assign_ep rfl) ?_
    | refine XOps.s rfl rfl rfl (Q.assign_dp rfl) ?_
    | refine XOps.s rfl rfl rfl (Q.assign_dcut rfl) ?_
    | refine XOps.s rfl rfl rfl (Q.assign_aggv rfl) ?_
    | refine XOps.s rfl rfl rfl (Q.assign rfl) ?_
  refine XOps.nil ?_
  refine W.ret ?_
  exact ⟨_, hs, rfl, HLe.skip _ (HLe.skip _ (HLe.skip _ (HLe.refl _))), rfl, rfl⟩
end Go.Proofs.YtlfapbkaknikpaaDoorA
