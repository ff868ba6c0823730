/- vectors of package clock. -/
import Derived.Test.YtjmadiegikbjpaaBase
import Derived.Test.YtjmadiegikbjpaaWalkA
set_option linter.unusedVariables false
set_option linter.unusedSimpArgs false
set_option linter.unnecessarySimpa false
namespace Go.Proofs.YtjmadiegikbjpaaA.FWalkB
open Go
theorem ag26 : tAgg P 26 = some ((true, 3)) := by kernel_rfl
theorem ag3 : tAgg P 3 = some ((false, 1)) := by kernel_rfl
theorem ag48 : tAgg P 48 = some ((true, 8)) := by kernel_rfl
theorem ap46 : tApp P 46 = some ((8, 64)) := by kernel_rfl
theorem ar48 : tArr P 48 = some ((8, 1)) := by kernel_rfl
theorem ar56 : tArr P 56 = some ((8, 8)) := by kernel_rfl
theorem are48 : tEl P 48 = some ((false, 1)) := by kernel_rfl
theorem fl26_0 : tFld P 26 0 = some (0) := by kernel_rfl
theorem fl26_1 : tFld P 26 1 = some (1) := by kernel_rfl
theorem fl26_2 : tFld P 26 2 = some (2) := by kernel_rfl
theorem go22 : callGo Go.Proofs.Try.f22 = true := by kernel_rfl
theorem isl23 : isSl P 23 = true := by kernel_rfl
theorem sl23 : tSl P 23 = some (3) := by kernel_rfl
theorem sl46 : tSl P 46 = some (8) := by kernel_rfl
theorem tz26 : tZero P 26 = some ([.int .i64 0, .int .i64 0, .int .i64 0]) := by kernel_rfl
theorem tz48 : tZero P 48 = some ([.int .i64 0, .int .i64 0, .int .i64 0, .int .i64 0, .int .i64 0, .int .i64 0, .int .i64 0, .int .i64 0]) := by kernel_rfl
theorem tz56 : tZero P 56 = some ([.int .i64 0, .int .i64 0, .int .i64 0, .int .i64 0, .int .i64 0, .int .i64 0, .int .i64 0, .int .i64 0, .int .i64 0, .int .i64 0, .int .i64 0, .int .i64 0, .int .i64 0, .int .i64 0, .int .i64 0, .int .i64 0, .int .i64 0, .int .i64 0, .int .i64 0, .int .i64 0, .int .i64 0, .int .i64 0, .int .i64 0, .int .i64 0, .int .i64 0, .int .i64 0, .int .i64 0, .int .i64 0, .int .i64 0, .int .i64 0, .int .i64 0, .int .i64 0, .int .i64 0, .int .i64 0, .int .i64 0, .int .i64 0, .int .i64 0, .int .i64 0, .int .i64 0, .int .i64 0, .int .i64 0, .int .i64 0, .int .i64 0, .int .i64 0, .int .i64 0, .int .i64 0, .int .i64 0, .int .i64 0, .int .i64 0, .int .i64 0, .int .i64 0, .int .i64 0, .int .i64 0, .int .i64 0, .int .i64 0, .int .i64 0, .int .i64 0, .int .i64 0, .int .i64 0, .int .i64 0, .int .i64 0, .int .i64 0, .int .i64 0, .int .i64 0]) := by kernel_rfl
theorem zr46 : tZrow P 46 = some ([.int .i64 0, .int .i64 0, .int .i64 0, .int .i64 0, .int .i64 0, .int .i64 0, .int .i64 0, .int .i64 0]) := by kernel_rfl
theorem zrd46 : cellsD [.int .i64 0, .int .i64 0, .int .i64 0, .int .i64 0, .int .i64 0, .int .i64 0, .int .i64 0, .int .i64 0] = some ([.int .i64 0, .int .i64 0, .int .i64 0, .int .i64 0, .int .i64 0, .int .i64 0, .int .i64 0, .int .i64 0]) := rfl
end Go.Proofs.YtjmadiegikbjpaaA.FWalkB
namespace Go.Proofs.YtjmadiegikbjpaaA
open Go FWalkB
theorem cells8_take (f : Nat → Int) : takeD 8 ((cellsI 8 f).drop 0) = some (vD f) := rfl
def mgU (b s : Nat → Int) (j : Nat) : Nat → Int := fun i => if i < j then max (b i) (s i) else b i
theorem mgU_step (b s : Nat → Int) (j : Nat) : updF (mgU b s j) j (max (b j) (s j)) = mgU b s (j + 1) := by
  funext i
  by_cases h : i = j
  · subst h; rw [updF_same]; unfold mgU; rw [if_pos (by omega)]
  · rw [updF_ne _ _ h]; unfold mgU
    by_cases h2 : i < j
    · rw [if_pos h2, if_pos (by omega)]
    · rw [if_neg h2, if_neg (by omega)]
theorem mgU_zero (b s : Nat → Int) : mgU b s 0 = b := by funext i; unfold mgU; rw [if_neg (by omega)]
theorem cells_upd {n p i : Nat} {f g : Nat → Int} {u : Int} {v : AV} (hp : p = i) (h : i < n) (hv : v = .d (.int .i64 u)) (hg : updF f i u = g) : HO.cells (cellsI n g) = HO.cells ((cellsI n f).set p v) := by
  subst hp hv hg; rw [cellsI_set _ h]
theorem int_toNat_mul (j : Nat) : 0 + ((j : Nat) : Int).toNat * 1 = j := by omega

set_option maxHeartbeats 1000000 in
set_option maxRecDepth 100000 in
theorem vectors_own (l : List Ev) (hs : Hp) (hw : WF l) : AC P 21 [.d (.sl 3 (l.map Ev.enc))] hs (fun r h => ∃ v, r = .vs v 0 l.length 8 ∧ h = (v, .lst 8 ((vecS l).map vD)) :: hs) := by
  have hln := hw.len
  refine AC.of 61 Try.func21 rfl rfl rfl ?_
  refine W.reg ?_
  first
    | refine XOps.s rfl rfl rfl (Q.assign_d rfl) ?_
    | refine XOps.s rfl rfl rfl (Q.assign_vs rfl) ?_
    | refine XOps.s rfl rfl rfl (Q.assign_ptr rfl) ?_
    | refine XOps.s rfl rfl rfl (Q.assign_nilsl rfl) ?_
    | refine XOps.s rfl rfl rfl (Q.assign_fn rfl) ?_
    | refine XOps.s rfl rfl rfl (Q.assign_tup rfl) ?_
    | refine XOps.s rfl rfl rfl (Q.assign_ep rfl) ?_
    | refine XOps.s rfl rfl rfl (Q.assign_dp rfl) ?_
    | refine XOps.s rfl rfl rfl (Q.assign_dcut rfl) ?_
    | refine XOps.s rfl rfl rfl (Q.assign_aggv rfl) ?_
    | refine XOps.s rfl rfl rfl (Q.assign rfl) ?_
  refine XOps.nil ?_
  refine W.reg ?_
  (refine XOps.loud rfl (L.alloc tz56 rfl rfl) ?_; rintro _ _ ⟨b3, rfl, rfl⟩)
  refine XOps.nil ?_
  refine W.reg ?_
  first
    | refine XOps.s rfl rfl rfl (Q.assign_d rfl) ?_
    | refine XOps.s rfl rfl rfl (Q.assign_vs rfl) ?_
    | refine XOps.s rfl rfl rfl (Q.assign_ptr rfl) ?_
    | refine XOps.s rfl rfl rfl (Q.assign_nilsl rfl) ?_
    | refine XOps.s rfl rfl rfl (Q.assign_fn rfl) ?_
    | refine XOps.s rfl rfl rfl (Q.assign_tup rfl) ?_
    | refine XOps.s rfl rfl rfl (Q.assign_ep rfl) ?_
    | refine XOps.s rfl rfl rfl (Q.assign_dp rfl) ?_
    | refine XOps.s rfl rfl rfl (Q.assign_dcut rfl) ?_
    | refine XOps.s rfl rfl rfl (Q.assign_aggv rfl) ?_
    | refine XOps.s rfl rfl rfl (Q.assign rfl) ?_
  refine XOps.nil ?_
  refine W.ghost 4 8 (by decide) rfl rfl (fun o => ?_)
  refine W.seq ?_
  refine W.reg ?_
  first
    | refine XOps.s rfl rfl rfl (Q.move_d rfl) ?_
    | refine XOps.s rfl rfl rfl (Q.move_vs rfl) ?_
    | refine XOps.s rfl rfl rfl (Q.move_ptr rfl) ?_
    | refine XOps.s rfl rfl rfl (Q.move_nilsl rfl) ?_
    | refine XOps.s rfl rfl rfl (Q.move_fn rfl) ?_
    | refine XOps.s rfl rfl rfl (Q.move_tup rfl) ?_
    | refine XOps.s rfl rfl rfl (Q.move_ep rfl) ?_
    | refine XOps.s rfl rfl rfl (Q.move_dp rfl) ?_
    | refine XOps.s rfl rfl rfl (Q.move_dcut rfl) ?_
    | refine XOps.s rfl rfl rfl (Q.move_aggv rfl) ?_
    | refine XOps.s rfl rfl rfl (Q.move rfl) ?_
  first
    | refine XOps.s rfl rfl rfl (Q.len_sl isl23 rfl) ?_
    | refine XOps.s rfl rfl rfl (Q.len_vs isl23 rfl) ?_
    | refine XOps.s rfl rfl rfl (Q.len_nil isl23 rfl) ?_
    | refine XOps.s rfl rfl rfl (Q.len_dcut isl23 rfl) ?_
  first
    | refine XOps.s rfl rfl rfl (Q.move_d rfl) ?_
    | refine XOps.s rfl rfl rfl (Q.move_vs rfl) ?_
    | refine XOps.s rfl rfl rfl (Q.move_ptr rfl) ?_
    | refine XOps.s rfl rfl rfl (Q.move_nilsl rfl) ?_
    | refine XOps.s rfl rfl rfl (Q.move_fn rfl) ?_
    | refine XOps.s rfl rfl rfl (Q.move_tup rfl) ?_
    | refine XOps.s rfl rfl rfl (Q.move_ep rfl) ?_
    | refine XOps.s rfl rfl rfl (Q.move_dp rfl) ?_
    | refine XOps.s rfl rfl rfl (Q.move_dcut rfl) ?_
    | refine XOps.s rfl rfl rfl (Q.move_aggv rfl) ?_
    | refine XOps.s rfl rfl rfl (Q.move rfl) ?_
  refine XOps.nil ?_
  refine W.block ?_
  refine W.loop (ι := Nat × Nat) (fun q => [(0, .d (.sl 3 (l.map Ev.enc))), (3, .ptr b3 0), (4, .vs q.2 0 q.1 8), (10, .d (.sl 3 (l.map Ev.enc))), (11, .d (.int .i64 l.length)), (12, .d (.int .i64 (q.1 : Nat)))]) (fun q => (b3, .cells (cellsI 64 (vst l q.1).1)) :: (q.2, .lst 8 ((vst l q.1).2.map vD)) :: hs) (fun q => q.1 ≤ l.length) (fun q => l.length - q.1) (0, o) ?_ ?_ ?_ ?_
  · exact Nat.zero_le _
  · exact ⟨by first | rfl | exact int_eq (by omega) | exact len_eq (by simp) | exact int_eq (by simp; done), by first | rfl | exact int_eq (by omega) | exact len_eq (by simp) | exact int_eq (by simp; done), by first | rfl | exact int_eq (by omega) | exact len_eq (by simp) | exact int_eq (by simp; done), by first | rfl | exact int_eq (by omega) | exact len_eq (by simp) | exact int_eq (by simp; done), by first | rfl | exact int_eq (by omega) | exact len_eq (by simp) | exact int_eq (by simp; done), by first | rfl | exact int_eq (by omega) | exact len_eq (by simp) | exact int_eq (by simp; done), trivial⟩
  · exact HLe.pick 1 rfl rfl (HLe.pick 0 rfl rfl (HLe.refl _))
  · rintro ⟨k, o⟩ hk
    try dsimp only at hk ⊢
    refine W.reg ?_
    first
      | refine XOps.s rfl rfl rfl (Q.lss rfl rfl) ?_
      | refine XOps.s rfl rfl rfl (Q.lss_str rfl rfl) ?_
    refine XOps.nil ?_
    refine W.seq ?_
    refine W.cond rfl (fun hc13 => ?_) (fun hc13 => ?_)
    · try simp only [Bool.or_eq_true, Bool.or_eq_false_iff, Bool.and_eq_true, Bool.and_eq_false_iff, decide_eq_true_eq, decide_eq_false_iff_not, Bool.not_eq_true', Bool.not_eq_false', Int.not_lt, Int.not_le, List.length_map] at hc13
      obtain ⟨x, hx⟩ : ∃ x, l[k]? = some x := ⟨_, List.getElem?_eq_getElem (by omega)⟩
      have hsb := hw.site k x hx
      have hs8 : x.site.toNat < 8 := by omega
      have hvi := VI.all hw k (by omega)
      obtain ⟨hm, hms⟩ := hvi.mrg hw hx (vst_len l k)
      have hcb := cnt_bound l k x.site.toNat
      have hrow : takeD 8 ((cellsI 64 (vst l k).1).drop (0 + x.site.toNat * 8)) = some (vD (vbase (vst l k).1 x)) := by rw [Nat.zero_add]; exact row_take _ hs8
      have hstep : vst l (k + 1) = (updR (vst l k).1 x.site.toNat (vnew (vst l k).1 (vst l k).2 l k x), (vst l k).2 ++ [(vnew (vst l k).1 (vst l k).2 l k x)]) := by rw [vst, getD_at hx]
      have hcell2 : (cellsI 8 (vmrg (vst l k).1 (vst l k).2 l k x))[0 + x.site.toNat * 1]? = some (.d (.int .i64 ((vmrg (vst l k).1 (vst l k).2 l k x) x.site.toNat))) := by rw [show 0 + x.site.toNat * 1 = x.site.toNat by omega]; exact cellsI_at _ hs8
      have hoff2 : Nat.blt (0 + x.site.toNat * 1) (cellsI 8 (vmrg (vst l k).1 (vst l k).2 l k x)).length = true := by rw [cellsI_len, Nat.blt_eq]; omega
      have hoff3 : Nat.ble (0 + x.site.toNat * 8 + (vD (vnew (vst l k).1 (vst l k).2 l k x)).length) (cellsI 64 (vst l k).1).length = true := by rw [cellsI_len, vD_len, Nat.ble_eq]; omega
      refine W.skip ?_
      refine W.seq ?_
      refine W.block ?_
      refine W.reg ?_
      first
        | refine XOps.s rfl rfl rfl (Q.move_d rfl) ?_
        | refine XOps.s rfl rfl rfl (Q.move_vs rfl) ?_
        | refine XOps.s rfl rfl rfl (Q.move_ptr rfl) ?_
        | refine XOps.s rfl rfl rfl (Q.move_nilsl rfl) ?_
        | refine XOps.s rfl rfl rfl (Q.move_fn rfl) ?_
        | refine XOps.s rfl rfl rfl (Q.move_tup rfl) ?_
        | refine XOps.s rfl rfl rfl (Q.move_ep rfl) ?_
        | refine XOps.s rfl rfl rfl (Q.move_dp rfl) ?_
        | refine XOps.s rfl rfl rfl (Q.move_dcut rfl) ?_
        | refine XOps.s rfl rfl rfl (Q.move_aggv rfl) ?_
        | refine XOps.s rfl rfl rfl (Q.move rfl) ?_
      first
        | refine XOps.s rfl rfl rfl (Q.idx_sl sl23 (by decide) rfl rfl (by first | omega | (simp only [List.length_map]; omega)) (by first | exact map_at (by assumption) | exact map_at0 (by assumption) | assumption)) ?_
        | refine XOps.s rfl rfl rfl (Q.idx_vs (kk := 0) sl23 rfl rfl rfl (by first | omega | (simp at hg; omega)) (by first | omega | (dsimp only; omega))) ?_
        | refine XOps.s rfl rfl rfl (Q.idx_vs (kk := 1) sl23 rfl rfl rfl (by first | omega | (simp at hg; omega)) (by first | omega | (dsimp only; omega))) ?_
        | refine XOps.s rfl rfl rfl (Q.idx_vs (kk := 2) sl23 rfl rfl rfl (by first | omega | (simp at hg; omega)) (by first | omega | (dsimp only; omega))) ?_
        | refine XOps.s rfl rfl rfl (Q.idx_vs (kk := 3) sl23 rfl rfl rfl (by first | omega | (simp at hg; omega)) (by first | omega | (dsimp only; omega))) ?_
        | refine XOps.s rfl rfl rfl (Q.idx_vs (kk := 4) sl23 rfl rfl rfl (by first | omega | (simp at hg; omega)) (by first | omega | (dsimp only; omega))) ?_
        | refine XOps.s rfl rfl rfl (Q.idx_vs (kk := 5) sl23 rfl rfl rfl (by first | omega | (simp at hg; omega)) (by first | omega | (dsimp only; omega))) ?_
      first
        | refine XOps.s rfl rfl rfl (Q.ld_dpn ag26 rfl rfl) ?_
        | refine XOps.s rfl rfl rfl (Q.ld_ptrn (k := 0) ag26 rfl rfl rfl) ?_
        | refine XOps.s rfl rfl rfl (Q.ld_ptrv (k := 0) ag26 rfl rfl rfl) ?_
        | refine XOps.s rfl rfl rfl (Q.ld_ptrn (k := 1) ag26 rfl rfl rfl) ?_
        | refine XOps.s rfl rfl rfl (Q.ld_ptrv (k := 1) ag26 rfl rfl rfl) ?_
        | refine XOps.s rfl rfl rfl (Q.ld_ptrn (k := 2) ag26 rfl rfl rfl) ?_
        | refine XOps.s rfl rfl rfl (Q.ld_ptrv (k := 2) ag26 rfl rfl rfl) ?_
        | refine XOps.s rfl rfl rfl (Q.ld_ptrn (k := 3) ag26 rfl rfl rfl) ?_
        | refine XOps.s rfl rfl rfl (Q.ld_ptrv (k := 3) ag26 rfl rfl rfl) ?_
        | refine XOps.s rfl rfl rfl (Q.ld_ptrn (k := 4) ag26 rfl rfl rfl) ?_
        | refine XOps.s rfl rfl rfl (Q.ld_ptrv (k := 4) ag26 rfl rfl rfl) ?_
        | refine XOps.s rfl rfl rfl (Q.ld_ptrn (k := 5) ag26 rfl rfl rfl) ?_
        | refine XOps.s rfl rfl rfl (Q.ld_ptrv (k := 5) ag26 rfl rfl rfl) ?_
        | refine XOps.s rfl rfl rfl (Q.ld_epn (k := 0) ag26 rfl rfl (by first | exact map_at (by assumption) | exact map_at0 (by assumption) | assumption) rfl) ?_
        | refine XOps.s rfl rfl rfl (Q.ld_epn (k := 1) ag26 rfl rfl (by first | exact map_at (by assumption) | exact map_at0 (by assumption) | assumption) rfl) ?_
        | refine XOps.s rfl rfl rfl (Q.ld_epn (k := 2) ag26 rfl rfl (by first | exact map_at (by assumption) | exact map_at0 (by assumption) | assumption) rfl) ?_
        | refine XOps.s rfl rfl rfl (Q.ld_epn (k := 3) ag26 rfl rfl (by first | exact map_at (by assumption) | exact map_at0 (by assumption) | assumption) rfl) ?_
        | refine XOps.s rfl rfl rfl (Q.ld_epn (k := 4) ag26 rfl rfl (by first | exact map_at (by assumption) | exact map_at0 (by assumption) | assumption) rfl) ?_
        | refine XOps.s rfl rfl rfl (Q.ld_epn (k := 5) ag26 rfl rfl (by first | exact map_at (by assumption) | exact map_at0 (by assumption) | assumption) rfl) ?_
      (refine XOps.loud rfl (L.alloc tz26 rfl rfl) ?_; rintro _ _ ⟨b6, rfl, rfl⟩)
      first
        | refine XOps.s rfl rfl rfl (Q.assign_d rfl) ?_
        | refine XOps.s rfl rfl rfl (Q.assign_vs rfl) ?_
        | refine XOps.s rfl rfl rfl (Q.assign_ptr rfl) ?_
        | refine XOps.s rfl rfl rfl (Q.assign_nilsl rfl) ?_
        | refine XOps.s rfl rfl rfl (Q.assign_fn rfl) ?_
        | refine XOps.s rfl rfl rfl (Q.assign_tup rfl) ?_
        | refine XOps.s rfl rfl rfl (Q.assign_ep rfl) ?_
        | refine XOps.s rfl rfl rfl (Q.assign_dp rfl) ?_
        | refine XOps.s rfl rfl rfl (Q.assign_dcut rfl) ?_
        | refine XOps.s rfl rfl rfl (Q.assign_aggv rfl) ?_
        | refine XOps.s rfl rfl rfl (Q.assign rfl) ?_
      first
        | (refine XOps.loud rfl (L.storen (k := 0) ag26 rfl rfl rfl rfl rfl) ?_; rintro _ _ ⟨rfl, rfl⟩)
        | (refine XOps.loud rfl (L.storev (k := 0) ag26 rfl rfl rfl rfl rfl) ?_; rintro _ _ ⟨rfl, rfl⟩)
        | (refine XOps.loud rfl (L.storen (k := 1) ag26 rfl rfl rfl rfl rfl) ?_; rintro _ _ ⟨rfl, rfl⟩)
        | (refine XOps.loud rfl (L.storev (k := 1) ag26 rfl rfl rfl rfl rfl) ?_; rintro _ _ ⟨rfl, rfl⟩)
        | (refine XOps.loud rfl (L.storen (k := 2) ag26 rfl rfl rfl rfl rfl) ?_; rintro _ _ ⟨rfl, rfl⟩)
        | (refine XOps.loud rfl (L.storev (k := 2) ag26 rfl rfl rfl rfl rfl) ?_; rintro _ _ ⟨rfl, rfl⟩)
        | (refine XOps.loud rfl (L.storen (k := 3) ag26 rfl rfl rfl rfl rfl) ?_; rintro _ _ ⟨rfl, rfl⟩)
        | (refine XOps.loud rfl (L.storev (k := 3) ag26 rfl rfl rfl rfl rfl) ?_; rintro _ _ ⟨rfl, rfl⟩)
        | (refine XOps.loud rfl (L.storen (k := 4) ag26 rfl rfl rfl rfl rfl) ?_; rintro _ _ ⟨rfl, rfl⟩)
        | (refine XOps.loud rfl (L.storev (k := 4) ag26 rfl rfl rfl rfl rfl) ?_; rintro _ _ ⟨rfl, rfl⟩)
        | (refine XOps.loud rfl (L.storen (k := 5) ag26 rfl rfl rfl rfl rfl) ?_; rintro _ _ ⟨rfl, rfl⟩)
        | (refine XOps.loud rfl (L.storev (k := 5) ag26 rfl rfl rfl rfl rfl) ?_; rintro _ _ ⟨rfl, rfl⟩)
        | (refine XOps.loud rfl (L.storen_ep (k := 0) ag26 rfl rfl (by first | exact map_at (by assumption) | exact map_at0 (by assumption) | assumption) rfl rfl rfl) ?_; rintro _ _ ⟨rfl, rfl⟩)
        | (refine XOps.loud rfl (L.storen_ep (k := 1) ag26 rfl rfl (by first | exact map_at (by assumption) | exact map_at0 (by assumption) | assumption) rfl rfl rfl) ?_; rintro _ _ ⟨rfl, rfl⟩)
        | (refine XOps.loud rfl (L.storen_ep (k := 2) ag26 rfl rfl (by first | exact map_at (by assumption) | exact map_at0 (by assumption) | assumption) rfl rfl rfl) ?_; rintro _ _ ⟨rfl, rfl⟩)
        | (refine XOps.loud rfl (L.storen_ep (k := 3) ag26 rfl rfl (by first | exact map_at (by assumption) | exact map_at0 (by assumption) | assumption) rfl rfl rfl) ?_; rintro _ _ ⟨rfl, rfl⟩)
        | (refine XOps.loud rfl (L.storen_ep (k := 4) ag26 rfl rfl (by first | exact map_at (by assumption) | exact map_at0 (by assumption) | assumption) rfl rfl rfl) ?_; rintro _ _ ⟨rfl, rfl⟩)
        | (refine XOps.loud rfl (L.storen_ep (k := 5) ag26 rfl rfl (by first | exact map_at (by assumption) | exact map_at0 (by assumption) | assumption) rfl rfl rfl) ?_; rintro _ _ ⟨rfl, rfl⟩)
      refine XOps.nil ?_
      refine W.reg ?_
      first
        | refine XOps.s rfl rfl rfl (Q.fld_ptr fl26_0 rfl) ?_
        | refine XOps.s rfl rfl rfl (Q.fld_dp fl26_0 rfl) ?_
        | refine XOps.s rfl rfl rfl (Q.fld_ep fl26_0 rfl) ?_
      first
        | refine XOps.s rfl rfl rfl (Q.ld_dp ag3 rfl rfl) ?_
        | refine XOps.s rfl rfl rfl (Q.ld_ptr (k := 0) ag3 rfl rfl rfl) ?_
        | refine XOps.s rfl rfl rfl (Q.ld_ptr (k := 1) ag3 rfl rfl rfl) ?_
        | refine XOps.s rfl rfl rfl (Q.ld_ptr (k := 2) ag3 rfl rfl rfl) ?_
        | refine XOps.s rfl rfl rfl (Q.ld_ptr (k := 3) ag3 rfl rfl rfl) ?_
        | refine XOps.s rfl rfl rfl (Q.ld_ptr (k := 4) ag3 rfl rfl rfl) ?_
        | refine XOps.s rfl rfl rfl (Q.ld_ptr (k := 5) ag3 rfl rfl rfl) ?_
        | refine XOps.s rfl rfl rfl (Q.ld_ep (k := 0) ag3 rfl rfl (by first | exact map_at (by assumption) | exact map_at0 (by assumption) | assumption) rfl) ?_
        | refine XOps.s rfl rfl rfl (Q.ld_ep (k := 1) ag3 rfl rfl (by first | exact map_at (by assumption) | exact map_at0 (by assumption) | assumption) rfl) ?_
        | refine XOps.s rfl rfl rfl (Q.ld_ep (k := 2) ag3 rfl rfl (by first | exact map_at (by assumption) | exact map_at0 (by assumption) | assumption) rfl) ?_
        | refine XOps.s rfl rfl rfl (Q.ld_ep (k := 3) ag3 rfl rfl (by first | exact map_at (by assumption) | exact map_at0 (by assumption) | assumption) rfl) ?_
        | refine XOps.s rfl rfl rfl (Q.ld_ep (k := 4) ag3 rfl rfl (by first | exact map_at (by assumption) | exact map_at0 (by assumption) | assumption) rfl) ?_
        | refine XOps.s rfl rfl rfl (Q.ld_ep (k := 5) ag3 rfl rfl (by first | exact map_at (by assumption) | exact map_at0 (by assumption) | assumption) rfl) ?_
      first
        | refine XOps.s rfl rfl rfl (Q.idx_arr ar56 rfl rfl (by first | omega | (simp at hg; omega)) (by first | omega | (simp at hg; omega))) ?_
        | refine XOps.s rfl rfl rfl (Q.idx_darr ar56 rfl rfl (by first | omega | (simp at hg; omega)) (by first | omega | (simp at hg; omega))) ?_
      refine XOps.s rfl rfl rfl (Q.ld_ptrn (k := 1) ag48 rfl rfl hrow) ?_
      (refine XOps.loud rfl (L.alloc tz48 rfl rfl) ?_; rintro _ _ ⟨b7, rfl, rfl⟩)
      first
        | (refine XOps.loud rfl (L.storen (k := 0) ag48 rfl rfl rfl rfl rfl) ?_; rintro _ _ ⟨rfl, rfl⟩)
        | (refine XOps.loud rfl (L.storev (k := 0) ag48 rfl rfl rfl rfl rfl) ?_; rintro _ _ ⟨rfl, rfl⟩)
        | (refine XOps.loud rfl (L.storen (k := 1) ag48 rfl rfl rfl rfl rfl) ?_; rintro _ _ ⟨rfl, rfl⟩)
        | (refine XOps.loud rfl (L.storev (k := 1) ag48 rfl rfl rfl rfl rfl) ?_; rintro _ _ ⟨rfl, rfl⟩)
        | (refine XOps.loud rfl (L.storen (k := 2) ag48 rfl rfl rfl rfl rfl) ?_; rintro _ _ ⟨rfl, rfl⟩)
        | (refine XOps.loud rfl (L.storev (k := 2) ag48 rfl rfl rfl rfl rfl) ?_; rintro _ _ ⟨rfl, rfl⟩)
        | (refine XOps.loud rfl (L.storen (k := 3) ag48 rfl rfl rfl rfl rfl) ?_; rintro _ _ ⟨rfl, rfl⟩)
        | (refine XOps.loud rfl (L.storev (k := 3) ag48 rfl rfl rfl rfl rfl) ?_; rintro _ _ ⟨rfl, rfl⟩)
        | (refine XOps.loud rfl (L.storen (k := 4) ag48 rfl rfl rfl rfl rfl) ?_; rintro _ _ ⟨rfl, rfl⟩)
        | (refine XOps.loud rfl (L.storev (k := 4) ag48 rfl rfl rfl rfl rfl) ?_; rintro _ _ ⟨rfl, rfl⟩)
        | (refine XOps.loud rfl (L.storen (k := 5) ag48 rfl rfl rfl rfl rfl) ?_; rintro _ _ ⟨rfl, rfl⟩)
        | (refine XOps.loud rfl (L.storev (k := 5) ag48 rfl rfl rfl rfl rfl) ?_; rintro _ _ ⟨rfl, rfl⟩)
        | (refine XOps.loud rfl (L.storen_ep (k := 0) ag48 rfl rfl (by first | exact map_at (by assumption) | exact map_at0 (by assumption) | assumption) rfl rfl rfl) ?_; rintro _ _ ⟨rfl, rfl⟩)
        | (refine XOps.loud rfl (L.storen_ep (k := 1) ag48 rfl rfl (by first | exact map_at (by assumption) | exact map_at0 (by assumption) | assumption) rfl rfl rfl) ?_; rintro _ _ ⟨rfl, rfl⟩)
        | (refine XOps.loud rfl (L.storen_ep (k := 2) ag48 rfl rfl (by first | exact map_at (by assumption) | exact map_at0 (by assumption) | assumption) rfl rfl rfl) ?_; rintro _ _ ⟨rfl, rfl⟩)
        | (refine XOps.loud rfl (L.storen_ep (k := 3) ag48 rfl rfl (by first | exact map_at (by assumption) | exact map_at0 (by assumption) | assumption) rfl rfl rfl) ?_; rintro _ _ ⟨rfl, rfl⟩)
        | (refine XOps.loud rfl (L.storen_ep (k := 4) ag48 rfl rfl (by first | exact map_at (by assumption) | exact map_at0 (by assumption) | assumption) rfl rfl rfl) ?_; rintro _ _ ⟨rfl, rfl⟩)
        | (refine XOps.loud rfl (L.storen_ep (k := 5) ag48 rfl rfl (by first | exact map_at (by assumption) | exact map_at0 (by assumption) | assumption) rfl rfl rfl) ?_; rintro _ _ ⟨rfl, rfl⟩)
      refine XOps.nil ?_
      refine W.heap ((b7, .cells (cellsI 8 (vbase (vst l k).1 x))) :: (b6, .cells (x.enc.map .d)) :: (b3, .cells (cellsI 64 (vst l k).1)) :: (o, .lst 8 ((vst l k).2.map vD)) :: hs) (HLe.cons' rfl (HLe.refl _)) ?_
      refine W.seq_mid (fun σ₁ hs₁ => ∃ u : Unit, (True) ∧ ELe [(0, .d (.sl 3 (l.map Ev.enc))), (3, .ptr b3 0), (4, .vs o 0 k 8), (6, .ptr b6 0), (7, .ptr b7 0), (10, .d (.sl 3 (l.map Ev.enc))), (11, .d (.int .i64 l.length)), (12, .d (.int .i64 (k : Nat)))] σ₁ ∧ HLe ((b7, .cells (cellsI 8 (vmrg (vst l k).1 (vst l k).2 l k x))) :: (b6, .cells (x.enc.map .d)) :: (b3, .cells (cellsI 64 (vst l k).1)) :: (o, .lst 8 ((vst l k).2.map vD)) :: hs) hs₁) ?_ ?_
      ·
        refine W.reg ?_
        first
          | refine XOps.s rfl rfl rfl (Q.fld_ptr fl26_1 rfl) ?_
          | refine XOps.s rfl rfl rfl (Q.fld_dp fl26_1 rfl) ?_
          | refine XOps.s rfl rfl rfl (Q.fld_ep fl26_1 rfl) ?_
        first
          | refine XOps.s rfl rfl rfl (Q.ld_dp ag3 rfl rfl) ?_
          | refine XOps.s rfl rfl rfl (Q.ld_ptr (k := 0) ag3 rfl rfl rfl) ?_
          | refine XOps.s rfl rfl rfl (Q.ld_ptr (k := 1) ag3 rfl rfl rfl) ?_
          | refine XOps.s rfl rfl rfl (Q.ld_ptr (k := 2) ag3 rfl rfl rfl) ?_
          | refine XOps.s rfl rfl rfl (Q.ld_ptr (k := 3) ag3 rfl rfl rfl) ?_
          | refine XOps.s rfl rfl rfl (Q.ld_ptr (k := 4) ag3 rfl rfl rfl) ?_
          | refine XOps.s rfl rfl rfl (Q.ld_ptr (k := 5) ag3 rfl rfl rfl) ?_
          | refine XOps.s rfl rfl rfl (Q.ld_ep (k := 0) ag3 rfl rfl (by first | exact map_at (by assumption) | exact map_at0 (by assumption) | assumption) rfl) ?_
          | refine XOps.s rfl rfl rfl (Q.ld_ep (k := 1) ag3 rfl rfl (by first | exact map_at (by assumption) | exact map_at0 (by assumption) | assumption) rfl) ?_
          | refine XOps.s rfl rfl rfl (Q.ld_ep (k := 2) ag3 rfl rfl (by first | exact map_at (by assumption) | exact map_at0 (by assumption) | assumption) rfl) ?_
          | refine XOps.s rfl rfl rfl (Q.ld_ep (k := 3) ag3 rfl rfl (by first | exact map_at (by assumption) | exact map_at0 (by assumption) | assumption) rfl) ?_
          | refine XOps.s rfl rfl rfl (Q.ld_ep (k := 4) ag3 rfl rfl (by first | exact map_at (by assumption) | exact map_at0 (by assumption) | assumption) rfl) ?_
          | refine XOps.s rfl rfl rfl (Q.ld_ep (k := 5) ag3 rfl rfl (by first | exact map_at (by assumption) | exact map_at0 (by assumption) | assumption) rfl) ?_
        first
          | refine XOps.s rfl rfl rfl (Q.eql rfl rfl) ?_
          | refine XOps.s rfl rfl rfl (Q.eql_str rfl rfl) ?_
        refine XOps.nil ?_
        refine W.cond rfl (fun hc23 => ?_) (fun hc23 => ?_)
        · try simp only [Bool.or_eq_true, Bool.or_eq_false_iff, Bool.and_eq_true, Bool.and_eq_false_iff, decide_eq_true_eq, decide_eq_false_iff_not, Bool.not_eq_true', Bool.not_eq_false', Int.not_lt, Int.not_le, List.length_map] at hc23
          obtain ⟨i, hi, hik⟩ := hw.src k x hx hc23
          obtain ⟨i2, hi2, hi3⟩ := vsrc_spec hw hx hc23 (vst_len l k)
          have hrow2 : ((vst l k).2.map vD)[0 + (senderS (l.take k) x.msg).toNat]? = some (vD (vsrc (vst l k).2 l k x)) := by
            rw [Nat.zero_add, show (senderS (l.take k) x.msg).toNat = i2 from hi3, List.getElem?_map, hi2]; rfl
          have hmg : mgU (vbase (vst l k).1 x) (vsrc (vst l k).2 l k x) 8 = mgU (vbase (vst l k).1 x) (vsrc (vst l k).2 l k x) 8 := rfl
          have hme : cellsI 8 (mgU (vbase (vst l k).1 x) (vsrc (vst l k).2 l k x) 8) = cellsI 8 (vmrg (vst l k).1 (vst l k).2 l k x) := cellsI_ext fun j hj => by unfold mgU vmrg; rw [if_pos hj, if_pos hc23]
          refine W.drawreg 10 follows (by kernel_rfl) ?_
          first
            | refine Chain.cons _ (GQ.q rfl (Q.move_d rfl)) rfl ?_
            | refine Chain.cons _ (GQ.q rfl (Q.move_vs rfl)) rfl ?_
            | refine Chain.cons _ (GQ.q rfl (Q.move_ptr rfl)) rfl ?_
            | refine Chain.cons _ (GQ.q rfl (Q.move_nilsl rfl)) rfl ?_
            | refine Chain.cons _ (GQ.q rfl (Q.move_fn rfl)) rfl ?_
            | refine Chain.cons _ (GQ.q rfl (Q.move_tup rfl)) rfl ?_
            | refine Chain.cons _ (GQ.q rfl (Q.move_ep rfl)) rfl ?_
            | refine Chain.cons _ (GQ.q rfl (Q.move_dp rfl)) rfl ?_
            | refine Chain.cons _ (GQ.q rfl (Q.move_dcut rfl)) rfl ?_
            | refine Chain.cons _ (GQ.q rfl (Q.move_aggv rfl)) rfl ?_
            | refine Chain.cons _ (GQ.q rfl (Q.move rfl)) rfl ?_
          first
            | refine Chain.cons _ (GQ.q rfl (Q.move_d rfl)) rfl ?_
            | refine Chain.cons _ (GQ.q rfl (Q.move_vs rfl)) rfl ?_
            | refine Chain.cons _ (GQ.q rfl (Q.move_ptr rfl)) rfl ?_
            | refine Chain.cons _ (GQ.q rfl (Q.move_nilsl rfl)) rfl ?_
            | refine Chain.cons _ (GQ.q rfl (Q.move_fn rfl)) rfl ?_
            | refine Chain.cons _ (GQ.q rfl (Q.move_tup rfl)) rfl ?_
            | refine Chain.cons _ (GQ.q rfl (Q.move_ep rfl)) rfl ?_
            | refine Chain.cons _ (GQ.q rfl (Q.move_dp rfl)) rfl ?_
            | refine Chain.cons _ (GQ.q rfl (Q.move_dcut rfl)) rfl ?_
            | refine Chain.cons _ (GQ.q rfl (Q.move_aggv rfl)) rfl ?_
            | refine Chain.cons _ (GQ.q rfl (Q.move rfl)) rfl ?_
          first
            | refine Chain.cons _ (GQ.q rfl (Q.move_d rfl)) rfl ?_
            | refine Chain.cons _ (GQ.q rfl (Q.move_vs rfl)) rfl ?_
            | refine Chain.cons _ (GQ.q rfl (Q.move_ptr rfl)) rfl ?_
            | refine Chain.cons _ (GQ.q rfl (Q.move_nilsl rfl)) rfl ?_
            | refine Chain.cons _ (GQ.q rfl (Q.move_fn rfl)) rfl ?_
            | refine Chain.cons _ (GQ.q rfl (Q.move_tup rfl)) rfl ?_
            | refine Chain.cons _ (GQ.q rfl (Q.move_ep rfl)) rfl ?_
            | refine Chain.cons _ (GQ.q rfl (Q.move_dp rfl)) rfl ?_
            | refine Chain.cons _ (GQ.q rfl (Q.move_dcut rfl)) rfl ?_
            | refine Chain.cons _ (GQ.q rfl (Q.move_aggv rfl)) rfl ?_
            | refine Chain.cons _ (GQ.q rfl (Q.move rfl)) rfl ?_
          first
            | refine Chain.cons _ (GQ.q rfl (Q.cut_slm sl23 rfl rfl rfl (by first | omega | (simp only [List.length_map]; omega)) (by first | omega | (simp only [List.length_map]; omega)) (by first | omega | (simp only [List.length_map]; omega)))) rfl ?_
            | refine Chain.cons _ (GQ.q rfl (Q.cut_sl sl23 rfl rfl rfl (by first | omega | (simp only [List.length_map]; omega)) (by first | omega | (simp only [List.length_map]; omega)) (by first | omega | (simp only [List.length_map]; omega)))) rfl ?_
            | refine Chain.cons _ (GQ.q rfl (Q.cut_vs sl23 rfl rfl rfl (by first | omega | (simp only [List.length_map]; omega)) (by first | omega | (simp only [List.length_map]; omega)) (by first | omega | (simp only [List.length_map]; omega)))) rfl ?_
            | refine Chain.cons _ (GQ.q rfl (Q.cut_nil sl23 rfl rfl rfl (by first | omega | (simp at hg; omega)) (by first | omega | (simp at hg; omega)))) rfl ?_
          first
            | refine Chain.cons _ (GQ.q rfl (Q.fld_ptr fl26_2 rfl)) rfl ?_
            | refine Chain.cons _ (GQ.q rfl (Q.fld_dp fl26_2 rfl)) rfl ?_
            | refine Chain.cons _ (GQ.q rfl (Q.fld_ep fl26_2 rfl)) rfl ?_
          first
            | refine Chain.cons _ (GQ.q rfl (Q.ld_dp ag3 rfl rfl)) rfl ?_
            | refine Chain.cons _ (GQ.q rfl (Q.ld_ptr (k := 0) ag3 rfl rfl rfl)) rfl ?_
            | refine Chain.cons _ (GQ.q rfl (Q.ld_ptr (k := 1) ag3 rfl rfl rfl)) rfl ?_
            | refine Chain.cons _ (GQ.q rfl (Q.ld_ptr (k := 2) ag3 rfl rfl rfl)) rfl ?_
            | refine Chain.cons _ (GQ.q rfl (Q.ld_ptr (k := 3) ag3 rfl rfl rfl)) rfl ?_
            | refine Chain.cons _ (GQ.q rfl (Q.ld_ptr (k := 4) ag3 rfl rfl rfl)) rfl ?_
            | refine Chain.cons _ (GQ.q rfl (Q.ld_ptr (k := 5) ag3 rfl rfl rfl)) rfl ?_
            | refine Chain.cons _ (GQ.q rfl (Q.ld_ep (k := 0) ag3 rfl rfl (by first | exact map_at (by assumption) | exact map_at0 (by assumption) | assumption) rfl)) rfl ?_
            | refine Chain.cons _ (GQ.q rfl (Q.ld_ep (k := 1) ag3 rfl rfl (by first | exact map_at (by assumption) | exact map_at0 (by assumption) | assumption) rfl)) rfl ?_
            | refine Chain.cons _ (GQ.q rfl (Q.ld_ep (k := 2) ag3 rfl rfl (by first | exact map_at (by assumption) | exact map_at0 (by assumption) | assumption) rfl)) rfl ?_
            | refine Chain.cons _ (GQ.q rfl (Q.ld_ep (k := 3) ag3 rfl rfl (by first | exact map_at (by assumption) | exact map_at0 (by assumption) | assumption) rfl)) rfl ?_
            | refine Chain.cons _ (GQ.q rfl (Q.ld_ep (k := 4) ag3 rfl rfl (by first | exact map_at (by assumption) | exact map_at0 (by assumption) | assumption) rfl)) rfl ?_
            | refine Chain.cons _ (GQ.q rfl (Q.ld_ep (k := 5) ag3 rfl rfl (by first | exact map_at (by assumption) | exact map_at0 (by assumption) | assumption) rfl)) rfl ?_
          refine Chain.cons _ (GQ.q rfl (Q.call rfl Try.func22 go22 rfl (sender_c (l.take k) x.msg _ (by simp; omega)))) rfl ?_
          refine Chain.cons _ (GQ.q rfl (Q.idx_vs (kk := 3) sl46 rfl rfl rfl (by omega) (by omega))) rfl ?_
          refine Chain.cons _ (GQ.q rfl (Q.ld_epn (k := 3) ag48 rfl rfl hrow2 rfl)) rfl ?_
          first
            | refine Chain.cons _ (GQ.q rfl (Q.move_d rfl)) rfl ?_
            | refine Chain.cons _ (GQ.q rfl (Q.move_vs rfl)) rfl ?_
            | refine Chain.cons _ (GQ.q rfl (Q.move_ptr rfl)) rfl ?_
            | refine Chain.cons _ (GQ.q rfl (Q.move_nilsl rfl)) rfl ?_
            | refine Chain.cons _ (GQ.q rfl (Q.move_fn rfl)) rfl ?_
            | refine Chain.cons _ (GQ.q rfl (Q.move_tup rfl)) rfl ?_
            | refine Chain.cons _ (GQ.q rfl (Q.move_ep rfl)) rfl ?_
            | refine Chain.cons _ (GQ.q rfl (Q.move_dp rfl)) rfl ?_
            | refine Chain.cons _ (GQ.q rfl (Q.move_dcut rfl)) rfl ?_
            | refine Chain.cons _ (GQ.q rfl (Q.move_aggv rfl)) rfl ?_
            | refine Chain.cons _ (GQ.q rfl (Q.move rfl)) rfl ?_
          refine Chain.nil ?_
          refine XOps.nil ?_
          refine W.block ?_
          refine W.loop (ι := Nat) (fun j => [(0, .d (.sl 3 (l.map Ev.enc))), (3, .ptr b3 0), (4, .vs o 0 k 8), (6, .ptr b6 0), (7, .ptr b7 0), (10, .d (.sl 3 (l.map Ev.enc))), (11, .d (.int .i64 l.length)), (12, .d (.int .i64 (k : Nat))), (32, .d (.agg (vD (vsrc (vst l k).2 l k x)))), (33, .d (.int .i64 (j : Nat)))]) (fun j => (b7, .cells (cellsI 8 (mgU (vbase (vst l k).1 x) (vsrc (vst l k).2 l k x) j))) :: (b6, .cells (x.enc.map .d)) :: (b3, .cells (cellsI 64 (vst l k).1)) :: (o, .lst 8 ((vst l k).2.map vD)) :: hs) (fun j => j ≤ 8) (fun j => 8 - j) 0 ?_ ?_ ?_ ?_
          · exact Nat.zero_le _
          · exact ⟨by first | rfl | exact int_eq (by omega) | exact len_eq (by simp) | exact int_eq (by simp; done), by first | rfl | exact int_eq (by omega) | exact len_eq (by simp) | exact int_eq (by simp; done), by first | rfl | exact int_eq (by omega) | exact len_eq (by simp) | exact int_eq (by simp; done), by first | rfl | exact int_eq (by omega) | exact len_eq (by simp) | exact int_eq (by simp; done), by first | rfl | exact int_eq (by omega) | exact len_eq (by simp) | exact int_eq (by simp; done), by first | rfl | exact int_eq (by omega) | exact len_eq (by simp) | exact int_eq (by simp; done), by first | rfl | exact int_eq (by omega) | exact len_eq (by simp) | exact int_eq (by simp; done), by first | rfl | exact int_eq (by omega) | exact len_eq (by simp) | exact int_eq (by simp; done), by first | rfl | exact int_eq (by omega) | exact len_eq (by simp) | exact int_eq (by simp; done), by first | rfl | exact int_eq (by omega) | exact len_eq (by simp) | exact int_eq (by simp; done), trivial⟩
          · (rw [mgU_zero]; exact HLe.refl _)
          · rintro j hj
            try dsimp only
            refine W.reg ?_
            first
              | refine XOps.s rfl rfl rfl (Q.lss rfl rfl) ?_
              | refine XOps.s rfl rfl rfl (Q.lss_str rfl rfl) ?_
            refine XOps.nil ?_
            refine W.seq ?_
            refine W.cond rfl (fun hc34 => ?_) (fun hc34 => ?_)
            · try simp only [Bool.or_eq_true, Bool.or_eq_false_iff, Bool.and_eq_true, Bool.and_eq_false_iff, decide_eq_true_eq, decide_eq_false_iff_not, Bool.not_eq_true', Bool.not_eq_false', Int.not_lt, Int.not_le, List.length_map] at hc34
              have hcell : (cellsI 8 (mgU (vbase (vst l k).1 x) (vsrc (vst l k).2 l k x) j))[0 + ((j : Nat) : Int).toNat * 1]? = some (.d (.int .i64 ((vbase (vst l k).1 x) j))) := by
                rw [int_toNat_mul, cellsI_at _ (by omega)]; unfold mgU; rw [if_neg (by omega)]
              have hoff : Nat.blt (0 + ((j : Nat) : Int).toNat * 1) (cellsI 8 (mgU (vbase (vst l k).1 x) (vsrc (vst l k).2 l k x) j)).length = true := by rw [cellsI_len, Nat.blt_eq]; omega
              refine W.skip ?_
              refine W.seq ?_
              refine W.block ?_
              refine W.reg ?_
              first
                | refine XOps.s rfl rfl rfl (Q.move_d rfl) ?_
                | refine XOps.s rfl rfl rfl (Q.move_vs rfl) ?_
                | refine XOps.s rfl rfl rfl (Q.move_ptr rfl) ?_
                | refine XOps.s rfl rfl rfl (Q.move_nilsl rfl) ?_
                | refine XOps.s rfl rfl rfl (Q.move_fn rfl) ?_
                | refine XOps.s rfl rfl rfl (Q.move_tup rfl) ?_
                | refine XOps.s rfl rfl rfl (Q.move_ep rfl) ?_
                | refine XOps.s rfl rfl rfl (Q.move_dp rfl) ?_
                | refine XOps.s rfl rfl rfl (Q.move_dcut rfl) ?_
                | refine XOps.s rfl rfl rfl (Q.move_aggv rfl) ?_
                | refine XOps.s rfl rfl rfl (Q.move rfl) ?_
              refine XOps.s rfl rfl rfl (Q.idx_agg1 ar48 are48 rfl rfl (by omega) (by omega) (vD_at _ (by omega))) ?_
              first
                | refine XOps.s rfl rfl rfl (Q.assign_d rfl) ?_
                | refine XOps.s rfl rfl rfl (Q.assign_vs rfl) ?_
                | refine XOps.s rfl rfl rfl (Q.assign_ptr rfl) ?_
                | refine XOps.s rfl rfl rfl (Q.assign_nilsl rfl) ?_
                | refine XOps.s rfl rfl rfl (Q.assign_fn rfl) ?_
                | refine XOps.s rfl rfl rfl (Q.assign_tup rfl) ?_
                | refine XOps.s rfl rfl rfl (Q.assign_ep rfl) ?_
                | refine XOps.s rfl rfl rfl (Q.assign_dp rfl) ?_
                | refine XOps.s rfl rfl rfl (Q.assign_dcut rfl) ?_
                | refine XOps.s rfl rfl rfl (Q.assign_aggv rfl) ?_
                | refine XOps.s rfl rfl rfl (Q.assign rfl) ?_
              first
                | refine XOps.s rfl rfl rfl (Q.assign_d rfl) ?_
                | refine XOps.s rfl rfl rfl (Q.assign_vs rfl) ?_
                | refine XOps.s rfl rfl rfl (Q.assign_ptr rfl) ?_
                | refine XOps.s rfl rfl rfl (Q.assign_nilsl rfl) ?_
                | refine XOps.s rfl rfl rfl (Q.assign_fn rfl) ?_
                | refine XOps.s rfl rfl rfl (Q.assign_tup rfl) ?_
                | refine XOps.s rfl rfl rfl (Q.assign_ep rfl) ?_
                | refine XOps.s rfl rfl rfl (Q.assign_dp rfl) ?_
                | refine XOps.s rfl rfl rfl (Q.assign_dcut rfl) ?_
                | refine XOps.s rfl rfl rfl (Q.assign_aggv rfl) ?_
                | refine XOps.s rfl rfl rfl (Q.assign rfl) ?_
              refine XOps.nil ?_
              refine W.region ?_
              first
                | refine XOps.s rfl rfl rfl (Q.move_d rfl) ?_
                | refine XOps.s rfl rfl rfl (Q.move_vs rfl) ?_
                | refine XOps.s rfl rfl rfl (Q.move_ptr rfl) ?_
                | refine XOps.s rfl rfl rfl (Q.move_nilsl rfl) ?_
                | refine XOps.s rfl rfl rfl (Q.move_fn rfl) ?_
                | refine XOps.s rfl rfl rfl (Q.move_tup rfl) ?_
                | refine XOps.s rfl rfl rfl (Q.move_ep rfl) ?_
                | refine XOps.s rfl rfl rfl (Q.move_dp rfl) ?_
                | refine XOps.s rfl rfl rfl (Q.move_dcut rfl) ?_
                | refine XOps.s rfl rfl rfl (Q.move_aggv rfl) ?_
                | refine XOps.s rfl rfl rfl (Q.move rfl) ?_
              first
                | refine XOps.s rfl rfl rfl (Q.move_d rfl) ?_
                | refine XOps.s rfl rfl rfl (Q.move_vs rfl) ?_
                | refine XOps.s rfl rfl rfl (Q.move_ptr rfl) ?_
                | refine XOps.s rfl rfl rfl (Q.move_nilsl rfl) ?_
                | refine XOps.s rfl rfl rfl (Q.move_fn rfl) ?_
                | refine XOps.s rfl rfl rfl (Q.move_tup rfl) ?_
                | refine XOps.s rfl rfl rfl (Q.move_ep rfl) ?_
                | refine XOps.s rfl rfl rfl (Q.move_dp rfl) ?_
                | refine XOps.s rfl rfl rfl (Q.move_dcut rfl) ?_
                | refine XOps.s rfl rfl rfl (Q.move_aggv rfl) ?_
                | refine XOps.s rfl rfl rfl (Q.move rfl) ?_
              first
                | refine XOps.s rfl rfl rfl (Q.idx_arr ar48 rfl rfl (by first | omega | (simp at hg; omega)) (by first | omega | (simp at hg; omega))) ?_
                | refine XOps.s rfl rfl rfl (Q.idx_darr ar48 rfl rfl (by first | omega | (simp at hg; omega)) (by first | omega | (simp at hg; omega))) ?_
              refine XOps.s rfl rfl rfl (Q.ld_ptr (k := 0) ag3 rfl rfl hcell) ?_
              first
                | refine XOps.s rfl rfl rfl (Q.move_d rfl) ?_
                | refine XOps.s rfl rfl rfl (Q.move_vs rfl) ?_
                | refine XOps.s rfl rfl rfl (Q.move_ptr rfl) ?_
                | refine XOps.s rfl rfl rfl (Q.move_nilsl rfl) ?_
                | refine XOps.s rfl rfl rfl (Q.move_fn rfl) ?_
                | refine XOps.s rfl rfl rfl (Q.move_tup rfl) ?_
                | refine XOps.s rfl rfl rfl (Q.move_ep rfl) ?_
                | refine XOps.s rfl rfl rfl (Q.move_dp rfl) ?_
                | refine XOps.s rfl rfl rfl (Q.move_dcut rfl) ?_
                | refine XOps.s rfl rfl rfl (Q.move_aggv rfl) ?_
                | refine XOps.s rfl rfl rfl (Q.move rfl) ?_
              refine XOps.s rfl rfl rfl (Q.maxi rfl rfl) ?_
              first
                | refine XOps.s rfl rfl rfl (Q.idx_arr ar48 rfl rfl (by first | omega | (simp at hg; omega)) (by first | omega | (simp at hg; omega))) ?_
                | refine XOps.s rfl rfl rfl (Q.idx_darr ar48 rfl rfl (by first | omega | (simp at hg; omega)) (by first | omega | (simp at hg; omega))) ?_
              (refine XOps.loud rfl (L.store (k := 0) ag3 rfl rfl hoff rfl rfl) ?_; rintro _ _ ⟨rfl, rfl⟩)
              refine XOps.nil ?_
              refine W.region ?_
              first
                | refine XOps.s rfl rfl rfl (Q.add rfl rfl (wi64 (by first | omega | (dsimp only; omega) | (simp only [List.length_map]; omega)) (by first | omega | (dsimp only; omega) | (simp only [List.length_map]; omega)))) ?_
                | refine XOps.s rfl rfl rfl (Q.add rfl rfl rfl) ?_
                | refine XOps.s rfl rfl rfl (Q.adds rfl rfl (by first | omega | (simp at hg; omega))) ?_
              first
                | refine XOps.s rfl rfl rfl (Q.move_d rfl) ?_
                | refine XOps.s rfl rfl rfl (Q.move_vs rfl) ?_
                | refine XOps.s rfl rfl rfl (Q.move_ptr rfl) ?_
                | refine XOps.s rfl rfl rfl (Q.move_nilsl rfl) ?_
                | refine XOps.s rfl rfl rfl (Q.move_fn rfl) ?_
                | refine XOps.s rfl rfl rfl (Q.move_tup rfl) ?_
                | refine XOps.s rfl rfl rfl (Q.move_ep rfl) ?_
                | refine XOps.s rfl rfl rfl (Q.move_dp rfl) ?_
                | refine XOps.s rfl rfl rfl (Q.move_dcut rfl) ?_
                | refine XOps.s rfl rfl rfl (Q.move_aggv rfl) ?_
                | refine XOps.s rfl rfl rfl (Q.move rfl) ?_
              refine XOps.nil ?_
              refine ⟨j + 1, ?_, ?_, ?_, ?_⟩
              · omega
              · omega
              · exact ⟨by first | rfl | exact int_eq (by omega) | exact len_eq (by simp) | exact int_eq (by simp; done), by first | rfl | exact int_eq (by omega) | exact len_eq (by simp) | exact int_eq (by simp; done), by first | rfl | exact int_eq (by omega) | exact len_eq (by simp) | exact int_eq (by simp; done), by first | rfl | exact int_eq (by omega) | exact len_eq (by simp) | exact int_eq (by simp; done), by first | rfl | exact int_eq (by omega) | exact len_eq (by simp) | exact int_eq (by simp; done), by first | rfl | exact int_eq (by omega) | exact len_eq (by simp) | exact int_eq (by simp; done), by first | rfl | exact int_eq (by omega) | exact len_eq (by simp) | exact int_eq (by simp; done), by first | rfl | exact int_eq (by omega) | exact len_eq (by simp) | exact int_eq (by simp; done), by first | rfl | exact int_eq (by omega) | exact len_eq (by simp) | exact int_eq (by simp; done), by first | rfl | exact int_eq (by omega) | exact len_eq (by simp) | exact int_eq (by simp; done), trivial⟩
              · exact HLe.cons' (cells_upd (int_toNat_mul j) (by omega) rfl (mgU_step _ _ _)) (HLe.refl _)
            · try simp only [Bool.or_eq_true, Bool.or_eq_false_iff, Bool.and_eq_true, Bool.and_eq_false_iff, decide_eq_true_eq, decide_eq_false_iff_not, Bool.not_eq_true', Bool.not_eq_false', Int.not_lt, Int.not_le, List.length_map] at hc34
              obtain rfl : j = 8 := by omega
              refine W.exit ?_
              refine ⟨(), trivial, ⟨by first | rfl | exact int_eq (by omega) | exact len_eq (by simp) | exact int_eq (by simp; done), by first | rfl | exact int_eq (by omega) | exact len_eq (by simp) | exact int_eq (by simp; done), by first | rfl | exact int_eq (by omega) | exact len_eq (by simp) | exact int_eq (by simp; done), by first | rfl | exact int_eq (by omega) | exact len_eq (by simp) | exact int_eq (by simp; done), by first | rfl | exact int_eq (by omega) | exact len_eq (by simp) | exact int_eq (by simp; done), by first | rfl | exact int_eq (by omega) | exact len_eq (by simp) | exact int_eq (by simp; done), by first | rfl | exact int_eq (by omega) | exact len_eq (by simp) | exact int_eq (by simp; done), by first | rfl | exact int_eq (by omega) | exact len_eq (by simp) | exact int_eq (by simp; done), trivial⟩, by first | exact HLe.refl _ | exact HLe.cons' (congrArg HO.cells hme.symm) (HLe.refl _)⟩
        · try simp only [Bool.or_eq_true, Bool.or_eq_false_iff, Bool.and_eq_true, Bool.and_eq_false_iff, decide_eq_true_eq, decide_eq_false_iff_not, Bool.not_eq_true', Bool.not_eq_false', Int.not_lt, Int.not_le, List.length_map] at hc23
          have hme : cellsI 8 (vbase (vst l k).1 x) = cellsI 8 (vmrg (vst l k).1 (vst l k).2 l k x) := cellsI_ext fun j hj => by unfold vmrg; rw [if_neg hc23]
          refine W.skip ?_
          refine ⟨(), trivial, ⟨by first | rfl | exact int_eq (by omega) | exact len_eq (by simp) | exact int_eq (by simp; done), by first | rfl | exact int_eq (by omega) | exact len_eq (by simp) | exact int_eq (by simp; done), by first | rfl | exact int_eq (by omega) | exact len_eq (by simp) | exact int_eq (by simp; done), by first | rfl | exact int_eq (by omega) | exact len_eq (by simp) | exact int_eq (by simp; done), by first | rfl | exact int_eq (by omega) | exact len_eq (by simp) | exact int_eq (by simp; done), by first | rfl | exact int_eq (by omega) | exact len_eq (by simp) | exact int_eq (by simp; done), by first | rfl | exact int_eq (by omega) | exact len_eq (by simp) | exact int_eq (by simp; done), by first | rfl | exact int_eq (by omega) | exact len_eq (by simp) | exact int_eq (by simp; done), trivial⟩, by first | exact HLe.refl _ | exact HLe.cons' (congrArg HO.cells hme.symm) (HLe.refl _)⟩
      · rintro σ₁ hs₁ ⟨_, _, he, hh⟩
        refine W.le _ _ he hh ?_
        clear he hh
        refine W.reg ?_
        first
          | refine XOps.s rfl rfl rfl (Q.fld_ptr fl26_0 rfl) ?_
          | refine XOps.s rfl rfl rfl (Q.fld_dp fl26_0 rfl) ?_
          | refine XOps.s rfl rfl rfl (Q.fld_ep fl26_0 rfl) ?_
        first
          | refine XOps.s rfl rfl rfl (Q.ld_dp ag3 rfl rfl) ?_
          | refine XOps.s rfl rfl rfl (Q.ld_ptr (k := 0) ag3 rfl rfl rfl) ?_
          | refine XOps.s rfl rfl rfl (Q.ld_ptr (k := 1) ag3 rfl rfl rfl) ?_
          | refine XOps.s rfl rfl rfl (Q.ld_ptr (k := 2) ag3 rfl rfl rfl) ?_
          | refine XOps.s rfl rfl rfl (Q.ld_ptr (k := 3) ag3 rfl rfl rfl) ?_
          | refine XOps.s rfl rfl rfl (Q.ld_ptr (k := 4) ag3 rfl rfl rfl) ?_
          | refine XOps.s rfl rfl rfl (Q.ld_ptr (k := 5) ag3 rfl rfl rfl) ?_
          | refine XOps.s rfl rfl rfl (Q.ld_ep (k := 0) ag3 rfl rfl (by first | exact map_at (by assumption) | exact map_at0 (by assumption) | assumption) rfl) ?_
          | refine XOps.s rfl rfl rfl (Q.ld_ep (k := 1) ag3 rfl rfl (by first | exact map_at (by assumption) | exact map_at0 (by assumption) | assumption) rfl) ?_
          | refine XOps.s rfl rfl rfl (Q.ld_ep (k := 2) ag3 rfl rfl (by first | exact map_at (by assumption) | exact map_at0 (by assumption) | assumption) rfl) ?_
          | refine XOps.s rfl rfl rfl (Q.ld_ep (k := 3) ag3 rfl rfl (by first | exact map_at (by assumption) | exact map_at0 (by assumption) | assumption) rfl) ?_
          | refine XOps.s rfl rfl rfl (Q.ld_ep (k := 4) ag3 rfl rfl (by first | exact map_at (by assumption) | exact map_at0 (by assumption) | assumption) rfl) ?_
          | refine XOps.s rfl rfl rfl (Q.ld_ep (k := 5) ag3 rfl rfl (by first | exact map_at (by assumption) | exact map_at0 (by assumption) | assumption) rfl) ?_
        first
          | refine XOps.s rfl rfl rfl (Q.idx_arr ar48 rfl rfl (by first | omega | (simp at hg; omega)) (by first | omega | (simp at hg; omega))) ?_
          | refine XOps.s rfl rfl rfl (Q.idx_darr ar48 rfl rfl (by first | omega | (simp at hg; omega)) (by first | omega | (simp at hg; omega))) ?_
        refine XOps.s rfl rfl rfl (Q.ld_ptr (k := 0) ag3 rfl rfl hcell2) ?_
        first
          | refine XOps.s rfl rfl rfl (Q.add rfl rfl (wi64 (by first | omega | (dsimp only; omega) | (simp only [List.length_map]; omega)) (by first | omega | (dsimp only; omega) | (simp only [List.length_map]; omega)))) ?_
          | refine XOps.s rfl rfl rfl (Q.add rfl rfl rfl) ?_
          | refine XOps.s rfl rfl rfl (Q.adds rfl rfl (by first | omega | (simp at hg; omega))) ?_
        first
          | refine XOps.s rfl rfl rfl (Q.idx_arr ar48 rfl rfl (by first | omega | (simp at hg; omega)) (by first | omega | (simp at hg; omega))) ?_
          | refine XOps.s rfl rfl rfl (Q.idx_darr ar48 rfl rfl (by first | omega | (simp at hg; omega)) (by first | omega | (simp at hg; omega))) ?_
        (refine XOps.loud rfl (L.store (k := 0) ag3 rfl rfl hoff2 rfl rfl) ?_; rintro _ _ ⟨rfl, rfl⟩)
        refine XOps.nil ?_
        refine W.heap ((b7, .cells (cellsI 8 (vnew (vst l k).1 (vst l k).2 l k x))) :: (b6, .cells (x.enc.map .d)) :: (b3, .cells (cellsI 64 (vst l k).1)) :: (o, .lst 8 ((vst l k).2.map vD)) :: hs) (HLe.cons' (cells_upd (show 0 + x.site.toNat * 1 = x.site.toNat by omega) hs8 rfl rfl) (HLe.refl _)) ?_
        refine W.reg ?_
        first
          | refine XOps.s rfl rfl rfl (Q.fld_ptr fl26_0 rfl) ?_
          | refine XOps.s rfl rfl rfl (Q.fld_dp fl26_0 rfl) ?_
          | refine XOps.s rfl rfl rfl (Q.fld_ep fl26_0 rfl) ?_
        first
          | refine XOps.s rfl rfl rfl (Q.ld_dp ag3 rfl rfl) ?_
          | refine XOps.s rfl rfl rfl (Q.ld_ptr (k := 0) ag3 rfl rfl rfl) ?_
          | refine XOps.s rfl rfl rfl (Q.ld_ptr (k := 1) ag3 rfl rfl rfl) ?_
          | refine XOps.s rfl rfl rfl (Q.ld_ptr (k := 2) ag3 rfl rfl rfl) ?_
          | refine XOps.s rfl rfl rfl (Q.ld_ptr (k := 3) ag3 rfl rfl rfl) ?_
          | refine XOps.s rfl rfl rfl (Q.ld_ptr (k := 4) ag3 rfl rfl rfl) ?_
          | refine XOps.s rfl rfl rfl (Q.ld_ptr (k := 5) ag3 rfl rfl rfl) ?_
          | refine XOps.s rfl rfl rfl (Q.ld_ep (k := 0) ag3 rfl rfl (by first | exact map_at (by assumption) | exact map_at0 (by assumption) | assumption) rfl) ?_
          | refine XOps.s rfl rfl rfl (Q.ld_ep (k := 1) ag3 rfl rfl (by first | exact map_at (by assumption) | exact map_at0 (by assumption) | assumption) rfl) ?_
          | refine XOps.s rfl rfl rfl (Q.ld_ep (k := 2) ag3 rfl rfl (by first | exact map_at (by assumption) | exact map_at0 (by assumption) | assumption) rfl) ?_
          | refine XOps.s rfl rfl rfl (Q.ld_ep (k := 3) ag3 rfl rfl (by first | exact map_at (by assumption) | exact map_at0 (by assumption) | assumption) rfl) ?_
          | refine XOps.s rfl rfl rfl (Q.ld_ep (k := 4) ag3 rfl rfl (by first | exact map_at (by assumption) | exact map_at0 (by assumption) | assumption) rfl) ?_
          | refine XOps.s rfl rfl rfl (Q.ld_ep (k := 5) ag3 rfl rfl (by first | exact map_at (by assumption) | exact map_at0 (by assumption) | assumption) rfl) ?_
        refine XOps.s rfl rfl rfl (Q.ld_ptrn (k := 0) ag48 rfl rfl (cells8_take _)) ?_
        first
          | refine XOps.s rfl rfl rfl (Q.idx_arr ar56 rfl rfl (by first | omega | (simp at hg; omega)) (by first | omega | (simp at hg; omega))) ?_
          | refine XOps.s rfl rfl rfl (Q.idx_darr ar56 rfl rfl (by first | omega | (simp at hg; omega)) (by first | omega | (simp at hg; omega))) ?_
        (refine XOps.loud rfl (L.storen (k := 2) ag48 rfl rfl rfl rfl hoff3) ?_; rintro _ _ ⟨rfl, rfl⟩)
        refine XOps.nil ?_
        refine W.heap ((b7, .cells (cellsI 8 (vnew (vst l k).1 (vst l k).2 l k x))) :: (b6, .cells (x.enc.map .d)) :: (b3, .cells (cellsI 64 (updR (vst l k).1 x.site.toNat (vnew (vst l k).1 (vst l k).2 l k x)))) :: (o, .lst 8 ((vst l k).2.map vD)) :: hs) (HLe.cons _ (HLe.cons _ (HLe.cons' (congrArg HO.cells (by rw [vD_len, Nat.zero_add]; exact (row_store _ hs8 _).symm)) (HLe.refl _)))) ?_
        refine W.region ?_
        first
          | refine XOps.s rfl rfl rfl (Q.move_d rfl) ?_
          | refine XOps.s rfl rfl rfl (Q.move_vs rfl) ?_
          | refine XOps.s rfl rfl rfl (Q.move_ptr rfl) ?_
          | refine XOps.s rfl rfl rfl (Q.move_nilsl rfl) ?_
          | refine XOps.s rfl rfl rfl (Q.move_fn rfl) ?_
          | refine XOps.s rfl rfl rfl (Q.move_tup rfl) ?_
          | refine XOps.s rfl rfl rfl (Q.move_ep rfl) ?_
          | refine XOps.s rfl rfl rfl (Q.move_dp rfl) ?_
          | refine XOps.s rfl rfl rfl (Q.move_dcut rfl) ?_
          | refine XOps.s rfl rfl rfl (Q.move_aggv rfl) ?_
          | refine XOps.s rfl rfl rfl (Q.move rfl) ?_
        refine XOps.s rfl rfl rfl (Q.ld_ptrn (k := 0) ag48 rfl rfl (cells8_take _)) ?_
        first
          | refine XOps.s rfl rfl rfl (Q.bsl1 sl46 zr46 rfl zrd46 rfl rfl) ?_
          | refine XOps.s rfl rfl rfl (Q.bsl1n sl46 (by decide) zr46 rfl zrd46 rfl rfl (by decide)) ?_
          | refine XOps.s rfl rfl rfl (Q.bsl sl46 (by decide) zr46 rfl zrd46 (by decide) rfl rfl) ?_
        first
          | (refine XOps.loud rfl (L.app_new ap46 (.inl rfl) (by first | exact .inl rfl | exact .inr (by simp)) rfl (by simp [vst_len]; omega) rfl) ?_; rintro _ _ ⟨v58, rfl, rfl⟩)
          | (refine XOps.loud rfl (L.app_new (rows := []) ap46 (.inr ⟨rfl, rfl⟩) (.inl rfl) rfl (by simp [vst_len]; omega) rfl) ?_; rintro _ _ ⟨v58, rfl, rfl⟩)
          | (refine XOps.loud rfl (L.app (k := 0) ap46 rfl rfl (by first | rfl | (simp [List.length_map, vst_len]; done)) rfl (by simp [vst_len]; omega) rfl) ?_; rintro _ _ ⟨v58, rfl, rfl⟩)
          | (refine XOps.loud rfl (L.app (k := 1) ap46 rfl rfl (by first | rfl | (simp [List.length_map, vst_len]; done)) rfl (by simp [vst_len]; omega) rfl) ?_; rintro _ _ ⟨v58, rfl, rfl⟩)
          | (refine XOps.loud rfl (L.app (k := 2) ap46 rfl rfl (by first | rfl | (simp [List.length_map, vst_len]; done)) rfl (by simp [vst_len]; omega) rfl) ?_; rintro _ _ ⟨v58, rfl, rfl⟩)
          | (refine XOps.loud rfl (L.app (k := 3) ap46 rfl rfl (by first | rfl | (simp [List.length_map, vst_len]; done)) rfl (by simp [vst_len]; omega) rfl) ?_; rintro _ _ ⟨v58, rfl, rfl⟩)
          | (refine XOps.loud rfl (L.app (k := 4) ap46 rfl rfl (by first | rfl | (simp [List.length_map, vst_len]; done)) rfl (by simp [vst_len]; omega) rfl) ?_; rintro _ _ ⟨v58, rfl, rfl⟩)
          | (refine XOps.loud rfl (L.app (k := 5) ap46 rfl rfl (by first | rfl | (simp [List.length_map, vst_len]; done)) rfl (by simp [vst_len]; omega) rfl) ?_; rintro _ _ ⟨v58, rfl, rfl⟩)
          | (refine XOps.loud rfl (L.app_in (k := 0) ap46 rfl rfl rfl (by simp [vst_len]; omega) (by simp [vst_len]; omega) rfl) ?_; rintro _ _ ⟨rfl, rfl⟩)
          | (refine XOps.loud rfl (L.app_in (k := 1) ap46 rfl rfl rfl (by simp [vst_len]; omega) (by simp [vst_len]; omega) rfl) ?_; rintro _ _ ⟨rfl, rfl⟩)
          | (refine XOps.loud rfl (L.app_in (k := 2) ap46 rfl rfl rfl (by simp [vst_len]; omega) (by simp [vst_len]; omega) rfl) ?_; rintro _ _ ⟨rfl, rfl⟩)
          | (refine XOps.loud rfl (L.app_in (k := 3) ap46 rfl rfl rfl (by simp [vst_len]; omega) (by simp [vst_len]; omega) rfl) ?_; rintro _ _ ⟨rfl, rfl⟩)
          | (refine XOps.loud rfl (L.app_in (k := 4) ap46 rfl rfl rfl (by simp [vst_len]; omega) (by simp [vst_len]; omega) rfl) ?_; rintro _ _ ⟨rfl, rfl⟩)
          | (refine XOps.loud rfl (L.app_in (k := 5) ap46 rfl rfl rfl (by simp [vst_len]; omega) (by simp [vst_len]; omega) rfl) ?_; rintro _ _ ⟨rfl, rfl⟩)
        first
          | refine XOps.s rfl rfl rfl (Q.assign_d rfl) ?_
          | refine XOps.s rfl rfl rfl (Q.assign_vs rfl) ?_
          | refine XOps.s rfl rfl rfl (Q.assign_ptr rfl) ?_
          | refine XOps.s rfl rfl rfl (Q.assign_nilsl rfl) ?_
          | refine XOps.s rfl rfl rfl (Q.assign_fn rfl) ?_
          | refine XOps.s rfl rfl rfl (Q.assign_tup rfl) ?_
          | refine XOps.s rfl rfl rfl (Q.assign_ep rfl) ?_
          | refine XOps.s rfl rfl rfl (Q.assign_dp rfl) ?_
          | refine XOps.s rfl rfl rfl (Q.assign_dcut rfl) ?_
          | refine XOps.s rfl rfl rfl (Q.assign_aggv rfl) ?_
          | refine XOps.s rfl rfl rfl (Q.assign rfl) ?_
        refine XOps.nil ?_
        refine W.region ?_
        first
          | refine XOps.s rfl rfl rfl (Q.add rfl rfl (wi64 (by first | omega | (dsimp only; omega) | (simp only [List.length_map]; omega)) (by first | omega | (dsimp only; omega) | (simp only [List.length_map]; omega)))) ?_
          | refine XOps.s rfl rfl rfl (Q.add rfl rfl rfl) ?_
          | refine XOps.s rfl rfl rfl (Q.adds rfl rfl (by first | omega | (simp at hg; omega))) ?_
        first
          | refine XOps.s rfl rfl rfl (Q.move_d rfl) ?_
          | refine XOps.s rfl rfl rfl (Q.move_vs rfl) ?_
          | refine XOps.s rfl rfl rfl (Q.move_ptr rfl) ?_
          | refine XOps.s rfl rfl rfl (Q.move_nilsl rfl) ?_
          | refine XOps.s rfl rfl rfl (Q.move_fn rfl) ?_
          | refine XOps.s rfl rfl rfl (Q.move_tup rfl) ?_
          | refine XOps.s rfl rfl rfl (Q.move_ep rfl) ?_
          | refine XOps.s rfl rfl rfl (Q.move_dp rfl) ?_
          | refine XOps.s rfl rfl rfl (Q.move_dcut rfl) ?_
          | refine XOps.s rfl rfl rfl (Q.move_aggv rfl) ?_
          | refine XOps.s rfl rfl rfl (Q.move rfl) ?_
        refine XOps.nil ?_
        refine ⟨(k + 1, v58), ?_, ?_, ?_, ?_⟩
        · dsimp only; omega
        · dsimp only; omega
        · exact ⟨by first | rfl | exact int_eq (by omega) | exact len_eq (by simp) | exact int_eq (by simp; done), by first | rfl | exact int_eq (by omega) | exact len_eq (by simp) | exact int_eq (by simp; done), by (show AV.vs v58 0 (((vst l k).2.map vD).length + 1) 8 = AV.vs v58 0 (k + 1) 8; simp [vst_len]), by first | rfl | exact int_eq (by omega) | exact len_eq (by simp) | exact int_eq (by simp; done), by first | rfl | exact int_eq (by omega) | exact len_eq (by simp) | exact int_eq (by simp; done), by exact int_eq (by dsimp only; omega), trivial⟩
        · exact HLe.pick 3 rfl (by rw [hstep]) (HLe.pick 0 rfl (by rw [hstep, List.map_append]; rfl) (HLe.skip _ (HLe.skip _ (HLe.refl _))))
    · try simp only [Bool.or_eq_true, Bool.or_eq_false_iff, Bool.and_eq_true, Bool.and_eq_false_iff, decide_eq_true_eq, decide_eq_false_iff_not, Bool.not_eq_true', Bool.not_eq_false', Int.not_lt, Int.not_le, List.length_map] at hc13
      obtain rfl : k = l.length := by omega
      refine W.exit ?_
      refine W.reg ?_
      first
        | refine XOps.s rfl rfl rfl (Q.move_d rfl) ?_
        | refine XOps.s rfl rfl rfl (Q.move_vs rfl) ?_
        | refine XOps.s rfl rfl rfl (Q.move_ptr rfl) ?_
        | refine XOps.s rfl rfl rfl (Q.move_nilsl rfl) ?_
        | refine XOps.s rfl rfl rfl (Q.move_fn rfl) ?_
        | refine XOps.s rfl rfl rfl (Q.move_tup rfl) ?_
        | refine XOps.s rfl rfl rfl (Q.move_ep rfl) ?_
        | refine XOps.s rfl rfl rfl (Q.move_dp rfl) ?_
        | refine XOps.s rfl rfl rfl (Q.move_dcut rfl) ?_
        | refine XOps.s rfl rfl rfl (Q.move_aggv rfl) ?_
        | refine XOps.s rfl rfl rfl (Q.move rfl) ?_
      first
        | refine XOps.s rfl rfl rfl (Q.assign_d rfl) ?_
        | refine XOps.s rfl rfl rfl (Q.assign_vs rfl) ?_
        | refine XOps.s rfl rfl rfl (Q.assign_ptr rfl) ?_
        | refine XOps.s rfl rfl rfl (Q.assign_nilsl rfl) ?_
        | refine XOps.s rfl rfl rfl (Q.assign_fn rfl) ?_
        | refine XOps.s rfl rfl rfl (Q.assign_tup rfl) ?_
        | refine XOps.s rfl rfl rfl (Q.assign_ep rfl) ?_
        | refine XOps.s rfl rfl rfl (Q.assign_dp rfl) ?_
        | refine XOps.s rfl rfl rfl (Q.assign_dcut rfl) ?_
        | refine XOps.s rfl rfl rfl (Q.assign_aggv rfl) ?_
        | refine XOps.s rfl rfl rfl (Q.assign rfl) ?_
      refine XOps.nil ?_
      refine W.ret ?_
      exact ⟨_, (o, .lst 8 ((vecS l).map vD)) :: hs, rfl, HLe.skip _ (HLe.refl _), o, rfl, rfl⟩

theorem vectors_c (l : List Ev) (hs : Hp) (hw : WF l) : AC P 21 [.d (.sl 3 (l.map Ev.enc))] hs (fun r h => r = .d (.sl 8 ((vecS l).map vD)) ∧ h = hs) :=
  AC.frz ((vectors_own l hs hw).mono fun r h ⟨v, h1, h2⟩ => ⟨v, h2, h1 ▸ .vs (by simp [vecS_len])⟩)
end Go.Proofs.YtjmadiegikbjpaaA
