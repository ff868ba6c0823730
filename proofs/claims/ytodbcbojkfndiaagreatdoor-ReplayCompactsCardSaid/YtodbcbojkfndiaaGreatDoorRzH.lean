/- Compact; the law ReplayCompacts. -/
import Derived.Test.YtodbcbojkfndiaaGreatDoorFrB
import Derived.Test.YtodbcbojkfndiaaGreatDoorRzE
import Derived.Test.YtodbcbojkfndiaaGreatDoorRzG
import Derived.Test.YtodbcbojkfndiaaGreatDoorRep5
set_option linter.unusedVariables false
set_option linter.unusedSimpArgs false
set_option linter.unnecessarySimpa false
namespace Go.Proofs.YtodbcbojkfndiaaGreatDoorA.FRzH
open Go
theorem go10 : callGo Go.Proofs.Tryz.f10 = true := by kernel_rfl
theorem go11 : callGo Go.Proofs.Tryz.f11 = true := by kernel_rfl
theorem go12 : callGo Go.Proofs.Tryz.f12 = true := by kernel_rfl
theorem go13 : callGo Go.Proofs.Tryz.f13 = true := by kernel_rfl
theorem go20 : callGo Go.Proofs.Tryz.f20 = true := by kernel_rfl
theorem go4 : callGo Go.Proofs.Tryz.f4 = true := by kernel_rfl
theorem go5 : callGo Go.Proofs.Tryz.f5 = true := by kernel_rfl
theorem go6 : callGo Go.Proofs.Tryz.f6 = true := by kernel_rfl
theorem go7 : callGo Go.Proofs.Tryz.f7 = true := by kernel_rfl
theorem go8 : callGo Go.Proofs.Tryz.f8 = true := by kernel_rfl
theorem go9 : callGo Go.Proofs.Tryz.f9 = true := by kernel_rfl
theorem ipt23 : isPtr P 23 = true := by kernel_rfl
theorem isl22 : isSl P 22 = true := by kernel_rfl
theorem isl28 : isSl P 28 = true := by kernel_rfl
theorem ist9 : isStr P 9 = true := by kernel_rfl
theorem sl22 : tSl P 22 = some (4) := by kernel_rfl
end Go.Proofs.YtodbcbojkfndiaaGreatDoorA.FRzH
namespace Go.Proofs.YtodbcbojkfndiaaGreatDoorA
open Go FRzH
attribute [local irreducible] XOps Quiet Loud W AC GQ DT
theorem rec_all {l : List EN} (h : Okl l) : recL (bs (bytesL l)) = l := by
  unfold recL
  have h1 := (rec_front l [] (bs (bytesL l)) ⟨#[]⟩ ((bs (bytesL l)).size + 1) (by simpa using h) (by omega) (by rw [bl_bs]; exact (List.append_nil _).symm)).1
  rw [h1, List.nil_append, rec_stop]
  unfold stopR
  have h2 : decE ⟨#[]⟩ = 5 := by decide +kernel
  rw [h2]; rfl
theorem all_c {l : List EN} {b f : Nat} {hs : Hp} (k k2 : Nat) (h1 : hs[k]? = some (b, .cells (reC l f))) (h2 : hs[k2]? = some (f, .lst 4 (l.map EN.enc))) (hl : l.length ≤ 500) :
    AC P 7 [.ptr b 0, .d (.int .i64 1)] hs (fun r h => r = .d (.sl 4 (l.map EN.enc)) ∧ h = hs) := entries_c 1 k k2 h1 h2 hl
theorem cut_front {es : List EN} {j : Nat} : ((es.take ((j : Nat) : Int).toNat).drop (0 : Int).toNat) = es.take j := by rw [Int.toNat_natCast]; rfl
theorem cut_back {es : List EN} {j : Nat} : ((es.take (((es.map EN.enc).length : Nat) : Int).toNat).drop ((j : Nat) : Int).toNat) = es.drop j := by rw [Int.toNat_natCast, Int.toNat_natCast, List.length_map, List.take_length]
theorem fromL_succ {l : List EN} {j : Nat} : fromL l ((j : Int) + 1) = l.drop j := by unfold fromL; rw [show (max ((j : Int) + 1) 1 - 1).toNat = j by omega]
theorem szE_ok {l : List EN} (ok : Okl l) : szE l := fun x hx => by
  have h := ok.ok x hx
  have h1 := h.text; have h2 := h.kind
  exact ⟨by omega, by omega⟩
theorem szE_take {es : List EN} (h : szE es) (k : Nat) : szE (es.take k) := fun x hx => h x (List.mem_of_mem_take hx)
theorem szE_drop {es : List EN} (h : szE es) (k : Nat) : szE (es.drop k) := fun x hx => h x (List.mem_of_mem_drop hx)
def restJ (l : List EN) (j : Nat) : List EN := if (runV [] (l.take j)).2.2 ≠ 0 then [] else l.drop j

set_option maxHeartbeats 8000000 in
set_option maxRecDepth 100000 in
theorem compact_c (l : List EN) (j : Nat) (gd gs gr : Nat) (ves ver : Value) (o1 : okE ves) (o2 : okE ver) (hs : Hp) (ok : Okl l) (hS : (bs (bytesL l)).size ≤ 131072) (hj : j ≤ l.length) : AC P 9 [.d (.str (bs (bytesL l))), .d (.int .i64 (j : Nat))] (gH gd gs gr ves ver hs) (fun r h => r = .tup [.d (.sl 2 ((runV [] (l.take j)).1.map SR.enc)), .d (.sl 4 ((restJ l j).map EN.enc)), .d (.int .i64 (runV [] (l.take j)).2.2)] ∧ h = gH gd gs gr ves ver hs) := by
  have hra := rec_all ok
  have hln := ok.len
  have hsz := szE_ok ok
  refine AC.of 54 Tryz.func9 rfl rfl rfl ?_
  refine W.reg ?_
  refine XOps.s rfl rfl rfl (Q.assign_nilsl rfl) ?_
  refine XOps.s rfl rfl rfl (Q.assign_nilsl rfl) ?_
  refine XOps.s rfl rfl rfl (Q.assign_d rfl) ?_
  refine XOps.nil ?_
  refine W.reg ?_
  refine XOps.s rfl rfl rfl (Q.move_d rfl) ?_
  (refine XOps.loud rfl (L.call rfl Tryz.func20 go20 rfl (recover_c (bs (bytesL l)) gd ((gs, .glob 4 [ves]) :: (gr, .glob 5 [ver]) :: hs) hS) rfl) ?_; rintro _ _ ⟨_, rfl, b, f, rfl, rfl⟩)
  refine XOps.s rfl rfl rfl (Q.move_tup rfl) ?_
  refine XOps.s rfl rfl rfl (Q.extract rfl rfl) ?_
  refine XOps.s rfl rfl rfl (Q.extract rfl rfl) ?_
  refine XOps.s rfl rfl rfl (Q.extract rfl rfl) ?_
  refine XOps.s rfl rfl rfl (Q.assign_ptr rfl) ?_
  refine XOps.s rfl rfl rfl (Q.assign_d rfl) ?_
  refine XOps.s rfl rfl rfl (Q.assign_d rfl) ?_
  refine XOps.nil ?_
  rw [hra]
  refine W.heap (gH gd gs gr ves ver ((b, .cells (reC l f)) :: (f, .lst 4 (l.map EN.enc)) :: hs)) (HLe.pick 0 rfl rfl (HLe.pick 2 rfl rfl (HLe.pick 2 rfl rfl (HLe.refl _)))) ?_
  refine W.seq ?_
  refine W.block ?_
  refine W.reg ?_
  refine XOps.s rfl rfl rfl (Q.move_d rfl) ?_
  refine XOps.s rfl rfl rfl (Q.neq rfl rfl) ?_
  refine XOps.s rfl rfl rfl (Q.assign_d rfl) ?_
  refine XOps.nil ?_
  refine W.cond rfl (fun hc19 => ?_) (fun hc19 => ?_)
  · try simp only [Bool.or_eq_true, Bool.or_eq_false_iff, Bool.and_eq_true, Bool.and_eq_false_iff, decide_eq_true_eq, decide_eq_false_iff_not, Bool.not_eq_true', Bool.not_eq_false', Int.not_lt, Int.not_le, List.length_map] at hc19
    exact absurd hc19 (by decide)
  · try simp only [Bool.or_eq_true, Bool.or_eq_false_iff, Bool.and_eq_true, Bool.and_eq_false_iff, decide_eq_true_eq, decide_eq_false_iff_not, Bool.not_eq_true', Bool.not_eq_false', Int.not_lt, Int.not_le, List.length_map] at hc19
    refine W.reg ?_
    refine XOps.s rfl rfl rfl (Q.move_d rfl) ?_
    refine XOps.s rfl rfl rfl (Q.move_d rfl) ?_
    refine XOps.s rfl rfl rfl (Q.len_str ist9 rfl) ?_
    refine XOps.s rfl rfl rfl (Q.neq rfl rfl) ?_
    refine XOps.s rfl rfl rfl (Q.assign_d rfl) ?_
    refine XOps.nil ?_
    refine W.cond rfl (fun hc23 => ?_) (fun hc23 => ?_)
    · try simp only [Bool.or_eq_true, Bool.or_eq_false_iff, Bool.and_eq_true, Bool.and_eq_false_iff, decide_eq_true_eq, decide_eq_false_iff_not, Bool.not_eq_true', Bool.not_eq_false', Int.not_lt, Int.not_le, List.length_map] at hc23
      exact absurd hc23 (by simp)
    · try simp only [Bool.or_eq_true, Bool.or_eq_false_iff, Bool.and_eq_true, Bool.and_eq_false_iff, decide_eq_true_eq, decide_eq_false_iff_not, Bool.not_eq_true', Bool.not_eq_false', Int.not_lt, Int.not_le, List.length_map] at hc23
      refine W.skip ?_
      refine W.reg ?_
      refine XOps.s rfl rfl rfl (Q.move_ptr rfl) ?_
      refine XOps.s rfl rfl rfl (Q.call rfl Tryz.func7 go7 rfl (all_c 3 4 rfl rfl (by omega))) ?_
      refine XOps.s rfl rfl rfl (Q.assign_d rfl) ?_
      refine XOps.nil ?_
      refine W.seq ?_
      refine W.reg ?_
      refine XOps.s rfl rfl rfl (Q.move_d rfl) ?_
      refine XOps.s rfl rfl rfl (Q.lss rfl rfl) ?_
      refine XOps.s rfl rfl rfl (Q.move_d rfl) ?_
      refine XOps.gs rfl rfl rfl rfl rfl rfl rfl (fun hg => Q.move_d rfl) ?_
      refine XOps.gs rfl rfl rfl rfl rfl rfl rfl (fun hg => Q.move_d rfl) ?_
      refine XOps.gs rfl rfl rfl rfl rfl rfl rfl (fun hg => Quiet.open 34 hg rfl (Q.len_sl isl22 rfl)) ?_
      refine XOps.gs rfl rfl rfl rfl rfl rfl rfl (fun hg => Quiet.open 33 hg rfl (Quiet.open 35 hg rfl (Q.gtr rfl rfl))) ?_
      refine XOps.s rfl rfl rfl (Q.pick_or rfl rfl rfl (fun h => by first | (rw [h]; rfl) | (rw [hg, h]; rfl) | (simp [h, hg]; done))) ?_
      refine XOps.nil ?_
      refine W.cond rfl (fun hc37 => ?_) (fun hc37 => ?_)
      · try simp only [Bool.or_eq_true, Bool.or_eq_false_iff, Bool.and_eq_true, Bool.and_eq_false_iff, decide_eq_true_eq, decide_eq_false_iff_not, Bool.not_eq_true', Bool.not_eq_false', Int.not_lt, Int.not_le, List.length_map] at hc37
        exact absurd hc37 (by omega)
      · try simp only [Bool.or_eq_true, Bool.or_eq_false_iff, Bool.and_eq_true, Bool.and_eq_false_iff, decide_eq_true_eq, decide_eq_false_iff_not, Bool.not_eq_true', Bool.not_eq_false', Int.not_lt, Int.not_le, List.length_map] at hc37
        refine W.skip ?_
        refine W.reg ?_
        refine XOps.s rfl rfl rfl (Q.move_d rfl) ?_
        refine XOps.s rfl rfl rfl (Q.move_d rfl) ?_
        refine XOps.s rfl rfl rfl (Quiet.to (v' := .d (.sl 4 ((l.take j).map EN.enc))) (Q.cut_slm (l := l) (f := EN.enc) sl22 rfl rfl rfl (by omega) (by omega) (by omega)) (fun _ _ _ _ h => by rw [cut_front] at h; exact h)) ?_
        refine XOps.s rfl rfl rfl (Q.call rfl Tryz.func11 go11 rfl (AC.args (run_c [] (l.take j) gd gs gr ves ver o1 o2 ((b, .cells (reC l f)) :: (f, .lst 4 (l.map EN.enc)) :: hs) (by simp) (fun x hx => by cases hx) (by simp; omega) (szE_take hsz j)) (.nilsl 2 (.same .nil)))) ?_
        refine XOps.s rfl rfl rfl (Q.move_tup rfl) ?_
        refine XOps.s rfl rfl rfl (Q.extract rfl rfl) ?_
        refine XOps.s rfl rfl rfl (Q.extract rfl rfl) ?_
        refine XOps.s rfl rfl rfl (Q.extract rfl rfl) ?_
        refine XOps.s rfl rfl rfl (Q.assign_d rfl) ?_
        refine XOps.s rfl rfl rfl (Q.assign_d rfl) ?_
        refine XOps.s rfl rfl rfl (Q.assign_d rfl) ?_
        refine XOps.nil ?_
        refine W.seq ?_
        refine W.reg ?_
        refine XOps.s rfl rfl rfl (Q.move_d rfl) ?_
        refine XOps.s rfl rfl rfl (Q.neq rfl rfl) ?_
        refine XOps.nil ?_
        refine W.cond rfl (fun hc47 => ?_) (fun hc47 => ?_)
        · try simp only [Bool.or_eq_true, Bool.or_eq_false_iff, Bool.and_eq_true, Bool.and_eq_false_iff, decide_eq_true_eq, decide_eq_false_iff_not, Bool.not_eq_true', Bool.not_eq_false', Int.not_lt, Int.not_le, List.length_map] at hc47
          have h47 : (runV [] (l.take j)).2.2 ≠ 0 := by first | exact hc47 | (simpa using hc47)
          have hV := runV_err h47
          have hR : restJ l j = [] := if_pos h47
          rw [hV, hR]
          refine W.reg ?_
          refine XOps.s rfl rfl rfl (Q.move_d rfl) ?_
          refine XOps.s rfl rfl rfl (Q.assign_nilsl rfl) ?_
          refine XOps.s rfl rfl rfl (Q.assign_nilsl rfl) ?_
          refine XOps.s rfl rfl rfl (Q.assign_d rfl) ?_
          refine XOps.nil ?_
          refine W.nild 4 2 rfl ?_
          refine W.nild 5 4 rfl ?_
          refine W.ret ?_
          exact ⟨_, gH gd gs gr ves ver hs, rfl, HLe.pick 0 rfl rfl (HLe.pick 0 rfl rfl (HLe.pick 0 rfl rfl (HLe.skip _ (HLe.skip _ (HLe.refl _))))), rfl, rfl⟩
        · try simp only [Bool.or_eq_true, Bool.or_eq_false_iff, Bool.and_eq_true, Bool.and_eq_false_iff, decide_eq_true_eq, decide_eq_false_iff_not, Bool.not_eq_true', Bool.not_eq_false', Int.not_lt, Int.not_le, List.length_map] at hc47
          have h47 : (runV [] (l.take j)).2.2 = 0 := by first | exact hc47 | (simpa using hc47)
          have hR : restJ l j = fromL l ((j : Int) + 1) := by rw [fromL_succ]; exact if_neg (by omega)
          rw [hR, h47]
          refine W.skip ?_
          refine W.reg ?_
          refine XOps.s rfl rfl rfl (Q.move_d rfl) ?_
          refine XOps.s rfl rfl rfl (Q.move_ptr rfl) ?_
          refine XOps.s rfl rfl rfl (Q.move_d rfl) ?_
          refine XOps.s rfl rfl rfl (Q.add rfl rfl (wi64 (by first | omega | (dsimp only; omega) | (simp only [List.length_map]; omega)) (by first | omega | (dsimp only; omega) | (simp only [List.length_map]; omega)))) ?_
          refine XOps.s rfl rfl rfl (Q.call rfl Tryz.func7 go7 rfl (entries_c ((j : Int) + 1) 3 4 rfl rfl (by omega))) ?_
          refine XOps.s rfl rfl rfl (Q.assign_d rfl) ?_
          refine XOps.s rfl rfl rfl (Q.assign_d rfl) ?_
          refine XOps.s rfl rfl rfl (Q.assign_d rfl) ?_
          refine XOps.nil ?_
          refine W.ret ?_
          exact ⟨_, gH gd gs gr ves ver hs, rfl, HLe.pick 0 rfl rfl (HLe.pick 0 rfl rfl (HLe.pick 0 rfl rfl (HLe.skip _ (HLe.skip _ (HLe.refl _))))), rfl, rfl⟩

set_option maxHeartbeats 8000000 in
set_option maxRecDepth 100000 in
theorem compacts_c (xs : List EN) (m : Int) (gd gs gr : Nat) (ves ver : Value) (o1 : okE ves) (o2 : okE ver) (hs : Hp) (hx : ∀ x ∈ xs, x.kind.size ≤ 140737488351232 ∧ x.text.size ≤ 140737488351232) : AC P 3 [.d (.sl 4 (xs.map EN.enc)), .d (.int .i64 m)] (gH gd gs gr ves ver hs) (fun r h => r = .d (.bool true)) := by
  obtain ⟨ok, hln⟩ := logV_ok xs
  have hbz := bytesL_size ok
  have hsz := szE_ok ok
  refine AC.of 83 Tryz.func3 rfl rfl rfl ?_
  refine W.reg ?_
  refine XOps.s rfl rfl rfl (Q.assign_d rfl) ?_
  refine XOps.nil ?_
  refine W.reg ?_
  refine XOps.s rfl rfl rfl (Q.move_d rfl) ?_
  (refine XOps.loud rfl (L.call rfl Tryz.func4 go4 rfl (logof_c xs gd ((gs, .glob 4 [ves]) :: (gr, .glob 5 [ver]) :: hs) hx) rfl) ?_; rintro _ _ ⟨_, rfl, b, f, rfl, rfl⟩)
  refine XOps.s rfl rfl rfl (Q.assign_ptr rfl) ?_
  refine XOps.nil ?_
  refine W.seq ?_
  refine W.heap (gH gd gs gr ves ver ((b, .cells (reC (logV xs) f)) :: (f, .lst 4 ((logV xs).map EN.enc)) :: hs)) (HLe.pick 0 rfl rfl (HLe.pick 2 rfl rfl (HLe.pick 2 rfl rfl (HLe.refl _)))) ?_
  refine W.reg ?_
  refine XOps.s rfl rfl rfl (Q.call rfl Tryz.func5 go5 rfl (rfact_c gd ((gs, .glob 4 [ves]) :: (gr, .glob 5 [ver]) :: ((b, .cells (reC (logV xs) f)) :: (f, .lst 4 ((logV xs).map EN.enc)) :: hs)))) ?_
  refine XOps.s rfl rfl rfl (Q.not rfl) ?_
  refine XOps.s rfl rfl rfl (Q.move_d rfl) ?_
  refine XOps.gs rfl rfl rfl rfl rfl rfl rfl (fun hg => Q.call rfl Tryz.func6 go6 rfl (pfact_c gd gs gr ves ver o1 o2 ((b, .cells (reC (logV xs) f)) :: (f, .lst 4 ((logV xs).map EN.enc)) :: hs))) ?_
  refine XOps.gs rfl rfl rfl rfl rfl rfl rfl (fun hg => Quiet.open 21 hg rfl (Q.not rfl)) ?_
  refine XOps.s rfl rfl rfl (Q.pick_or rfl rfl rfl (fun h => by first | (rw [h]; rfl) | (rw [hg, h]; rfl) | (simp [h, hg]; done))) ?_
  refine XOps.s rfl rfl rfl (Q.move_d rfl) ?_
  refine XOps.gs rfl rfl rfl rfl rfl rfl rfl (fun hg => Q.move_ptr rfl) ?_
  refine XOps.gs rfl rfl rfl rfl rfl rfl rfl (fun hg => Quiet.open 25 hg rfl (Q.eql_ptr ipt23 rfl rfl)) ?_
  refine XOps.s rfl rfl rfl (Q.pick_or rfl rfl rfl (fun h => by first | (rw [h]; rfl) | (rw [hg, h]; rfl) | (simp [h, hg]; done))) ?_
  refine XOps.nil ?_
  refine W.cond rfl (fun hc27 => ?_) (fun hc27 => ?_)
  · try simp only [Bool.or_eq_true, Bool.or_eq_false_iff, Bool.and_eq_true, Bool.and_eq_false_iff, decide_eq_true_eq, decide_eq_false_iff_not, Bool.not_eq_true', Bool.not_eq_false', Int.not_lt, Int.not_le, List.length_map] at hc27
    exact absurd hc27 (by decide)
  · try simp only [Bool.or_eq_true, Bool.or_eq_false_iff, Bool.and_eq_true, Bool.and_eq_false_iff, decide_eq_true_eq, decide_eq_false_iff_not, Bool.not_eq_true', Bool.not_eq_false', Int.not_lt, Int.not_le, List.length_map] at hc27
    refine W.skip ?_
    refine W.reg ?_
    refine XOps.s rfl rfl rfl (Q.move_ptr rfl) ?_
    refine XOps.s rfl rfl rfl (Q.call rfl Tryz.func7 go7 rfl (all_c 3 4 rfl rfl (by omega))) ?_
    refine XOps.s rfl rfl rfl (Q.assign_d rfl) ?_
    refine XOps.nil ?_
    refine W.reg ?_
    refine XOps.s rfl rfl rfl (Q.move_d rfl) ?_
    refine XOps.s rfl rfl rfl (Q.move_d rfl) ?_
    refine XOps.s rfl rfl rfl (Quiet.to (v' := .d (.int .i64 (logV xs).length)) (Q.len_sl isl22 rfl) (fun _ _ _ _ h => by rw [List.length_map] at h; exact h)) ?_
    refine XOps.s rfl rfl rfl (Q.call rfl Tryz.func8 go8 rfl (rcut_c m 0 ((logV xs).length : Nat) _ (by omega) (by omega) (by omega))) ?_
    refine XOps.s rfl rfl rfl (Q.assign_d rfl) ?_
    refine XOps.nil ?_
    obtain ⟨j, hj, hjl⟩ : ∃ j : Nat, cutI m 0 (((logV xs).length : Nat) : Int) = j ∧ j ≤ (logV xs).length := by
      have := cutI_bounds m (lo := 0) (hi := (((logV xs).length : Nat) : Int)) (by omega)
      exact ⟨(cutI m 0 (((logV xs).length : Nat) : Int)).toNat, by omega, by omega⟩
    rw [hj]
    obtain ⟨hP1, hP2⟩ := partsG (l := []) (es := logV xs) ok.num (by omega) j hjl
    have haz := sz_ok (runV_ok [] ((logV xs).take j))
    refine W.reg ?_
    refine XOps.s rfl rfl rfl (Q.move_ptr rfl) ?_
    refine XOps.s rfl rfl rfl (Q.call rfl Tryz.func10 go10 rfl (bytes_c 3 4 rfl rfl)) ?_
    refine XOps.s rfl rfl rfl (Q.move_d rfl) ?_
    refine XOps.s rfl rfl rfl (Q.call rfl Tryz.func9 go9 rfl (compact_c (logV xs) j gd gs gr ves ver o1 o2 ((b, .cells (reC (logV xs) f)) :: (f, .lst 4 ((logV xs).map EN.enc)) :: hs) ok (by omega) hjl)) ?_
    refine XOps.s rfl rfl rfl (Q.move_tup rfl) ?_
    refine XOps.s rfl rfl rfl (Q.extract rfl rfl) ?_
    refine XOps.s rfl rfl rfl (Q.extract rfl rfl) ?_
    refine XOps.s rfl rfl rfl (Q.extract rfl rfl) ?_
    refine XOps.s rfl rfl rfl (Q.assign_d rfl) ?_
    refine XOps.s rfl rfl rfl (Q.assign_d rfl) ?_
    refine XOps.s rfl rfl rfl (Q.assign_d rfl) ?_
    refine XOps.nil ?_
    refine W.reg ?_
    refine XOps.s rfl rfl rfl (Q.move_d rfl) ?_
    refine XOps.s rfl rfl rfl (Q.call rfl Tryz.func11 go11 rfl (AC.args (run_c [] (logV xs) gd gs gr ves ver o1 o2 ((b, .cells (reC (logV xs) f)) :: (f, .lst 4 ((logV xs).map EN.enc)) :: hs) (by simp) (fun x hx => by cases hx) (by omega) hsz) (.nilsl 2 (.same .nil)))) ?_
    refine XOps.s rfl rfl rfl (Q.move_tup rfl) ?_
    refine XOps.s rfl rfl rfl (Q.extract rfl rfl) ?_
    refine XOps.s rfl rfl rfl (Q.extract rfl rfl) ?_
    refine XOps.s rfl rfl rfl (Q.extract rfl rfl) ?_
    refine XOps.s rfl rfl rfl (Q.assign_d rfl) ?_
    refine XOps.s rfl rfl rfl (Q.assign_d rfl) ?_
    refine XOps.s rfl rfl rfl (Q.assign_d rfl) ?_
    refine XOps.nil ?_
    refine W.seq ?_
    refine W.reg ?_
    refine XOps.s rfl rfl rfl (Q.move_d rfl) ?_
    refine XOps.s rfl rfl rfl (Q.neq rfl rfl) ?_
    refine XOps.nil ?_
    refine W.cond rfl (fun hc49 => ?_) (fun hc49 => ?_)
    · try simp only [Bool.or_eq_true, Bool.or_eq_false_iff, Bool.and_eq_true, Bool.and_eq_false_iff, decide_eq_true_eq, decide_eq_false_iff_not, Bool.not_eq_true', Bool.not_eq_false', Int.not_lt, Int.not_le, List.length_map] at hc49
      have h49 : (runV [] ((logV xs).take j)).2.2 ≠ 0 := by first | exact hc49 | (simpa using hc49)
      obtain ⟨p1, p2, p3, p4⟩ := hP1 h49
      have hR : restJ (logV xs) j = [] := if_pos h49
      rw [hR, p4, p1]
      refine W.reg ?_
      refine XOps.s rfl rfl rfl (Q.move_d rfl) ?_
      refine XOps.s rfl rfl rfl (Q.move_d rfl) ?_
      refine XOps.s rfl rfl rfl (Q.eql rfl rfl) ?_
      refine XOps.s rfl rfl rfl (Q.move_d rfl) ?_
      refine XOps.gs rfl rfl rfl rfl rfl rfl rfl (fun hg => Q.move_d rfl) ?_
      refine XOps.gs rfl rfl rfl rfl rfl rfl rfl (fun hg => Quiet.open 54 hg rfl (Q.len_sl isl28 rfl)) ?_
      refine XOps.gs rfl rfl rfl rfl rfl rfl rfl (fun hg => Q.move_d rfl) ?_
      refine XOps.gs rfl rfl rfl rfl rfl rfl rfl (fun hg => Quiet.open 56 hg rfl (Q.len_sl isl22 rfl)) ?_
      refine XOps.gs rfl rfl rfl rfl rfl rfl rfl (fun hg => Quiet.open 55 hg rfl (Quiet.open 57 hg rfl (Q.add rfl rfl rfl))) ?_
      refine XOps.gs rfl rfl rfl rfl rfl rfl rfl (fun hg => Quiet.open 58 hg rfl (Q.eql rfl rfl)) ?_
      refine XOps.s rfl rfl rfl (Q.pick_and rfl rfl rfl (fun h => by first | (rw [h]; rfl) | (rw [hg, h]; rfl) | (simp [h, hg]; done))) ?_
      refine XOps.s rfl rfl rfl (Q.assign_d rfl) ?_
      refine XOps.nil ?_
      refine W.ret ?_
      refine ⟨_, _, rfl, HLe.refl _, ?_⟩
      show AV.d (.bool _) = _
      refine congrArg (fun b => AV.d (D.bool b)) ?_
      (simp; rfl)
    · try simp only [Bool.or_eq_true, Bool.or_eq_false_iff, Bool.and_eq_true, Bool.and_eq_false_iff, decide_eq_true_eq, decide_eq_false_iff_not, Bool.not_eq_true', Bool.not_eq_false', Int.not_lt, Int.not_le, List.length_map] at hc49
      have h49 : (runV [] ((logV xs).take j)).2.2 = 0 := by first | exact hc49 | (simpa using hc49)
      obtain ⟨p1, p2, p3⟩ := hP2 h49
      have hR : restJ (logV xs) j = (logV xs).drop j := if_neg (by omega)
      rw [hR]
      refine W.skip ?_
      refine W.reg ?_
      refine XOps.s rfl rfl rfl (Q.move_d rfl) ?_
      refine XOps.s rfl rfl rfl (Q.move_d rfl) ?_
      refine XOps.s rfl rfl rfl (Q.call rfl Tryz.func11 go11 rfl (run_c (runV [] ((logV xs).take j)).1 ((logV xs).drop j) gd gs gr ves ver o1 o2 ((b, .cells (reC (logV xs) f)) :: (f, .lst 4 ((logV xs).map EN.enc)) :: hs) (by omega) haz.1 (by simp; omega) (szE_drop hsz j))) ?_
      refine XOps.s rfl rfl rfl (Q.move_tup rfl) ?_
      refine XOps.s rfl rfl rfl (Q.extract rfl rfl) ?_
      refine XOps.s rfl rfl rfl (Q.extract rfl rfl) ?_
      refine XOps.s rfl rfl rfl (Q.extract rfl rfl) ?_
      refine XOps.s rfl rfl rfl (Q.assign_d rfl) ?_
      refine XOps.s rfl rfl rfl (Q.assign_d rfl) ?_
      refine XOps.s rfl rfl rfl (Q.assign_d rfl) ?_
      refine XOps.nil ?_
      refine W.reg ?_
      refine XOps.s rfl rfl rfl (Q.move_d rfl) ?_
      refine XOps.s rfl rfl rfl (Q.move_d rfl) ?_
      refine XOps.s rfl rfl rfl (Q.eql rfl rfl) ?_
      refine XOps.s rfl rfl rfl (Q.move_d rfl) ?_
      refine XOps.gs rfl rfl rfl rfl rfl rfl rfl (fun hg => Q.move_d rfl) ?_
      refine XOps.gs rfl rfl rfl rfl rfl rfl rfl (fun hg => Q.move_d rfl) ?_
      refine XOps.gs rfl rfl rfl rfl rfl rfl rfl (fun hg => Quiet.open 72 hg rfl (Quiet.open 73 hg rfl (Q.call rfl Tryz.func12 go12 rfl (same_c (runV (runV [] ((logV xs).take j)).1 ((logV xs).drop j)).1 (runV [] (logV xs)).1 _ (by have := (sz_ok (runV_ok (runV [] ((logV xs).take j)).1 ((logV xs).drop j))).2; omega))))) ?_
      refine XOps.s rfl rfl rfl (Q.pick_and rfl rfl rfl (fun h => by first | (rw [h]; rfl) | (rw [hg, h]; rfl) | (simp [h, hg]; done))) ?_
      refine XOps.s rfl rfl rfl (Q.move_d rfl) ?_
      refine XOps.gs rfl rfl rfl rfl rfl rfl rfl (fun hg => Q.move_d rfl) ?_
      refine XOps.gs rfl rfl rfl rfl rfl rfl rfl (fun hg => Q.move_d rfl) ?_
      refine XOps.gs rfl rfl rfl rfl rfl rfl rfl (fun hg => Q.move_d rfl) ?_
      refine XOps.gs rfl rfl rfl rfl rfl rfl rfl (fun hg => Quiet.open 78 hg rfl (Quiet.open 79 hg rfl (Quiet.to (v' := .d (.sl 4 (((logV xs).drop j).map EN.enc))) (Q.cut_slm (l := logV xs) (f := EN.enc) sl22 rfl rfl rfl (by omega) (by simp; omega) (by simp)) (fun _ _ _ _ h => by rw [cut_back] at h; exact h)))) ?_
      refine XOps.gs rfl rfl rfl rfl rfl rfl rfl (fun hg => Quiet.open 77 hg rfl (Quiet.open 80 hg rfl (Q.call rfl Tryz.func13 go13 rfl (equalE_c ((logV xs).drop j) ((logV xs).drop j) _ (by simp; omega))))) ?_
      refine XOps.s rfl rfl rfl (Q.pick_and rfl rfl rfl (fun h => by first | (rw [h]; rfl) | (rw [hg, h]; rfl) | (simp [h, hg]; done))) ?_
      refine XOps.s rfl rfl rfl (Q.assign_d rfl) ?_
      refine XOps.nil ?_
      refine W.ret ?_
      refine ⟨_, _, rfl, HLe.refl _, ?_⟩
      show AV.d (.bool _) = _
      refine congrArg (fun b => AV.d (D.bool b)) ?_
      (rw [p1, p3]; simp; done)
end Go.Proofs.YtodbcbojkfndiaaGreatDoorA
