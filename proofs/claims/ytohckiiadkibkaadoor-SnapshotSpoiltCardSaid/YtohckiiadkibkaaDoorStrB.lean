/- Splitting; builders. -/
import Derived.Test.YtohckiiadkibkaaDoorBase
import Derived.Test.YtohckiiadkibkaaDoorStr2
import Derived.Test.YtohckiiadkibkaaDoorStrA
import Derived.Test.YtohckiiadkibkaaDoorAbs13
import Derived.Test.YtohckiiadkibkaaDoorAbs39
set_option linter.unusedVariables false
set_option linter.unusedSimpArgs false
set_option linter.unnecessarySimpa false
namespace Go.Proofs.YtohckiiadkibkaaDoorA.FStrB
open Go
theorem ag49 : tAgg P 49 = some ((false, 1)) := by kernel_rfl
theorem ag75 : tAgg P 75 = some ((false, 1)) := by kernel_rfl
theorem ag9 : tAgg P 9 = some ((false, 1)) := by kernel_rfl
theorem ap67 : tApp P 67 = some ((1, 16)) := by kernel_rfl
theorem fl77_0 : tFld P 77 0 = some (0) := by kernel_rfl
theorem fl77_1 : tFld P 77 1 = some (1) := by kernel_rfl
theorem go45 : callGo Go.Proofs.Tryd.f45 = true := by kernel_rfl
theorem go54 : callGo Go.Proofs.Tryd.f54 = true := by kernel_rfl
theorem go56 : callGo Go.Proofs.Tryd.f56 = true := by kernel_rfl
theorem go57 : callGo Go.Proofs.Tryd.f57 = true := by kernel_rfl
theorem ipt75 : isPtr P 75 = true := by kernel_rfl
theorem isl49 : isSl P 49 = true := by kernel_rfl
theorem ist9 : isStr P 9 = true := by kernel_rfl
theorem sl67 : tSl P 67 = some (1) := by kernel_rfl
theorem zr67 : tZrow P 67 = some ([.string ⟨#[]⟩]) := by kernel_rfl
theorem zrd67 : cellsD [.string ⟨#[]⟩] = some ([.str ⟨#[]⟩]) := rfl
end Go.Proofs.YtohckiiadkibkaaDoorA.FStrB
namespace Go.Proofs.YtohckiiadkibkaaDoorA
open Go FStrB
attribute [local irreducible] XOps Quiet Loud W AC GQ DT
set_option maxHeartbeats 8000000 in
set_option maxRecDepth 100000 in
theorem gens_c (s : ByteArray) (c : UInt8) (hs : Hp) (hL : s.size ≤ 1000000) : AC P 45 [.d (.str s), .d (.str ⟨#[c]⟩), .d (.int .i64 0), .d (.int .i64 (-1))] hs (fun r h => ∃ v, r = .vs v 0 (splS c s).length 1 ∧ h = (v, .lst 1 ((splS c s).map sE)) :: hs) := by
  have hcnt : (bl s).count c ≤ s.size := by rw [← bl_len]; exact List.count_le_length
  have hsl := splS_len c s
  refine AC.of 66 Tryd.func45 rfl rfl rfl ?_
  refine W.reg ?_
  refine XOps.s rfl rfl rfl (Q.assign_nilsl rfl) ?_
  refine XOps.nil ?_
  refine W.seq ?_
  refine W.reg ?_
  refine XOps.s rfl rfl rfl (Q.move_d rfl) ?_
  refine XOps.s rfl rfl rfl (Q.eql rfl rfl) ?_
  refine XOps.nil ?_
  refine W.cond rfl (fun hc13 => ?_) (fun hc13 => ?_)
  · try simp only [Bool.or_eq_true, Bool.or_eq_false_iff, Bool.and_eq_true, Bool.and_eq_false_iff, decide_eq_true_eq, decide_eq_false_iff_not, Bool.not_eq_true', Bool.not_eq_false', Int.not_lt, Int.not_le, List.length_map] at hc13
    exact absurd hc13 (by decide)
  · try simp only [Bool.or_eq_true, Bool.or_eq_false_iff, Bool.and_eq_true, Bool.and_eq_false_iff, decide_eq_true_eq, decide_eq_false_iff_not, Bool.not_eq_true', Bool.not_eq_false', Int.not_lt, Int.not_le, List.length_map] at hc13
    refine W.skip ?_
    refine W.seq ?_
    refine W.reg ?_
    refine XOps.s rfl rfl rfl (Q.move_d rfl) ?_
    refine XOps.s rfl rfl rfl (Q.eql_str rfl rfl) ?_
    refine XOps.nil ?_
    refine W.cond rfl (fun hc15 => ?_) (fun hc15 => ?_)
    · try simp only [Bool.or_eq_true, Bool.or_eq_false_iff, Bool.and_eq_true, Bool.and_eq_false_iff, decide_eq_true_eq, decide_eq_false_iff_not, Bool.not_eq_true', Bool.not_eq_false', Int.not_lt, Int.not_le, List.length_map] at hc15
      exact absurd ((seq_iff _ _).1 hc15) (by intro h; have := congrArg ByteArray.size h; exact absurd this (by show ¬ (1 : Nat) = 0; decide))
    · try simp only [Bool.or_eq_true, Bool.or_eq_false_iff, Bool.and_eq_true, Bool.and_eq_false_iff, decide_eq_true_eq, decide_eq_false_iff_not, Bool.not_eq_true', Bool.not_eq_false', Int.not_lt, Int.not_le, List.length_map] at hc15
      refine W.skip ?_
      refine W.seq ?_
      refine W.reg ?_
      refine XOps.s rfl rfl rfl (Q.move_d rfl) ?_
      refine XOps.s rfl rfl rfl (Q.lss rfl rfl) ?_
      refine XOps.nil ?_
      refine W.cond rfl (fun hc20 => ?_) (fun hc20 => ?_)
      · try simp only [Bool.or_eq_true, Bool.or_eq_false_iff, Bool.and_eq_true, Bool.and_eq_false_iff, decide_eq_true_eq, decide_eq_false_iff_not, Bool.not_eq_true', Bool.not_eq_false', Int.not_lt, Int.not_le, List.length_map] at hc20
        refine W.region ?_
        refine XOps.s rfl rfl rfl (Q.move_d rfl) ?_
        refine XOps.s rfl rfl rfl (Q.move_d rfl) ?_
        refine XOps.s rfl rfl rfl (Q.call rfl Tryd.func56 go56 rfl (count_c s c _)) ?_
        refine XOps.s rfl rfl rfl (Q.add rfl rfl (wi64 (by first | omega | (dsimp only; omega) | (simp only [List.length_map]; omega)) (by first | omega | (dsimp only; omega) | (simp only [List.length_map]; omega)))) ?_
        refine XOps.s rfl rfl rfl (Q.assign_d rfl) ?_
        refine XOps.nil ?_
        refine W.reg ?_
        refine XOps.s rfl rfl rfl (Q.move_d rfl) ?_
        refine XOps.s rfl rfl rfl (Q.move_d rfl) ?_
        refine XOps.s rfl rfl rfl (Q.len_str ist9 rfl) ?_
        refine XOps.s rfl rfl rfl (Q.add rfl rfl (wi64 (by first | omega | (dsimp only; omega) | (simp only [List.length_map]; omega)) (by first | omega | (dsimp only; omega) | (simp only [List.length_map]; omega)))) ?_
        refine XOps.s rfl rfl rfl (Q.mini rfl rfl) ?_
        refine XOps.s rfl rfl rfl (Q.assign_d rfl) ?_
        refine XOps.nil ?_
        have hmn : min ((((bl s).count c : Nat) : Int) + 1) ((s.size : Int) + 1) = (((bl s).count c + 1 : Nat) : Int) := by omega
        rw [hmn]
        refine W.reg ?_
        refine XOps.s rfl rfl rfl (Q.move_d rfl) ?_
        (refine XOps.loud rfl (L.make (n := (bl s).count c + 1) ap67 zr67 zrd67 rfl rfl (by omega) rfl) ?_; rintro _ _ ⟨v31, rfl, rfl⟩)
        refine XOps.s rfl rfl rfl (Q.assign_vs rfl) ?_
        refine XOps.nil ?_
        refine W.reg ?_
        refine XOps.s rfl rfl rfl (Q.move_d rfl) ?_
        refine XOps.s rfl rfl rfl (Q.sub rfl rfl (wi64 (by first | omega | (dsimp only; omega) | (simp only [List.length_map]; omega)) (by first | omega | (dsimp only; omega) | (simp only [List.length_map]; omega)))) ?_
        refine XOps.s rfl rfl rfl (Q.assign_d rfl) ?_
        refine XOps.nil ?_
        refine W.reg ?_
        refine XOps.s rfl rfl rfl (Q.assign_d rfl) ?_
        refine XOps.nil ?_
        refine W.seq ?_
        refine W.block ?_
        refine W.loop (ι := List ByteArray × ByteArray) (fun p => [(0, .d (.str p.2)), (1, .d (.str ⟨#[c]⟩)), (2, .d (.int .i64 0)), (3, .d (.int .i64 ((bl s).count c : Nat))), (9, .vs v31 0 ((bl s).count c + 1) 1), (10, .d (.int .i64 (p.1.length : Nat)))]) (fun p => (v31, .lst 1 (fillS p.1 ((bl s).count c + 1 - p.1.length))) :: hs) (fun p => p.1.length ≤ (bl s).count c ∧ splS c s = p.1 ++ splS c p.2 ∧ (bl p.2).count c = (bl s).count c - p.1.length ∧ p.2.size ≤ s.size) (fun p => (bl s).count c - p.1.length) ([], s) ?_ ?_ ?_ ?_
        · exact ⟨Nat.zero_le _, rfl, rfl, Nat.le_refl _⟩
        · exact ⟨by first | rfl | exact int_eq (by omega) | exact len_eq (by simp) | exact int_eq (by simp; done), by first | rfl | exact int_eq (by omega) | exact len_eq (by simp) | exact int_eq (by simp; done), by first | rfl | exact int_eq (by omega) | exact len_eq (by simp) | exact int_eq (by simp; done), by exact int_eq (by omega), by first | rfl | exact int_eq (by omega) | exact len_eq (by simp) | exact int_eq (by simp; done), by first | rfl | exact int_eq (by omega) | exact len_eq (by simp) | exact int_eq (by simp; done), trivial⟩
        · exact HLe.cons' (by show HO.lst 1 (fillS [] ((bl s).count c + 1 - 0)) = _; unfold fillS; simp; rfl) (HLe.refl _)
        · rintro ⟨done, q⟩ ⟨hI1, hI2, hI3, hI4⟩
          try dsimp only at hI1 hI2 hI3 hI4 ⊢
          refine W.seq ?_
          refine W.reg ?_
          refine XOps.s rfl rfl rfl (Q.move_d rfl) ?_
          refine XOps.s rfl rfl rfl (Q.move_d rfl) ?_
          refine XOps.s rfl rfl rfl (Q.lss rfl rfl) ?_
          refine XOps.nil ?_
          refine W.cond rfl (fun hc36 => ?_) (fun hc36 => ?_)
          · try simp only [Bool.or_eq_true, Bool.or_eq_false_iff, Bool.and_eq_true, Bool.and_eq_false_iff, decide_eq_true_eq, decide_eq_false_iff_not, Bool.not_eq_true', Bool.not_eq_false', Int.not_lt, Int.not_le, List.length_map] at hc36
            have hct : 0 < (bl q).count c := by omega
            have hix : 0 ≤ Lib.indexByte (bl q) c := by
              rcases (show Lib.indexByte (bl q) c < 0 ∨ 0 ≤ Lib.indexByte (bl q) c by omega) with h | h
              · have := List.count_eq_zero_of_not_mem (idx_none h); omega
              · exact h
            obtain ⟨m, hm⟩ : ∃ m : Nat, Lib.indexByte (bl q) c = m := ⟨(Lib.indexByte (bl q) c).toNat, by omega⟩
            obtain ⟨hmq, hq1, hq2⟩ := idx_parts hm
            obtain ⟨hs1, hs2⟩ := splS_in hm
            have hT : ((m : Int) + ((1 : Nat) : Int)).toNat = m + 1 := by omega
            have hT0 : ((m : Int) + 0).toNat = m := by omega
            refine W.skip ?_
            refine W.block ?_
            refine W.reg ?_
            refine XOps.s rfl rfl rfl (Q.move_d rfl) ?_
            refine XOps.s rfl rfl rfl (Q.move_d rfl) ?_
            refine XOps.s rfl rfl rfl (Q.call rfl Tryd.func57 go57 rfl (sindex_c q c _)) ?_
            refine XOps.s rfl rfl rfl (Q.assign_d rfl) ?_
            refine XOps.nil ?_
            rw [hm]
            refine W.seq ?_
            refine W.reg ?_
            refine XOps.s rfl rfl rfl (Q.move_d rfl) ?_
            refine XOps.s rfl rfl rfl (Q.lss rfl rfl) ?_
            refine XOps.nil ?_
            refine W.cond rfl (fun hc41 => ?_) (fun hc41 => ?_)
            · try simp only [Bool.or_eq_true, Bool.or_eq_false_iff, Bool.and_eq_true, Bool.and_eq_false_iff, decide_eq_true_eq, decide_eq_false_iff_not, Bool.not_eq_true', Bool.not_eq_false', Int.not_lt, Int.not_le, List.length_map] at hc41
              exact absurd hc41 (by omega)
            · try simp only [Bool.or_eq_true, Bool.or_eq_false_iff, Bool.and_eq_true, Bool.and_eq_false_iff, decide_eq_true_eq, decide_eq_false_iff_not, Bool.not_eq_true', Bool.not_eq_false', Int.not_lt, Int.not_le, List.length_map] at hc41
              refine W.skip ?_
              refine W.reg ?_
              refine XOps.s rfl rfl rfl (Q.move_vs rfl) ?_
              refine XOps.s rfl rfl rfl (Q.move_d rfl) ?_
              refine XOps.s rfl rfl rfl (Q.move_d rfl) ?_
              refine XOps.s rfl rfl rfl (Q.move_d rfl) ?_
              refine XOps.s rfl rfl rfl (Q.move_d rfl) ?_
              refine XOps.s rfl rfl rfl (Q.add rfl rfl (wi64 (by first | omega | (dsimp only; omega) | (simp only [List.length_map]; omega)) (by first | omega | (dsimp only; omega) | (simp only [List.length_map]; omega)))) ?_
              refine XOps.s rfl rfl rfl (Q.cut_str ist9 rfl rfl rfl (by omega) (by omega) (by omega)) ?_
              refine XOps.s rfl rfl rfl (Q.idx_vs (kk := 0) sl67 rfl rfl rfl (by omega) (by omega)) ?_
              (refine XOps.loud rfl (L.store_ep (k := 0) ag9 rfl rfl (fillS_at done (by omega) (by omega)) rfl rfl rfl) ?_; rintro _ _ ⟨rfl, rfl⟩)
              refine XOps.nil ?_
              refine W.reg ?_
              refine XOps.s rfl rfl rfl (Q.move_d rfl) ?_
              refine XOps.s rfl rfl rfl (Q.move_d rfl) ?_
              refine XOps.s rfl rfl rfl (Q.move_d rfl) ?_
              refine XOps.s rfl rfl rfl (Q.len_str ist9 rfl) ?_
              refine XOps.s rfl rfl rfl (Q.add rfl rfl (wi64 (by show _ ≤ _ + ((1 : Nat) : Int); omega) (by show _ + ((1 : Nat) : Int) ≤ _; omega))) ?_
              refine XOps.s rfl rfl rfl (Q.cut_str ist9 rfl rfl rfl (by show 0 ≤ _ + ((1 : Nat) : Int); omega) (by show _ + ((1 : Nat) : Int) ≤ _; omega) (by omega)) ?_
              refine XOps.s rfl rfl rfl (Q.assign_d rfl) ?_
              refine XOps.nil ?_
              refine W.region ?_
              refine XOps.s rfl rfl rfl (Q.move_d rfl) ?_
              refine XOps.s rfl rfl rfl (Q.add rfl rfl (wi64 (by first | omega | (dsimp only; omega) | (simp only [List.length_map]; omega)) (by first | omega | (dsimp only; omega) | (simp only [List.length_map]; omega)))) ?_
              refine XOps.s rfl rfl rfl (Q.assign_d rfl) ?_
              refine XOps.nil ?_
              refine ⟨(done ++ [q.extract 0 m], q.extract (m + 1) q.size), ?_, ?_, ?_, ?_⟩
              · refine ⟨by simp; omega, by rw [hI2, hs1]; simp, by simp; omega, by have := congrArg List.length hq1; rw [bl_len] at this; rw [← bl_len (q.extract (m + 1) q.size)]; simp at this; omega⟩
              · simp; omega
              · exact ⟨by (show AV.d (.str (q.extract ((m : Int) + ((1 : Nat) : Int)).toNat ((q.size : Nat) : Int).toNat)) = _; rw [hT]; rfl), by first | rfl | exact int_eq (by omega) | exact len_eq (by simp) | exact int_eq (by simp; done), by first | rfl | exact int_eq (by omega) | exact len_eq (by simp) | exact int_eq (by simp; done), by first | rfl | exact int_eq (by omega) | exact len_eq (by simp) | exact int_eq (by simp; done), by first | rfl | exact int_eq (by omega) | exact len_eq (by simp) | exact int_eq (by simp; done), by exact int_eq (by simp), trivial⟩
              · have e : (bl s).count c + 1 - done.length = ((bl s).count c + 1 - (done ++ [q.extract 0 m]).length) + 1 := by simp; omega
                rw [e]
                exact HLe.cons' (congrArg (HO.lst 1) (fillS_set done (q.extract 0 m) (by omega) _ (by rw [hT0]; rfl)).symm) (HLe.refl _)
          · try simp only [Bool.or_eq_true, Bool.or_eq_false_iff, Bool.and_eq_true, Bool.and_eq_false_iff, decide_eq_true_eq, decide_eq_false_iff_not, Bool.not_eq_true', Bool.not_eq_false', Int.not_lt, Int.not_le, List.length_map] at hc36
            have hct : (bl q).count c = 0 := by omega
            have hqo := splS_out (List.count_eq_zero.1 hct)
            have hdl : done.length = (bl s).count c := by omega
            refine W.exit ?_
            refine W.reg ?_
            refine XOps.s rfl rfl rfl (Q.move_vs rfl) ?_
            refine XOps.s rfl rfl rfl (Q.move_d rfl) ?_
            refine XOps.s rfl rfl rfl (Q.move_d rfl) ?_
            refine XOps.s rfl rfl rfl (Q.idx_vs (kk := 0) sl67 rfl rfl rfl (by omega) (by omega)) ?_
            (refine XOps.loud rfl (L.store_ep (k := 0) ag9 rfl rfl (fillS_at done (by omega) (by omega)) rfl rfl rfl) ?_; rintro _ _ ⟨rfl, rfl⟩)
            refine XOps.nil ?_
            refine W.reg ?_
            refine XOps.s rfl rfl rfl (Q.move_vs rfl) ?_
            refine XOps.s rfl rfl rfl (Q.move_d rfl) ?_
            refine XOps.s rfl rfl rfl (Q.add rfl rfl (wi64 (by first | omega | (dsimp only; omega) | (simp only [List.length_map]; omega)) (by first | omega | (dsimp only; omega) | (simp only [List.length_map]; omega)))) ?_
            refine XOps.s rfl rfl rfl (Q.cut_vs sl67 rfl rfl rfl (by omega) (by omega) (by omega)) ?_
            refine XOps.s rfl rfl rfl (Q.assign_vs rfl) ?_
            refine XOps.nil ?_
            refine W.ret ?_
            have e : (bl s).count c + 1 - done.length = 0 + 1 := by omega
            refine ⟨_, (v31, .lst 1 ((splS c s).map sE)) :: hs, rfl, HLe.cons' ?_ (HLe.refl _), v31, ?_, rfl⟩
            · rw [e, hI2, hqo, ← fillS_done]
              exact congrArg (HO.lst 1) (fillS_set done q (by omega) _ rfl).symm
            · show AV.vs _ _ _ _ = _
              rw [hsl]
              congr 1 <;> omega
      · try simp only [Bool.or_eq_true, Bool.or_eq_false_iff, Bool.and_eq_true, Bool.and_eq_false_iff, decide_eq_true_eq, decide_eq_false_iff_not, Bool.not_eq_true', Bool.not_eq_false', Int.not_lt, Int.not_le, List.length_map] at hc20
        exact absurd hc20 (by decide)

set_option maxHeartbeats 1000000 in
set_option maxRecDepth 100000 in
theorem split_own (s : ByteArray) (c : UInt8) (hs : Hp) (hL : s.size ≤ 1000000) : AC P 34 [.d (.str s), .d (.str ⟨#[c]⟩)] hs (fun r h => ∃ v, r = .vs v 0 (splS c s).length 1 ∧ h = (v, .lst 1 ((splS c s).map sE)) :: hs) := by
  refine AC.of 8 Tryd.func34 rfl rfl rfl ?_
  refine W.reg ?_
  refine XOps.s rfl rfl rfl (Q.assign_nilsl rfl) ?_
  refine XOps.nil ?_
  refine W.reg ?_
  refine XOps.s rfl rfl rfl (Q.move_d rfl) ?_
  refine XOps.s rfl rfl rfl (Q.move_d rfl) ?_
  (refine XOps.loud rfl (L.call rfl Tryd.func45 go45 rfl (gens_c s c _ hL) rfl) ?_; rintro _ _ ⟨_, rfl, v, rfl, rfl⟩)
  refine XOps.s rfl rfl rfl (Q.assign_vs rfl) ?_
  refine XOps.nil ?_
  refine W.ret ?_
  exact ⟨_, (v, .lst 1 ((splS c s).map sE)) :: hs, rfl, HLe.refl _, v, rfl, rfl⟩

theorem split_c (s : ByteArray) (c : UInt8) (hs : Hp) (hL : s.size ≤ 1000000) : AC P 34 [.d (.str s), .d (.str ⟨#[c]⟩)] hs (fun r h => r = .d (.sl 1 ((splS c s).map sE)) ∧ h = hs) :=
  AC.frz ((split_own s c hs hL).mono fun r h ⟨v, h1, h2⟩ => ⟨v, h2, h1 ▸ .vs (by simp)⟩)

def bldr (b fb v fv : Nat) (l : List UInt8) (hs : Hp) : Hp := (b, .cells [.ptr b 0, .vs v 0 l.length 1]) :: (fb, .typ b 77) :: (v, .lst 1 (l.map bE)) :: (fv, .typ v 5) :: hs

set_option maxHeartbeats 1000000 in
set_option maxRecDepth 100000 in
theorem cc0_c (b fb : Nat) (x : AV) (hs : Hp) : AC P 54 [.ptr b 0] ((b, .cells [.d .nilp, x]) :: (fb, .typ b 77) :: hs) (fun r h => r = .tup [] ∧ h = (b, .cells [.ptr b 0, x]) :: (fb, .typ b 77) :: hs) := by
  refine AC.of 20 Tryd.func54 rfl rfl rfl ?_
  refine W.reg ?_
  refine XOps.s rfl rfl rfl (Q.move_ptr rfl) ?_
  refine XOps.s rfl rfl rfl (Q.nil_ptr rfl) ?_
  refine XOps.s rfl rfl rfl (Q.fld_ptr fl77_0 rfl) ?_
  refine XOps.s rfl rfl rfl (Q.ld_ptr (k := 0) ag75 rfl rfl rfl) ?_
  refine XOps.s rfl rfl rfl (Q.eql_nilp ipt75 rfl rfl) ?_
  refine XOps.nil ?_
  refine W.cond_t rfl ?_
  refine W.region ?_
  refine XOps.s rfl rfl rfl (Q.move_ptr rfl) ?_
  refine XOps.s rfl rfl rfl (Q.move_ptr rfl) ?_
  refine XOps.s rfl rfl rfl (Q.to_uns (k := 0) (kt := 1) (by kernel_rfl) rfl rfl rfl rfl) ?_
  refine XOps.s rfl rfl rfl (Q.noesc rfl (run_callFunc_extern (e := Extern.AbiNoEscape.same) Tryd.func66 (by kernel_rfl) (by kernel_rfl) (by kernel_rfl) (by kernel_rfl)) rfl) ?_
  refine XOps.s rfl rfl rfl (Q.of_uns (k := 0) (kt := 1) rfl rfl rfl (by kernel_rfl)) ?_
  refine XOps.s rfl rfl rfl (Q.nil_ptr rfl) ?_
  refine XOps.s rfl rfl rfl (Q.fld_ptr fl77_0 rfl) ?_
  refine XOps.loud rfl (L.store (k := 0) ag75 rfl rfl rfl rfl rfl) ?_
  rintro _ _ ⟨rfl, rfl⟩
  refine XOps.nil ?_
  exact ⟨_, _, rfl, HLe.refl _, rfl, rfl⟩

set_option maxHeartbeats 1000000 in
set_option maxRecDepth 100000 in
theorem cc1_c (b : Nat) (x : AV) (hs : Hp) : AC P 54 [.ptr b 0] ((b, .cells [.ptr b 0, x]) :: hs) (fun r h => r = .tup [] ∧ h = (b, .cells [.ptr b 0, x]) :: hs) := by
  refine AC.of 20 Tryd.func54 rfl rfl rfl ?_
  refine W.reg ?_
  refine XOps.s rfl rfl rfl (Q.move_ptr rfl) ?_
  refine XOps.s rfl rfl rfl (Q.nil_ptr rfl) ?_
  refine XOps.s rfl rfl rfl (Q.fld_ptr fl77_0 rfl) ?_
  refine XOps.s rfl rfl rfl (Q.ld_ptr (k := 0) ag75 rfl rfl rfl) ?_
  refine XOps.s rfl rfl rfl (Q.eql_ptr ipt75 rfl rfl) ?_
  refine XOps.nil ?_
  refine W.cond_f rfl ?_
  refine W.reg ?_
  refine XOps.s rfl rfl rfl (Q.move_ptr rfl) ?_
  refine XOps.s rfl rfl rfl (Q.nil_ptr rfl) ?_
  refine XOps.s rfl rfl rfl (Q.fld_ptr fl77_0 rfl) ?_
  refine XOps.s rfl rfl rfl (Q.ld_ptr (k := 0) ag75 rfl rfl rfl) ?_
  refine XOps.s rfl rfl rfl (Q.move_ptr rfl) ?_
  refine XOps.s rfl rfl rfl (Q.neq_same ipt75 (by kernel_rfl) rfl rfl) ?_
  refine XOps.nil ?_
  refine W.cond_f rfl ?_
  refine W.skip ?_
  exact ⟨_, _, rfl, HLe.refl _, rfl, rfl⟩

set_option maxHeartbeats 1000000 in
set_option maxRecDepth 100000 in
theorem ws0_c (b fb : Nat) (s : ByteArray) (hs : Hp) (h0 : s.size ≠ 0) (hL : s.size ≤ 140737488355328) : AC P 43 [.ptr b 0, .d (.str s)] ((b, .cells [.d .nilp, .nilsl]) :: (fb, .typ b 77) :: hs) (fun r h => ∃ v fv, r = .tup [.d (.int .i64 (s.size : Nat)), .d .nilif] ∧ h = bldr b fb v fv (bl s) hs) := by
  refine AC.of 19 Tryd.func43 rfl rfl rfl ?_
  refine W.reg ?_
  refine XOps.s rfl rfl rfl (Q.assign_d rfl) ?_
  refine XOps.s rfl rfl rfl (Q.assign_d rfl) ?_
  refine XOps.nil ?_
  refine W.reg ?_
  refine XOps.s rfl rfl rfl (Q.move_ptr rfl) ?_
  (refine XOps.loud rfl (L.call rfl Tryd.func54 go54 rfl (cc0_c b fb .nilsl hs) rfl) ?_; rintro _ _ ⟨_, rfl, rfl, rfl⟩)
  refine XOps.nil ?_
  refine W.reg ?_
  refine XOps.s rfl rfl rfl (Q.move_ptr rfl) ?_
  refine XOps.s rfl rfl rfl (Q.move_ptr rfl) ?_
  refine XOps.s rfl rfl rfl (Q.nil_ptr rfl) ?_
  refine XOps.s rfl rfl rfl (Q.fld_ptr fl77_1 rfl) ?_
  refine XOps.s rfl rfl rfl (Q.ld_ptr (k := 0) ag49 rfl rfl rfl) ?_
  refine XOps.s rfl rfl rfl (Q.move_d rfl) ?_
  (refine XOps.loud rfl (L.app_str0T (e := 5) (by kernel_rfl) ist9 rfl rfl h0 hL rfl) ?_; rintro _ _ ⟨v, fv, rfl, rfl⟩)
  refine XOps.s rfl rfl rfl (Q.nil_ptr rfl) ?_
  refine XOps.s rfl rfl rfl (Q.fld_ptr fl77_1 rfl) ?_
  refine XOps.loud rfl (L.store (k := 2) ag49 rfl rfl rfl rfl rfl) ?_
  rintro _ _ ⟨rfl, rfl⟩
  refine XOps.nil ?_
  refine W.reg ?_
  refine XOps.s rfl rfl rfl (Q.move_d rfl) ?_
  refine XOps.s rfl rfl rfl (Q.len_str ist9 rfl) ?_
  refine XOps.s rfl rfl rfl (Q.assign_d rfl) ?_
  refine XOps.s rfl rfl rfl (Q.assign_d rfl) ?_
  refine XOps.nil ?_
  refine W.ret ?_
  refine ⟨_, bldr b fb v fv (bl s) hs, rfl, ?_, v, fv, rfl, rfl⟩
  exact HLe.pick 2 rfl (by rw [bl_len]; rfl) (HLe.pick 2 rfl rfl (HLe.pick 1 rfl rfl (HLe.cons _ (HLe.refl _))))

set_option maxHeartbeats 1000000 in
set_option maxRecDepth 100000 in
theorem ws1_c (b fb v fv : Nat) (l : List UInt8) (s : ByteArray) (hs : Hp) (hL : l.length + s.size ≤ 140737488355328) : AC P 43 [.ptr b 0, .d (.str s)] (bldr b fb v fv l hs) (fun r h => ∃ v fv, r = .tup [.d (.int .i64 (s.size : Nat)), .d .nilif] ∧ h = bldr b fb v fv (l ++ bl s) hs) := by
  refine AC.of 19 Tryd.func43 rfl rfl rfl ?_
  refine W.reg ?_
  refine XOps.s rfl rfl rfl (Q.assign_d rfl) ?_
  refine XOps.s rfl rfl rfl (Q.assign_d rfl) ?_
  refine XOps.nil ?_
  refine W.reg ?_
  refine XOps.s rfl rfl rfl (Q.move_ptr rfl) ?_
  (refine XOps.loud rfl (L.call rfl Tryd.func54 go54 rfl (cc1_c b _ _) rfl) ?_; rintro _ _ ⟨_, rfl, rfl, rfl⟩)
  refine XOps.nil ?_
  refine W.reg ?_
  refine XOps.s rfl rfl rfl (Q.move_ptr rfl) ?_
  refine XOps.s rfl rfl rfl (Q.move_ptr rfl) ?_
  refine XOps.s rfl rfl rfl (Q.nil_ptr rfl) ?_
  refine XOps.s rfl rfl rfl (Q.fld_ptr fl77_1 rfl) ?_
  refine XOps.s rfl rfl rfl (Q.ld_ptr (k := 0) ag49 rfl rfl rfl) ?_
  refine XOps.s rfl rfl rfl (Q.move_d rfl) ?_
  (refine XOps.loud rfl (L.app_strT (k := 2) (kt := 3) (e := 5) (by kernel_rfl) ist9 rfl rfl rfl rfl rfl hL rfl) ?_; rintro _ _ ⟨v2, fv2, rfl, rfl⟩)
  refine XOps.s rfl rfl rfl (Q.nil_ptr rfl) ?_
  refine XOps.s rfl rfl rfl (Q.fld_ptr fl77_1 rfl) ?_
  refine XOps.loud rfl (L.store (k := 2) ag49 rfl rfl rfl rfl rfl) ?_
  rintro _ _ ⟨rfl, rfl⟩
  refine XOps.nil ?_
  refine W.reg ?_
  refine XOps.s rfl rfl rfl (Q.move_d rfl) ?_
  refine XOps.s rfl rfl rfl (Q.len_str ist9 rfl) ?_
  refine XOps.s rfl rfl rfl (Q.assign_d rfl) ?_
  refine XOps.s rfl rfl rfl (Q.assign_d rfl) ?_
  refine XOps.nil ?_
  refine W.ret ?_
  refine ⟨_, bldr b fb v2 fv2 (l ++ bl s) hs, rfl, ?_, v2, fv2, rfl, rfl⟩
  exact HLe.pick 2 rfl (by rw [List.length_append, bl_len]; rfl) (HLe.pick 2 rfl rfl (HLe.pick 1 rfl rfl (HLe.cons _ (HLe.skip _ (HLe.refl _)))))

set_option maxHeartbeats 1000000 in
set_option maxRecDepth 100000 in
theorem bstr0_c (b : Nat) (x : AV) (hs : Hp) : AC P 44 [.ptr b 0] ((b, .cells [x, .nilsl]) :: hs) (fun r h => r = .d (.str ⟨#[]⟩) ∧ h = hs) := by
  refine AC.of 14 Tryd.func44 rfl rfl rfl ?_
  refine W.reg ?_
  refine XOps.s rfl rfl rfl (Q.assign_d rfl) ?_
  refine XOps.nil ?_
  refine W.drawreg 11 follows (by kernel_rfl) ?_
  refine Chain.cons _ (GQ.q rfl (Q.move_ptr rfl)) rfl ?_
  refine Chain.cons _ (GQ.q rfl (Q.nil_ptr rfl)) rfl ?_
  refine Chain.cons _ (GQ.q rfl (Q.fld_ptr fl77_1 rfl)) rfl ?_
  refine Chain.cons _ (GQ.q rfl (Q.ld_ptr (k := 0) ag49 rfl rfl rfl)) rfl ?_
  refine Chain.cons _ (GQ.q rfl (Q.sdata_nil rfl)) rfl ?_
  refine Chain.cons _ (GQ.q rfl (Q.move_ptr rfl)) rfl ?_
  refine Chain.cons _ (GQ.q rfl (Q.nil_ptr rfl)) rfl ?_
  refine Chain.cons _ (GQ.q rfl (Q.fld_ptr fl77_1 rfl)) rfl ?_
  refine Chain.cons _ (GQ.q rfl (Q.ld_ptr (k := 0) ag49 rfl rfl rfl)) rfl ?_
  refine Chain.cons _ (GQ.q rfl (Q.len_nil isl49 rfl)) rfl ?_
  refine Chain.cons _ (GQ.q rfl (Q.ustr0 rfl rfl)) rfl ?_
  refine Chain.nil ?_
  refine XOps.s rfl rfl rfl (Q.assign_d rfl) ?_
  refine XOps.nil ?_
  refine W.ret ?_
  exact ⟨_, hs, rfl, HLe.skip _ (HLe.refl _), rfl, rfl⟩

set_option maxHeartbeats 1000000 in
set_option maxRecDepth 100000 in
theorem bstr1_c (b fb v fv : Nat) (l : List UInt8) (hs : Hp) (h0 : l ≠ []) : AC P 44 [.ptr b 0] (bldr b fb v fv l hs) (fun r h => r = .d (.str (bs l)) ∧ h = hs) := by
  refine AC.of 14 Tryd.func44 rfl rfl rfl ?_
  refine W.reg ?_
  refine XOps.s rfl rfl rfl (Q.assign_d rfl) ?_
  refine XOps.nil ?_
  refine W.drawTreg 11 [10] follows (by kernel_rfl) (by decide) ?_
  apply DT.moreF [.new, .new, .new, .new, .new, .new, .new, .new, .new, .new, .now] (by kernel_rfl)
  refine PC.new _ rfl (GQ.q rfl (Q.move_ptr rfl)) rfl ?_
  refine PC.new _ rfl (GQ.q rfl (Q.nil_ptr rfl)) rfl ?_
  refine PC.new _ rfl (GQ.q rfl (Q.fld_ptr fl77_1 rfl)) rfl ?_
  refine PC.new _ rfl (GQ.q rfl (Q.ld_ptr (k := 0) ag49 rfl rfl rfl)) rfl ?_
  refine PC.new _ rfl (GQ.q rfl (Q.sdata_vs (k := 2) rfl rfl (by simp) (by simpa using h0))) rfl ?_
  refine PC.new _ rfl (GQ.q rfl (Q.move_ptr rfl)) rfl ?_
  refine PC.new _ rfl (GQ.q rfl (Q.nil_ptr rfl)) rfl ?_
  refine PC.new _ rfl (GQ.q rfl (Q.fld_ptr fl77_1 rfl)) rfl ?_
  refine PC.new _ rfl (GQ.q rfl (Q.ld_ptr (k := 0) ag49 rfl rfl rfl)) rfl ?_
  refine PC.new _ rfl (GQ.q rfl (Q.len_vs isl49 rfl)) rfl ?_
  refine PC.now rfl rfl (fun τ => Loud.to (L.ustr (k := 2) (kt := 3) (e := 5) (by kernel_rfl) rfl rfl rfl rfl rfl h0 rfl) (fun _ _ h => ⟨_, h.1, rfl, h.2⟩)) ?_
  refine PC.nil ?_
  rintro _ _ ⟨rfl, rfl⟩
  refine DT.last [.did, .did, .did, .did, .did, .did, .did, .did, .did, .did, .did] (by kernel_rfl) ?_
  refine PC.did rfl ?_
  refine PC.did rfl ?_
  refine PC.did rfl ?_
  refine PC.did rfl ?_
  refine PC.did rfl ?_
  refine PC.did rfl ?_
  refine PC.did rfl ?_
  refine PC.did rfl ?_
  refine PC.did rfl ?_
  refine PC.did rfl ?_
  refine PC.did rfl ?_
  refine PC.nil ?_
  refine XOps.s rfl rfl rfl (Q.assign_d rfl) ?_
  refine XOps.nil ?_
  refine W.ret ?_
  exact ⟨_, hs, rfl, HLe.skip _ (HLe.skip _ (HLe.skip _ (HLe.refl _))), rfl, rfl⟩
end Go.Proofs.YtohckiiadkibkaaDoorA
