/- Texts of states. -/
import Derived.Test.YtohckiiadkibkaaDoorBase
import Derived.Test.YtohckiiadkibkaaDoorSpec2
import Derived.Test.YtohckiiadkibkaaDoorSnB
import Derived.Test.YtohckiiadkibkaaDoorStrB
import Derived.Test.YtohckiiadkibkaaDoorStrC
import Derived.Test.YtohckiiadkibkaaDoorAbs29
import Derived.Test.YtohckiiadkibkaaDoorAbs14
set_option linter.unusedVariables false
set_option linter.unusedSimpArgs false
set_option linter.unnecessarySimpa false
namespace Go.Proofs.YtohckiiadkibkaaDoorA.FSnC
open Go
theorem ag48 : tAgg P 48 = some ((true, 2)) := by kernel_rfl
theorem ag5 : tAgg P 5 = some ((false, 1)) := by kernel_rfl
theorem ag9 : tAgg P 9 = some ((false, 1)) := by kernel_rfl
theorem eqt48 : tEq P 48 = some ([.str, .str]) := by kernel_rfl
theorem fl48_0 : tFld P 48 0 = some (0) := by kernel_rfl
theorem fl48_1 : tFld P 48 1 = some (1) := by kernel_rfl
theorem go10 : callGo Go.Proofs.Tryd.f10 = true := by kernel_rfl
theorem go15 : callGo Go.Proofs.Tryd.f15 = true := by kernel_rfl
theorem go19 : callGo Go.Proofs.Tryd.f19 = true := by kernel_rfl
theorem go31 : callGo Go.Proofs.Tryd.f31 = true := by kernel_rfl
theorem go32 : callGo Go.Proofs.Tryd.f32 = true := by kernel_rfl
theorem go33 : callGo Go.Proofs.Tryd.f33 = true := by kernel_rfl
theorem go43 : callGo Go.Proofs.Tryd.f43 = true := by kernel_rfl
theorem go44 : callGo Go.Proofs.Tryd.f44 = true := by kernel_rfl
theorem ibs49 : isBytes P 49 = true := by kernel_rfl
theorem ik5 : tInt P 5 = some (.u8) := by kernel_rfl
theorem ik62 : tInt P 62 = some (.u64) := by kernel_rfl
theorem isl22 : isSl P 22 = true := by kernel_rfl
theorem isl49 : isSl P 49 = true := by kernel_rfl
theorem ist9 : isStr P 9 = true := by kernel_rfl
theorem pl48 : tPl P 48 = some ([(0, 1), (1, 1)]) := by kernel_rfl
theorem sl22 : tSl P 22 = some (2) := by kernel_rfl
theorem sl49 : tSl P 49 = some (1) := by kernel_rfl
theorem tz48 : tZero P 48 = some ([.string ⟨#[]⟩, .string ⟨#[]⟩]) := by kernel_rfl
theorem tz77 : tZero P 77 = some ([.pointer none, .slice none 0 0]) := by kernel_rfl
theorem tzd48 : cellsD [.string ⟨#[]⟩, .string ⟨#[]⟩] = some ([.str ⟨#[]⟩, .str ⟨#[]⟩]) := rfl
end Go.Proofs.YtohckiiadkibkaaDoorA.FSnC
namespace Go.Proofs.YtohckiiadkibkaaDoorA
open Go FSnC
attribute [local irreducible] XOps Quiet Loud W AC GQ DT
def lnH (b fb : Nat) (p : Nat × Nat × Nat) (l : List SR) (hs : Hp) : Hp := match p.1 with
  | 0 => (b, .cells [.d .nilp, .nilsl]) :: (fb, .typ b 77) :: hs
  | k + 1 => bldr b fb p.2.1 p.2.2 (linesB (l.take (k + 1))) hs

set_option maxHeartbeats 4000000 in
set_option maxRecDepth 100000 in
theorem lines_c (l : List SR) (hs : Hp) (hok : okS l) (hn : l.length ≤ 64) : AC P 33 [.d (.sl 2 (l.map SR.enc))] hs (fun r h => r = .d (.str (bs (linesB l))) ∧ h = hs) := by
  have h61 : (⟨#[61]⟩ : ByteArray).size = 1 := rfl
  have h10 : (⟨#[10]⟩ : ByteArray).size = 1 := rfl
  refine AC.of 22 Tryd.func33 rfl rfl rfl ?_
  refine W.reg ?_
  refine XOps.s rfl rfl rfl (Q.assign_d rfl) ?_
  refine XOps.nil ?_
  refine W.reg ?_
  (refine XOps.loud rfl (L.allocT tz77 rfl rfl) ?_; rintro _ _ ⟨b3, fb, rfl, rfl⟩)
  refine XOps.nil ?_
  refine W.seq ?_
  refine W.reg ?_
  refine XOps.s rfl rfl rfl (Q.move_d rfl) ?_
  refine XOps.s rfl rfl rfl (Q.len_sl isl22 rfl) ?_
  refine XOps.s rfl rfl rfl (Q.move_d rfl) ?_
  refine XOps.nil ?_
  refine W.block ?_
  refine W.loop (ι := Nat × Nat × Nat) (fun p => [(3, .ptr b3 0), (6, .d (.sl 2 (l.map SR.enc))), (7, .d (.int .i64 l.length)), (8, .d (.int .i64 (p.1 : Nat)))]) (fun p => lnH b3 fb p l hs) (fun p => p.1 ≤ l.length) (fun p => l.length - p.1) (0, 0, 0) ?_ ?_ ?_ ?_
  · exact Nat.zero_le _
  · exact ⟨by first | rfl | exact int_eq (by omega) | exact len_eq (by simp) | exact int_eq (by simp; done), by first | rfl | exact int_eq (by omega) | exact len_eq (by simp) | exact int_eq (by simp; done), by first | rfl | exact int_eq (by omega) | exact len_eq (by simp) | exact int_eq (by simp; done), by first | rfl | exact int_eq (by omega) | exact len_eq (by simp) | exact int_eq (by simp; done), trivial⟩
  · exact HLe.pick 1 rfl rfl (HLe.cons _ (HLe.refl _))
  · rintro ⟨k, v, fv⟩ hk
    dsimp only at hk ⊢
    rcases k with _ | m <;> dsimp only [lnH]
    · skip
      refine W.reg ?_
      refine XOps.s rfl rfl rfl (Q.lss rfl rfl) ?_
      refine XOps.nil ?_
      refine W.seq ?_
      refine W.cond rfl (fun hc9 => ?_) (fun hc9 => ?_)
      · try simp only [Bool.or_eq_true, Bool.or_eq_false_iff, Bool.and_eq_true, Bool.and_eq_false_iff, decide_eq_true_eq, decide_eq_false_iff_not, Bool.not_eq_true', Bool.not_eq_false', Int.not_lt, Int.not_le, List.length_map] at hc9
        obtain ⟨x, hx⟩ : ∃ x, l[0]? = some x := ⟨_, List.getElem?_eq_getElem (by omega)⟩
        obtain ⟨hx1, hx2⟩ := hok.form x (List.mem_of_getElem? hx)
        have hks := (keyed_size hx1).1
        have hvs := (valued_size hx2).1
        have hsu := linesB_succ hx
        have hln := linesB_len hok 0
        refine W.skip ?_
        refine W.seq ?_
        refine W.block ?_
        refine W.reg ?_
        refine XOps.s rfl rfl rfl (Q.idx_sl sl22 (by decide) rfl rfl (by first | omega | (simp only [List.length_map]; omega)) (by exact map_at hx)) ?_
        refine XOps.s rfl rfl rfl (Q.ld_dpn ag48 rfl rfl) ?_
        (refine XOps.loud rfl (L.alloc tz48 rfl rfl) ?_; rintro _ _ ⟨b5, rfl, rfl⟩)
        refine XOps.loud rfl (L.storen (k := 0) ag48 rfl rfl rfl rfl rfl) ?_
        rintro _ _ ⟨rfl, rfl⟩
        refine XOps.nil ?_
        refine W.region ?_
        refine XOps.s rfl rfl rfl (Q.fld_ptr fl48_0 rfl) ?_
        refine XOps.s rfl rfl rfl (Q.ld_ptr (k := 0) ag9 rfl rfl rfl) ?_
        refine XOps.s rfl rfl rfl (Q.adds rfl rfl (by first | omega | (simp only [ByteArray.size_append]; omega))) ?_
        refine XOps.s rfl rfl rfl (Q.fld_ptr fl48_1 rfl) ?_
        refine XOps.s rfl rfl rfl (Q.ld_ptr (k := 0) ag9 rfl rfl rfl) ?_
        refine XOps.s rfl rfl rfl (Q.adds rfl rfl (by first | omega | (simp only [ByteArray.size_append]; omega))) ?_
        refine XOps.s rfl rfl rfl (Q.adds rfl rfl (by first | omega | (simp only [ByteArray.size_append]; omega))) ?_
        refine XOps.loud rfl (L.call rfl Tryd.func43 go43 rfl (AC.le (ws0_c b3 fb (x.key ++ (⟨#[61]⟩ : ByteArray) ++ x.val ++ (⟨#[10]⟩ : ByteArray)) ((b5, .cells (x.enc.map .d)) :: hs) (by simp only [ByteArray.size_append]; omega) (by simp only [ByteArray.size_append]; omega)) (HLe.pick 1 rfl rfl (HLe.pick 1 rfl rfl (HLe.refl _)))) rfl) ?_
        rintro _ _ ⟨_, rfl, v2, fv2, rfl, rfl⟩
        refine XOps.nil ?_
        refine W.region ?_
        refine XOps.s rfl rfl rfl (Q.add rfl rfl (wi64 (by first | omega | (dsimp only; omega) | (simp only [List.length_map]; omega)) (by first | omega | (dsimp only; omega) | (simp only [List.length_map]; omega)))) ?_
        refine XOps.s rfl rfl rfl (Q.move_d rfl) ?_
        refine XOps.nil ?_
        refine ⟨(0 + 1, v2, fv2), ?_, ?_, ?_, ?_⟩
        · show 0 + 1 ≤ l.length; omega
        · show l.length - (0 + 1) < l.length - 0; omega
        · exact ⟨by first | rfl | exact int_eq (by omega) | exact len_eq (by simp) | exact int_eq (by simp; done), by first | rfl | exact int_eq (by omega) | exact len_eq (by simp) | exact int_eq (by simp; done), by first | rfl | exact int_eq (by omega) | exact len_eq (by simp) | exact int_eq (by simp; done), by first | rfl | exact int_eq (by omega) | exact len_eq (by simp) | exact int_eq (by simp; done), trivial⟩
        · have hbl := lineB_str x
          show HLe (bldr b3 fb v2 fv2 (linesB (l.take (0 + 1))) hs) _
          rw [hsu, ← hbl]
          exact HLe.cons _ (HLe.cons _ (HLe.cons _ (HLe.cons _ (HLe.skip _ (HLe.refl _)))))
      · try simp only [Bool.or_eq_true, Bool.or_eq_false_iff, Bool.and_eq_true, Bool.and_eq_false_iff, decide_eq_true_eq, decide_eq_false_iff_not, Bool.not_eq_true', Bool.not_eq_false', Int.not_lt, Int.not_le, List.length_map] at hc9
        have hl0 : l = [] := List.eq_nil_of_length_eq_zero (by omega)
        subst hl0
        refine W.exit ?_
        skip
        refine W.reg ?_
        refine XOps.loud rfl (L.call rfl Tryd.func44 go44 rfl (AC.le (bstr0_c b3 (.d .nilp) hs) (HLe.cons _ (HLe.skip _ (HLe.refl _)))) rfl) ?_
        rintro _ _ ⟨_, rfl, rfl, rfl⟩
        refine XOps.s rfl rfl rfl (Q.assign_d rfl) ?_
        refine XOps.nil ?_
        refine W.ret ?_
        refine ⟨_, _, rfl, HLe.refl _, ?_, rfl⟩
        rfl
    · skip
      refine W.reg ?_
      refine XOps.s rfl rfl rfl (Q.lss rfl rfl) ?_
      refine XOps.nil ?_
      refine W.seq ?_
      refine W.cond rfl (fun hc9 => ?_) (fun hc9 => ?_)
      · try simp only [Bool.or_eq_true, Bool.or_eq_false_iff, Bool.and_eq_true, Bool.and_eq_false_iff, decide_eq_true_eq, decide_eq_false_iff_not, Bool.not_eq_true', Bool.not_eq_false', Int.not_lt, Int.not_le, List.length_map] at hc9
        obtain ⟨x, hx⟩ : ∃ x, l[(m + 1)]? = some x := ⟨_, List.getElem?_eq_getElem (by omega)⟩
        obtain ⟨hx1, hx2⟩ := hok.form x (List.mem_of_getElem? hx)
        have hks := (keyed_size hx1).1
        have hvs := (valued_size hx2).1
        have hsu := linesB_succ hx
        have hln := linesB_len hok (m + 1)
        refine W.skip ?_
        refine W.seq ?_
        refine W.block ?_
        refine W.reg ?_
        refine XOps.s rfl rfl rfl (Q.idx_sl sl22 (by decide) rfl rfl (by first | omega | (simp only [List.length_map]; omega)) (by exact map_at hx)) ?_
        refine XOps.s rfl rfl rfl (Q.ld_dpn ag48 rfl rfl) ?_
        (refine XOps.loud rfl (L.alloc tz48 rfl rfl) ?_; rintro _ _ ⟨b5, rfl, rfl⟩)
        refine XOps.loud rfl (L.storen (k := 0) ag48 rfl rfl rfl rfl rfl) ?_
        rintro _ _ ⟨rfl, rfl⟩
        refine XOps.nil ?_
        refine W.region ?_
        refine XOps.s rfl rfl rfl (Q.fld_ptr fl48_0 rfl) ?_
        refine XOps.s rfl rfl rfl (Q.ld_ptr (k := 0) ag9 rfl rfl rfl) ?_
        refine XOps.s rfl rfl rfl (Q.adds rfl rfl (by first | omega | (simp only [ByteArray.size_append]; omega))) ?_
        refine XOps.s rfl rfl rfl (Q.fld_ptr fl48_1 rfl) ?_
        refine XOps.s rfl rfl rfl (Q.ld_ptr (k := 0) ag9 rfl rfl rfl) ?_
        refine XOps.s rfl rfl rfl (Q.adds rfl rfl (by first | omega | (simp only [ByteArray.size_append]; omega))) ?_
        refine XOps.s rfl rfl rfl (Q.adds rfl rfl (by first | omega | (simp only [ByteArray.size_append]; omega))) ?_
        refine XOps.loud rfl (L.call rfl Tryd.func43 go43 rfl (AC.le (ws1_c b3 fb v fv (linesB (l.take (m + 1))) (x.key ++ (⟨#[61]⟩ : ByteArray) ++ x.val ++ (⟨#[10]⟩ : ByteArray)) ((b5, .cells (x.enc.map .d)) :: hs) (by simp only [ByteArray.size_append]; omega)) (HLe.pick 1 rfl rfl (HLe.pick 1 rfl rfl (HLe.pick 1 rfl rfl (HLe.pick 1 rfl rfl (HLe.refl _)))))) rfl) ?_
        rintro _ _ ⟨_, rfl, v2, fv2, rfl, rfl⟩
        refine XOps.nil ?_
        refine W.region ?_
        refine XOps.s rfl rfl rfl (Q.add rfl rfl (wi64 (by first | omega | (dsimp only; omega) | (simp only [List.length_map]; omega)) (by first | omega | (dsimp only; omega) | (simp only [List.length_map]; omega)))) ?_
        refine XOps.s rfl rfl rfl (Q.move_d rfl) ?_
        refine XOps.nil ?_
        refine ⟨((m + 1) + 1, v2, fv2), ?_, ?_, ?_, ?_⟩
        · show (m + 1) + 1 ≤ l.length; omega
        · show l.length - ((m + 1) + 1) < l.length - (m + 1); omega
        · exact ⟨by first | rfl | exact int_eq (by omega) | exact len_eq (by simp) | exact int_eq (by simp; done), by first | rfl | exact int_eq (by omega) | exact len_eq (by simp) | exact int_eq (by simp; done), by first | rfl | exact int_eq (by omega) | exact len_eq (by simp) | exact int_eq (by simp; done), by first | rfl | exact int_eq (by omega) | exact len_eq (by simp) | exact int_eq (by simp; done), trivial⟩
        · have hbl := lineB_str x
          show HLe (bldr b3 fb v2 fv2 (linesB (l.take ((m + 1) + 1))) hs) _
          rw [hsu, ← hbl]
          exact HLe.cons _ (HLe.cons _ (HLe.cons _ (HLe.cons _ (HLe.skip _ (HLe.refl _)))))
      · try simp only [Bool.or_eq_true, Bool.or_eq_false_iff, Bool.and_eq_true, Bool.and_eq_false_iff, decide_eq_true_eq, decide_eq_false_iff_not, Bool.not_eq_true', Bool.not_eq_false', Int.not_lt, Int.not_le, List.length_map] at hc9
        have hkl : l.length = m + 1 := by omega
        have hne : linesB (l.take (m + 1)) ≠ [] := linesB_ne (k := m) (List.getElem?_eq_getElem (by omega))
        have hfin : linesB (l.take (m + 1)) = linesB l := by rw [List.take_of_length_le (by omega)]
        refine W.exit ?_
        skip
        refine W.reg ?_
        refine XOps.loud rfl (L.call rfl Tryd.func44 go44 rfl (bstr1_c b3 fb v fv (linesB (l.take (m + 1))) hs hne) rfl) ?_
        rintro _ _ ⟨_, rfl, rfl, rfl⟩
        refine XOps.s rfl rfl rfl (Q.assign_d rfl) ?_
        refine XOps.nil ?_
        refine W.ret ?_
        refine ⟨_, _, rfl, HLe.refl _, ?_, rfl⟩
        exact congrArg (fun z => AV.d (.str (bs z))) hfin

set_option maxHeartbeats 1000000 in
set_option maxRecDepth 100000 in
theorem digest_c (l : List SR) (hs : Hp) (hL : l.length ≤ 4611686018427387904) (hz : szR l) : AC P 31 [.d (.sl 2 (l.map SR.enc))] hs (fun r h => r = .tup [.d (.int .u64 (digV l : Nat)), .d (.int .i64 (checkL l))] ∧ h = hs) := by
  refine AC.of 28 Tryd.func31 rfl rfl rfl ?_
  refine W.reg ?_
  refine XOps.s rfl rfl rfl (Q.assign_d rfl) ?_
  refine XOps.s rfl rfl rfl (Q.assign_d rfl) ?_
  refine XOps.nil ?_
  refine W.seq ?_
  refine W.reg ?_
  refine XOps.s rfl rfl rfl (Q.move_d rfl) ?_
  refine XOps.s rfl rfl rfl (Q.call rfl Tryd.func15 go15 rfl (check_c l _ hL hz)) ?_
  refine XOps.s rfl rfl rfl (Q.assign_d rfl) ?_
  refine XOps.nil ?_
  refine W.reg ?_
  refine XOps.s rfl rfl rfl (Q.move_d rfl) ?_
  refine XOps.s rfl rfl rfl (Q.neq rfl rfl) ?_
  refine XOps.nil ?_
  refine W.cond rfl (fun hc11 => ?_) (fun hc11 => ?_)
  · try simp only [Bool.or_eq_true, Bool.or_eq_false_iff, Bool.and_eq_true, Bool.and_eq_false_iff, decide_eq_true_eq, decide_eq_false_iff_not, Bool.not_eq_true', Bool.not_eq_false', Int.not_lt, Int.not_le, List.length_map] at hc11
    have hE : digV l = 0 := if_pos hc11
    rw [hE]
    refine W.reg ?_
    refine XOps.s rfl rfl rfl (Q.move_d rfl) ?_
    refine XOps.s rfl rfl rfl (Q.assign_d rfl) ?_
    refine XOps.s rfl rfl rfl (Q.assign_d rfl) ?_
    refine XOps.nil ?_
    refine W.ret ?_
    refine ⟨_, hs, rfl, by repeat (first | exact HLe.refl _ | refine HLe.skip _ ?_), ?_, rfl⟩
    rfl
  · try simp only [Bool.or_eq_true, Bool.or_eq_false_iff, Bool.and_eq_true, Bool.and_eq_false_iff, decide_eq_true_eq, decide_eq_false_iff_not, Bool.not_eq_true', Bool.not_eq_false', Int.not_lt, Int.not_le, List.length_map] at hc11
    have h0 : checkL l = 0 := by omega
    have h10 := checkL_zero.1 h0
    have hbl := bytes_len (bs (linesB l))
    have hll := linesB_len h10.1 l.length
    rw [List.take_length, ← bs_size] at hll
    have hE : digV l = fnvL (linesB l) := if_neg (by omega)
    rw [hE, h0]
    refine W.skip ?_
    refine W.reg ?_
    refine XOps.s rfl rfl rfl (Q.assign_d rfl) ?_
    refine XOps.nil ?_
    refine W.seq ?_
    refine W.reg ?_
    refine XOps.s rfl rfl rfl (Q.move_d rfl) ?_
    refine XOps.s rfl rfl rfl (Q.call rfl Tryd.func33 go33 rfl (lines_c l _ h10.1 h10.2)) ?_
    refine XOps.s rfl rfl rfl (Q.conv_bytes ist9 ibs49 rfl) ?_
    refine XOps.s rfl rfl rfl (Q.len_sl isl49 rfl) ?_
    refine XOps.s rfl rfl rfl (Q.move_d rfl) ?_
    refine XOps.nil ?_
    refine W.block ?_
    refine W.loop (ι := Nat) (fun k => [(0, .d (.sl 2 (l.map SR.enc))), (5, .d (.int .u64 (fnvL ((linesB l).take k) : Nat))), (15, .d (bytesD (bs (linesB l)))), (16, .d (.int .i64 (bs (linesB l)).size)), (17, .d (.int .i64 k))]) (fun k => hs) (fun k => k ≤ (bs (linesB l)).size) (fun k => (bs (linesB l)).size - k) 0 ?_ ?_ ?_ ?_
    · exact Nat.zero_le _
    · exact ⟨by first | rfl | exact int_eq (by omega) | exact len_eq (by simp) | exact int_eq (by simp; done), by first | rfl | exact int_eq (by omega) | exact len_eq (by simp) | exact int_eq (by simp; done), by first | rfl | exact int_eq (by omega) | exact len_eq (by simp) | exact int_eq (by simp; done), by exact len_eq (bytes_len (bs (linesB l))), by first | rfl | exact int_eq (by omega) | exact len_eq (by simp) | exact int_eq (by simp; done), trivial⟩
    · repeat (first | exact HLe.refl _ | refine HLe.cons' (by first | rfl | (simp; done)) ?_ | refine HLe.pick 1 rfl (by first | rfl | (simp; done)) ?_ | refine HLe.pick 2 rfl (by first | rfl | (simp; done)) ?_ | refine HLe.pick 3 rfl (by first | rfl | (simp; done)) ?_ | refine HLe.pick 4 rfl (by first | rfl | (simp; done)) ?_ | refine HLe.pick 5 rfl (by first | rfl | (simp; done)) ?_ | refine HLe.skip _ ?_)
    · rintro k hk
      try dsimp only
      refine W.reg ?_
      refine XOps.s rfl rfl rfl (Q.lss rfl rfl) ?_
      refine XOps.nil ?_
      refine W.seq ?_
      refine W.cond rfl (fun hc18 => ?_) (fun hc18 => ?_)
      · try simp only [Bool.or_eq_true, Bool.or_eq_false_iff, Bool.and_eq_true, Bool.and_eq_false_iff, decide_eq_true_eq, decide_eq_false_iff_not, Bool.not_eq_true', Bool.not_eq_false', Int.not_lt, Int.not_le, List.length_map] at hc18
        have hks : k < (bs (linesB l)).size := by omega
        have hcb : (linesB l)[k]? = some (byteAt (bs (linesB l)) k) := by
          have h1 : k < (linesB l).length := by rw [← bs_size]; exact hks
          rw [List.getElem?_eq_getElem h1]; unfold byteAt; rw [List.getD_eq_getElem?_getD]; show _ = some (((linesB l)[k]?).getD 0); rw [List.getElem?_eq_getElem h1]; rfl
        have hst := fnv_step hcb
        have hbt : (byteAt (bs (linesB l)) k).toNat < 256 := UInt8.toNat_lt _
        refine W.skip ?_
        refine W.seq ?_
        refine W.block ?_
        refine W.reg ?_
        refine XOps.s rfl rfl rfl (Q.idx_sl sl49 (by decide) rfl rfl (by first | omega | (simp only [List.length_map]; omega)) (by exact bytes_row (by omega))) ?_
        refine XOps.s rfl rfl rfl (Q.ld_dp ag5 rfl rfl) ?_
        refine XOps.s rfl rfl rfl (Q.assign_d rfl) ?_
        refine XOps.nil ?_
        refine W.region ?_
        refine XOps.s rfl rfl rfl (Q.move_d rfl) ?_
        refine XOps.s rfl rfl rfl (Q.move_d rfl) ?_
        refine XOps.s rfl rfl rfl (Q.conv_cnt ik62 rfl (und_int ik5) (Int.natCast_nonneg _) (by have := UInt8.toNat_lt ((bs (linesB l)).data.toList.getD k 0); omega) (.inl rfl)) ?_
        refine XOps.s rfl rfl rfl (Q.xor64 (m := fnvL ((linesB l).take k)) (n := (byteAt (bs (linesB l)) k).toNat) rfl rfl (fnv_lt _) (by omega)) ?_
        refine XOps.s rfl rfl rfl (Q.mul rfl rfl (fnv_mul _ _)) ?_
        refine XOps.s rfl rfl rfl (Q.assign_d rfl) ?_
        refine XOps.nil ?_
        refine W.region ?_
        refine XOps.s rfl rfl rfl (Q.add rfl rfl (wi64 (by first | omega | (dsimp only; omega) | (simp only [List.length_map]; omega)) (by first | omega | (dsimp only; omega) | (simp only [List.length_map]; omega)))) ?_
        refine XOps.s rfl rfl rfl (Q.move_d rfl) ?_
        refine XOps.nil ?_
        refine ⟨k + 1, ?_, ?_, ?_, ?_⟩
        · omega
        · omega
        · exact ⟨by first | rfl | exact int_eq (by omega) | exact len_eq (by simp) | exact int_eq (by simp; done), by (rw [hst]; rfl), by first | rfl | exact int_eq (by omega) | exact len_eq (by simp) | exact int_eq (by simp; done), by first | rfl | exact int_eq (by omega) | exact len_eq (by simp) | exact int_eq (by simp; done), by first | rfl | exact int_eq (by omega) | exact len_eq (by simp) | exact int_eq (by simp; done), trivial⟩
        · repeat (first | exact HLe.refl _ | refine HLe.cons' (by first | rfl | (simp; done)) ?_ | refine HLe.pick 1 rfl (by first | rfl | (simp; done)) ?_ | refine HLe.pick 2 rfl (by first | rfl | (simp; done)) ?_ | refine HLe.pick 3 rfl (by first | rfl | (simp; done)) ?_ | refine HLe.pick 4 rfl (by first | rfl | (simp; done)) ?_ | refine HLe.pick 5 rfl (by first | rfl | (simp; done)) ?_ | refine HLe.skip _ ?_)
      · try simp only [Bool.or_eq_true, Bool.or_eq_false_iff, Bool.and_eq_true, Bool.and_eq_false_iff, decide_eq_true_eq, decide_eq_false_iff_not, Bool.not_eq_true', Bool.not_eq_false', Int.not_lt, Int.not_le, List.length_map] at hc18
        have hkl : k = (bs (linesB l)).size := by omega
        have hfin : fnvL ((linesB l).take k) = fnvL (linesB l) := by rw [List.take_of_length_le (by rw [← bs_size]; omega)]
        rw [hfin]
        refine W.exit ?_
        refine W.reg ?_
        refine XOps.s rfl rfl rfl (Q.move_d rfl) ?_
        refine XOps.s rfl rfl rfl (Q.assign_d rfl) ?_
        refine XOps.s rfl rfl rfl (Q.assign_d rfl) ?_
        refine XOps.nil ?_
        refine W.ret ?_
        refine ⟨_, hs, rfl, by repeat (first | exact HLe.refl _ | refine HLe.skip _ ?_), ?_, rfl⟩
        rfl

set_option maxHeartbeats 1000000 in
set_option maxRecDepth 100000 in
theorem text_c (l : List SR) (gd : Nat) (hs : Hp) (hL : l.length ≤ 4611686018427387904) (hz : szR l) : AC P 19 [.d (.sl 2 (l.map SR.enc))] ((gd, dbG) :: hs) (fun r h => r = .tup [.d (.str (textV l)), .d (.int .i64 (checkL l))] ∧ h = (gd, dbG) :: hs) := by
  have h10 : (⟨#[10]⟩ : ByteArray).size = 1 := rfl
  refine AC.of 20 Tryd.func19 rfl rfl rfl ?_
  refine W.reg ?_
  refine XOps.s rfl rfl rfl (Q.assign_d rfl) ?_
  refine XOps.s rfl rfl rfl (Q.assign_d rfl) ?_
  refine XOps.nil ?_
  refine W.reg ?_
  refine XOps.s rfl rfl rfl (Q.move_d rfl) ?_
  refine XOps.s rfl rfl rfl (Q.call rfl Tryd.func31 go31 rfl (digest_c l _ hL hz)) ?_
  refine XOps.s rfl rfl rfl (Q.move_tup rfl) ?_
  refine XOps.s rfl rfl rfl (Q.extract rfl rfl) ?_
  refine XOps.s rfl rfl rfl (Q.extract rfl rfl) ?_
  refine XOps.s rfl rfl rfl (Q.assign_d rfl) ?_
  refine XOps.s rfl rfl rfl (Q.assign_d rfl) ?_
  refine XOps.nil ?_
  refine W.seq ?_
  refine W.reg ?_
  refine XOps.s rfl rfl rfl (Q.move_d rfl) ?_
  refine XOps.s rfl rfl rfl (Q.neq rfl rfl) ?_
  refine XOps.nil ?_
  refine W.cond rfl (fun hc12 => ?_) (fun hc12 => ?_)
  · try simp only [Bool.or_eq_true, Bool.or_eq_false_iff, Bool.and_eq_true, Bool.and_eq_false_iff, decide_eq_true_eq, decide_eq_false_iff_not, Bool.not_eq_true', Bool.not_eq_false', Int.not_lt, Int.not_le, List.length_map] at hc12
    have hE : textV l = ⟨#[]⟩ := if_pos hc12
    rw [hE]
    refine W.reg ?_
    refine XOps.s rfl rfl rfl (Q.move_d rfl) ?_
    refine XOps.s rfl rfl rfl (Q.assign_d rfl) ?_
    refine XOps.s rfl rfl rfl (Q.assign_d rfl) ?_
    refine XOps.nil ?_
    refine W.ret ?_
    refine ⟨_, (gd, dbG) :: hs, rfl, by repeat (first | exact HLe.refl _ | refine HLe.skip _ ?_), ?_, rfl⟩
    rfl
  · try simp only [Bool.or_eq_true, Bool.or_eq_false_iff, Bool.and_eq_true, Bool.and_eq_false_iff, decide_eq_true_eq, decide_eq_false_iff_not, Bool.not_eq_true', Bool.not_eq_false', Int.not_lt, Int.not_le, List.length_map] at hc12
    have h0 : checkL l = 0 := by omega
    have h1 := checkL_zero.1 h0
    have hD : digV l = fnvL (linesB l) := if_neg (by omega)
    have hlt : digV l < 18446744073709551616 := by rw [hD]; exact fnv_lt _
    have hhl := hexS_len hlt
    have hll := linesB_len h1.1 l.length
    rw [List.take_length, ← bs_size] at hll
    have hE : textV l = hexS (digV l) ++ ⟨#[10]⟩ ++ bs (linesB l) := by rw [hD]; exact if_neg (by omega)
    rw [hE, h0]
    refine W.skip ?_
    refine W.reg ?_
    refine XOps.s rfl rfl rfl (Q.move_d rfl) ?_
    refine XOps.s rfl rfl rfl (Q.call rfl Tryd.func32 go32 rfl (fu16_c (digV l) gd hs hlt)) ?_
    refine XOps.s rfl rfl rfl (Q.adds rfl rfl (by omega)) ?_
    refine XOps.s rfl rfl rfl (Q.move_d rfl) ?_
    refine XOps.s rfl rfl rfl (Q.call rfl Tryd.func33 go33 rfl (lines_c l _ h1.1 h1.2)) ?_
    refine XOps.s rfl rfl rfl (Q.adds rfl rfl (by first | omega | (simp only [ByteArray.size_append]; omega))) ?_
    refine XOps.s rfl rfl rfl (Q.assign_d rfl) ?_
    refine XOps.s rfl rfl rfl (Q.assign_d rfl) ?_
    refine XOps.nil ?_
    refine W.ret ?_
    refine ⟨_, (gd, dbG) :: hs, rfl, by repeat (first | exact HLe.refl _ | refine HLe.skip _ ?_), ?_, rfl⟩
    rfl

set_option maxHeartbeats 1000000 in
set_option maxRecDepth 100000 in
theorem same_c (a b : List SR) (hs : Hp) (hl : a.length ≤ 4611686018427387904) : AC P 11 [.d (.sl 2 (a.map SR.enc)), .d (.sl 2 (b.map SR.enc))] hs (fun r h => r = .d (.bool (decide (a = b))) ∧ h = hs) := by
  refine AC.of 26 Tryd.func11 rfl rfl rfl ?_
  refine W.reg ?_
  refine XOps.s rfl rfl rfl (Q.assign_d rfl) ?_
  refine XOps.nil ?_
  refine W.seq ?_
  refine W.reg ?_
  refine XOps.s rfl rfl rfl (Q.move_d rfl) ?_
  refine XOps.s rfl rfl rfl (Q.len_sl isl22 rfl) ?_
  refine XOps.s rfl rfl rfl (Q.move_d rfl) ?_
  refine XOps.s rfl rfl rfl (Q.len_sl isl22 rfl) ?_
  refine XOps.s rfl rfl rfl (Q.neq rfl rfl) ?_
  refine XOps.nil ?_
  refine W.cond rfl (fun hc10 => ?_) (fun hc10 => ?_)
  · try simp only [decide_eq_true_eq, decide_eq_false_iff_not, Int.not_lt, Int.not_le, Bool.not_eq_true', Bool.not_eq_false', List.length_map] at hc10
    have hr : decide (a = b) = false := decide_eq_false fun h => by subst h; simp at hc10
    refine W.reg ?_
    refine XOps.s rfl rfl rfl (Q.assign_d rfl) ?_
    refine XOps.nil ?_
    refine W.ret ?_
    refine ⟨_, hs, rfl, by repeat (first | exact HLe.refl _ | refine HLe.cons' (by first | rfl | (simp; done)) ?_ | refine HLe.pick 1 rfl (by first | rfl | (simp; done)) ?_ | refine HLe.pick 2 rfl (by first | rfl | (simp; done)) ?_ | refine HLe.pick 3 rfl (by first | rfl | (simp; done)) ?_ | refine HLe.pick 4 rfl (by first | rfl | (simp; done)) ?_ | refine HLe.pick 5 rfl (by first | rfl | (simp; done)) ?_ | refine HLe.skip _ ?_), ?_, rfl⟩
    rw [hr]; rfl
  · try simp only [decide_eq_true_eq, decide_eq_false_iff_not, Int.not_lt, Int.not_le, Bool.not_eq_true', Bool.not_eq_false', List.length_map] at hc10
    have hlen : a.length = b.length := by omega
    refine W.skip ?_
    refine W.seq ?_
    refine W.reg ?_
    refine XOps.s rfl rfl rfl (Q.move_d rfl) ?_
    refine XOps.s rfl rfl rfl (Q.len_sl isl22 rfl) ?_
    refine XOps.s rfl rfl rfl (Q.move_d rfl) ?_
    refine XOps.nil ?_
    refine W.block ?_
    refine W.loop (ι := Nat) (fun k => [(0, .d (.sl 2 (a.map SR.enc))), (1, .d (.sl 2 (b.map SR.enc))), (12, .d (.int .i64 a.length)), (13, .d (.int .i64 k))]) (fun k => hs) (fun k => k ≤ a.length ∧ ∀ i, i < k → a[i]? = b[i]?) (fun k => a.length - k) 0 ?_ ?_ ?_ ?_
    · exact ⟨Nat.zero_le _, fun i hi => absurd hi (Nat.not_lt_zero _)⟩
    · exact ⟨by first | rfl | exact int_eq (by omega) | exact len_eq (by simp) | exact int_eq (by simp; done), by first | rfl | exact int_eq (by omega) | exact len_eq (by simp) | exact int_eq (by simp; done), by first | rfl | exact int_eq (by omega) | exact len_eq (by simp) | exact int_eq (by simp; done), by first | rfl | exact int_eq (by omega) | exact len_eq (by simp) | exact int_eq (by simp; done), trivial⟩
    · repeat (first | exact HLe.refl _ | refine HLe.cons' (by first | rfl | (simp; done)) ?_ | refine HLe.pick 1 rfl (by first | rfl | (simp; done)) ?_ | refine HLe.pick 2 rfl (by first | rfl | (simp; done)) ?_ | refine HLe.pick 3 rfl (by first | rfl | (simp; done)) ?_ | refine HLe.pick 4 rfl (by first | rfl | (simp; done)) ?_ | refine HLe.pick 5 rfl (by first | rfl | (simp; done)) ?_ | refine HLe.skip _ ?_)
    · rintro k ⟨hk, hI⟩
      try dsimp only
      refine W.reg ?_
      refine XOps.s rfl rfl rfl (Q.lss rfl rfl) ?_
      refine XOps.nil ?_
      refine W.seq ?_
      refine W.cond rfl (fun hc14 => ?_) (fun hc14 => ?_)
      · try simp only [decide_eq_true_eq, decide_eq_false_iff_not, Int.not_lt, Int.not_le, Bool.not_eq_true', Bool.not_eq_false', List.length_map] at hc14
        obtain ⟨u, hu⟩ : ∃ u, a[k]? = some u := ⟨_, List.getElem?_eq_getElem (by omega)⟩
        obtain ⟨v, hv⟩ : ∃ v, b[k]? = some v := ⟨_, List.getElem?_eq_getElem (by omega)⟩
        have hsm : allD (u.enc.take 2) (v.enc.take 2) = decide (u = v) := same_sr u v
        refine W.skip ?_
        refine W.seq ?_
        refine W.block ?_
        refine W.reg ?_
        refine XOps.s rfl rfl rfl (Q.move_d rfl) ?_
        refine XOps.s rfl rfl rfl (Q.assign_d rfl) ?_
        refine XOps.nil ?_
        refine W.drawreg 9 follows (by kernel_rfl) ?_
        refine Chain.cons _ (GQ.q rfl (Q.move_d rfl)) rfl ?_
        refine Chain.cons _ (GQ.q rfl (Q.move_d rfl)) rfl ?_
        refine Chain.cons _ (GQ.q rfl (Q.idx_sl sl22 (by decide) rfl rfl (by first | omega | (simp only [List.length_map]; omega)) (by first | exact map_at hu | exact map_at hv))) rfl ?_
        refine Chain.cons _ (GQ.q rfl (Q.ld_dpn ag48 rfl rfl)) rfl ?_
        refine Chain.cons _ (GQ.q rfl (Q.move_d rfl)) rfl ?_
        refine Chain.cons _ (GQ.q rfl (Q.move_d rfl)) rfl ?_
        refine Chain.cons _ (GQ.q rfl (Q.idx_sl sl22 (by decide) rfl rfl (by first | omega | (simp only [List.length_map]; omega)) (by first | exact map_at hu | exact map_at hv))) rfl ?_
        refine Chain.cons _ (GQ.q rfl (Q.ld_dpn ag48 rfl rfl)) rfl ?_
        refine Chain.cons _ (GQ.q rfl (Q.neq_agg eqt48 rfl rfl rfl rfl rfl)) rfl ?_
        refine Chain.nil ?_
        refine XOps.nil ?_
        refine W.cond rfl (fun hc24 => ?_) (fun hc24 => ?_)
        · try simp only [decide_eq_true_eq, decide_eq_false_iff_not, Int.not_lt, Int.not_le, Bool.not_eq_true', Bool.not_eq_false', List.length_map] at hc24
          rw [hsm] at hc24
          have hr : decide (a = b) = false := decide_eq_false fun h => by subst h; rw [hu] at hv; obtain rfl := Option.some.inj hv; simp at hc24
          refine W.reg ?_
          refine XOps.s rfl rfl rfl (Q.assign_d rfl) ?_
          refine XOps.nil ?_
          refine W.ret ?_
          refine ⟨_, hs, rfl, by repeat (first | exact HLe.refl _ | refine HLe.cons' (by first | rfl | (simp; done)) ?_ | refine HLe.pick 1 rfl (by first | rfl | (simp; done)) ?_ | refine HLe.pick 2 rfl (by first | rfl | (simp; done)) ?_ | refine HLe.pick 3 rfl (by first | rfl | (simp; done)) ?_ | refine HLe.pick 4 rfl (by first | rfl | (simp; done)) ?_ | refine HLe.pick 5 rfl (by first | rfl | (simp; done)) ?_ | refine HLe.skip _ ?_), ?_, rfl⟩
          rw [hr]; rfl
        · try simp only [decide_eq_true_eq, decide_eq_false_iff_not, Int.not_lt, Int.not_le, Bool.not_eq_true', Bool.not_eq_false', List.length_map] at hc24
          rw [hsm] at hc24
          have huv : u = v := by simpa using hc24
          refine W.skip ?_
          refine W.region ?_
          refine XOps.s rfl rfl rfl (Q.add rfl rfl (wi64 (by first | omega | (dsimp only; omega) | (simp only [List.length_map]; omega)) (by first | omega | (dsimp only; omega) | (simp only [List.length_map]; omega)))) ?_
          refine XOps.s rfl rfl rfl (Q.move_d rfl) ?_
          refine XOps.nil ?_
          refine ⟨k + 1, ?_, ?_, ?_, ?_⟩
          · refine ⟨by omega, fun i hi => ?_⟩
            by_cases h : i = k
            · subst h; rw [hu, hv, huv]
            · exact hI i (by omega)
          · omega
          · exact ⟨by first | rfl | exact int_eq (by omega) | exact len_eq (by simp) | exact int_eq (by simp; done), by first | rfl | exact int_eq (by omega) | exact len_eq (by simp) | exact int_eq (by simp; done), by first | rfl | exact int_eq (by omega) | exact len_eq (by simp) | exact int_eq (by simp; done), by first | rfl | exact int_eq (by omega) | exact len_eq (by simp) | exact int_eq (by simp; done), trivial⟩
          · repeat (first | exact HLe.refl _ | refine HLe.cons' (by first | rfl | (simp; done)) ?_ | refine HLe.pick 1 rfl (by first | rfl | (simp; done)) ?_ | refine HLe.pick 2 rfl (by first | rfl | (simp; done)) ?_ | refine HLe.pick 3 rfl (by first | rfl | (simp; done)) ?_ | refine HLe.pick 4 rfl (by first | rfl | (simp; done)) ?_ | refine HLe.pick 5 rfl (by first | rfl | (simp; done)) ?_ | refine HLe.skip _ ?_)
      · try simp only [decide_eq_true_eq, decide_eq_false_iff_not, Int.not_lt, Int.not_le, Bool.not_eq_true', Bool.not_eq_false', List.length_map] at hc14
        have hr : decide (a = b) = true := decide_eq_true (List.ext_getElem? fun i => by
          rcases Nat.lt_or_ge i k with h | h
          · exact hI i h
          · rw [List.getElem?_eq_none (by omega), List.getElem?_eq_none (by omega)])
        refine W.exit ?_
        refine W.reg ?_
        refine XOps.s rfl rfl rfl (Q.assign_d rfl) ?_
        refine XOps.nil ?_
        refine W.ret ?_
        refine ⟨_, hs, rfl, by repeat (first | exact HLe.refl _ | refine HLe.cons' (by first | rfl | (simp; done)) ?_ | refine HLe.pick 1 rfl (by first | rfl | (simp; done)) ?_ | refine HLe.pick 2 rfl (by first | rfl | (simp; done)) ?_ | refine HLe.pick 3 rfl (by first | rfl | (simp; done)) ?_ | refine HLe.pick 4 rfl (by first | rfl | (simp; done)) ?_ | refine HLe.pick 5 rfl (by first | rfl | (simp; done)) ?_ | refine HLe.skip _ ?_), ?_, rfl⟩
        rw [hr]; rfl

set_option maxHeartbeats 1000000 in
set_option maxRecDepth 100000 in
theorem fact_c (gd : Nat) (hs : Hp) : AC P 9 [] ((gd, dbG) :: hs) (fun r h => r = .d (.bool true) ∧ h = (gd, dbG) :: hs) := by
  refine AC.of 35 Tryd.func9 rfl rfl rfl ?_
  refine W.reg ?_
  refine XOps.s rfl rfl rfl (Q.assign_d rfl) ?_
  refine XOps.nil ?_
  refine W.reg ?_
  refine XOps.s rfl rfl rfl (Q.call rfl Tryd.func10 go10 rfl (AC.args ((set_c [] ⟨#[97]⟩ ⟨#[120]⟩ _ (by decide) (fun x h => by cases h) (by decide) (by decide)).mono (R' := fun r h => r = .tup [.d (.sl 2 [[.str ⟨#[97]⟩, .str ⟨#[120]⟩]]), .d (.int .i64 0)] ∧ h = (gd, dbG) :: hs) (fun r h hr => by rw [setE_fact, setL_fact] at hr; exact hr)) (.nilsl 2 (.same (.same .nil))))) ?_
  refine XOps.s rfl rfl rfl (Q.move_tup rfl) ?_
  refine XOps.s rfl rfl rfl (Q.extract rfl rfl) ?_
  refine XOps.s rfl rfl rfl (Q.extract rfl rfl) ?_
  refine XOps.s rfl rfl rfl (Q.assign_d rfl) ?_
  refine XOps.s rfl rfl rfl (Q.assign_d rfl) ?_
  refine XOps.nil ?_
  refine W.reg ?_
  refine XOps.s rfl rfl rfl (Q.call rfl Tryd.func19 go19 rfl (AC.args ((text_c [] gd hs (by decide) (fun x h => by cases h)).mono (R' := fun r h => r = .tup [.d (.str ⟨#[99, 98, 102, 50, 57, 99, 101, 52, 56, 52, 50, 50, 50, 51, 50, 53, 10]⟩), .d (.int .i64 0)] ∧ h = (gd, dbG) :: hs) (fun r h hr => by rw [text_fact] at hr; exact hr)) (.nilsl 2 .nil))) ?_
  refine XOps.s rfl rfl rfl (Q.move_tup rfl) ?_
  refine XOps.s rfl rfl rfl (Q.extract rfl rfl) ?_
  refine XOps.s rfl rfl rfl (Q.extract rfl rfl) ?_
  refine XOps.s rfl rfl rfl (Q.assign_d rfl) ?_
  refine XOps.s rfl rfl rfl (Q.assign_d rfl) ?_
  refine XOps.nil ?_
  refine W.reg ?_
  refine XOps.s rfl rfl rfl (Q.move_d rfl) ?_
  refine XOps.s rfl rfl rfl (Q.eql rfl rfl) ?_
  refine XOps.s rfl rfl rfl (Q.move_d rfl) ?_
  refine XOps.gs rfl rfl rfl rfl rfl rfl rfl (fun hg => Q.move_d rfl) ?_
  refine XOps.gs rfl rfl rfl rfl rfl rfl rfl (fun hg => Quiet.open 16 hg rfl (Q.eql rfl rfl)) ?_
  refine XOps.s rfl rfl rfl (Q.pick_and rfl rfl rfl (fun h => by first | (rw [h]; rfl) | (rw [hg, h]; rfl) | (simp [h, hg]; done))) ?_
  refine XOps.s rfl rfl rfl (Q.move_d rfl) ?_
  refine XOps.gs rfl rfl rfl rfl rfl rfl rfl (fun hg => Q.move_d rfl) ?_
  refine XOps.gs rfl rfl rfl rfl rfl rfl rfl (fun hg => Quiet.open 20 hg rfl (Q.len_sl isl22 rfl)) ?_
  refine XOps.gs rfl rfl rfl rfl rfl rfl rfl (fun hg => Quiet.open 21 hg rfl (Q.eql rfl rfl)) ?_
  refine XOps.s rfl rfl rfl (Q.pick_and rfl rfl rfl (fun h => by first | (rw [h]; rfl) | (rw [hg, h]; rfl) | (simp [h, hg]; done))) ?_
  refine XOps.s rfl rfl rfl (Q.move_d rfl) ?_
  refine XOps.gs rfl rfl rfl rfl rfl rfl rfl (fun hg => Q.move_d rfl) ?_
  refine XOps.gs rfl rfl rfl rfl rfl rfl rfl (fun hg => Quiet.open 25 hg rfl (Q.idx_sl sl22 (by decide) rfl rfl (by first | omega | (simp only [List.length_map]; omega)) (by rfl))) ?_
  refine XOps.gs rfl rfl rfl rfl rfl rfl rfl (fun hg => Quiet.open 26 hg rfl (Q.ld_dpn ag48 rfl rfl)) ?_
  refine XOps.gs rfl rfl rfl rfl rfl rfl rfl (fun hg => Q.build pl48 tz48 tzd48 rfl) ?_
  refine XOps.gs rfl rfl rfl rfl rfl rfl rfl (fun hg => Quiet.open 27 hg rfl (Quiet.open 28 hg rfl (Q.eql_agg eqt48 rfl rfl rfl rfl rfl))) ?_
  refine XOps.s rfl rfl rfl (Q.pick_and rfl rfl rfl (fun h => by first | (rw [h]; rfl) | (rw [hg, h]; rfl) | (simp [h, hg]; done))) ?_
  refine XOps.s rfl rfl rfl (Q.move_d rfl) ?_
  refine XOps.gs rfl rfl rfl rfl rfl rfl rfl (fun hg => Q.move_d rfl) ?_
  refine XOps.gs rfl rfl rfl rfl rfl rfl rfl (fun hg => Quiet.open 32 hg rfl (Q.eql_str rfl rfl)) ?_
  refine XOps.s rfl rfl rfl (Q.pick_and rfl rfl rfl (fun h => by first | (rw [h]; rfl) | (rw [hg, h]; rfl) | (simp [h, hg]; done))) ?_
  refine XOps.s rfl rfl rfl (Q.assign_d rfl) ?_
  refine XOps.nil ?_
  refine W.ret ?_
  refine ⟨_, (gd, dbG) :: hs, rfl, HLe.refl _, ?_, rfl⟩
  show AV.d (.bool _) = _
  refine congrArg (fun b => AV.d (D.bool b)) ?_
  decide +kernel
end Go.Proofs.YtohckiiadkibkaaDoorA
