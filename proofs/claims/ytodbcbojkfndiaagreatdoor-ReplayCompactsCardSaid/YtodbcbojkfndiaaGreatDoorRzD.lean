/- Logs: Recover. -/
import Derived.Test.YtodbcbojkfndiaaGreatDoorFrB
import Derived.Test.YtodbcbojkfndiaaGreatDoorRzC
set_option linter.unusedVariables false
set_option linter.unusedSimpArgs false
set_option linter.unnecessarySimpa false
namespace Go.Proofs.YtodbcbojkfndiaaGreatDoorA.FRzD
open Go
theorem ag22 : tAgg P 22 = some ((false, 1)) := by kernel_rfl
theorem ag3 : tAgg P 3 = some ((false, 1)) := by kernel_rfl
theorem ag38 : tAgg P 38 = some ((true, 4)) := by kernel_rfl
theorem ag9 : tAgg P 9 = some ((false, 1)) := by kernel_rfl
theorem ap22 : tApp P 22 = some ((4, 48)) := by kernel_rfl
theorem fl38_0 : tFld P 38 0 = some (0) := by kernel_rfl
theorem fl38_1 : tFld P 38 1 = some (1) := by kernel_rfl
theorem fl52_0 : tFld P 52 0 = some (0) := by kernel_rfl
theorem fl52_1 : tFld P 52 1 = some (1) := by kernel_rfl
theorem go14 : callGo Go.Proofs.Tryz.f14 = true := by kernel_rfl
theorem go17 : callGo Go.Proofs.Tryz.f17 = true := by kernel_rfl
theorem isl22 : isSl P 22 = true := by kernel_rfl
theorem ist9 : isStr P 9 = true := by kernel_rfl
theorem sl22 : tSl P 22 = some (4) := by kernel_rfl
theorem tz38 : tZero P 38 = some ([.int .i64 0, .int .i64 0, .string ⟨#[]⟩, .string ⟨#[]⟩]) := by kernel_rfl
theorem zr22 : tZrow P 22 = some ([.int .i64 0, .int .i64 0, .string ⟨#[]⟩, .string ⟨#[]⟩]) := by kernel_rfl
theorem zrd22 : cellsD [.int .i64 0, .int .i64 0, .string ⟨#[]⟩, .string ⟨#[]⟩] = some ([.int .i64 0, .int .i64 0, .str ⟨#[]⟩, .str ⟨#[]⟩]) := rfl
end Go.Proofs.YtodbcbojkfndiaaGreatDoorA.FRzD
namespace Go.Proofs.YtodbcbojkfndiaaGreatDoorA
open Go FRzD
attribute [local irreducible] XOps Quiet Loud W AC GQ DT
/-- One entry more is recovered. -/
theorem rec_step {s : ByteArray} {l : List EN} (hle : (bs (bytesL l)).size ≤ s.size) (htk : bytesL l = (bl s).take (bs (bytesL l)).size)
    (hrc : recF (s.size + 1) l (s.extract (bs (bytesL l)).size s.size) = recL s) (hst : stopR l (s.extract (bs (bytesL l)).size s.size) = false) :
    bs (bytesL l) ++ s.extract (bs (bytesL l)).size ((bs (bytesL l)).size + decN (s.extract (bs (bytesL l)).size s.size)) = bs (bytesL (l ++ [decX (s.extract (bs (bytesL l)).size s.size)])) ∧
    (bs (bytesL (l ++ [decX (s.extract (bs (bytesL l)).size s.size)]))).size = (bs (bytesL l)).size + decN (s.extract (bs (bytesL l)).size s.size) ∧
    0 < decN (s.extract (bs (bytesL l)).size s.size) ∧ (bs (bytesL l)).size + decN (s.extract (bs (bytesL l)).size s.size) ≤ s.size ∧
    bytesL (l ++ [decX (s.extract (bs (bytesL l)).size s.size)]) = (bl s).take (bs (bytesL (l ++ [decX (s.extract (bs (bytesL l)).size s.size)]))).size ∧
    recF (s.size + 1) (l ++ [decX (s.extract (bs (bytesL l)).size s.size)]) (s.extract (bs (bytesL (l ++ [decX (s.extract (bs (bytesL l)).size s.size)]))).size s.size) = recL s := by
  obtain ⟨t, ht⟩ : ∃ t, t = s.extract (bs (bytesL l)).size s.size := ⟨_, rfl⟩
  rw [← ht] at hrc hst ⊢
  obtain ⟨h1, h2, h3⟩ := stop_false hst
  obtain ⟨ok, h4, u, h5⟩ := dec_ok h1
  have h6 := dropB_lt h1
  have htz : t.size = s.size - (bs (bytesL l)).size := by rw [ht]; exact ext_len s hle
  have hbt : bl t = (bl s).drop (bs (bytesL l)).size := by
    rw [ht, bl_extract, List.take_of_length_le (by rw [bl_len]; omega)]
  have hx : bl (s.extract (bs (bytesL l)).size ((bs (bytesL l)).size + decN t)) = encB (decX t) := by
    rw [bl_extract, List.drop_take, ← hbt, h5, h4, show (bs (bytesL l)).size + (encB (decX t)).length - (bs (bytesL l)).size = (encB (decX t)).length by omega, List.take_left]
  have hsz : (bs (bytesL (l ++ [decX t]))).size = (bs (bytesL l)).size + decN t := by
    rw [bs_size, bs_size, bytesL_app, bytesL_one, List.length_append, h4]
  refine ⟨bl_inj (by rw [bl_app, hx]; simp [bl_bs, bytesL_app, bytesL_one]), hsz, h6.1, by omega, ?_, ?_⟩
  · rw [hsz, List.take_add, ← htk, ← hbt, h5, h4, List.take_left, bytesL_app, bytesL_one]
  · have e : t.extract (decN t) t.size = s.extract ((bs (bytesL l)).size + decN t) s.size := bl_inj (by
      rw [bl_extract, bl_extract, hbt, List.take_of_length_le (by rw [List.length_drop, bl_len]; omega), List.take_of_length_le (by rw [bl_len]; omega), List.drop_drop])
    rw [hsz, ← hrc]
    conv => rhs; rw [recF, if_neg (by simp [hst]), e]
    have h7 := ext_len s (n := (bs (bytesL l)).size + decN t) (by omega)
    exact recF_fuel _ _ _ _ (by omega) (by omega)

set_option maxHeartbeats 8000000 in
set_option maxRecDepth 100000 in
theorem recover_c (s : ByteArray) (gd : Nat) (hs : Hp) (hS : s.size ≤ 131072) : AC P 20 [.d (.str s)] ((gd, p10G) :: hs) (fun r h => ∃ b f, r = .tup [.ptr b 0, .d (.int .i64 (bs (bytesL (recL s))).size), .d (.int .i64 0)] ∧ h = (gd, p10G) :: reH b (recL s) f hs) := by
  refine AC.of 98 Tryz.func20 rfl rfl rfl ?_
  refine W.reg ?_
  refine XOps.s rfl rfl rfl (Q.assign_d rfl) ?_
  refine XOps.s rfl rfl rfl (Q.assign_d rfl) ?_
  refine XOps.s rfl rfl rfl (Q.assign_d rfl) ?_
  refine XOps.nil ?_
  refine W.seq ?_
  refine W.reg ?_
  refine XOps.s rfl rfl rfl (Q.move_d rfl) ?_
  refine XOps.s rfl rfl rfl (Q.len_str ist9 rfl) ?_
  refine XOps.s rfl rfl rfl (Q.gtr rfl rfl) ?_
  refine XOps.nil ?_
  refine W.cond rfl (fun hc12 => ?_) (fun hc12 => ?_)
  · try simp only [Bool.or_eq_true, Bool.or_eq_false_iff, Bool.and_eq_true, Bool.and_eq_false_iff, decide_eq_true_eq, decide_eq_false_iff_not, Bool.not_eq_true', Bool.not_eq_false', Int.not_lt, Int.not_le, List.length_map] at hc12
    exact absurd hc12 (by omega)
  · try simp only [Bool.or_eq_true, Bool.or_eq_false_iff, Bool.and_eq_true, Bool.and_eq_false_iff, decide_eq_true_eq, decide_eq_false_iff_not, Bool.not_eq_true', Bool.not_eq_false', Int.not_lt, Int.not_le, List.length_map] at hc12
    refine W.skip ?_
    refine W.reg ?_
    (refine XOps.loud rfl (L.call rfl Tryz.func14 go14 rfl (rnew_c gd hs) rfl) ?_; rintro _ _ ⟨_, rfl, b, f, rfl, rfl⟩)
    refine XOps.s rfl rfl rfl (Q.assign_ptr rfl) ?_
    refine XOps.nil ?_
    refine W.seq ?_
    refine W.block ?_
    refine W.loop (ι := List EN × Nat) (fun p => [(0, .d (.str s)), (5, .ptr b 0)]) (fun p => (gd, p10G) :: reH b p.1 p.2 hs) (fun p => Okl p.1 ∧ (bs (bytesL p.1)).size ≤ s.size ∧ bytesL p.1 = (bl s).take (bs (bytesL p.1)).size ∧ recF (s.size + 1) p.1 (s.extract (bs (bytesL p.1)).size s.size) = recL s) (fun p => s.size - (bs (bytesL p.1)).size) ([], f) ?_ ?_ ?_ ?_
    · exact ⟨Okl.nil, by simp [bytesL, bs_size], by simp [bytesL, bs_size], by simp [bytesL, bs_size, recL, ByteArray.extract_zero_size]⟩
    · exact ⟨by first | rfl | exact int_eq (by omega) | exact len_eq (by simp) | exact int_eq (by simp; done), by first | rfl | exact int_eq (by omega) | exact len_eq (by simp) | exact int_eq (by simp; done), trivial⟩
    · repeat (first | exact HLe.refl _ | refine HLe.cons' (by first | rfl | (simp; done)) ?_ | refine HLe.pick 1 rfl (by first | rfl | (simp; done)) ?_ | refine HLe.pick 2 rfl (by first | rfl | (simp; done)) ?_ | refine HLe.pick 3 rfl (by first | rfl | (simp; done)) ?_ | refine HLe.pick 4 rfl (by first | rfl | (simp; done)) ?_ | refine HLe.pick 5 rfl (by first | rfl | (simp; done)) ?_ | refine HLe.skip _ ?_)
    · rintro ⟨l, f⟩ ⟨ok, hle, htk, hrc⟩
      dsimp only at ok hle htk hrc ⊢
      have hxl := ext_len s hle
      have hln := ok.len
      refine W.block ?_
      refine W.reg ?_
      refine XOps.s rfl rfl rfl (Q.move_d rfl) ?_
      refine XOps.s rfl rfl rfl (Q.move_ptr rfl) ?_
      refine XOps.s rfl rfl rfl (Q.nil_ptr rfl) ?_
      refine XOps.s rfl rfl rfl (Q.fld_ptr fl52_1 rfl) ?_
      refine XOps.s rfl rfl rfl (Q.ld_ptr (k := 1) ag9 rfl rfl rfl) ?_
      refine XOps.s rfl rfl rfl (Q.len_str ist9 rfl) ?_
      refine XOps.s rfl rfl rfl (Q.cut_strN (i := (bs (bytesL l)).size) (j := s.size) ist9 rfl rfl rfl (by omega) (by omega)) ?_
      refine XOps.s rfl rfl rfl (Q.call rfl Tryz.func17 go17 rfl (decode_c (s.extract (bs (bytesL l)).size s.size) _ (by omega))) ?_
      refine XOps.s rfl rfl rfl (Q.move_tup rfl) ?_
      refine XOps.s rfl rfl rfl (Q.extract rfl rfl) ?_
      refine XOps.s rfl rfl rfl (Q.extract rfl rfl) ?_
      refine XOps.s rfl rfl rfl (Q.extract rfl rfl) ?_
      (refine XOps.loud rfl (L.alloc tz38 rfl rfl) ?_; rintro _ _ ⟨b6, rfl, rfl⟩)
      refine XOps.loud rfl (L.storen (k := 0) ag38 rfl rfl rfl rfl rfl) ?_
      rintro _ _ ⟨rfl, rfl⟩
      refine XOps.s rfl rfl rfl (Q.assign_d rfl) ?_
      refine XOps.s rfl rfl rfl (Q.assign_d rfl) ?_
      refine XOps.nil ?_
      refine W.seq ?_
      refine W.drawreg 13 follows (by kernel_rfl) ?_
      refine Chain.cons _ (GQ.q rfl (Q.move_d rfl)) rfl ?_
      refine Chain.cons _ (GQ.q rfl (Q.neq rfl rfl)) rfl ?_
      refine Chain.cons _ (GQ.q rfl (Q.move_d rfl)) rfl ?_
      refine Chain.cons _ (GQ.g rfl rfl rfl rfl rfl (fun hg => Q.fld_ptr fl38_0 rfl)) rfl ?_
      refine Chain.cons _ (GQ.g rfl rfl rfl rfl rfl (fun hg => Quiet.open 29 hg rfl (Q.ld_ptr (k := 0) ag3 rfl rfl rfl))) rfl ?_
      refine Chain.cons _ (GQ.g rfl rfl rfl rfl rfl (fun hg => Q.move_ptr rfl)) rfl ?_
      refine Chain.cons _ (GQ.g rfl rfl rfl rfl rfl (fun hg => Quiet.open 31 hg rfl (Q.nil_ptr rfl))) rfl ?_
      refine Chain.cons _ (GQ.g rfl rfl rfl rfl rfl (fun hg => Quiet.open 32 hg rfl (Q.fld_ptr fl52_0 rfl))) rfl ?_
      refine Chain.cons _ (GQ.g rfl rfl rfl rfl rfl (fun hg => Quiet.open 33 hg rfl (Q.ld_ptr (k := 2) ag22 rfl rfl rfl))) rfl ?_
      refine Chain.cons _ (GQ.g rfl rfl rfl rfl rfl (fun hg => Quiet.open 34 hg rfl (Q.len_vs isl22 rfl))) rfl ?_
      refine Chain.cons _ (GQ.g rfl rfl rfl rfl rfl (fun hg => Quiet.open 35 hg rfl (Q.add rfl rfl (wi64 (by first | omega | (dsimp only; omega) | (simp only [List.length_map]; omega)) (by first | omega | (dsimp only; omega) | (simp only [List.length_map]; omega)))))) rfl ?_
      refine Chain.cons _ (GQ.g rfl rfl rfl rfl rfl (fun hg => Quiet.open 30 hg rfl (Quiet.open 36 hg rfl (Q.neq rfl rfl)))) rfl ?_
      refine Chain.cons _ (GQ.q rfl (Q.pick_or rfl rfl rfl (fun h => by first | (rw [h]; rfl) | (rw [hg, h]; rfl) | (simp [h, hg]; done)))) rfl ?_
      refine Chain.nil ?_
      refine XOps.nil ?_
      refine W.cond rfl (fun hc38 => ?_) (fun hc38 => ?_)
      · try simp only [Bool.or_eq_true, Bool.or_eq_false_iff, Bool.and_eq_true, Bool.and_eq_false_iff, decide_eq_true_eq, decide_eq_false_iff_not, Bool.not_eq_true', Bool.not_eq_false', Int.not_lt, Int.not_le, List.length_map] at hc38
        have hst : stopR l (s.extract (bs (bytesL l)).size s.size) = true := by
          unfold stopR
          rcases hc38 with h | h
          · rw [decide_eq_true (show decE (s.extract (bs (bytesL l)).size s.size) ≠ 0 from by first | exact h | (simpa using h))]; rfl
          · rw [decide_eq_true (show (decX (s.extract (bs (bytesL l)).size s.size)).num ≠ l.length + 1 from by first | exact h | (simpa using h))]; simp
        rw [rec_stop _ hst] at hrc
        rw [← hrc]
        refine W.exit ?_
        refine W.drawreg 7 follows (by kernel_rfl) ?_
        refine Chain.cons _ (GQ.q rfl (Q.move_ptr rfl)) rfl ?_
        refine Chain.cons _ (GQ.q rfl (Q.move_ptr rfl)) rfl ?_
        refine Chain.cons _ (GQ.q rfl (Q.nil_ptr rfl)) rfl ?_
        refine Chain.cons _ (GQ.q rfl (Q.fld_ptr fl52_1 rfl)) rfl ?_
        refine Chain.cons _ (GQ.q rfl (Q.ld_ptr (k := 2) ag9 rfl rfl rfl)) rfl ?_
        refine Chain.cons _ (GQ.q rfl (Q.len_str ist9 rfl)) rfl ?_
        refine Chain.cons _ (GQ.q rfl (Q.assign_ptr rfl)) rfl ?_
        refine Chain.nil ?_
        refine XOps.s rfl rfl rfl (Q.assign_d rfl) ?_
        refine XOps.s rfl rfl rfl (Q.assign_d rfl) ?_
        refine XOps.nil ?_
        refine W.ret ?_
        exact ⟨_, (gd, p10G) :: reH b l f hs, rfl, HLe.pick 1 rfl rfl (HLe.skip _ (HLe.refl _)), b, f, rfl, rfl⟩
      · try simp only [Bool.or_eq_true, Bool.or_eq_false_iff, Bool.and_eq_true, Bool.and_eq_false_iff, decide_eq_true_eq, decide_eq_false_iff_not, Bool.not_eq_true', Bool.not_eq_false', Int.not_lt, Int.not_le, List.length_map] at hc38
        obtain ⟨hd1, hd2⟩ : decE (s.extract (bs (bytesL l)).size s.size) = 0 ∧ (decX (s.extract (bs (bytesL l)).size s.size)).num = l.length + 1 := ⟨by first | exact hc38.1 | (simpa using hc38.1), by first | exact hc38.2 | (simpa using hc38.2)⟩
        refine W.skip ?_
        refine W.seq ?_
        refine W.reg ?_
        refine XOps.s rfl rfl rfl (Q.move_ptr rfl) ?_
        refine XOps.s rfl rfl rfl (Q.nil_ptr rfl) ?_
        refine XOps.s rfl rfl rfl (Q.fld_ptr fl52_0 rfl) ?_
        refine XOps.s rfl rfl rfl (Q.ld_ptr (k := 2) ag22 rfl rfl rfl) ?_
        refine XOps.s rfl rfl rfl (Q.len_vs isl22 rfl) ?_
        refine XOps.s rfl rfl rfl (Q.assign_d rfl) ?_
        refine XOps.nil ?_
        refine W.drawreg 16 follows (by kernel_rfl) ?_
        refine Chain.cons _ (GQ.q rfl (Q.move_d rfl)) rfl ?_
        refine Chain.cons _ (GQ.q rfl (Q.gtr rfl rfl)) rfl ?_
        refine Chain.cons _ (GQ.q rfl (Q.move_d rfl)) rfl ?_
        refine Chain.cons _ (GQ.g rfl rfl rfl rfl rfl (fun hg => Q.fld_ptr fl38_1 rfl)) rfl ?_
        refine Chain.cons _ (GQ.g rfl rfl rfl rfl rfl (fun hg => Quiet.open 47 hg rfl (Q.ld_ptr (k := 0) ag3 rfl rfl rfl))) rfl ?_
        refine Chain.cons _ (GQ.g rfl rfl rfl rfl rfl (fun hg => Q.move_ptr rfl)) rfl ?_
        refine Chain.cons _ (GQ.g rfl rfl rfl rfl rfl (fun hg => Quiet.open 49 hg rfl (Q.nil_ptr rfl))) rfl ?_
        refine Chain.cons _ (GQ.g rfl rfl rfl rfl rfl (fun hg => Quiet.open 50 hg rfl (Q.fld_ptr fl52_0 rfl))) rfl ?_
        refine Chain.cons _ (GQ.g rfl rfl rfl rfl rfl (fun hg => Quiet.open 51 hg rfl (Q.ld_ptr (k := 2) ag22 rfl rfl rfl))) rfl ?_
        refine Chain.cons _ (GQ.g rfl rfl rfl rfl rfl (fun hg => Q.move_d rfl)) rfl ?_
        refine Chain.cons _ (GQ.g rfl rfl rfl rfl rfl (fun hg => Quiet.open 53 hg rfl (Q.sub rfl rfl (wi64 (by first | omega | (dsimp only; omega) | (simp only [List.length_map]; omega)) (by first | omega | (dsimp only; omega) | (simp only [List.length_map]; omega)))))) rfl ?_
        refine Chain.cons _ (GQ.g rfl rfl rfl rfl rfl (fun hg => Quiet.open 52 hg rfl (Quiet.open 54 hg rfl (Q.idx_vs (kk := 3) sl22 rfl rfl rfl (by simp at hg; omega) (by simp at hg; omega))))) rfl ?_
        refine Chain.cons _ (GQ.g rfl rfl rfl rfl rfl (fun hg => Quiet.open 55 hg rfl (Q.fld_ep fl38_1 rfl))) rfl ?_
        refine Chain.cons _ (GQ.g rfl rfl rfl rfl rfl (fun hg => Quiet.open 56 hg rfl (Q.ld_ep (k := 3) ag3 rfl rfl (last_row (by simp at hg; omega)) rfl))) rfl ?_
        refine Chain.cons _ (GQ.g rfl rfl rfl rfl rfl (fun hg => Quiet.open 48 hg rfl (Quiet.open 57 hg rfl (Q.lss rfl rfl)))) rfl ?_
        refine Chain.cons _ (GQ.q rfl (Q.pick_and rfl rfl rfl (fun h => by first | (rw [h]; rfl) | (rw [hg, h]; rfl) | (simp [h, hg]; done)))) rfl ?_
        refine Chain.nil ?_
        refine XOps.nil ?_
        refine W.cond rfl (fun hc59 => ?_) (fun hc59 => ?_)
        · try simp only [Bool.or_eq_true, Bool.or_eq_false_iff, Bool.and_eq_true, Bool.and_eq_false_iff, decide_eq_true_eq, decide_eq_false_iff_not, Bool.not_eq_true', Bool.not_eq_false', Int.not_lt, Int.not_le, List.length_map] at hc59
          have hst : stopR l (s.extract (bs (bytesL l)).size s.size) = true := by
            unfold stopR
            rw [late_iff.2 ⟨by omega, hc59.2⟩]; simp
          rw [rec_stop _ hst] at hrc
          rw [← hrc]
          refine W.exit ?_
          refine W.drawreg 7 follows (by kernel_rfl) ?_
          refine Chain.cons _ (GQ.q rfl (Q.move_ptr rfl)) rfl ?_
          refine Chain.cons _ (GQ.q rfl (Q.move_ptr rfl)) rfl ?_
          refine Chain.cons _ (GQ.q rfl (Q.nil_ptr rfl)) rfl ?_
          refine Chain.cons _ (GQ.q rfl (Q.fld_ptr fl52_1 rfl)) rfl ?_
          refine Chain.cons _ (GQ.q rfl (Q.ld_ptr (k := 2) ag9 rfl rfl rfl)) rfl ?_
          refine Chain.cons _ (GQ.q rfl (Q.len_str ist9 rfl)) rfl ?_
          refine Chain.cons _ (GQ.q rfl (Q.assign_ptr rfl)) rfl ?_
          refine Chain.nil ?_
          refine XOps.s rfl rfl rfl (Q.assign_d rfl) ?_
          refine XOps.s rfl rfl rfl (Q.assign_d rfl) ?_
          refine XOps.nil ?_
          refine W.ret ?_
          exact ⟨_, (gd, p10G) :: reH b l f hs, rfl, HLe.pick 1 rfl rfl (HLe.skip _ (HLe.refl _)), b, f, rfl, rfl⟩
        · try simp only [Bool.or_eq_true, Bool.or_eq_false_iff, Bool.and_eq_true, Bool.and_eq_false_iff, decide_eq_true_eq, decide_eq_false_iff_not, Bool.not_eq_true', Bool.not_eq_false', Int.not_lt, Int.not_le, List.length_map] at hc59
          have hst : stopR l (s.extract (bs (bytesL l)).size s.size) = false := by
            refine stop_of hd1 hd2 (lateB_iff.1 (Bool.eq_false_iff.2 fun h => ?_))
            have := late_iff.1 h; omega
          obtain ⟨hbb, hsz2, hdp, hdl, htk2, hrc2⟩ := rec_step hle htk hrc hst
          have okx := ok.push (dec_ok hd1).1 hd2 (stop_false hst).2.2
          have hln := ok.len
          refine W.skip ?_
          refine W.drawT 34 [8, 30, 33] follows (by kernel_rfl) (by decide) ?_
          apply DT.moreE [.new, .new, .new, .new, .new, .new, .new, .new, .now, .new, .new, .new, .new, .new, .new, .new, .new, .new, .new, .new, .new, .new, .new, .new, .new, .new, .new, .new, .later, .later, .later, .later, .later, .later] (by kernel_rfl)
          refine PC.new _ rfl (GQ.q rfl (Q.move_ptr rfl)) rfl ?_
          refine PC.new _ rfl (GQ.q rfl (Q.move_ptr rfl)) rfl ?_
          refine PC.new _ rfl (GQ.q rfl (Q.move_ptr rfl)) rfl ?_
          refine PC.new _ rfl (GQ.q rfl (Q.nil_ptr rfl)) rfl ?_
          refine PC.new _ rfl (GQ.q rfl (Q.fld_ptr fl52_0 rfl)) rfl ?_
          refine PC.new _ rfl (GQ.q rfl (Q.ld_ptr (k := 2) ag22 rfl rfl rfl)) rfl ?_
          refine PC.new _ rfl (GQ.q rfl (Q.ld_ptrn (k := 0) ag38 rfl rfl rfl)) rfl ?_
          refine PC.new _ rfl (GQ.q rfl (Q.bsl1n sl22 (by decide) zr22 rfl zrd22 rfl rfl (by decide))) rfl ?_
          refine PC.now rfl rfl (fun τ => Loud.to (L.app (k := 3) ap22 rfl rfl (by first | rfl | (simp; done)) rfl (by simp; omega) rfl) (fun _ _ ⟨v, h1, h2⟩ => ⟨_, h1, v, rfl, h2⟩)) ?_
          refine PC.new _ rfl (GQ.q rfl (Q.move_ptr rfl)) rfl ?_
          refine PC.new _ rfl (GQ.q rfl (Q.nil_ptr rfl)) rfl ?_
          refine PC.new _ rfl (GQ.q rfl (Q.fld_ptr fl52_1 rfl)) rfl ?_
          refine PC.new _ rfl (GQ.q rfl (Q.ld_ptr (k := 2) ag9 rfl rfl rfl)) rfl ?_
          refine PC.new _ rfl (GQ.q rfl (Q.move_d rfl)) rfl ?_
          refine PC.new _ rfl (GQ.q rfl (Q.move_ptr rfl)) rfl ?_
          refine PC.new _ rfl (GQ.q rfl (Q.nil_ptr rfl)) rfl ?_
          refine PC.new _ rfl (GQ.q rfl (Q.fld_ptr fl52_1 rfl)) rfl ?_
          refine PC.new _ rfl (GQ.q rfl (Q.ld_ptr (k := 2) ag9 rfl rfl rfl)) rfl ?_
          refine PC.new _ rfl (GQ.q rfl (Q.len_str ist9 rfl)) rfl ?_
          refine PC.new _ rfl (GQ.q rfl (Q.move_ptr rfl)) rfl ?_
          refine PC.new _ rfl (GQ.q rfl (Q.nil_ptr rfl)) rfl ?_
          refine PC.new _ rfl (GQ.q rfl (Q.fld_ptr fl52_1 rfl)) rfl ?_
          refine PC.new _ rfl (GQ.q rfl (Q.ld_ptr (k := 2) ag9 rfl rfl rfl)) rfl ?_
          refine PC.new _ rfl (GQ.q rfl (Q.len_str ist9 rfl)) rfl ?_
          refine PC.new _ rfl (GQ.q rfl (Q.move_d rfl)) rfl ?_
          refine PC.new _ rfl (GQ.q rfl (Q.add rfl rfl (wi64 (by first | omega | (dsimp only; omega) | (simp only [List.length_map]; omega)) (by first | omega | (dsimp only; omega) | (simp only [List.length_map]; omega))))) rfl ?_
          refine PC.new _ rfl (GQ.q rfl (Q.cut_strN (i := (bs (bytesL l)).size) (j := (bs (bytesL l)).size + decN (s.extract (bs (bytesL l)).size s.size)) ist9 rfl rfl rfl (by omega) (by omega))) rfl ?_
          refine PC.new _ rfl (GQ.q rfl (Q.adds rfl rfl (by have := congrArg ByteArray.size hbb; rw [ByteArray.size_append] at this; omega))) rfl ?_
          refine PC.later rfl ?_
          refine PC.later rfl ?_
          refine PC.later rfl ?_
          refine PC.later rfl ?_
          refine PC.later rfl ?_
          refine PC.later rfl ?_
          refine PC.nil ?_
          rintro _ _ ⟨v68, rfl, rfl⟩
          apply DT.moreS [.old, .old, .did, .did, .did, .did, .did, .did, .did, .old, .old, .old, .old, .old, .old, .old, .old, .old, .old, .old, .old, .old, .old, .old, .old, .old, .old, .old, .new, .new, .now, .later, .later, .later] (by kernel_rfl)
          refine PC.old rfl (GQ.q rfl (Q.move_ptr rfl)) rfl ?_
          refine PC.old rfl (GQ.q rfl (Q.move_ptr rfl)) rfl ?_
          refine PC.did rfl ?_
          refine PC.did rfl ?_
          refine PC.did rfl ?_
          refine PC.did rfl ?_
          refine PC.did rfl ?_
          refine PC.did rfl ?_
          refine PC.did rfl ?_
          refine PC.old rfl (GQ.q rfl (Q.move_ptr rfl)) rfl ?_
          refine PC.old rfl (GQ.q rfl (Q.nil_ptr rfl)) rfl ?_
          refine PC.old rfl (GQ.q rfl (Q.fld_ptr fl52_1 rfl)) rfl ?_
          refine PC.old rfl (GQ.q rfl (Q.ld_ptr (k := 3) ag9 rfl rfl rfl)) rfl ?_
          refine PC.old rfl (GQ.q rfl (Q.move_d rfl)) rfl ?_
          refine PC.old rfl (GQ.q rfl (Q.move_ptr rfl)) rfl ?_
          refine PC.old rfl (GQ.q rfl (Q.nil_ptr rfl)) rfl ?_
          refine PC.old rfl (GQ.q rfl (Q.fld_ptr fl52_1 rfl)) rfl ?_
          refine PC.old rfl (GQ.q rfl (Q.ld_ptr (k := 3) ag9 rfl rfl rfl)) rfl ?_
          refine PC.old rfl (GQ.q rfl (Q.len_str ist9 rfl)) rfl ?_
          refine PC.old rfl (GQ.q rfl (Q.move_ptr rfl)) rfl ?_
          refine PC.old rfl (GQ.q rfl (Q.nil_ptr rfl)) rfl ?_
          refine PC.old rfl (GQ.q rfl (Q.fld_ptr fl52_1 rfl)) rfl ?_
          refine PC.old rfl (GQ.q rfl (Q.ld_ptr (k := 3) ag9 rfl rfl rfl)) rfl ?_
          refine PC.old rfl (GQ.q rfl (Q.len_str ist9 rfl)) rfl ?_
          refine PC.old rfl (GQ.q rfl (Q.move_d rfl)) rfl ?_
          refine PC.old rfl (GQ.q rfl (Q.add rfl rfl (wi64 (by first | omega | (dsimp only; omega) | (simp only [List.length_map]; omega)) (by first | omega | (dsimp only; omega) | (simp only [List.length_map]; omega))))) rfl ?_
          refine PC.old rfl (GQ.q rfl (Q.cut_strN (i := (bs (bytesL l)).size) (j := (bs (bytesL l)).size + decN (s.extract (bs (bytesL l)).size s.size)) ist9 rfl rfl rfl (by omega) (by omega))) rfl ?_
          refine PC.old rfl (GQ.q rfl (Q.adds rfl rfl (by have := congrArg ByteArray.size hbb; rw [ByteArray.size_append] at this; omega))) rfl ?_
          refine PC.new _ rfl (GQ.q rfl (Q.nil_ptr rfl)) rfl ?_
          refine PC.new _ rfl (GQ.q rfl (Q.fld_ptr fl52_0 rfl)) rfl ?_
          refine PC.now rfl rfl (fun τ => Loud.to (L.store (k := 3) ag22 ((oev_app rfl).trans rfl) rfl rfl ((oev_app rfl).trans rfl) rfl) (fun _ _ h => ⟨.any, h.1, h.2⟩)) ?_
          refine PC.later rfl ?_
          refine PC.later rfl ?_
          refine PC.later rfl ?_
          refine PC.nil ?_
          rintro _ _ rfl
          apply DT.moreS [.did, .old, .did, .did, .did, .did, .did, .did, .did, .did, .did, .did, .did, .old, .did, .did, .did, .did, .old, .did, .did, .did, .did, .old, .old, .old, .old, .old, .did, .did, .did, .new, .new, .now] (by kernel_rfl)
          refine PC.did rfl ?_
          refine PC.old rfl (GQ.q rfl (Q.move_ptr rfl)) rfl ?_
          refine PC.did rfl ?_
          refine PC.did rfl ?_
          refine PC.did rfl ?_
          refine PC.did rfl ?_
          refine PC.did rfl ?_
          refine PC.did rfl ?_
          refine PC.did rfl ?_
          refine PC.did rfl ?_
          refine PC.did rfl ?_
          refine PC.did rfl ?_
          refine PC.did rfl ?_
          refine PC.old rfl (GQ.q rfl (Q.move_d rfl)) rfl ?_
          refine PC.did rfl ?_
          refine PC.did rfl ?_
          refine PC.did rfl ?_
          refine PC.did rfl ?_
          refine PC.old rfl (GQ.q rfl (Q.len_str ist9 rfl)) rfl ?_
          refine PC.did rfl ?_
          refine PC.did rfl ?_
          refine PC.did rfl ?_
          refine PC.did rfl ?_
          refine PC.old rfl (GQ.q rfl (Q.len_str ist9 rfl)) rfl ?_
          refine PC.old rfl (GQ.q rfl (Q.move_d rfl)) rfl ?_
          refine PC.old rfl (GQ.q rfl (Q.add rfl rfl (wi64 (by first | omega | (dsimp only; omega) | (simp only [List.length_map]; omega)) (by first | omega | (dsimp only; omega) | (simp only [List.length_map]; omega))))) rfl ?_
          refine PC.old rfl (GQ.q rfl (Q.cut_strN (i := (bs (bytesL l)).size) (j := (bs (bytesL l)).size + decN (s.extract (bs (bytesL l)).size s.size)) ist9 rfl rfl rfl (by omega) (by omega))) rfl ?_
          refine PC.old rfl (GQ.q rfl (Q.adds rfl rfl (by have := congrArg ByteArray.size hbb; rw [ByteArray.size_append] at this; omega))) rfl ?_
          refine PC.did rfl ?_
          refine PC.did rfl ?_
          refine PC.did rfl ?_
          refine PC.new _ rfl (GQ.q rfl (Q.nil_ptr rfl)) rfl ?_
          refine PC.new _ rfl (GQ.q rfl (Q.fld_ptr fl52_1 rfl)) rfl ?_
          refine PC.now rfl rfl (fun τ => Loud.to (L.store (k := 3) ag9 ((oev_app rfl).trans rfl) rfl rfl ((oev_app rfl).trans rfl) rfl) (fun _ _ h => ⟨.any, h.1, h.2⟩)) ?_
          refine PC.nil ?_
          rintro _ _ rfl
          refine DT.last [.did, .did, .did, .did, .did, .did, .did, .did, .did, .did, .did, .did, .did, .did, .did, .did, .did, .did, .did, .did, .did, .did, .did, .did, .did, .did, .did, .did, .did, .did, .did, .did, .did, .did] (by kernel_rfl) ?_
          refine PC.did rfl ?_
          refine PC.did rfl ?_
          refine PC.did rfl ?_
          refine PC.did rfl ?_
          refine PC.did rfl ?_
          refine PC.did rfl ?_
          refine PC.did rfl ?_
          refine PC.did rfl ?_
          refine PC.did rfl ?_
          refine PC.did rfl ?_
          refine PC.did rfl ?_
          refine PC.did rfl ?_
          refine PC.did rfl ?_
          refine PC.did rfl ?_
          refine PC.did rfl ?_
          refine PC.did rfl ?_
          refine PC.did rfl ?_
          refine PC.did rfl ?_
          refine PC.did rfl ?_
          refine PC.did rfl ?_
          refine PC.did rfl ?_
          refine PC.did rfl ?_
          refine PC.did rfl ?_
          refine PC.did rfl ?_
          refine PC.did rfl ?_
          refine PC.did rfl ?_
          refine PC.did rfl ?_
          refine PC.did rfl ?_
          refine PC.did rfl ?_
          refine PC.did rfl ?_
          refine PC.did rfl ?_
          refine PC.did rfl ?_
          refine PC.did rfl ?_
          refine PC.did rfl ?_
          refine PC.nil ?_
          refine XOps.nil ?_
          refine ⟨(l ++ [decX (s.extract (bs (bytesL l)).size s.size)], v68), ?_, ?_, ?_, ?_⟩
          · exact ⟨okx, by dsimp only; omega, htk2, hrc2⟩
          · dsimp only; omega
          · exact ⟨by first | rfl | exact int_eq (by omega) | exact len_eq (by simp) | exact int_eq (by simp; done), by first | rfl | exact int_eq (by omega) | exact len_eq (by simp) | exact int_eq (by simp; done), trivial⟩
          · (dsimp only; rw [hbb]; exact HLe.pick 2 rfl rfl (HLe.pick 2 rfl (by simp only [reC, List.length_append, List.length_map]; rfl) (HLe.pick 0 rfl (by simp; rfl) (HLe.skip _ (HLe.refl _)))))
end Go.Proofs.YtodbcbojkfndiaaGreatDoorA
