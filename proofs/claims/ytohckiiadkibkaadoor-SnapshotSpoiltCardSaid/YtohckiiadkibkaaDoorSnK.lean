/- The law SnapshotSpoilt. -/
import Derived.Test.YtohckiiadkibkaaDoorBase
import Derived.Test.YtohckiiadkibkaaDoorSnI
import Derived.Test.YtohckiiadkibkaaDoorAbs40
import Derived.Test.YtohckiiadkibkaaDoorAbs17
set_option linter.unusedVariables false
set_option linter.unusedSimpArgs false
set_option linter.unnecessarySimpa false
namespace Go.Proofs.YtohckiiadkibkaaDoorA.FSnK
open Go
theorem ag48 : tAgg P 48 = some ((true, 2)) := by kernel_rfl
theorem ag5 : tAgg P 5 = some ((false, 1)) := by kernel_rfl
theorem ag9 : tAgg P 9 = some ((false, 1)) := by kernel_rfl
theorem fl48_0 : tFld P 48 0 = some (0) := by kernel_rfl
theorem fl48_1 : tFld P 48 1 = some (1) := by kernel_rfl
theorem go19 : callGo Go.Proofs.Tryd.f19 = true := by kernel_rfl
theorem go20 : callGo Go.Proofs.Tryd.f20 = true := by kernel_rfl
theorem go21 : callGo Go.Proofs.Tryd.f21 = true := by kernel_rfl
theorem go22 : callGo Go.Proofs.Tryd.f22 = true := by kernel_rfl
theorem go9 : callGo Go.Proofs.Tryd.f9 = true := by kernel_rfl
theorem ibs49 : isBytes P 49 = true := by kernel_rfl
theorem isl22 : isSl P 22 = true := by kernel_rfl
theorem ist9 : isStr P 9 = true := by kernel_rfl
theorem sl22 : tSl P 22 = some (2) := by kernel_rfl
theorem sl49 : tSl P 49 = some (1) := by kernel_rfl
theorem tz48 : tZero P 48 = some ([.string ⟨#[]⟩, .string ⟨#[]⟩]) := by kernel_rfl
end Go.Proofs.YtohckiiadkibkaaDoorA.FSnK
namespace Go.Proofs.YtohckiiadkibkaaDoorA
open Go FSnK
attribute [local irreducible] XOps Quiet Loud W AC GQ DT
set_option maxHeartbeats 1000000 in
set_option maxRecDepth 100000 in
theorem rcut_c (n lo hi : Int) (hs : Hp) (h0 : -1000000000000 ≤ lo) (h1 : lo ≤ hi) (h2 : hi ≤ 1000000000000) : AC P 21 [.d (.int .i64 n), .d (.int .i64 lo), .d (.int .i64 hi)] hs (fun r h => r = .d (.int .i64 (cutI n lo hi)) ∧ h = hs) := by
  refine AC.of 23 Tryd.func21 rfl rfl rfl ?_
  refine W.reg ?_
  refine XOps.s rfl rfl rfl (Q.assign_d rfl) ?_
  refine XOps.nil ?_
  refine W.reg ?_
  refine XOps.s rfl rfl rfl (Q.move_d rfl) ?_
  refine XOps.s rfl rfl rfl (Q.move_d rfl) ?_
  refine XOps.s rfl rfl rfl (Q.sub rfl rfl (wi64 (by first | omega | (dsimp only; omega) | (simp only [List.length_map]; omega)) (by first | omega | (dsimp only; omega) | (simp only [List.length_map]; omega)))) ?_
  refine XOps.s rfl rfl rfl (Q.add rfl rfl (wi64 (by first | omega | (dsimp only; omega) | (simp only [List.length_map]; omega)) (by first | omega | (dsimp only; omega) | (simp only [List.length_map]; omega)))) ?_
  refine XOps.s rfl rfl rfl (Q.assign_d rfl) ?_
  refine XOps.nil ?_
  refine W.reg ?_
  refine XOps.s rfl rfl rfl (Q.move_d rfl) ?_
  refine XOps.s rfl rfl rfl (Q.move_d rfl) ?_
  refine XOps.s rfl rfl rfl (Q.rem rfl rfl (by omega) rfl) ?_
  refine XOps.s rfl rfl rfl (Q.assign_d rfl) ?_
  refine XOps.nil ?_
  refine W.seq ?_
  have hm := cut_mod (n := n) (m := hi - lo + 1) (by omega) rfl
  have hm0 := Int.emod_nonneg n (by omega : hi - lo + 1 ≠ 0)
  have hm1 := Int.emod_lt_of_pos n (by omega : 0 < hi - lo + 1)
  generalize hT : n.tmod (hi - lo + 1) = t at hm ⊢
  refine W.reg ?_
  refine XOps.s rfl rfl rfl (Q.move_d rfl) ?_
  refine XOps.s rfl rfl rfl (Q.lss rfl rfl) ?_
  refine XOps.nil ?_
  refine W.cond rfl (fun hc16 => ?_) (fun hc16 => ?_)
  · try simp only [Bool.or_eq_true, Bool.or_eq_false_iff, Bool.and_eq_true, Bool.and_eq_false_iff, decide_eq_true_eq, decide_eq_false_iff_not, Bool.not_eq_true', Bool.not_eq_false', Int.not_lt, Int.not_le, List.length_map] at hc16
    rw [if_pos hc16] at hm
    refine W.region ?_
    refine XOps.s rfl rfl rfl (Q.move_d rfl) ?_
    refine XOps.s rfl rfl rfl (Q.move_d rfl) ?_
    refine XOps.s rfl rfl rfl (Q.add rfl rfl (wi64 (by first | omega | (dsimp only; omega) | (simp only [List.length_map]; omega)) (by first | omega | (dsimp only; omega) | (simp only [List.length_map]; omega)))) ?_
    refine XOps.s rfl rfl rfl (Q.assign_d rfl) ?_
    refine XOps.nil ?_
    refine W.reg ?_
    refine XOps.s rfl rfl rfl (Q.move_d rfl) ?_
    refine XOps.s rfl rfl rfl (Q.move_d rfl) ?_
    refine XOps.s rfl rfl rfl (Q.add rfl rfl (wi64 (by first | omega | (dsimp only; omega) | (simp only [List.length_map]; omega)) (by first | omega | (dsimp only; omega) | (simp only [List.length_map]; omega)))) ?_
    refine XOps.s rfl rfl rfl (Q.assign_d rfl) ?_
    refine XOps.nil ?_
    refine W.ret ?_
    refine ⟨_, hs, rfl, by repeat (first | exact HLe.refl _ | refine HLe.cons' (by first | rfl | (simp; done)) ?_ | refine HLe.pick 1 rfl (by first | rfl | (simp; done)) ?_ | refine HLe.pick 2 rfl (by first | rfl | (simp; done)) ?_ | refine HLe.pick 3 rfl (by first | rfl | (simp; done)) ?_ | refine HLe.pick 4 rfl (by first | rfl | (simp; done)) ?_ | refine HLe.pick 5 rfl (by first | rfl | (simp; done)) ?_ | refine HLe.skip _ ?_), ?_, rfl⟩
    exact int_eq (by unfold cutI; omega)
  · try simp only [Bool.or_eq_true, Bool.or_eq_false_iff, Bool.and_eq_true, Bool.and_eq_false_iff, decide_eq_true_eq, decide_eq_false_iff_not, Bool.not_eq_true', Bool.not_eq_false', Int.not_lt, Int.not_le, List.length_map] at hc16
    rw [if_neg (by omega)] at hm
    refine W.skip ?_
    refine W.reg ?_
    refine XOps.s rfl rfl rfl (Q.move_d rfl) ?_
    refine XOps.s rfl rfl rfl (Q.move_d rfl) ?_
    refine XOps.s rfl rfl rfl (Q.add rfl rfl (wi64 (by first | omega | (dsimp only; omega) | (simp only [List.length_map]; omega)) (by first | omega | (dsimp only; omega) | (simp only [List.length_map]; omega)))) ?_
    refine XOps.s rfl rfl rfl (Q.assign_d rfl) ?_
    refine XOps.nil ?_
    refine W.ret ?_
    refine ⟨_, hs, rfl, by repeat (first | exact HLe.refl _ | refine HLe.cons' (by first | rfl | (simp; done)) ?_ | refine HLe.pick 1 rfl (by first | rfl | (simp; done)) ?_ | refine HLe.pick 2 rfl (by first | rfl | (simp; done)) ?_ | refine HLe.pick 3 rfl (by first | rfl | (simp; done)) ?_ | refine HLe.pick 4 rfl (by first | rfl | (simp; done)) ?_ | refine HLe.pick 5 rfl (by first | rfl | (simp; done)) ?_ | refine HLe.skip _ ?_), ?_, rfl⟩
    exact int_eq (by unfold cutI; omega)

theorem lines_le {l : List SR} (h : okS l) (k : Nat) : (linesB (l.take k)).length ≤ (linesB l).length := by
  have : linesB l = linesB (l.take k) ++ linesB (l.drop k) := by
    unfold linesB
    rw [← List.flatten_append, ← List.map_append, List.take_append_drop]
  rw [this, List.length_append]; omega
theorem text_at {l : List SR} (h : checkL l = 0) (off : Nat) : (textV l).data.toList.getD ((hexS (digV l)).size + 1 + off) 0 = (linesB l).getD off 0 := by
  show (bl (textV l)).getD _ 0 = _
  rw [text_bl h, List.getD_eq_getElem?_getD, List.getElem?_append_right (by rw [bl_len]; omega), bl_len, show (hexS (digV l)).size + 1 + off - (hexS (digV l)).size = off + 1 by omega, List.getElem?_cons_succ, List.getD_eq_getElem?_getD]
theorem spoilt_fin {l : List SR} {off : Nat} {x c : UInt8} (h : checkL l = 0) (hx : (linesB l)[off]? = some x) {s : ByteArray} (hs : s = bs ((bl (textV l)).set ((hexS (digV l)).size + 1 + off) c)) :
    (c = x ∧ readE s = 0) ∨ (c ≠ x ∧ readE s ≠ 0 ∧ readL s = []) := by
  subst hs
  by_cases hc : c = x
  · subst hc
    refine .inl ⟨rfl, ?_⟩
    have : (bl (textV l)).set ((hexS (digV l)).size + 1 + off) c = bl (textV l) := by
      rw [text_bl h, List.set_append_right _ _ (by rw [bl_len]; omega), bl_len, show (hexS (digV l)).size + 1 + off - (hexS (digV l)).size = off + 1 by omega, List.set_cons_succ]
      congr 2
      obtain ⟨h1, rfl⟩ := List.getElem?_eq_some_iff.1 hx
      exact List.set_getElem_self h1
    rw [this, bs_bl]
    exact (text_read h).1
  · have := spoilt h hx hc
    exact .inr ⟨hc, this, if_pos this⟩
theorem spoilt_out {l : List SR} {off pl : Nat} {b c : UInt8} (h30 : checkL l = 0) (hb : (linesB l)[off]? = some b) (hpl : pl = (hexS (digV l)).size + 1 + off) :
    (decide ((c.toNat : Int) = (((textV l).data.toList.getD ((pl : Nat) : Int).toNat 0).toNat : Nat)) && decide (readE (bs ((bl (textV l)).set ((pl : Nat) : Int).toNat c)) = 0) ||
      !decide ((c.toNat : Int) = (((textV l).data.toList.getD ((pl : Nat) : Int).toNat 0).toNat : Nat)) && !decide (readE (bs ((bl (textV l)).set ((pl : Nat) : Int).toNat c)) = 0) &&
        decide ((((readL (bs ((bl (textV l)).set ((pl : Nat) : Int).toNat c))).map SR.enc).length : Int) = 0)) = true := by
  rw [Int.toNat_natCast]
  have hbb : (textV l).data.toList.getD pl 0 = b := by rw [hpl, text_at h30, List.getD_eq_getElem?_getD, hb]; rfl
  rw [hbb]
  rcases spoilt_fin (c := c) (s := bs ((bl (textV l)).set pl c)) h30 hb (by rw [hpl]) with ⟨h1, h2⟩ | ⟨h1, h2, h3⟩
  · rw [h1] at h2 ⊢; rw [h2]; simp
  · have hne : ¬ ((c.toNat : Int) = (b.toNat : Nat)) := fun e => h1 (UInt8.toNat_inj.1 (by omega))
    rw [h3, decide_eq_false hne, decide_eq_false h2]; rfl
theorem szR_ok2 {l : List SR} (h : checkL l = 0) {x : SR} (hx : x ∈ l) : x.key.size ≤ 12 ∧ x.val.size ≤ 40 := by
  have h2 := (checkL_zero.1 h).1.form x hx
  exact ⟨(keyed_size h2.1).1, (valued_size h2.2).1⟩

set_option maxHeartbeats 4000000 in
set_option maxRecDepth 100000 in
theorem spoilt_c (l : List SR) (k0 a0 : Int) (c : UInt8) (gd : Nat) (hs : Hp) (hL : l.length ≤ 4398046511104) (hz : szR l) : AC P 8 [.d (.sl 2 (l.map SR.enc)), .d (.int .i64 k0), .d (.int .i64 a0), .d (.int .u8 (c.toNat : Nat))] ((gd, dbG) :: hs) (fun r h => r = .d (.bool true)) := by
  refine AC.of 121 Tryd.func8 rfl rfl rfl ?_
  refine W.reg ?_
  refine XOps.s rfl rfl rfl (Q.assign_d rfl) ?_
  refine XOps.nil ?_
  refine W.seq ?_
  refine W.reg ?_
  refine XOps.s rfl rfl rfl (Q.call rfl Tryd.func9 go9 rfl (fact_c gd hs)) ?_
  refine XOps.s rfl rfl rfl (Q.not rfl) ?_
  refine XOps.nil ?_
  refine W.cond rfl (fun hc18 => ?_) (fun hc18 => ?_)
  · try simp only [Bool.or_eq_true, Bool.or_eq_false_iff, Bool.and_eq_true, Bool.and_eq_false_iff, decide_eq_true_eq, decide_eq_false_iff_not, Bool.not_eq_true', Bool.not_eq_false', Int.not_lt, Int.not_le, List.length_map] at hc18
    exact absurd hc18 (by decide)
  · try simp only [Bool.or_eq_true, Bool.or_eq_false_iff, Bool.and_eq_true, Bool.and_eq_false_iff, decide_eq_true_eq, decide_eq_false_iff_not, Bool.not_eq_true', Bool.not_eq_false', Int.not_lt, Int.not_le, List.length_map] at hc18
    refine W.skip ?_
    refine W.reg ?_
    refine XOps.s rfl rfl rfl (Q.move_d rfl) ?_
    refine XOps.s rfl rfl rfl (Q.call rfl Tryd.func19 go19 rfl (text_c l gd hs (by omega) hz)) ?_
    refine XOps.s rfl rfl rfl (Q.move_tup rfl) ?_
    refine XOps.s rfl rfl rfl (Q.extract rfl rfl) ?_
    refine XOps.s rfl rfl rfl (Q.extract rfl rfl) ?_
    refine XOps.s rfl rfl rfl (Q.assign_d rfl) ?_
    refine XOps.s rfl rfl rfl (Q.assign_d rfl) ?_
    refine XOps.nil ?_
    refine W.seq ?_
    refine W.reg ?_
    refine XOps.s rfl rfl rfl (Q.move_d rfl) ?_
    refine XOps.s rfl rfl rfl (Q.neq rfl rfl) ?_
    refine XOps.s rfl rfl rfl (Q.move_d rfl) ?_
    refine XOps.gs rfl rfl rfl rfl rfl rfl rfl (fun hg => Q.move_d rfl) ?_
    refine XOps.gs rfl rfl rfl rfl rfl rfl rfl (fun hg => Quiet.open 27 hg rfl (Q.len_sl isl22 rfl)) ?_
    refine XOps.gs rfl rfl rfl rfl rfl rfl rfl (fun hg => Quiet.open 28 hg rfl (Q.eql rfl rfl)) ?_
    refine XOps.s rfl rfl rfl (Q.pick_or rfl rfl rfl (fun h => by first | (rw [h]; rfl) | (rw [hg, h]; rfl) | (simp [h, hg]; done))) ?_
    refine XOps.nil ?_
    refine W.cond rfl (fun hc30 => ?_) (fun hc30 => ?_)
    · try simp only [Bool.or_eq_true, Bool.or_eq_false_iff, Bool.and_eq_true, Bool.and_eq_false_iff, decide_eq_true_eq, decide_eq_false_iff_not, Bool.not_eq_true', Bool.not_eq_false', Int.not_lt, Int.not_le, List.length_map] at hc30
      refine W.reg ?_
      refine XOps.s rfl rfl rfl (Q.assign_d rfl) ?_
      refine XOps.nil ?_
      refine W.ret ?_
      exact ⟨_, _, rfl, HLe.refl _, rfl⟩
    · try simp only [Bool.or_eq_true, Bool.or_eq_false_iff, Bool.and_eq_true, Bool.and_eq_false_iff, decide_eq_true_eq, decide_eq_false_iff_not, Bool.not_eq_true', Bool.not_eq_false', Int.not_lt, Int.not_le, List.length_map] at hc30
      obtain ⟨h30, h30b⟩ : checkL l = 0 ∧ l.length ≠ 0 := by first | (simpa using hc30) | omega
      obtain ⟨hok, hn64⟩ := checkL_zero.1 h30
      obtain ⟨kn, hkn, hkl⟩ : ∃ kn : Nat, cutI k0 0 (((l.map SR.enc).length : Int) - 1) = kn ∧ kn < l.length := by
        have := cutI_bounds k0 (lo := 0) (hi := ((l.map SR.enc).length : Int) - 1) (by simp only [List.length_map]; omega)
        simp only [List.length_map] at this ⊢
        exact ⟨(cutI k0 0 ((l.length : Int) - 1)).toNat, by omega, by omega⟩
      obtain ⟨x, hx⟩ : ∃ x, l[kn]? = some x := ⟨_, List.getElem?_eq_getElem hkl⟩
      obtain ⟨hx1, hx2⟩ := szR_ok2 h30 (List.mem_of_getElem? hx)
      have htl := text_len h30
      have htb := text_bl h30
      have hix : Lib.indexByte (bl (textV l)) 10 = ((hexS (digV l)).size : Nat) := by rw [htb, idx_of (hexS_nl _), bl_len]
      have htl2 : (textV l).size = (hexS (digV l)).size + 1 + (linesB l).length := by have := congrArg List.length htb; rw [bl_len] at this; simp [bl_len] at this; omega
      refine W.skip ?_
      refine W.reg ?_
      refine XOps.s rfl rfl rfl (Q.move_d rfl) ?_
      refine XOps.s rfl rfl rfl (Q.move_d rfl) ?_
      refine XOps.s rfl rfl rfl (Q.len_sl isl22 rfl) ?_
      refine XOps.s rfl rfl rfl (Q.sub rfl rfl (wi64 (by first | omega | (dsimp only; omega) | (simp only [List.length_map]; omega)) (by first | omega | (dsimp only; omega) | (simp only [List.length_map]; omega)))) ?_
      refine XOps.s rfl rfl rfl (Q.call rfl Tryd.func21 go21 rfl (rcut_c k0 0 (((l.map SR.enc).length : Int) - 1) _ (by omega) (by simp only [List.length_map]; omega) (by simp only [List.length_map]; omega))) ?_
      refine XOps.s rfl rfl rfl (Q.assign_d rfl) ?_
      refine XOps.nil ?_
      rw [hkn]
      refine W.seq ?_
      refine W.reg ?_
      refine XOps.s rfl rfl rfl (Q.move_d rfl) ?_
      refine XOps.s rfl rfl rfl (Q.move_d rfl) ?_
      refine XOps.s rfl rfl rfl (Q.idx_sl sl22 (by decide) rfl rfl (by omega) (map_at hx)) ?_
      refine XOps.s rfl rfl rfl (Q.fld_dp fl48_1 rfl) ?_
      refine XOps.s rfl rfl rfl (Q.ld_dp ag9 rfl rfl) ?_
      refine XOps.s rfl rfl rfl (Q.len_str ist9 rfl) ?_
      refine XOps.s rfl rfl rfl (Q.eql rfl rfl) ?_
      refine XOps.nil ?_
      refine W.cond rfl (fun hc42 => ?_) (fun hc42 => ?_)
      · try simp only [Bool.or_eq_true, Bool.or_eq_false_iff, Bool.and_eq_true, Bool.and_eq_false_iff, decide_eq_true_eq, decide_eq_false_iff_not, Bool.not_eq_true', Bool.not_eq_false', Int.not_lt, Int.not_le, List.length_map] at hc42
        refine W.reg ?_
        refine XOps.s rfl rfl rfl (Q.assign_d rfl) ?_
        refine XOps.nil ?_
        refine W.ret ?_
        exact ⟨_, _, rfl, HLe.refl _, rfl⟩
      · try simp only [Bool.or_eq_true, Bool.or_eq_false_iff, Bool.and_eq_true, Bool.and_eq_false_iff, decide_eq_true_eq, decide_eq_false_iff_not, Bool.not_eq_true', Bool.not_eq_false', Int.not_lt, Int.not_le, List.length_map] at hc42
        have h42 : x.val.size ≠ 0 := by first | omega | (simpa using hc42)
        obtain ⟨an, han, hal⟩ : ∃ an : Nat, cutI a0 0 ((x.val.size : Int) - 1) = an ∧ an < x.val.size := by
          have := cutI_bounds a0 (lo := 0) (hi := (x.val.size : Int) - 1) (by omega)
          exact ⟨(cutI a0 0 ((x.val.size : Int) - 1)).toNat, by omega, by omega⟩
        have hsx := linesB_succ hx
        have hsl := congrArg List.length hsx
        rw [List.length_append, lineB_len] at hsl
        have hle := lines_le hok (kn + 1)
        obtain ⟨b, hb⟩ := off_at hx hal
        obtain ⟨pl, hpl⟩ : ∃ pl, pl = (hexS (digV l)).size + 1 + ((linesB (l.take kn)).length + x.key.size + 1 + an) := ⟨_, rfl⟩
        refine W.skip ?_
        refine W.reg ?_
        refine XOps.s rfl rfl rfl (Q.move_d rfl) ?_
        (refine XOps.loud rfl (L.conv_own ist9 ibs49 rfl rfl) ?_; rintro _ _ ⟨v44, rfl, rfl⟩)
        refine XOps.s rfl rfl rfl (Q.assign_vs rfl) ?_
        refine XOps.nil ?_
        refine W.reg ?_
        refine XOps.s rfl rfl rfl (Q.move_d rfl) ?_
        refine XOps.s rfl rfl rfl (Q.call rfl Tryd.func22 go22 rfl (sidxb_c (textV l) 10 _)) ?_
        refine XOps.s rfl rfl rfl (Q.add rfl rfl (wi64 (by first | omega | (dsimp only; omega) | (simp only [List.length_map]; omega)) (by first | omega | (dsimp only; omega) | (simp only [List.length_map]; omega)))) ?_
        refine XOps.s rfl rfl rfl (Q.assign_d rfl) ?_
        refine XOps.nil ?_
        refine W.seq ?_
        refine W.reg ?_
        refine XOps.s rfl rfl rfl (Q.move_d rfl) ?_
        refine XOps.s rfl rfl rfl (Q.move_d rfl) ?_
        refine XOps.s rfl rfl rfl (Q.cut_slm sl22 rfl rfl rfl (by first | omega | (simp only [List.length_map]; omega)) (by first | omega | (simp only [List.length_map]; omega)) (by first | omega | (simp only [List.length_map]; omega))) ?_
        refine XOps.s rfl rfl rfl (Q.len_sl isl22 rfl) ?_
        refine XOps.s rfl rfl rfl (Q.move_d rfl) ?_
        refine XOps.nil ?_
        refine W.block ?_
        refine W.loop (ι := Nat) (fun i => [(0, .d (.sl 2 (l.map SR.enc))), (1, .d (.int .i64 (kn : Nat))), (2, .d (.int .i64 a0)), (3, .d (.int .u8 (c.toNat : Nat))), (9, .d (.str (textV l))), (11, .vs v44 0 (textV l).size 1), (12, .d (.int .i64 ((hexS (digV l)).size + 1 + (linesB (l.take i)).length : Nat))), (50, .d (.sl 2 ((l.take kn).map SR.enc))), (51, .d (.int .i64 (kn : Nat))), (52, .d (.int .i64 (i : Nat)))]) (fun i => (v44, .byt (bl (textV l))) :: (gd, dbG) :: hs) (fun i => i ≤ kn) (fun i => kn - i) 0 ?_ ?_ ?_ ?_
        · exact Nat.zero_le _
        · exact ⟨by first | rfl | exact int_eq (by omega) | exact len_eq (by simp) | exact int_eq (by simp; done), by first | rfl | exact int_eq (by omega) | exact len_eq (by simp) | exact int_eq (by simp; done), by first | rfl | exact int_eq (by omega) | exact len_eq (by simp) | exact int_eq (by simp; done), by first | rfl | exact int_eq (by omega) | exact len_eq (by simp) | exact int_eq (by simp; done), by first | rfl | exact int_eq (by omega) | exact len_eq (by simp) | exact int_eq (by simp; done), by first | rfl | exact int_eq (by omega) | exact len_eq (by simp) | exact int_eq (by simp; done), by exact int_eq (by rw [hix]; simp [linesB]), by exact congrArg (fun z => AV.d (.sl 2 (List.map SR.enc z))) (by simp), by exact int_eq (by simp; omega), by first | rfl | exact int_eq (by omega) | exact len_eq (by simp) | exact int_eq (by simp; done), trivial⟩
        · repeat (first | exact HLe.refl _ | refine HLe.cons' (by first | rfl | (simp; done)) ?_ | refine HLe.pick 1 rfl (by first | rfl | (simp; done)) ?_ | refine HLe.pick 2 rfl (by first | rfl | (simp; done)) ?_ | refine HLe.pick 3 rfl (by first | rfl | (simp; done)) ?_ | refine HLe.pick 4 rfl (by first | rfl | (simp; done)) ?_ | refine HLe.pick 5 rfl (by first | rfl | (simp; done)) ?_ | refine HLe.skip _ ?_)
        · rintro i hi
          try dsimp only
          refine W.reg ?_
          refine XOps.s rfl rfl rfl (Q.lss rfl rfl) ?_
          refine XOps.nil ?_
          refine W.seq ?_
          refine W.cond rfl (fun hc53 => ?_) (fun hc53 => ?_)
          · try simp only [Bool.or_eq_true, Bool.or_eq_false_iff, Bool.and_eq_true, Bool.and_eq_false_iff, decide_eq_true_eq, decide_eq_false_iff_not, Bool.not_eq_true', Bool.not_eq_false', Int.not_lt, Int.not_le, List.length_map] at hc53
            obtain ⟨y, hy⟩ : ∃ y, (l.take kn)[i]? = some y := ⟨_, List.getElem?_eq_getElem (by simp; omega)⟩
            have hy2 : l[i]? = some y := by rw [List.getElem?_take] at hy; split at hy <;> first | exact hy | cases hy
            obtain ⟨hy3, hy4⟩ := szR_ok2 h30 (List.mem_of_getElem? hy2)
            have hsy := congrArg List.length (linesB_succ hy2)
            rw [List.length_append, lineB_len] at hsy
            have hli := lines_le hok i
            refine W.skip ?_
            refine W.seq ?_
            refine W.block ?_
            refine W.reg ?_
            refine XOps.s rfl rfl rfl (Q.idx_sl sl22 (by decide) rfl rfl (by omega) (map_at hy)) ?_
            refine XOps.s rfl rfl rfl (Q.ld_dpn ag48 rfl rfl) ?_
            (refine XOps.loud rfl (L.alloc tz48 rfl rfl) ?_; rintro _ _ ⟨b14, rfl, rfl⟩)
            refine XOps.loud rfl (L.storen (k := 0) ag48 rfl rfl rfl rfl rfl) ?_
            rintro _ _ ⟨rfl, rfl⟩
            refine XOps.nil ?_
            refine W.region ?_
            refine XOps.s rfl rfl rfl (Q.move_d rfl) ?_
            refine XOps.s rfl rfl rfl (Q.fld_ptr fl48_0 rfl) ?_
            refine XOps.s rfl rfl rfl (Q.ld_ptr (k := 0) ag9 rfl rfl rfl) ?_
            refine XOps.s rfl rfl rfl (Q.len_str ist9 rfl) ?_
            refine XOps.s rfl rfl rfl (Q.fld_ptr fl48_1 rfl) ?_
            refine XOps.s rfl rfl rfl (Q.ld_ptr (k := 0) ag9 rfl rfl rfl) ?_
            refine XOps.s rfl rfl rfl (Q.len_str ist9 rfl) ?_
            refine XOps.s rfl rfl rfl (Q.add rfl rfl (wi64 (by first | omega | (dsimp only; omega) | (simp only [List.length_map]; omega)) (by first | omega | (dsimp only; omega) | (simp only [List.length_map]; omega)))) ?_
            refine XOps.s rfl rfl rfl (Q.add rfl rfl (wi64 (by first | omega | (dsimp only; omega) | (simp only [List.length_map]; omega)) (by first | omega | (dsimp only; omega) | (simp only [List.length_map]; omega)))) ?_
            refine XOps.s rfl rfl rfl (Q.add rfl rfl (wi64 (by first | omega | (dsimp only; omega) | (simp only [List.length_map]; omega)) (by first | omega | (dsimp only; omega) | (simp only [List.length_map]; omega)))) ?_
            refine XOps.s rfl rfl rfl (Q.assign_d rfl) ?_
            refine XOps.nil ?_
            refine W.region ?_
            refine XOps.s rfl rfl rfl (Q.add rfl rfl (wi64 (by first | omega | (dsimp only; omega) | (simp only [List.length_map]; omega)) (by first | omega | (dsimp only; omega) | (simp only [List.length_map]; omega)))) ?_
            refine XOps.s rfl rfl rfl (Q.move_d rfl) ?_
            refine XOps.nil ?_
            refine ⟨i + 1, ?_, ?_, ?_, ?_⟩
            · omega
            · omega
            · exact ⟨by first | rfl | exact int_eq (by omega) | exact len_eq (by simp) | exact int_eq (by simp; done), by first | rfl | exact int_eq (by omega) | exact len_eq (by simp) | exact int_eq (by simp; done), by first | rfl | exact int_eq (by omega) | exact len_eq (by simp) | exact int_eq (by simp; done), by first | rfl | exact int_eq (by omega) | exact len_eq (by simp) | exact int_eq (by simp; done), by first | rfl | exact int_eq (by omega) | exact len_eq (by simp) | exact int_eq (by simp; done), by first | rfl | exact int_eq (by omega) | exact len_eq (by simp) | exact int_eq (by simp; done), by exact int_eq (by rw [hsy]; omega), by first | rfl | exact int_eq (by omega) | exact len_eq (by simp) | exact int_eq (by simp; done), by first | rfl | exact int_eq (by omega) | exact len_eq (by simp) | exact int_eq (by simp; done), by first | rfl | exact int_eq (by omega) | exact len_eq (by simp) | exact int_eq (by simp; done), trivial⟩
            · repeat (first | exact HLe.refl _ | refine HLe.cons' (by first | rfl | (simp; done)) ?_ | refine HLe.pick 1 rfl (by first | rfl | (simp; done)) ?_ | refine HLe.pick 2 rfl (by first | rfl | (simp; done)) ?_ | refine HLe.pick 3 rfl (by first | rfl | (simp; done)) ?_ | refine HLe.pick 4 rfl (by first | rfl | (simp; done)) ?_ | refine HLe.pick 5 rfl (by first | rfl | (simp; done)) ?_ | refine HLe.skip _ ?_)
          · try simp only [Bool.or_eq_true, Bool.or_eq_false_iff, Bool.and_eq_true, Bool.and_eq_false_iff, decide_eq_true_eq, decide_eq_false_iff_not, Bool.not_eq_true', Bool.not_eq_false', Int.not_lt, Int.not_le, List.length_map] at hc53
            obtain rfl : i = kn := by omega
            have hp2 : (((hexS (digV l)).size + 1 + (linesB (l.take i)).length : Nat) : Int) + ((x.key.size : Int) + 1 + cutI a0 0 ((x.val.size : Int) - 1)) = (pl : Int) := by rw [han]; omega
            refine W.exit ?_
            refine W.drawreg 19 follows (by kernel_rfl) ?_
            refine Chain.cons _ (GQ.q rfl (Q.move_d rfl)) rfl ?_
            refine Chain.cons _ (GQ.q rfl (Q.move_d rfl)) rfl ?_
            refine Chain.cons _ (GQ.q rfl (Q.move_d rfl)) rfl ?_
            refine Chain.cons _ (GQ.q rfl (Q.idx_sl sl22 (by decide) rfl rfl (by omega) (map_at hx))) rfl ?_
            refine Chain.cons _ (GQ.q rfl (Q.fld_dp fl48_0 rfl)) rfl ?_
            refine Chain.cons _ (GQ.q rfl (Q.ld_dp ag9 rfl rfl)) rfl ?_
            refine Chain.cons _ (GQ.q rfl (Q.len_str ist9 rfl)) rfl ?_
            refine Chain.cons _ (GQ.q rfl (Q.add rfl rfl (wi64 (by first | omega | (dsimp only; omega) | (simp only [List.length_map]; omega)) (by first | omega | (dsimp only; omega) | (simp only [List.length_map]; omega))))) rfl ?_
            refine Chain.cons _ (GQ.q rfl (Q.move_d rfl)) rfl ?_
            refine Chain.cons _ (GQ.q rfl (Q.move_d rfl)) rfl ?_
            refine Chain.cons _ (GQ.q rfl (Q.move_d rfl)) rfl ?_
            refine Chain.cons _ (GQ.q rfl (Q.idx_sl sl22 (by decide) rfl rfl (by omega) (map_at hx))) rfl ?_
            refine Chain.cons _ (GQ.q rfl (Q.fld_dp fl48_1 rfl)) rfl ?_
            refine Chain.cons _ (GQ.q rfl (Q.ld_dp ag9 rfl rfl)) rfl ?_
            refine Chain.cons _ (GQ.q rfl (Q.len_str ist9 rfl)) rfl ?_
            refine Chain.cons _ (GQ.q rfl (Q.sub rfl rfl (wi64 (by first | omega | (dsimp only; omega) | (simp only [List.length_map]; omega)) (by first | omega | (dsimp only; omega) | (simp only [List.length_map]; omega))))) rfl ?_
            refine Chain.cons _ (GQ.q rfl (Q.call rfl Tryd.func21 go21 rfl (rcut_c a0 0 ((x.val.size : Int) - 1) _ (by omega) (by omega) (by omega)))) rfl ?_
            refine Chain.cons _ (GQ.q rfl (Q.add rfl rfl (wi64 (by first | omega | (dsimp only; omega) | (simp only [List.length_map]; omega)) (by first | omega | (dsimp only; omega) | (simp only [List.length_map]; omega))))) rfl ?_
            refine Chain.cons _ (GQ.q rfl (Q.add rfl rfl (wi64 (by first | omega | (dsimp only; omega) | (simp only [List.length_map]; omega)) (by first | omega | (dsimp only; omega) | (simp only [List.length_map]; omega))))) rfl ?_
            refine Chain.nil ?_
            refine XOps.s rfl rfl rfl (Q.assign_d rfl) ?_
            refine XOps.nil ?_
            rw [hp2]
            refine W.reg ?_
            refine XOps.s rfl rfl rfl (Q.move_vs rfl) ?_
            refine XOps.s rfl rfl rfl (Q.move_d rfl) ?_
            refine XOps.s rfl rfl rfl (Q.move_d rfl) ?_
            refine XOps.s rfl rfl rfl (Q.idx_byt (kk := 0) sl49 rfl rfl rfl (by omega) (by omega)) ?_
            (refine XOps.loud rfl (L.store_byt (k := 0) ag5 rfl rfl (by rw [Int.toNat_natCast]; show _ < (bl (textV l)).length; rw [bl_len]; omega) rfl) ?_; rintro _ _ ⟨rfl, rfl⟩)
            refine XOps.nil ?_
            refine W.reg ?_
            refine XOps.s rfl rfl rfl (Q.move_vs rfl) ?_
            refine XOps.s rfl rfl rfl (Q.conv_byt (k := 0) ibs49 ist9 rfl rfl (by rw [List.length_set]; exact (bl_len _).symm)) ?_
            (refine XOps.loud rfl (L.call rfl Tryd.func20 go20 rfl (AC.le (read_c (bs ((bl (textV l)).set ((pl : Nat) : Int).toNat c)) gd hs (by rw [bs_size, List.length_set, bl_len]; omega)) (HLe.skip _ (HLe.refl _))) rfl) ?_; rintro _ _ ⟨_, rfl, rfl, rfl⟩)
            refine XOps.s rfl rfl rfl (Q.move_tup rfl) ?_
            refine XOps.s rfl rfl rfl (Q.extract rfl rfl) ?_
            refine XOps.s rfl rfl rfl (Q.extract rfl rfl) ?_
            refine XOps.s rfl rfl rfl (Q.assign_d rfl) ?_
            refine XOps.s rfl rfl rfl (Q.assign_d rfl) ?_
            refine XOps.nil ?_
            refine W.reg ?_
            refine XOps.s rfl rfl rfl (Q.move_d rfl) ?_
            refine XOps.s rfl rfl rfl (Q.move_d rfl) ?_
            refine XOps.s rfl rfl rfl (Q.move_d rfl) ?_
            refine XOps.s rfl rfl rfl (Q.idx_str ist9 rfl rfl (by first | omega | (simp at hg; omega)) (by first | omega | (simp at hg; omega))) ?_
            refine XOps.s rfl rfl rfl (Q.eql rfl rfl) ?_
            refine XOps.s rfl rfl rfl (Q.move_d rfl) ?_
            refine XOps.gs rfl rfl rfl rfl rfl rfl rfl (fun hg => Q.move_d rfl) ?_
            refine XOps.gs rfl rfl rfl rfl rfl rfl rfl (fun hg => Quiet.open 102 hg rfl (Q.eql rfl rfl)) ?_
            refine XOps.s rfl rfl rfl (Q.pick_and rfl rfl rfl (fun h => by first | (rw [h]; rfl) | (rw [hg, h]; rfl) | (simp [h, hg]; done))) ?_
            refine XOps.s rfl rfl rfl (Q.move_d rfl) ?_
            refine XOps.gs rfl rfl rfl rfl rfl rfl rfl (fun hg => Q.move_d rfl) ?_
            refine XOps.gs rfl rfl rfl rfl rfl rfl rfl (fun hg => Q.move_d rfl) ?_
            refine XOps.gs rfl rfl rfl rfl rfl rfl rfl (fun hg => Q.move_d rfl) ?_
            refine XOps.gs rfl rfl rfl rfl rfl rfl rfl (fun hg => Quiet.open 107 hg rfl (Quiet.open 108 hg rfl (Q.idx_str ist9 rfl rfl (by first | omega | (simp at hg; omega)) (by first | omega | (simp at hg; omega))))) ?_
            refine XOps.gs rfl rfl rfl rfl rfl rfl rfl (fun hg => Quiet.open 106 hg rfl (Quiet.open 109 hg rfl (Q.neq rfl rfl))) ?_
            refine XOps.gs rfl rfl rfl rfl rfl rfl rfl (fun hg => Quiet.open 110 hg rfl (Q.move_d rfl)) ?_
            refine XOps.gsw rfl rfl rfl rfl rfl rfl rfl (fun hg => Q.move_d rfl) ?_
            refine XOps.gsw rfl rfl rfl rfl rfl rfl rfl (fun hg => Quiet.open 112 hg rfl (Q.neq rfl rfl)) ?_
            refine XOps.gs rfl rfl rfl rfl rfl rfl rfl (fun hg => Quiet.open 111 hg rfl (Q.pick_and rfl rfl rfl (fun h => by first | (rw [h]; rfl) | (rw [hg, h]; rfl) | (simp [h, hg]; done)))) ?_
            refine XOps.gs rfl rfl rfl rfl rfl rfl rfl (fun hg => Quiet.open 114 hg rfl (Q.move_d rfl)) ?_
            refine XOps.gsw rfl rfl rfl rfl rfl rfl rfl (fun hg => Q.move_d rfl) ?_
            refine XOps.gsw rfl rfl rfl rfl rfl rfl rfl (fun hg => Quiet.open 116 hg rfl (Q.len_sl isl22 rfl)) ?_
            refine XOps.gsw rfl rfl rfl rfl rfl rfl rfl (fun hg => Quiet.open 117 hg rfl (Q.eql rfl rfl)) ?_
            refine XOps.gs rfl rfl rfl rfl rfl rfl rfl (fun hg => Quiet.open 115 hg rfl (Q.pick_and rfl rfl rfl (fun h => by first | (rw [h]; rfl) | (rw [hg, h]; rfl) | (simp [h, hg]; done)))) ?_
            refine XOps.s rfl rfl rfl (Q.pick_or rfl rfl rfl (fun h => by first | (rw [h]; rfl) | (rw [hg, h]; rfl) | (simp [h, hg]; done))) ?_
            refine XOps.s rfl rfl rfl (Q.assign_d rfl) ?_
            refine XOps.nil ?_
            refine W.ret ?_
            (refine ⟨_, _, rfl, HLe.refl _, ?_⟩; show AV.d (.bool _) = _; refine congrArg (fun b => AV.d (D.bool b)) ?_; exact spoilt_out h30 hb hpl)
end Go.Proofs.YtohckiiadkibkaaDoorA
