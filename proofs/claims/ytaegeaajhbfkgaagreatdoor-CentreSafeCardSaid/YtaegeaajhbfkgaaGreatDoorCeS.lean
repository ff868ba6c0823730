/- Package record: New, Add, Entries. -/
import Derived.Test.YtaegeaajhbfkgaaGreatDoorFrB
import Derived.Test.YtaegeaajhbfkgaaGreatDoorCeR
import Derived.Test.YtaegeaajhbfkgaaGreatDoorRec3
import Derived.Test.YtaegeaajhbfkgaaGreatDoorFrD
set_option linter.unusedVariables false
set_option linter.unusedSimpArgs false
set_option linter.unnecessarySimpa false
namespace Go.Proofs.YtaegeaajhbfkgaaGreatDoorA.FCeS
open Go
theorem ag3 : tAgg P 3 = some ((false, 1)) := by kernel_rfl
theorem ag66 : tAgg P 66 = some ((false, 1)) := by kernel_rfl
theorem ag69 : tAgg P 69 = some ((true, 4)) := by kernel_rfl
theorem ag9 : tAgg P 9 = some ((false, 1)) := by kernel_rfl
theorem ap66 : tApp P 66 = some ((4, 48)) := by kernel_rfl
theorem fl121_0 : tFld P 121 0 = some (0) := by kernel_rfl
theorem fl121_1 : tFld P 121 1 = some (1) := by kernel_rfl
theorem fl69_0 : tFld P 69 0 = some (0) := by kernel_rfl
theorem fl69_1 : tFld P 69 1 = some (1) := by kernel_rfl
theorem go77 : callGo Go.Proofs.Tryz.f77 = true := by kernel_rfl
theorem go90 : callGo Go.Proofs.Tryz.f90 = true := by kernel_rfl
theorem isl66 : isSl P 66 = true := by kernel_rfl
theorem pl121 : tPl P 121 = some ([(0, 1), (1, 1)]) := by kernel_rfl
theorem pl69 : tPl P 69 = some ([(0, 1), (1, 1), (2, 1), (3, 1)]) := by kernel_rfl
theorem sl66 : tSl P 66 = some (4) := by kernel_rfl
theorem tz121 : tZero P 121 = some ([.slice none 0 0, .string ⟨#[]⟩]) := by kernel_rfl
theorem tz69 : tZero P 69 = some ([.int .i64 0, .int .i64 0, .string ⟨#[]⟩, .string ⟨#[]⟩]) := by kernel_rfl
theorem tzd69 : cellsD [.int .i64 0, .int .i64 0, .string ⟨#[]⟩, .string ⟨#[]⟩] = some ([.int .i64 0, .int .i64 0, .str ⟨#[]⟩, .str ⟨#[]⟩]) := rfl
theorem zr66 : tZrow P 66 = some ([.int .i64 0, .int .i64 0, .string ⟨#[]⟩, .string ⟨#[]⟩]) := by kernel_rfl
theorem zrd66 : cellsD [.int .i64 0, .int .i64 0, .string ⟨#[]⟩, .string ⟨#[]⟩] = some ([.int .i64 0, .int .i64 0, .str ⟨#[]⟩, .str ⟨#[]⟩]) := rfl
end Go.Proofs.YtaegeaajhbfkgaaGreatDoorA.FCeS
namespace Go.Proofs.YtaegeaajhbfkgaaGreatDoorA
open Go FCeS
attribute [local irreducible] XOps Quiet Loud W AC GQ DT
def reC (l : List EN) (f : Nat) : List AV := [.vs f 0 l.length 4, .d (.str (bs (bytesL l)))]
def reD (l : List EN) : List D := [.sl 4 (l.map EN.enc), .str (bs (bytesL l))]
def reH (b : Nat) (l : List EN) (f : Nat) (hs : Hp) : Hp := (b, .cells (reC l f)) :: (f, .lst 4 (l.map EN.enc)) :: hs
def lastE (l : List EN) : EN := l.getLastD EN.zero
theorem last_row {l : List EN} (h : 0 < l.length) : (l.map EN.enc)[0 + ((l.length : Int) - 1).toNat]? = some (lastE l).enc := by
  rw [show 0 + ((l.length : Int) - 1).toNat = l.length - 1 by omega, List.getElem?_map]
  unfold lastE
  rw [← List.getLast?_eq_getElem?, List.getLastD_eq_getLast?]
  cases l with
  | nil => simp at h
  | cons x l => rw [List.getLast?_eq_some_getLast (by simp)]; rfl
theorem late_iff {l : List EN} {t : Int} : lateB l t = true ↔ 0 < l.length ∧ t < (lastE l).tm := by
  unfold lateB lastT lastE
  rw [List.getLastD_eq_getLast?]
  cases l with
  | nil => simp
  | cons x l => rw [List.getLast?_eq_some_getLast (by simp)]; simp
def addN (l : List EN) (tm : Int) (kind text : ByteArray) : Int := if addE l tm kind text ≠ 0 then 0 else l.length + 1
theorem add_bad {l : List EN} {tm : Int} {kind text : ByteArray} (h : addE l tm kind text ≠ 0) : addN l tm kind text = 0 ∧ addL l tm kind text = l := ⟨if_pos h, if_pos h⟩
theorem add_good {l : List EN} {tm : Int} {kind text : ByteArray} (h : addE l tm kind text = 0) : addN l tm kind text = l.length + 1 ∧ addL l tm kind text = l ++ [newE l tm kind text] := ⟨if_neg (by omega), if_neg (by omega)⟩
def fromL (l : List EN) (m : Int) : List EN := l.drop (max m 1 - 1).toNat
theorem fromL_nil {l : List EN} {m : Int} (h : (l.length : Int) < m) : fromL l m = [] := List.drop_of_length_le (by omega)
theorem fromL_cut {l : List EN} {m : Int} : (l.take (((l.map EN.enc).length : Nat) : Int).toNat).drop (max m 1 - 1).toNat = fromL l m := by
  rw [Int.toNat_natCast, List.length_map, List.take_length]; rfl
theorem bytesL_size {l : List EN} (h : Okl l) : (bs (bytesL l)).size ≤ 153 * l.length := by
  rw [bs_size]; exact bytesL_len h.ok
set_option maxHeartbeats 1000000 in
set_option maxRecDepth 100000 in
theorem rnew_c (gd : Nat) (hs : Hp) : AC P 56 [] ((gd, p10G) :: hs) (fun r h => ∃ b f, r = .ptr b 0 ∧ h = (gd, p10G) :: reH b [] f hs) := by
  refine AC.of 3 Tryz.func56 rfl rfl rfl ?_
  refine W.reg ?_
  refine XOps.s rfl rfl rfl (Q.assign_d rfl) ?_
  refine XOps.nil ?_
  refine W.reg ?_
  refine XOps.s rfl rfl rfl (Q.buildS pl121 tz121 rfl rfl) ?_
  (refine XOps.loud rfl (L.boxv rfl rfl) ?_; rintro _ _ ⟨b2, rfl, rfl⟩)
  refine XOps.s rfl rfl rfl (Q.assign_ptr rfl) ?_
  refine XOps.nil ?_
  refine W.ghostc 0 0 4 (by decide) rfl rfl (fun f => ?_)
  refine W.ret ?_
  refine ⟨_, (gd, p10G) :: reH b2 [] f hs, rfl, ?_, b2, f, rfl, rfl⟩
  exact HLe.pick 2 rfl rfl (HLe.pick 1 rfl rfl (HLe.pick 0 rfl rfl (HLe.refl _)))
set_option maxHeartbeats 4000000 in
set_option maxRecDepth 100000 in
theorem add_c (b : Nat) (l : List EN) (f : Nat) (tm : Int) (kind text : ByteArray) (gd : Nat) (hs : Hp) (ok : Okl l) (h1 : kind.size ≤ 140737488355000) (h2 : text.size ≤ 140737488355000) : AC P 62 [.ptr b 0, .d (.int .i64 tm), .d (.str kind), .d (.str text)] ((gd, p10G) :: reH b l f hs) (fun r h => ∃ f2, r = .tup [.d (.int .i64 (addN l tm kind text)), .d (.int .i64 (addE l tm kind text))] ∧ h = (gd, p10G) :: reH b (addL l tm kind text) f2 hs) := by
  have hln := ok.len
  have hbz := bytesL_size ok
  refine AC.of 79 Tryz.func62 rfl rfl rfl ?_
  refine W.reg ?_
  refine XOps.s rfl rfl rfl (Q.assign_d rfl) ?_
  refine XOps.s rfl rfl rfl (Q.assign_d rfl) ?_
  refine XOps.nil ?_
  refine W.reg ?_
  refine XOps.s rfl rfl rfl (Q.move_ptr rfl) ?_
  refine XOps.s rfl rfl rfl (Q.nil_ptr rfl) ?_
  refine XOps.s rfl rfl rfl (Q.fld_ptr fl121_0 rfl) ?_
  refine XOps.s rfl rfl rfl (Q.ld_ptr (k := 1) ag66 rfl rfl rfl) ?_
  refine XOps.s rfl rfl rfl (Q.len_vs isl66 rfl) ?_
  refine XOps.s rfl rfl rfl (Q.add rfl rfl (wi64 (by first | omega | (dsimp only; omega) | (simp only [List.length_map]; omega)) (by first | omega | (dsimp only; omega) | (simp only [List.length_map]; omega)))) ?_
  refine XOps.s rfl rfl rfl (Q.move_d rfl) ?_
  refine XOps.s rfl rfl rfl (Q.move_d rfl) ?_
  refine XOps.s rfl rfl rfl (Q.move_d rfl) ?_
  refine XOps.s rfl rfl rfl (Q.build pl69 tz69 tzd69 rfl) ?_
  (refine XOps.loud rfl (L.alloc tz69 rfl rfl) ?_; rintro _ _ ⟨b10, rfl, rfl⟩)
  refine XOps.loud rfl (L.storen (k := 0) ag69 rfl rfl rfl rfl rfl) ?_
  rintro _ _ ⟨rfl, rfl⟩
  refine XOps.nil ?_
  refine W.seq ?_
  refine W.reg ?_
  refine XOps.s rfl rfl rfl (Q.move_ptr rfl) ?_
  refine XOps.s rfl rfl rfl (Q.nil_ptr rfl) ?_
  refine XOps.s rfl rfl rfl (Q.fld_ptr fl121_0 rfl) ?_
  refine XOps.s rfl rfl rfl (Q.ld_ptr (k := 2) ag66 rfl rfl rfl) ?_
  refine XOps.s rfl rfl rfl (Q.len_vs isl66 rfl) ?_
  refine XOps.s rfl rfl rfl (Q.eql rfl rfl) ?_
  refine XOps.nil ?_
  refine W.cond rfl (fun hc29 => ?_) (fun hc29 => ?_)
  · try simp only [Bool.or_eq_true, Bool.or_eq_false_iff, Bool.and_eq_true, Bool.and_eq_false_iff, decide_eq_true_eq, decide_eq_false_iff_not, Bool.not_eq_true', Bool.not_eq_false', Int.not_lt, Int.not_le, List.length_map] at hc29
    have hE : addE l tm kind text = 9 := if_pos (by omega)
    obtain ⟨hN, hL⟩ := add_bad (l := l) (tm := tm) (kind := kind) (text := text) (by omega)
    rw [hE, hN, hL]
    refine W.reg ?_
    refine XOps.s rfl rfl rfl (Q.assign_d rfl) ?_
    refine XOps.s rfl rfl rfl (Q.assign_d rfl) ?_
    refine XOps.nil ?_
    refine W.ret ?_
    exact ⟨_, (gd, p10G) :: reH b l f hs, rfl, HLe.pick 1 rfl rfl (HLe.skip _ (HLe.refl _)), f, rfl, rfl⟩
  · try simp only [Bool.or_eq_true, Bool.or_eq_false_iff, Bool.and_eq_true, Bool.and_eq_false_iff, decide_eq_true_eq, decide_eq_false_iff_not, Bool.not_eq_true', Bool.not_eq_false', Int.not_lt, Int.not_le, List.length_map] at hc29
    have h29 : ¬ l.length = 500 := by omega
    refine W.skip ?_
    refine W.reg ?_
    refine XOps.s rfl rfl rfl (Q.ld_ptrn (k := 0) ag69 rfl rfl rfl) ?_
    (refine XOps.loud rfl (L.call rfl Tryz.func90 go90 rfl (AC.le (enc_c (newE l tm kind text) gd ((b10, .cells ((newE l tm kind text).enc.map .d)) :: reH b l f hs) h1 h2) (HLe.pick 1 rfl rfl (HLe.refl _))) rfl) ?_; rintro _ _ ⟨_, rfl, rfl, rfl⟩)
    refine XOps.s rfl rfl rfl (Q.move_tup rfl) ?_
    refine XOps.s rfl rfl rfl (Q.extract rfl rfl) ?_
    refine XOps.s rfl rfl rfl (Q.extract rfl rfl) ?_
    refine XOps.s rfl rfl rfl (Q.assign_d rfl) ?_
    refine XOps.s rfl rfl rfl (Q.assign_d rfl) ?_
    refine XOps.nil ?_
    refine W.seq ?_
    refine W.reg ?_
    refine XOps.s rfl rfl rfl (Q.move_d rfl) ?_
    refine XOps.s rfl rfl rfl (Q.neq rfl rfl) ?_
    refine XOps.nil ?_
    refine W.cond rfl (fun hc36 => ?_) (fun hc36 => ?_)
    · try simp only [Bool.or_eq_true, Bool.or_eq_false_iff, Bool.and_eq_true, Bool.and_eq_false_iff, decide_eq_true_eq, decide_eq_false_iff_not, Bool.not_eq_true', Bool.not_eq_false', Int.not_lt, Int.not_le, List.length_map] at hc36
      have h36 : checkN (newE l tm kind text) ≠ 0 := by first | exact hc36 | (simpa using hc36)
      have hE : addE l tm kind text = checkN (newE l tm kind text) := by unfold addE; rw [if_neg h29, if_pos h36]
      obtain ⟨hN, hL⟩ := add_bad (l := l) (tm := tm) (kind := kind) (text := text) (by omega)
      rw [hE, hN, hL]
      refine W.reg ?_
      refine XOps.s rfl rfl rfl (Q.move_d rfl) ?_
      refine XOps.s rfl rfl rfl (Q.assign_d rfl) ?_
      refine XOps.s rfl rfl rfl (Q.assign_d rfl) ?_
      refine XOps.nil ?_
      refine W.ret ?_
      exact ⟨_, (gd, p10G) :: reH b l f hs, rfl, HLe.pick 0 rfl rfl (HLe.skip _ (HLe.refl _)), f, rfl, rfl⟩
    · try simp only [Bool.or_eq_true, Bool.or_eq_false_iff, Bool.and_eq_true, Bool.and_eq_false_iff, decide_eq_true_eq, decide_eq_false_iff_not, Bool.not_eq_true', Bool.not_eq_false', Int.not_lt, Int.not_le, List.length_map] at hc36
      have h36 : checkN (newE l tm kind text) = 0 := by first | exact hc36 | (simpa using hc36)
      have hv : encV (newE l tm kind text) = bs (encB (newE l tm kind text)) := if_neg (by omega)
      have hes := enc_len (checkN_zero.1 h36)
      have hez : (encV (newE l tm kind text)).size = (encB (newE l tm kind text)).length := by rw [hv, bs_size]
      refine W.skip ?_
      refine W.seq ?_
      refine W.reg ?_
      refine XOps.s rfl rfl rfl (Q.move_ptr rfl) ?_
      refine XOps.s rfl rfl rfl (Q.nil_ptr rfl) ?_
      refine XOps.s rfl rfl rfl (Q.fld_ptr fl121_0 rfl) ?_
      refine XOps.s rfl rfl rfl (Q.ld_ptr (k := 2) ag66 rfl rfl rfl) ?_
      refine XOps.s rfl rfl rfl (Q.len_vs isl66 rfl) ?_
      refine XOps.s rfl rfl rfl (Q.assign_d rfl) ?_
      refine XOps.nil ?_
      refine W.reg ?_
      refine XOps.s rfl rfl rfl (Q.move_d rfl) ?_
      refine XOps.s rfl rfl rfl (Q.gtr rfl rfl) ?_
      refine XOps.s rfl rfl rfl (Q.move_d rfl) ?_
      refine XOps.gs rfl rfl rfl rfl rfl rfl rfl (fun hg => Q.move_d rfl) ?_
      refine XOps.gs rfl rfl rfl rfl rfl rfl rfl (fun hg => Q.move_ptr rfl) ?_
      refine XOps.gs rfl rfl rfl rfl rfl rfl rfl (fun hg => Quiet.open 47 hg rfl (Q.nil_ptr rfl)) ?_
      refine XOps.gs rfl rfl rfl rfl rfl rfl rfl (fun hg => Quiet.open 48 hg rfl (Q.fld_ptr fl121_0 rfl)) ?_
      refine XOps.gs rfl rfl rfl rfl rfl rfl rfl (fun hg => Quiet.open 49 hg rfl (Q.ld_ptr (k := 2) ag66 rfl rfl rfl)) ?_
      refine XOps.gs rfl rfl rfl rfl rfl rfl rfl (fun hg => Q.move_d rfl) ?_
      refine XOps.gs rfl rfl rfl rfl rfl rfl rfl (fun hg => Quiet.open 51 hg rfl (Q.sub rfl rfl (wi64 (by first | omega | (dsimp only; omega) | (simp only [List.length_map]; omega)) (by first | omega | (dsimp only; omega) | (simp only [List.length_map]; omega))))) ?_
      refine XOps.gs rfl rfl rfl rfl rfl rfl rfl (fun hg => Quiet.open 50 hg rfl (Quiet.open 52 hg rfl (Q.idx_vs (kk := 3) sl66 rfl rfl rfl (by simp at hg; omega) (by simp at hg; omega)))) ?_
      refine XOps.gs rfl rfl rfl rfl rfl rfl rfl (fun hg => Quiet.open 53 hg rfl (Q.fld_ep fl69_1 rfl)) ?_
      refine XOps.gs rfl rfl rfl rfl rfl rfl rfl (fun hg => Quiet.open 54 hg rfl (Q.ld_ep (k := 3) ag3 rfl rfl (last_row (by simp at hg; omega)) rfl)) ?_
      refine XOps.gs rfl rfl rfl rfl rfl rfl rfl (fun hg => Quiet.open 46 hg rfl (Quiet.open 55 hg rfl (Q.lss rfl rfl))) ?_
      refine XOps.s rfl rfl rfl (Q.pick_and rfl rfl rfl (fun h => by first | (rw [h]; rfl) | (rw [hg, h]; rfl) | (simp [h, hg]; done))) ?_
      refine XOps.nil ?_
      refine W.cond rfl (fun hc57 => ?_) (fun hc57 => ?_)
      · try simp only [Bool.or_eq_true, Bool.or_eq_false_iff, Bool.and_eq_true, Bool.and_eq_false_iff, decide_eq_true_eq, decide_eq_false_iff_not, Bool.not_eq_true', Bool.not_eq_false', Int.not_lt, Int.not_le, List.length_map] at hc57
        have hlt : lateB l tm = true := late_iff.2 ⟨by omega, by omega⟩
        have hE : addE l tm kind text = 12 := by unfold addE; rw [if_neg h29, if_neg (by omega), if_pos hlt]
        obtain ⟨hN, hL⟩ := add_bad (l := l) (tm := tm) (kind := kind) (text := text) (by omega)
        rw [hE, hN, hL]
        refine W.reg ?_
        refine XOps.s rfl rfl rfl (Q.assign_d rfl) ?_
        refine XOps.s rfl rfl rfl (Q.assign_d rfl) ?_
        refine XOps.nil ?_
        refine W.ret ?_
        exact ⟨_, (gd, p10G) :: reH b l f hs, rfl, HLe.pick 0 rfl rfl (HLe.skip _ (HLe.refl _)), f, rfl, rfl⟩
      · try simp only [Bool.or_eq_true, Bool.or_eq_false_iff, Bool.and_eq_true, Bool.and_eq_false_iff, decide_eq_true_eq, decide_eq_false_iff_not, Bool.not_eq_true', Bool.not_eq_false', Int.not_lt, Int.not_le, List.length_map] at hc57
        have hlt : ¬ lateB l tm = true := fun h => by have := late_iff.1 h; omega
        have hE : addE l tm kind text = 0 := by unfold addE; rw [if_neg h29, if_neg (by omega), if_neg hlt]
        obtain ⟨hN, hL⟩ := add_good (l := l) (tm := tm) (kind := kind) (text := text) hE
        have hbb : bs (bytesL l) ++ encV (newE l tm kind text) = bs (bytesL (l ++ [(newE l tm kind text)])) := bl_inj (by simp [bl_app, bl_bs, hv, bytesL_app, bytesL_one])
        rw [hE, hN, hL]
        refine W.skip ?_
        refine W.drawTreg 21 [8, 17, 20] follows (by kernel_rfl) (by decide) ?_
        apply DT.moreE [.new, .new, .new, .new, .new, .new, .new, .new, .now, .new, .new, .new, .new, .new, .new, .later, .later, .later, .later, .later, .later] (by kernel_rfl)
        refine PC.new _ rfl (GQ.q rfl (Q.move_ptr rfl)) rfl ?_
        refine PC.new _ rfl (GQ.q rfl (Q.move_ptr rfl)) rfl ?_
        refine PC.new _ rfl (GQ.q rfl (Q.move_ptr rfl)) rfl ?_
        refine PC.new _ rfl (GQ.q rfl (Q.nil_ptr rfl)) rfl ?_
        refine PC.new _ rfl (GQ.q rfl (Q.fld_ptr fl121_0 rfl)) rfl ?_
        refine PC.new _ rfl (GQ.q rfl (Q.ld_ptr (k := 2) ag66 rfl rfl rfl)) rfl ?_
        refine PC.new _ rfl (GQ.q rfl (Q.ld_ptrn (k := 1) ag69 rfl rfl rfl)) rfl ?_
        refine PC.new _ rfl (GQ.q rfl (Q.bsl1n sl66 (by decide) zr66 rfl zrd66 rfl rfl (by decide))) rfl ?_
        refine PC.now rfl rfl (fun τ => Loud.to (L.app (k := 3) ap66 rfl rfl (by first | rfl | (simp; done)) rfl (by simp; omega) rfl) (fun _ _ ⟨v, h1, h2⟩ => ⟨_, h1, v, rfl, h2⟩)) ?_
        refine PC.new _ rfl (GQ.q rfl (Q.move_ptr rfl)) rfl ?_
        refine PC.new _ rfl (GQ.q rfl (Q.nil_ptr rfl)) rfl ?_
        refine PC.new _ rfl (GQ.q rfl (Q.fld_ptr fl121_1 rfl)) rfl ?_
        refine PC.new _ rfl (GQ.q rfl (Q.ld_ptr (k := 2) ag9 rfl rfl rfl)) rfl ?_
        refine PC.new _ rfl (GQ.q rfl (Q.move_d rfl)) rfl ?_
        refine PC.new _ rfl (GQ.q rfl (Q.adds rfl rfl (by omega))) rfl ?_
        refine PC.later rfl ?_
        refine PC.later rfl ?_
        refine PC.later rfl ?_
        refine PC.later rfl ?_
        refine PC.later rfl ?_
        refine PC.later rfl ?_
        refine PC.nil ?_
        rintro _ _ ⟨v66, rfl, rfl⟩
        apply DT.moreS [.old, .old, .did, .did, .did, .did, .did, .did, .did, .old, .old, .old, .old, .old, .old, .new, .new, .now, .later, .later, .later] (by kernel_rfl)
        refine PC.old rfl (GQ.q rfl (Q.move_ptr rfl)) rfl ?_
        refine PC.old rfl (GQ.q rfl (Q.move_ptr rfl)) rfl ?_
        refine PC.did rfl ?_
        refine PC.did rfl ?_
        refine PC.did rfl ?_
        refine PC.did rfl ?_
        refine PC.did rfl ?_
        refine PC.did rfl ?_
        refine PC.did rfl ?_
        refine PC.old rfl (GQ.q rfl (Q.move_ptr rfl)) rfl ?_
        refine PC.old rfl (GQ.q rfl (Q.nil_ptr rfl)) rfl ?_
        refine PC.old rfl (GQ.q rfl (Q.fld_ptr fl121_1 rfl)) rfl ?_
        refine PC.old rfl (GQ.q rfl (Q.ld_ptr (k := 3) ag9 rfl rfl rfl)) rfl ?_
        refine PC.old rfl (GQ.q rfl (Q.move_d rfl)) rfl ?_
        refine PC.old rfl (GQ.q rfl (Q.adds rfl rfl (by omega))) rfl ?_
        refine PC.new _ rfl (GQ.q rfl (Q.nil_ptr rfl)) rfl ?_
        refine PC.new _ rfl (GQ.q rfl (Q.fld_ptr fl121_0 rfl)) rfl ?_
        refine PC.now rfl rfl (fun τ => Loud.to (L.store (k := 3) ag66 ((oev_app rfl).trans rfl) rfl rfl ((oev_app rfl).trans rfl) rfl) (fun _ _ h => ⟨.any, h.1, h.2⟩)) ?_
        refine PC.later rfl ?_
        refine PC.later rfl ?_
        refine PC.later rfl ?_
        refine PC.nil ?_
        rintro _ _ rfl
        apply DT.moreS [.did, .old, .did, .did, .did, .did, .did, .did, .did, .did, .did, .did, .did, .old, .old, .did, .did, .did, .new, .new, .now] (by kernel_rfl)
        refine PC.did rfl ?_
        refine PC.old rfl (GQ.q rfl (Q.move_ptr rfl)) rfl ?_
        refine PC.did rfl ?_
        refine PC.did rfl ?_
        refine PC.did rfl ?_
        refine PC.did rfl ?_
        refine PC.did rfl ?_
        refine PC.did rfl ?_
        refine PC.did rfl ?_
        refine PC.did rfl ?_
        refine PC.did rfl ?_
        refine PC.did rfl ?_
        refine PC.did rfl ?_
        refine PC.old rfl (GQ.q rfl (Q.move_d rfl)) rfl ?_
        refine PC.old rfl (GQ.q rfl (Q.adds rfl rfl (by omega))) rfl ?_
        refine PC.did rfl ?_
        refine PC.did rfl ?_
        refine PC.did rfl ?_
        refine PC.new _ rfl (GQ.q rfl (Q.nil_ptr rfl)) rfl ?_
        refine PC.new _ rfl (GQ.q rfl (Q.fld_ptr fl121_1 rfl)) rfl ?_
        refine PC.now rfl rfl (fun τ => Loud.to (L.store (k := 3) ag9 ((oev_app rfl).trans rfl) rfl rfl ((oev_app rfl).trans rfl) rfl) (fun _ _ h => ⟨.any, h.1, h.2⟩)) ?_
        refine PC.nil ?_
        rintro _ _ rfl
        refine DT.last [.did, .did, .did, .did, .did, .did, .did, .did, .did, .did, .did, .did, .did, .did, .did, .did, .did, .did, .did, .did, .did] (by kernel_rfl) ?_
        refine PC.did rfl ?_
        refine PC.did rfl ?_
        refine PC.did rfl ?_
        refine PC.did rfl ?_
        refine PC.did rfl ?_
        refine PC.did rfl ?_
        refine PC.did rfl ?_
        refine PC.did rfl ?_
        refine PC.did rfl ?_
        refine PC.did rfl ?_
        refine PC.did rfl ?_
        refine PC.did rfl ?_
        refine PC.did rfl ?_
        refine PC.did rfl ?_
        refine PC.did rfl ?_
        refine PC.did rfl ?_
        refine PC.did rfl ?_
        refine PC.did rfl ?_
        refine PC.did rfl ?_
        refine PC.did rfl ?_
        refine PC.did rfl ?_
        refine PC.nil ?_
        refine XOps.nil ?_
        refine W.reg ?_
        refine XOps.s rfl rfl rfl (Q.fld_ptr fl69_0 rfl) ?_
        refine XOps.s rfl rfl rfl (Q.ld_ptr (k := 2) ag3 rfl rfl rfl) ?_
        refine XOps.s rfl rfl rfl (Q.assign_d rfl) ?_
        refine XOps.s rfl rfl rfl (Q.assign_d rfl) ?_
        refine XOps.nil ?_
        refine W.ret ?_
        (refine ⟨_, (gd, p10G) :: reH b (l ++ [(newE l tm kind text)]) v66 hs, rfl, ?_, v66, rfl, rfl⟩; rw [hbb]; exact HLe.pick 1 rfl rfl (HLe.pick 2 rfl (by simp only [reC, List.length_append, List.length_map]; rfl) (HLe.pick 0 rfl (by simp; rfl) (HLe.skip _ (HLe.refl _)))))
set_option maxHeartbeats 1000000 in
set_option maxRecDepth 100000 in
theorem cloneE_c (l : List EN) (hs : Hp) (hL : l.length * 48 ≤ 140737488355328) : AC P 77 [.d (.sl 4 (l.map EN.enc))] hs (fun r h => ∃ v, r = .vs v 0 l.length 4 ∧ h = (v, .lst 4 (l.map EN.enc)) :: hs) := by
  refine AC.of 8 Tryz.func77 rfl rfl rfl ?_
  refine W.reg ?_
  refine XOps.s rfl rfl rfl (Q.assign_nilsl rfl) ?_
  refine XOps.nil ?_
  refine W.seq ?_
  refine W.reg ?_
  refine XOps.s rfl rfl rfl (Q.move_d rfl) ?_
  (refine XOps.loud rfl (L.eqnil sl66 (by decide) rfl rfl rfl) ?_; rintro _ _ ⟨bb, hbb, rfl, hh⟩; obtain rfl := hh.symm)
  refine XOps.nil ?_
  refine W.cond rfl (fun hc4 => ?_) (fun hc4 => ?_)
  · try simp only [Bool.or_eq_true, Bool.or_eq_false_iff, Bool.and_eq_true, Bool.and_eq_false_iff, decide_eq_true_eq, decide_eq_false_iff_not, Bool.not_eq_true', Bool.not_eq_false', Int.not_lt, Int.not_le, List.length_map] at hc4
    have hle : l = [] := by simpa using hbb hc4
    subst hle
    refine W.reg ?_
    refine XOps.s rfl rfl rfl (Q.assign_nilsl rfl) ?_
    refine XOps.nil ?_
    refine W.ghost 2 4 (by decide) rfl rfl (fun v2 => ?_)
    refine W.ret ?_
    exact ⟨_, (v2, .lst 4 []) :: hs, rfl, by repeat (first | exact HLe.refl _ | refine HLe.cons' (by first | rfl | (simp; done)) ?_ | refine HLe.pick 1 rfl (by first | rfl | (simp; done)) ?_ | refine HLe.pick 2 rfl (by first | rfl | (simp; done)) ?_ | refine HLe.pick 3 rfl (by first | rfl | (simp; done)) ?_ | refine HLe.pick 4 rfl (by first | rfl | (simp; done)) ?_ | refine HLe.pick 5 rfl (by first | rfl | (simp; done)) ?_ | refine HLe.skip _ ?_), v2, rfl, rfl⟩
  · try simp only [Bool.or_eq_true, Bool.or_eq_false_iff, Bool.and_eq_true, Bool.and_eq_false_iff, decide_eq_true_eq, decide_eq_false_iff_not, Bool.not_eq_true', Bool.not_eq_false', Int.not_lt, Int.not_le, List.length_map] at hc4
    refine W.skip ?_
    refine W.reg ?_
    refine XOps.s rfl rfl rfl (Q.bsl0 sl66) ?_
    refine XOps.s rfl rfl rfl (Q.move_d rfl) ?_
    refine XOps.loud rfl (L.app_new ap66 (.inl rfl) (by first | exact .inl rfl | exact .inr (by simp)) rfl (by simp; omega) rfl) ?_
    rintro _ _ ⟨v7, rfl, rfl⟩
    refine XOps.s rfl rfl rfl (Q.assign_vs rfl) ?_
    refine XOps.nil ?_
    refine W.ret ?_
    exact ⟨_, (v7, .lst 4 (l.map EN.enc)) :: hs, rfl, by repeat (first | exact HLe.refl _ | refine HLe.cons' (by first | rfl | (simp; done)) ?_ | refine HLe.pick 1 rfl (by first | rfl | (simp; done)) ?_ | refine HLe.pick 2 rfl (by first | rfl | (simp; done)) ?_ | refine HLe.pick 3 rfl (by first | rfl | (simp; done)) ?_ | refine HLe.pick 4 rfl (by first | rfl | (simp; done)) ?_ | refine HLe.pick 5 rfl (by first | rfl | (simp; done)) ?_ | refine HLe.skip _ ?_), v7, by show AV.vs _ _ _ _ = _; congr 1; simp, rfl⟩
set_option maxHeartbeats 1000000 in
set_option maxRecDepth 100000 in
theorem entries_d (l : List EN) (m : Int) (hs : Hp) (hl : l.length ≤ 500) : AC P 54 [.dp (reD l), .d (.int .i64 m)] hs (fun r h => ∃ v, r = .vs v 0 (fromL l m).length 4 ∧ h = (v, .lst 4 ((fromL l m).map EN.enc)) :: hs) := by
  refine AC.of 21 Tryz.func54 rfl rfl rfl ?_
  refine W.reg ?_
  refine XOps.s rfl rfl rfl (Q.assign_nilsl rfl) ?_
  refine XOps.nil ?_
  refine W.seq ?_
  refine W.reg ?_
  refine XOps.s rfl rfl rfl (Q.move_d rfl) ?_
  refine XOps.s rfl rfl rfl (Q.move_dp rfl) ?_
  refine XOps.s rfl rfl rfl (Q.nil_dp rfl) ?_
  refine XOps.s rfl rfl rfl (Q.fld_dp fl121_0 rfl) ?_
  refine XOps.s rfl rfl rfl (Q.ld_dp ag66 rfl rfl) ?_
  refine XOps.s rfl rfl rfl (Q.len_sl isl66 rfl) ?_
  refine XOps.s rfl rfl rfl (Q.gtr rfl rfl) ?_
  refine XOps.nil ?_
  refine W.cond rfl (fun hc11 => ?_) (fun hc11 => ?_)
  · try simp only [Bool.or_eq_true, Bool.or_eq_false_iff, Bool.and_eq_true, Bool.and_eq_false_iff, decide_eq_true_eq, decide_eq_false_iff_not, Bool.not_eq_true', Bool.not_eq_false', Int.not_lt, Int.not_le, List.length_map] at hc11
    have hE : fromL l m = [] := fromL_nil (by omega)
    refine W.reg ?_
    refine XOps.s rfl rfl rfl (Q.assign_nilsl rfl) ?_
    refine XOps.nil ?_
    refine W.ghost 4 4 (by decide) rfl rfl (fun v4 => ?_)
    refine W.ret ?_
    (rw [hE]; exact ⟨_, (v4, .lst 4 []) :: hs, rfl, by repeat (first | exact HLe.refl _ | refine HLe.cons' (by first | rfl | (simp; done)) ?_ | refine HLe.pick 1 rfl (by first | rfl | (simp; done)) ?_ | refine HLe.pick 2 rfl (by first | rfl | (simp; done)) ?_ | refine HLe.pick 3 rfl (by first | rfl | (simp; done)) ?_ | refine HLe.pick 4 rfl (by first | rfl | (simp; done)) ?_ | refine HLe.pick 5 rfl (by first | rfl | (simp; done)) ?_ | refine HLe.skip _ ?_), v4, rfl, rfl⟩)
  · try simp only [Bool.or_eq_true, Bool.or_eq_false_iff, Bool.and_eq_true, Bool.and_eq_false_iff, decide_eq_true_eq, decide_eq_false_iff_not, Bool.not_eq_true', Bool.not_eq_false', Int.not_lt, Int.not_le, List.length_map] at hc11
    have hm : m ≤ l.length := by omega
    refine W.skip ?_
    refine W.reg ?_
    refine XOps.s rfl rfl rfl (Q.move_dp rfl) ?_
    refine XOps.s rfl rfl rfl (Q.nil_dp rfl) ?_
    refine XOps.s rfl rfl rfl (Q.fld_dp fl121_0 rfl) ?_
    refine XOps.s rfl rfl rfl (Q.ld_dp ag66 rfl rfl) ?_
    refine XOps.s rfl rfl rfl (Q.move_d rfl) ?_
    refine XOps.s rfl rfl rfl (Q.maxi rfl rfl) ?_
    refine XOps.s rfl rfl rfl (Q.sub rfl rfl (wi64 (by first | omega | (dsimp only; omega) | (simp only [List.length_map]; omega)) (by first | omega | (dsimp only; omega) | (simp only [List.length_map]; omega)))) ?_
    refine XOps.s rfl rfl rfl (Quiet.to (v' := .d (.sl 4 ((fromL l m).map EN.enc))) (Q.cut_slm sl66 rfl rfl rfl (by omega) (by simp; omega) (by simp)) (fun _ _ _ _ h => by rw [fromL_cut] at h; exact h)) ?_
    (refine XOps.loud rfl (L.call rfl Tryz.func77 go77 rfl (cloneE_c (fromL l m) _ (by unfold fromL; simp; omega)) rfl) ?_; rintro _ _ ⟨_, rfl, v, rfl, rfl⟩)
    refine XOps.s rfl rfl rfl (Q.assign_vs rfl) ?_
    refine XOps.nil ?_
    refine W.ret ?_
    exact ⟨_, (v, .lst 4 ((fromL l m).map EN.enc)) :: hs, rfl, by repeat (first | exact HLe.refl _ | refine HLe.cons' (by first | rfl | (simp; done)) ?_ | refine HLe.pick 1 rfl (by first | rfl | (simp; done)) ?_ | refine HLe.pick 2 rfl (by first | rfl | (simp; done)) ?_ | refine HLe.pick 3 rfl (by first | rfl | (simp; done)) ?_ | refine HLe.pick 4 rfl (by first | rfl | (simp; done)) ?_ | refine HLe.pick 5 rfl (by first | rfl | (simp; done)) ?_ | refine HLe.skip _ ?_), v, rfl, rfl⟩
theorem entries_c {l : List EN} {b f : Nat} {hs : Hp} (m : Int) (k k2 : Nat) (h1 : hs[k]? = some (b, .cells (reC l f))) (h2 : hs[k2]? = some (f, .lst 4 (l.map EN.enc))) (hl : l.length ≤ 500) :
    AC P 54 [.ptr b 0, .d (.int .i64 m)] hs (fun r h => r = .d (.sl 4 ((fromL l m).map EN.enc)) ∧ h = hs) :=
  AC.brwF (.cons (.b1 (.ptr k h1 (off := 0) (ds := reD l) (show BrwL hs (reC l f) (reD l) from .cons (.vs k2 h2 (by simp)) rfl (.cons (.d _) rfl (.nil _))))) (.cons (.b1 (.b0 (.d _))) .nil))
    ((entries_d l m [] hl).mono fun r h ⟨v, e1, e2⟩ => ⟨v, by rw [List.length_map]; exact e1, e2⟩) (by simp [EN.enc, D.flat])
end Go.Proofs.YtaegeaajhbfkgaaGreatDoorA

