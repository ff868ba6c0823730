/- Package console: names, verbs, Check; strings.Split; strconv.Itoa. -/
import Derived.Test.YtdddebheolmldaaDoorFrB
import Derived.Test.YtdddebheolmldaaDoorCon3
set_option linter.unusedVariables false
set_option linter.unusedSimpArgs false
set_option linter.unnecessarySimpa false
namespace Go.Proofs.YtdddebheolmldaaDoorA.FCoA
open Go
theorem ag3 : tAgg P 3 = some ((false, 1)) := by kernel_rfl
theorem ag39 : tAgg P 39 = some ((true, 5)) := by kernel_rfl
theorem ag4 : tAgg P 4 = some ((false, 1)) := by kernel_rfl
theorem ag5 : tAgg P 5 = some ((false, 1)) := by kernel_rfl
theorem ag9 : tAgg P 9 = some ((false, 1)) := by kernel_rfl
theorem ap35 : tApp P 35 = some ((1, 16)) := by kernel_rfl
theorem fl23_0 : tFld P 23 0 = some (0) := by kernel_rfl
theorem fl23_1 : tFld P 23 1 = some (1) := by kernel_rfl
theorem fl23_2 : tFld P 23 2 = some (2) := by kernel_rfl
theorem fl23_3 : tFld P 23 3 = some (3) := by kernel_rfl
theorem fl39_0 : tFld P 39 0 = some (0) := by kernel_rfl
theorem fl39_1 : tFld P 39 1 = some (1) := by kernel_rfl
theorem fl39_2 : tFld P 39 2 = some (2) := by kernel_rfl
theorem fl39_3 : tFld P 39 3 = some (3) := by kernel_rfl
theorem go11 : callGo Go.Proofs.Tryd.f11 = true := by kernel_rfl
theorem go14 : callGo Go.Proofs.Tryd.f14 = true := by kernel_rfl
theorem go15 : callGo Go.Proofs.Tryd.f15 = true := by kernel_rfl
theorem go16 : callGo Go.Proofs.Tryd.f16 = true := by kernel_rfl
theorem go17 : callGo Go.Proofs.Tryd.f17 = true := by kernel_rfl
theorem go18 : callGo Go.Proofs.Tryd.f18 = true := by kernel_rfl
theorem go19 : callGo Go.Proofs.Tryd.f19 = true := by kernel_rfl
theorem go23 : callGo Go.Proofs.Tryd.f23 = true := by kernel_rfl
theorem go24 : callGo Go.Proofs.Tryd.f24 = true := by kernel_rfl
theorem go25 : callGo Go.Proofs.Tryd.f25 = true := by kernel_rfl
theorem go38 : callGo Go.Proofs.Tryd.f38 = true := by kernel_rfl
theorem go52 : callGo Go.Proofs.Tryd.f52 = true := by kernel_rfl
theorem ibs55 : isBytes P 55 = true := by kernel_rfl
theorem isl46 : isSl P 46 = true := by kernel_rfl
theorem isl55 : isSl P 55 = true := by kernel_rfl
theorem ist9 : isStr P 9 = true := by kernel_rfl
theorem pl39 : tPl P 39 = some ([(0, 1), (1, 1), (2, 1), (3, 1), (4, 1)]) := by kernel_rfl
theorem sl35 : tSl P 35 = some (1) := by kernel_rfl
theorem sl46 : tSl P 46 = some (5) := by kernel_rfl
theorem sl55 : tSl P 55 = some (1) := by kernel_rfl
theorem tz39 : tZero P 39 = some ([.string ⟨#[]⟩, .bool false, .bool false, .int .i64 0, .int .i64 0]) := by kernel_rfl
theorem tzd39 : cellsD [.string ⟨#[]⟩, .bool false, .bool false, .int .i64 0, .int .i64 0] = some ([.str ⟨#[]⟩, .bool false, .bool false, .int .i64 0, .int .i64 0]) := rfl
theorem zr35 : tZrow P 35 = some ([.string ⟨#[]⟩]) := by kernel_rfl
theorem zr46 : tZrow P 46 = some ([.string ⟨#[]⟩, .bool false, .bool false, .int .i64 0, .int .i64 0]) := by kernel_rfl
theorem zrd35 : cellsD [.string ⟨#[]⟩] = some ([.str ⟨#[]⟩]) := rfl
theorem zrd46 : cellsD [.string ⟨#[]⟩, .bool false, .bool false, .int .i64 0, .int .i64 0] = some ([.str ⟨#[]⟩, .bool false, .bool false, .int .i64 0, .int .i64 0]) := rfl
end Go.Proofs.YtdddebheolmldaaDoorA.FCoA
namespace Go.Proofs.YtdddebheolmldaaDoorA
open Go FCoA
attribute [local irreducible] XOps Quiet Loud W AC GQ DT
set_option maxHeartbeats 1000000 in
set_option maxRecDepth 100000 in
theorem idxb_c (s : ByteArray) (c : UInt8) (hs : Hp) : AC P 52 [.d (.str s), .d (.int .u8 (c.toNat : Nat))] hs (fun r h => r = .d (.int .i64 (Lib.indexByte (bl s) c)) ∧ h = hs) := by
  refine AC.of 8 Tryd.func52 rfl rfl rfl ?_
  refine W.reg ?_
  refine XOps.s rfl rfl rfl (Q.assign_d rfl) ?_
  refine XOps.nil ?_
  refine W.reg ?_
  refine XOps.s rfl rfl rfl (Q.move_d rfl) ?_
  refine XOps.s rfl rfl rfl (Q.move_d rfl) ?_
  refine XOps.s rfl rfl rfl (Q.idxb rfl (run_callFunc_extern (e := Extern.BytealgIndexByte.indexByte) Tryd.func66 (by kernel_rfl) (by kernel_rfl) (by kernel_rfl) (by kernel_rfl)) rfl rfl) ?_
  refine XOps.s rfl rfl rfl (Q.assign_d rfl) ?_
  refine XOps.nil ?_
  refine W.ret ?_
  refine ⟨_, hs, rfl, by repeat (first | exact HLe.refl _ | refine HLe.cons' (by first | rfl | (simp [CC.enc, VB.enc]; done)) ?_ | refine HLe.pick 1 rfl (by first | rfl | (simp [CC.enc, VB.enc]; done)) ?_ | refine HLe.pick 2 rfl (by first | rfl | (simp [CC.enc, VB.enc]; done)) ?_ | refine HLe.pick 3 rfl (by first | rfl | (simp [CC.enc, VB.enc]; done)) ?_ | refine HLe.pick 4 rfl (by first | rfl | (simp [CC.enc, VB.enc]; done)) ?_ | refine HLe.pick 5 rfl (by first | rfl | (simp [CC.enc, VB.enc]; done)) ?_ | refine HLe.skip _ ?_), ?_, rfl⟩
  rfl

set_option maxHeartbeats 1000000 in
set_option maxRecDepth 100000 in
theorem sidxb_c (s : ByteArray) (c : UInt8) (hs : Hp) : AC P 70 [.d (.str s), .d (.int .u8 (c.toNat : Nat))] hs (fun r h => r = .d (.int .i64 (Lib.indexByte (bl s) c)) ∧ h = hs) := by
  refine AC.of 8 Tryd.func70 rfl rfl rfl ?_
  refine W.reg ?_
  refine XOps.s rfl rfl rfl (Q.assign_d rfl) ?_
  refine XOps.nil ?_
  refine W.reg ?_
  refine XOps.s rfl rfl rfl (Q.move_d rfl) ?_
  refine XOps.s rfl rfl rfl (Q.move_d rfl) ?_
  refine XOps.s rfl rfl rfl (Q.call rfl Tryd.func52 go52 rfl (idxb_c s c _)) ?_
  refine XOps.s rfl rfl rfl (Q.assign_d rfl) ?_
  refine XOps.nil ?_
  refine W.ret ?_
  refine ⟨_, hs, rfl, by repeat (first | exact HLe.refl _ | refine HLe.cons' (by first | rfl | (simp [CC.enc, VB.enc]; done)) ?_ | refine HLe.pick 1 rfl (by first | rfl | (simp [CC.enc, VB.enc]; done)) ?_ | refine HLe.pick 2 rfl (by first | rfl | (simp [CC.enc, VB.enc]; done)) ?_ | refine HLe.pick 3 rfl (by first | rfl | (simp [CC.enc, VB.enc]; done)) ?_ | refine HLe.pick 4 rfl (by first | rfl | (simp [CC.enc, VB.enc]; done)) ?_ | refine HLe.pick 5 rfl (by first | rfl | (simp [CC.enc, VB.enc]; done)) ?_ | refine HLe.skip _ ?_), ?_, rfl⟩
  rfl

theorem one_eq {s : ByteArray} {c : UInt8} (h : ((⟨#[c]⟩ : ByteArray).toList == s.toList) = true) : Lib.indexByte (bl s) c = 0 := by
  have h2 : seq ⟨#[c]⟩ s = true := h
  rw [seq_iff] at h2
  subst h2
  show Lib.indexByte [c] c = 0
  simp [Lib.indexByte]

set_option maxHeartbeats 1000000 in
set_option maxRecDepth 100000 in
theorem index_c (s : ByteArray) (c : UInt8) (hs : Hp) : AC P 38 [.d (.str s), .d (.str ⟨#[c]⟩)] hs (fun r h => r = .d (.int .i64 (Lib.indexByte (bl s) c)) ∧ h = hs) := by
  refine AC.of 143 Tryd.func38 rfl rfl rfl ?_
  refine W.reg ?_
  refine XOps.s rfl rfl rfl (Q.assign_d rfl) ?_
  refine XOps.nil ?_
  refine W.reg ?_
  refine XOps.s rfl rfl rfl (Q.move_d rfl) ?_
  refine XOps.s rfl rfl rfl (Q.len_str ist9 rfl) ?_
  refine XOps.s rfl rfl rfl (Q.assign_d rfl) ?_
  refine XOps.nil ?_
  refine W.seq ?_
  refine W.block ?_
  refine W.reg ?_
  refine XOps.s rfl rfl rfl (Q.move_d rfl) ?_
  refine XOps.s rfl rfl rfl (Q.eql rfl rfl) ?_
  refine XOps.s rfl rfl rfl (Q.move_d rfl) ?_
  refine XOps.gs rfl rfl rfl rfl rfl rfl rfl (fun hg => Q.move_d rfl) ?_
  refine XOps.gs rfl rfl rfl rfl rfl rfl rfl (fun hg => Q.move_d rfl) ?_
  refine XOps.gs rfl rfl rfl rfl rfl rfl rfl (fun hg => Quiet.open 20 hg rfl (Quiet.open 21 hg rfl (Q.eql_str rfl rfl))) ?_
  refine XOps.s rfl rfl rfl (Q.pick_or rfl rfl rfl (fun h => by first | (rw [h]; rfl) | (rw [hg, h]; rfl) | (simp [h, hg]; done))) ?_
  refine XOps.s rfl rfl rfl (Q.assign_d rfl) ?_
  refine XOps.nil ?_
  refine W.cond rfl (fun hc16 => ?_) (fun hc16 => ?_)
  · skip
    have hr : Lib.indexByte (bl s) c = 0 := one_eq (by
      rcases Bool.or_eq_true_iff.1 hc16 with h | h
      · exact absurd (of_decide_eq_true h) (by show ¬ ((1 : Nat) : Int) = 0; decide)
      · exact h)
    rw [hr]
    refine W.reg ?_
    refine XOps.s rfl rfl rfl (Q.assign_d rfl) ?_
    refine XOps.nil ?_
    refine W.ret ?_
    refine ⟨_, hs, rfl, by repeat (first | exact HLe.refl _ | refine HLe.cons' (by first | rfl | (simp [CC.enc, VB.enc]; done)) ?_ | refine HLe.pick 1 rfl (by first | rfl | (simp [CC.enc, VB.enc]; done)) ?_ | refine HLe.pick 2 rfl (by first | rfl | (simp [CC.enc, VB.enc]; done)) ?_ | refine HLe.pick 3 rfl (by first | rfl | (simp [CC.enc, VB.enc]; done)) ?_ | refine HLe.pick 4 rfl (by first | rfl | (simp [CC.enc, VB.enc]; done)) ?_ | refine HLe.pick 5 rfl (by first | rfl | (simp [CC.enc, VB.enc]; done)) ?_ | refine HLe.skip _ ?_), ?_, rfl⟩
    first | rfl | skip
  · skip
    refine W.reg ?_
    refine XOps.s rfl rfl rfl (Q.move_d rfl) ?_
    refine XOps.s rfl rfl rfl (Q.eql rfl rfl) ?_
    refine XOps.s rfl rfl rfl (Q.assign_d rfl) ?_
    refine XOps.nil ?_
    refine W.cond rfl (fun hc24 => ?_) (fun hc24 => ?_)
    · skip
      refine W.reg ?_
      refine XOps.s rfl rfl rfl (Q.move_d rfl) ?_
      refine XOps.s rfl rfl rfl (Q.move_d rfl) ?_
      refine XOps.s rfl rfl rfl (Q.idx_str ist9 rfl rfl (by decide) (by show (0 : Int) < ((1 : Nat) : Int); decide)) ?_
      refine XOps.s rfl rfl rfl (Q.call rfl Tryd.func52 go52 rfl (idxb_c s c _)) ?_
      refine XOps.s rfl rfl rfl (Q.assign_d rfl) ?_
      refine XOps.nil ?_
      refine W.ret ?_
      refine ⟨_, hs, rfl, by repeat (first | exact HLe.refl _ | refine HLe.cons' (by first | rfl | (simp [CC.enc, VB.enc]; done)) ?_ | refine HLe.pick 1 rfl (by first | rfl | (simp [CC.enc, VB.enc]; done)) ?_ | refine HLe.pick 2 rfl (by first | rfl | (simp [CC.enc, VB.enc]; done)) ?_ | refine HLe.pick 3 rfl (by first | rfl | (simp [CC.enc, VB.enc]; done)) ?_ | refine HLe.pick 4 rfl (by first | rfl | (simp [CC.enc, VB.enc]; done)) ?_ | refine HLe.pick 5 rfl (by first | rfl | (simp [CC.enc, VB.enc]; done)) ?_ | refine HLe.skip _ ?_), ?_, rfl⟩
      first | rfl | skip
    · skip
      exact absurd (of_decide_eq_false hc24) (by show ¬ ¬ ((1 : Nat) : Int) = 1; decide)

set_option maxHeartbeats 1000000 in
set_option maxRecDepth 100000 in
theorem sindex_c (s : ByteArray) (c : UInt8) (hs : Hp) : AC P 24 [.d (.str s), .d (.str ⟨#[c]⟩)] hs (fun r h => r = .d (.int .i64 (Lib.indexByte (bl s) c)) ∧ h = hs) := by
  refine AC.of 8 Tryd.func24 rfl rfl rfl ?_
  refine W.reg ?_
  refine XOps.s rfl rfl rfl (Q.assign_d rfl) ?_
  refine XOps.nil ?_
  refine W.reg ?_
  refine XOps.s rfl rfl rfl (Q.move_d rfl) ?_
  refine XOps.s rfl rfl rfl (Q.move_d rfl) ?_
  refine XOps.s rfl rfl rfl (Q.call rfl Tryd.func38 go38 rfl (index_c s c _)) ?_
  refine XOps.s rfl rfl rfl (Q.assign_d rfl) ?_
  refine XOps.nil ?_
  refine W.ret ?_
  refine ⟨_, hs, rfl, by repeat (first | exact HLe.refl _ | refine HLe.cons' (by first | rfl | (simp [CC.enc, VB.enc]; done)) ?_ | refine HLe.pick 1 rfl (by first | rfl | (simp [CC.enc, VB.enc]; done)) ?_ | refine HLe.pick 2 rfl (by first | rfl | (simp [CC.enc, VB.enc]; done)) ?_ | refine HLe.pick 3 rfl (by first | rfl | (simp [CC.enc, VB.enc]; done)) ?_ | refine HLe.pick 4 rfl (by first | rfl | (simp [CC.enc, VB.enc]; done)) ?_ | refine HLe.pick 5 rfl (by first | rfl | (simp [CC.enc, VB.enc]; done)) ?_ | refine HLe.skip _ ?_), ?_, rfl⟩
  rfl

set_option maxHeartbeats 1000000 in
set_option maxRecDepth 100000 in
theorem count_c (s : ByteArray) (c : UInt8) (hs : Hp) : AC P 23 [.d (.str s), .d (.str ⟨#[c]⟩)] hs (fun r h => r = .d (.int .i64 ((bl s).count c : Nat)) ∧ h = hs) := by
  refine AC.of 34 Tryd.func23 rfl rfl rfl ?_
  refine W.reg ?_
  refine XOps.s rfl rfl rfl (Q.assign_d rfl) ?_
  refine XOps.nil ?_
  refine W.seq ?_
  refine W.reg ?_
  refine XOps.s rfl rfl rfl (Q.move_d rfl) ?_
  refine XOps.s rfl rfl rfl (Q.len_str ist9 rfl) ?_
  refine XOps.s rfl rfl rfl (Q.eql rfl rfl) ?_
  refine XOps.nil ?_
  refine W.cond rfl (fun hc9 => ?_) (fun hc9 => ?_)
  · skip
    exact absurd (of_decide_eq_true hc9) (by show ¬ ((1 : Nat) : Int) = 0; decide)
  · skip
    refine W.skip ?_
    refine W.seq ?_
    refine W.reg ?_
    refine XOps.s rfl rfl rfl (Q.move_d rfl) ?_
    refine XOps.s rfl rfl rfl (Q.len_str ist9 rfl) ?_
    refine XOps.s rfl rfl rfl (Q.eql rfl rfl) ?_
    refine XOps.nil ?_
    refine W.cond rfl (fun hc15 => ?_) (fun hc15 => ?_)
    · skip
      refine W.reg ?_
      refine XOps.s rfl rfl rfl (Q.move_d rfl) ?_
      refine XOps.s rfl rfl rfl (Q.move_d rfl) ?_
      refine XOps.s rfl rfl rfl (Q.idx_str ist9 rfl rfl (by decide) (by show (0 : Int) < ((1 : Nat) : Int); decide)) ?_
      refine XOps.s rfl rfl rfl (Q.cntb (c := c) rfl (run_callFunc_extern (e := Extern.BytealgCount.count) Tryd.func37 (by kernel_rfl) (by kernel_rfl) (by kernel_rfl) (by kernel_rfl)) rfl rfl) ?_
      refine XOps.s rfl rfl rfl (Q.assign_d rfl) ?_
      refine XOps.nil ?_
      refine W.ret ?_
      refine ⟨_, hs, rfl, by repeat (first | exact HLe.refl _ | refine HLe.cons' (by first | rfl | (simp [CC.enc, VB.enc]; done)) ?_ | refine HLe.pick 1 rfl (by first | rfl | (simp [CC.enc, VB.enc]; done)) ?_ | refine HLe.pick 2 rfl (by first | rfl | (simp [CC.enc, VB.enc]; done)) ?_ | refine HLe.pick 3 rfl (by first | rfl | (simp [CC.enc, VB.enc]; done)) ?_ | refine HLe.pick 4 rfl (by first | rfl | (simp [CC.enc, VB.enc]; done)) ?_ | refine HLe.pick 5 rfl (by first | rfl | (simp [CC.enc, VB.enc]; done)) ?_ | refine HLe.skip _ ?_), ?_, rfl⟩
      rfl
    · skip
      exact absurd (of_decide_eq_false hc15) (by show ¬ ¬ ((1 : Nat) : Int) = 1; decide)

set_option maxHeartbeats 8000000 in
set_option maxRecDepth 100000 in
theorem gens_c (s : ByteArray) (c : UInt8) (hs : Hp) (hL : s.size ≤ 2000000) : AC P 15 [.d (.str s), .d (.str ⟨#[c]⟩), .d (.int .i64 0), .d (.int .i64 (-1))] hs (fun r h => ∃ v, r = .vs v 0 (splS c s).length 1 ∧ h = (v, .lst 1 ((splS c s).map sE)) :: hs) := by
  have hcnt : (bl s).count c ≤ s.size := by rw [← bl_len]; exact List.count_le_length
  have hsl := splS_len c s
  refine AC.of 66 Tryd.func15 rfl rfl rfl ?_
  refine W.reg ?_
  refine XOps.s rfl rfl rfl (Q.assign_nilsl rfl) ?_
  refine XOps.nil ?_
  refine W.seq ?_
  refine W.reg ?_
  refine XOps.s rfl rfl rfl (Q.move_d rfl) ?_
  refine XOps.s rfl rfl rfl (Q.eql rfl rfl) ?_
  refine XOps.nil ?_
  refine W.cond rfl (fun hc13 => ?_) (fun hc13 => ?_)
  · try simp only [Bool.or_eq_true, Bool.or_eq_false_iff, Bool.and_eq_true, Bool.and_eq_false_iff, decide_eq_true_eq, decide_eq_false_iff_not, Bool.not_eq_true', Bool.not_eq_false', Int.not_lt, Int.not_le, List.length_map] at hc13
    exact absurd hc13 (by decide)
  · try simp only [Bool.or_eq_true, Bool.or_eq_false_iff, Bool.and_eq_true, Bool.and_eq_false_iff, decide_eq_true_eq, decide_eq_false_iff_not, Bool.not_eq_true', Bool.not_eq_false', Int.not_lt, Int.not_le, List.length_map] at hc13
    refine W.skip ?_
    refine W.seq ?_
    refine W.reg ?_
    refine XOps.s rfl rfl rfl (Q.move_d rfl) ?_
    refine XOps.s rfl rfl rfl (Q.eql_str rfl rfl) ?_
    refine XOps.nil ?_
    refine W.cond rfl (fun hc15 => ?_) (fun hc15 => ?_)
    · try simp only [Bool.or_eq_true, Bool.or_eq_false_iff, Bool.and_eq_true, Bool.and_eq_false_iff, decide_eq_true_eq, decide_eq_false_iff_not, Bool.not_eq_true', Bool.not_eq_false', Int.not_lt, Int.not_le, List.length_map] at hc15
      exact absurd ((seq_iff _ _).1 hc15) (by intro h; have := congrArg ByteArray.size h; exact absurd this (by show ¬ (1 : Nat) = 0; decide))
    · try simp only [Bool.or_eq_true, Bool.or_eq_false_iff, Bool.and_eq_true, Bool.and_eq_false_iff, decide_eq_true_eq, decide_eq_false_iff_not, Bool.not_eq_true', Bool.not_eq_false', Int.not_lt, Int.not_le, List.length_map] at hc15
      refine W.skip ?_
      refine W.seq ?_
      refine W.reg ?_
      refine XOps.s rfl rfl rfl (Q.move_d rfl) ?_
      refine XOps.s rfl rfl rfl (Q.lss rfl rfl) ?_
      refine XOps.nil ?_
      refine W.cond rfl (fun hc20 => ?_) (fun hc20 => ?_)
      · try simp only [Bool.or_eq_true, Bool.or_eq_false_iff, Bool.and_eq_true, Bool.and_eq_false_iff, decide_eq_true_eq, decide_eq_false_iff_not, Bool.not_eq_true', Bool.not_eq_false', Int.not_lt, Int.not_le, List.length_map] at hc20
        refine W.region ?_
        refine XOps.s rfl rfl rfl (Q.move_d rfl) ?_
        refine XOps.s rfl rfl rfl (Q.move_d rfl) ?_
        refine XOps.s rfl rfl rfl (Q.call rfl Tryd.func23 go23 rfl (count_c s c _)) ?_
        refine XOps.s rfl rfl rfl (Q.add rfl rfl (wi64 (by first | omega | (dsimp only; omega) | (simp only [List.length_map]; omega)) (by first | omega | (dsimp only; omega) | (simp only [List.length_map]; omega)))) ?_
        refine XOps.s rfl rfl rfl (Q.assign_d rfl) ?_
        refine XOps.nil ?_
        refine W.reg ?_
        refine XOps.s rfl rfl rfl (Q.move_d rfl) ?_
        refine XOps.s rfl rfl rfl (Q.move_d rfl) ?_
        refine XOps.s rfl rfl rfl (Q.len_str ist9 rfl) ?_
        refine XOps.s rfl rfl rfl (Q.add rfl rfl (wi64 (by first | omega | (dsimp only; omega) | (simp only [List.length_map]; omega)) (by first | omega | (dsimp only; omega) | (simp only [List.length_map]; omega)))) ?_
        refine XOps.s rfl rfl rfl (Q.mini rfl rfl) ?_
        refine XOps.s rfl rfl rfl (Q.assign_d rfl) ?_
        refine XOps.nil ?_
        have hmn : min ((((bl s).count c : Nat) : Int) + 1) ((s.size : Int) + 1) = (((bl s).count c + 1 : Nat) : Int) := by omega
        rw [hmn]
        refine W.reg ?_
        refine XOps.s rfl rfl rfl (Q.move_d rfl) ?_
        (refine XOps.loud rfl (L.make (n := (bl s).count c + 1) ap35 zr35 zrd35 rfl rfl (by omega) rfl) ?_; rintro _ _ ⟨v31, rfl, rfl⟩)
        refine XOps.s rfl rfl rfl (Q.assign_vs rfl) ?_
        refine XOps.nil ?_
        refine W.reg ?_
        refine XOps.s rfl rfl rfl (Q.move_d rfl) ?_
        refine XOps.s rfl rfl rfl (Q.sub rfl rfl (wi64 (by first | omega | (dsimp only; omega) | (simp only [List.length_map]; omega)) (by first | omega | (dsimp only; omega) | (simp only [List.length_map]; omega)))) ?_
        refine XOps.s rfl rfl rfl (Q.assign_d rfl) ?_
        refine XOps.nil ?_
        refine W.reg ?_
        refine XOps.s rfl rfl rfl (Q.assign_d rfl) ?_
        refine XOps.nil ?_
        refine W.seq ?_
        refine W.block ?_
        refine W.loop (ι := List ByteArray × ByteArray) (fun p => [(0, .d (.str p.2)), (1, .d (.str ⟨#[c]⟩)), (2, .d (.int .i64 0)), (3, .d (.int .i64 ((bl s).count c : Nat))), (9, .vs v31 0 ((bl s).count c + 1) 1), (10, .d (.int .i64 (p.1.length : Nat)))]) (fun p => (v31, .lst 1 (fillS p.1 ((bl s).count c + 1 - p.1.length))) :: hs) (fun p => p.1.length ≤ (bl s).count c ∧ splS c s = p.1 ++ splS c p.2 ∧ (bl p.2).count c = (bl s).count c - p.1.length ∧ p.2.size ≤ s.size) (fun p => (bl s).count c - p.1.length) ([], s) ?_ ?_ ?_ ?_
        · exact ⟨Nat.zero_le _, rfl, rfl, Nat.le_refl _⟩
        · exact ⟨by first | rfl | exact int_eq (by omega) | exact len_eq (by simp) | exact int_eq (by simp; done), by first | rfl | exact int_eq (by omega) | exact len_eq (by simp) | exact int_eq (by simp; done), by first | rfl | exact int_eq (by omega) | exact len_eq (by simp) | exact int_eq (by simp; done), by exact int_eq (by omega), by first | rfl | exact int_eq (by omega) | exact len_eq (by simp) | exact int_eq (by simp; done), by first | rfl | exact int_eq (by omega) | exact len_eq (by simp) | exact int_eq (by simp; done), trivial⟩
        · exact HLe.cons' (by show HO.lst 1 (fillS [] ((bl s).count c + 1 - 0)) = _; unfold fillS; simp; rfl) (HLe.refl _)
        · rintro ⟨done, q⟩ ⟨hI1, hI2, hI3, hI4⟩
          try dsimp only at hI1 hI2 hI3 hI4 ⊢
          refine W.seq ?_
          refine W.reg ?_
          refine XOps.s rfl rfl rfl (Q.move_d rfl) ?_
          refine XOps.s rfl rfl rfl (Q.move_d rfl) ?_
          refine XOps.s rfl rfl rfl (Q.lss rfl rfl) ?_
          refine XOps.nil ?_
          refine W.cond rfl (fun hc36 => ?_) (fun hc36 => ?_)
          · try simp only [Bool.or_eq_true, Bool.or_eq_false_iff, Bool.and_eq_true, Bool.and_eq_false_iff, decide_eq_true_eq, decide_eq_false_iff_not, Bool.not_eq_true', Bool.not_eq_false', Int.not_lt, Int.not_le, List.length_map] at hc36
            have hct : 0 < (bl q).count c := by omega
            have hix : 0 ≤ Lib.indexByte (bl q) c := by
              rcases (show Lib.indexByte (bl q) c < 0 ∨ 0 ≤ Lib.indexByte (bl q) c by omega) with h | h
              · have := List.count_eq_zero_of_not_mem (idx_none h); omega
              · exact h
            obtain ⟨m, hm⟩ : ∃ m : Nat, Lib.indexByte (bl q) c = m := ⟨(Lib.indexByte (bl q) c).toNat, by omega⟩
            obtain ⟨hmq, hq1, hq2⟩ := idx_parts hm
            obtain ⟨hs1, hs2⟩ := splS_in hm
            have hT : ((m : Int) + ((1 : Nat) : Int)).toNat = m + 1 := by omega
            have hT0 : ((m : Int) + 0).toNat = m := by omega
            refine W.skip ?_
            refine W.block ?_
            refine W.reg ?_
            refine XOps.s rfl rfl rfl (Q.move_d rfl) ?_
            refine XOps.s rfl rfl rfl (Q.move_d rfl) ?_
            refine XOps.s rfl rfl rfl (Q.call rfl Tryd.func24 go24 rfl (sindex_c q c _)) ?_
            refine XOps.s rfl rfl rfl (Q.assign_d rfl) ?_
            refine XOps.nil ?_
            rw [hm]
            refine W.seq ?_
            refine W.reg ?_
            refine XOps.s rfl rfl rfl (Q.move_d rfl) ?_
            refine XOps.s rfl rfl rfl (Q.lss rfl rfl) ?_
            refine XOps.nil ?_
            refine W.cond rfl (fun hc41 => ?_) (fun hc41 => ?_)
            · try simp only [Bool.or_eq_true, Bool.or_eq_false_iff, Bool.and_eq_true, Bool.and_eq_false_iff, decide_eq_true_eq, decide_eq_false_iff_not, Bool.not_eq_true', Bool.not_eq_false', Int.not_lt, Int.not_le, List.length_map] at hc41
              exact absurd hc41 (by omega)
            · try simp only [Bool.or_eq_true, Bool.or_eq_false_iff, Bool.and_eq_true, Bool.and_eq_false_iff, decide_eq_true_eq, decide_eq_false_iff_not, Bool.not_eq_true', Bool.not_eq_false', Int.not_lt, Int.not_le, List.length_map] at hc41
              refine W.skip ?_
              refine W.reg ?_
              refine XOps.s rfl rfl rfl (Q.move_vs rfl) ?_
              refine XOps.s rfl rfl rfl (Q.move_d rfl) ?_
              refine XOps.s rfl rfl rfl (Q.move_d rfl) ?_
              refine XOps.s rfl rfl rfl (Q.move_d rfl) ?_
              refine XOps.s rfl rfl rfl (Q.move_d rfl) ?_
              refine XOps.s rfl rfl rfl (Q.add rfl rfl (wi64 (by first | omega | (dsimp only; omega) | (simp only [List.length_map]; omega)) (by first | omega | (dsimp only; omega) | (simp only [List.length_map]; omega)))) ?_
              refine XOps.s rfl rfl rfl (Q.cut_str ist9 rfl rfl rfl (by omega) (by omega) (by omega)) ?_
              refine XOps.s rfl rfl rfl (Q.idx_vs (kk := 0) sl35 rfl rfl rfl (by omega) (by omega)) ?_
              (refine XOps.loud rfl (L.store_ep (k := 0) ag9 rfl rfl (fillS_at done (by omega) (by omega)) rfl rfl rfl) ?_; rintro _ _ ⟨rfl, rfl⟩)
              refine XOps.nil ?_
              refine W.reg ?_
              refine XOps.s rfl rfl rfl (Q.move_d rfl) ?_
              refine XOps.s rfl rfl rfl (Q.move_d rfl) ?_
              refine XOps.s rfl rfl rfl (Q.move_d rfl) ?_
              refine XOps.s rfl rfl rfl (Q.len_str ist9 rfl) ?_
              refine XOps.s rfl rfl rfl (Q.add rfl rfl (wi64 (by show _ ≤ _ + ((1 : Nat) : Int); omega) (by show _ + ((1 : Nat) : Int) ≤ _; omega))) ?_
              refine XOps.s rfl rfl rfl (Q.cut_str ist9 rfl rfl rfl (by show 0 ≤ _ + ((1 : Nat) : Int); omega) (by show _ + ((1 : Nat) : Int) ≤ _; omega) (by omega)) ?_
              refine XOps.s rfl rfl rfl (Q.assign_d rfl) ?_
              refine XOps.nil ?_
              refine W.region ?_
              refine XOps.s rfl rfl rfl (Q.move_d rfl) ?_
              refine XOps.s rfl rfl rfl (Q.add rfl rfl (wi64 (by first | omega | (dsimp only; omega) | (simp only [List.length_map]; omega)) (by first | omega | (dsimp only; omega) | (simp only [List.length_map]; omega)))) ?_
              refine XOps.s rfl rfl rfl (Q.assign_d rfl) ?_
              refine XOps.nil ?_
              refine ⟨(done ++ [q.extract 0 m], q.extract (m + 1) q.size), ?_, ?_, ?_, ?_⟩
              · refine ⟨by simp; omega, by rw [hI2, hs1]; simp, by simp; omega, by have := congrArg List.length hq1; rw [bl_len] at this; rw [← bl_len (q.extract (m + 1) q.size)]; simp at this; omega⟩
              · simp; omega
              · exact ⟨by (show AV.d (.str (q.extract ((m : Int) + ((1 : Nat) : Int)).toNat ((q.size : Nat) : Int).toNat)) = _; rw [hT]; rfl), by first | rfl | exact int_eq (by omega) | exact len_eq (by simp) | exact int_eq (by simp; done), by first | rfl | exact int_eq (by omega) | exact len_eq (by simp) | exact int_eq (by simp; done), by first | rfl | exact int_eq (by omega) | exact len_eq (by simp) | exact int_eq (by simp; done), by first | rfl | exact int_eq (by omega) | exact len_eq (by simp) | exact int_eq (by simp; done), by exact int_eq (by simp), trivial⟩
              · have e : (bl s).count c + 1 - done.length = ((bl s).count c + 1 - (done ++ [q.extract 0 m]).length) + 1 := by simp; omega
                rw [e]
                exact HLe.cons' (congrArg (HO.lst 1) (fillS_set done (q.extract 0 m) (by omega) _ (by rw [hT0]; rfl)).symm) (HLe.refl _)
          · try simp only [Bool.or_eq_true, Bool.or_eq_false_iff, Bool.and_eq_true, Bool.and_eq_false_iff, decide_eq_true_eq, decide_eq_false_iff_not, Bool.not_eq_true', Bool.not_eq_false', Int.not_lt, Int.not_le, List.length_map] at hc36
            have hct : (bl q).count c = 0 := by omega
            have hqo := splS_out (List.count_eq_zero.1 hct)
            have hdl : done.length = (bl s).count c := by omega
            refine W.exit ?_
            refine W.reg ?_
            refine XOps.s rfl rfl rfl (Q.move_vs rfl) ?_
            refine XOps.s rfl rfl rfl (Q.move_d rfl) ?_
            refine XOps.s rfl rfl rfl (Q.move_d rfl) ?_
            refine XOps.s rfl rfl rfl (Q.idx_vs (kk := 0) sl35 rfl rfl rfl (by omega) (by omega)) ?_
            (refine XOps.loud rfl (L.store_ep (k := 0) ag9 rfl rfl (fillS_at done (by omega) (by omega)) rfl rfl rfl) ?_; rintro _ _ ⟨rfl, rfl⟩)
            refine XOps.nil ?_
            refine W.reg ?_
            refine XOps.s rfl rfl rfl (Q.move_vs rfl) ?_
            refine XOps.s rfl rfl rfl (Q.move_d rfl) ?_
            refine XOps.s rfl rfl rfl (Q.add rfl rfl (wi64 (by first | omega | (dsimp only; omega) | (simp only [List.length_map]; omega)) (by first | omega | (dsimp only; omega) | (simp only [List.length_map]; omega)))) ?_
            refine XOps.s rfl rfl rfl (Q.cut_vs sl35 rfl rfl rfl (by omega) (by omega) (by omega)) ?_
            refine XOps.s rfl rfl rfl (Q.assign_vs rfl) ?_
            refine XOps.nil ?_
            refine W.ret ?_
            have e : (bl s).count c + 1 - done.length = 0 + 1 := by omega
            refine ⟨_, (v31, .lst 1 ((splS c s).map sE)) :: hs, rfl, HLe.cons' ?_ (HLe.refl _), v31, ?_, rfl⟩
            · rw [e, hI2, hqo, ← fillS_done]
              exact congrArg (HO.lst 1) (fillS_set done q (by omega) _ rfl).symm
            · show AV.vs _ _ _ _ = _
              rw [hsl]
              congr 1 <;> omega
      · try simp only [Bool.or_eq_true, Bool.or_eq_false_iff, Bool.and_eq_true, Bool.and_eq_false_iff, decide_eq_true_eq, decide_eq_false_iff_not, Bool.not_eq_true', Bool.not_eq_false', Int.not_lt, Int.not_le, List.length_map] at hc20
        exact absurd hc20 (by decide)

set_option maxHeartbeats 1000000 in
set_option maxRecDepth 100000 in
theorem split_own (s : ByteArray) (c : UInt8) (hs : Hp) (hL : s.size ≤ 2000000) : AC P 10 [.d (.str s), .d (.str ⟨#[c]⟩)] hs (fun r h => ∃ v, r = .vs v 0 (splS c s).length 1 ∧ h = (v, .lst 1 ((splS c s).map sE)) :: hs) := by
  refine AC.of 8 Tryd.func10 rfl rfl rfl ?_
  refine W.reg ?_
  refine XOps.s rfl rfl rfl (Q.assign_nilsl rfl) ?_
  refine XOps.nil ?_
  refine W.reg ?_
  refine XOps.s rfl rfl rfl (Q.move_d rfl) ?_
  refine XOps.s rfl rfl rfl (Q.move_d rfl) ?_
  (refine XOps.loud rfl (L.call rfl Tryd.func15 go15 rfl (gens_c s c _ hL) rfl) ?_; rintro _ _ ⟨_, rfl, v, rfl, rfl⟩)
  refine XOps.s rfl rfl rfl (Q.assign_vs rfl) ?_
  refine XOps.nil ?_
  refine W.ret ?_
  exact ⟨_, (v, .lst 1 ((splS c s).map sE)) :: hs, rfl, HLe.refl _, v, rfl, rfl⟩

theorem split_c (s : ByteArray) (c : UInt8) (hs : Hp) (hL : s.size ≤ 2000000) : AC P 10 [.d (.str s), .d (.str ⟨#[c]⟩)] hs (fun r h => r = .d (.sl 1 ((splS c s).map sE)) ∧ h = hs) :=
  AC.frz ((split_own s c hs hL).mono fun r h ⟨v, h1, h2⟩ => ⟨v, h2, h1 ▸ .vs (by simp)⟩)

abbrev p10G : HO := .glob 1 p10T
theorem itoa_int (n : Int) (h : 0 ≤ n) : bs (Lib.itoa n) = bs (decL n.toNat) := by
  rw [show n = (n.toNat : Nat) by omega, itoa_nat, Int.toNat_natCast]

set_option maxHeartbeats 1000000 in
set_option maxRecDepth 100000 in
theorem itoai_c (m : Int) (gd : Nat) (hs : Hp) (h0 : -9223372036854775808 ≤ m) (h1 : m ≤ 9223372036854775807) : AC P 19 [.d (.int .i64 m)] ((gd, p10G) :: hs) (fun r h => r = .d (.str (bs (Lib.itoa m))) ∧ h = (gd, p10G) :: hs) := by
  refine AC.of 5 Tryd.func19 rfl rfl rfl ?_
  refine W.reg ?_
  refine XOps.s rfl rfl rfl (Q.assign_d rfl) ?_
  refine XOps.nil ?_
  refine W.reg ?_
  refine XOps.s rfl rfl rfl (Q.move_d rfl) ?_
  refine XOps.s rfl rfl rfl (Q.call rfl Tryd.func25 go25 rfl (fmt_c (f := 25) (g := 1) rfl (by kernel_rfl) m h0 h1 gd hs)) ?_
  refine XOps.s rfl rfl rfl (Q.assign_d rfl) ?_
  refine XOps.nil ?_
  refine W.ret ?_
  exact ⟨_, _, rfl, HLe.refl _, rfl, rfl⟩

set_option maxHeartbeats 1000000 in
set_option maxRecDepth 100000 in
theorem itoas_c (m : Int) (gd : Nat) (hs : Hp) (h0 : -9223372036854775808 ≤ m) (h1 : m ≤ 9223372036854775807) : AC P 12 [.d (.int .i64 m)] ((gd, p10G) :: hs) (fun r h => r = .d (.str (bs (Lib.itoa m))) ∧ h = (gd, p10G) :: hs) := by
  refine AC.of 5 Tryd.func12 rfl rfl rfl ?_
  refine W.reg ?_
  refine XOps.s rfl rfl rfl (Q.assign_d rfl) ?_
  refine XOps.nil ?_
  refine W.reg ?_
  refine XOps.s rfl rfl rfl (Q.move_d rfl) ?_
  refine XOps.s rfl rfl rfl (Q.call rfl Tryd.func19 go19 rfl (itoai_c m gd hs h0 h1)) ?_
  refine XOps.s rfl rfl rfl (Q.assign_d rfl) ?_
  refine XOps.nil ?_
  refine W.ret ?_
  exact ⟨_, _, rfl, HLe.refl _, rfl, rfl⟩

theorem itoa_c (m : Int) (gd : Nat) (hs : Hp) (h0 : 0 ≤ m) (h1 : m ≤ 9223372036854775807) : AC P 12 [.d (.int .i64 m)] ((gd, p10G) :: hs) (fun r h => r = .d (.str (bs (decL m.toNat))) ∧ h = (gd, p10G) :: hs) :=
  (itoas_c m gd hs (by omega) h1).mono fun r h hr => by rw [← itoa_int m h0]; exact hr

set_option maxHeartbeats 1000000 in
set_option maxRecDepth 100000 in
theorem named_c (s : ByteArray) (hs : Hp) (hL : s.size ≤ 140737488351232) : AC P 14 [.d (.str s)] hs (fun r h => r = .d (.bool (namedS s)) ∧ h = hs) := by
  have hbl := bytes_len s
  refine AC.of 40 Tryd.func14 rfl rfl rfl ?_
  refine W.reg ?_
  refine XOps.s rfl rfl rfl (Q.assign_d rfl) ?_
  refine XOps.nil ?_
  refine W.seq ?_
  refine W.reg ?_
  refine XOps.s rfl rfl rfl (Q.move_d rfl) ?_
  refine XOps.s rfl rfl rfl (Q.conv_bytes ist9 ibs55 rfl) ?_
  refine XOps.s rfl rfl rfl (Q.len_sl isl55 rfl) ?_
  refine XOps.s rfl rfl rfl (Q.move_d rfl) ?_
  refine XOps.nil ?_
  refine W.block ?_
  refine W.loop (ι := Nat) (fun k => [(0, .d (.str s)), (6, .d (bytesD s)), (7, .d (.int .i64 s.size)), (8, .d (.int .i64 k))]) (fun k => hs) (fun k => k ≤ s.size ∧ ∀ i, i < k → okB i (byteAt s i) = true) (fun k => s.size - k) 0 ?_ ?_ ?_ ?_
  · exact ⟨Nat.zero_le _, fun i hi => absurd hi (Nat.not_lt_zero _)⟩
  · exact ⟨by first | rfl | exact int_eq (by omega) | exact len_eq (by simp) | exact int_eq (by simp; done), by first | rfl | exact int_eq (by omega) | exact len_eq (by simp) | exact int_eq (by simp; done), by exact len_eq (bytes_len s), by first | rfl | exact int_eq (by omega) | exact len_eq (by simp) | exact int_eq (by simp; done), trivial⟩
  · repeat (first | exact HLe.refl _ | refine HLe.cons' (by first | rfl | (simp [CC.enc, VB.enc]; done)) ?_ | refine HLe.pick 1 rfl (by first | rfl | (simp [CC.enc, VB.enc]; done)) ?_ | refine HLe.pick 2 rfl (by first | rfl | (simp [CC.enc, VB.enc]; done)) ?_ | refine HLe.pick 3 rfl (by first | rfl | (simp [CC.enc, VB.enc]; done)) ?_ | refine HLe.pick 4 rfl (by first | rfl | (simp [CC.enc, VB.enc]; done)) ?_ | refine HLe.pick 5 rfl (by first | rfl | (simp [CC.enc, VB.enc]; done)) ?_ | refine HLe.skip _ ?_)
  · rintro k ⟨hk, hI⟩
    try dsimp only
    refine W.reg ?_
    refine XOps.s rfl rfl rfl (Q.lss rfl rfl) ?_
    refine XOps.nil ?_
    refine W.seq ?_
    refine W.cond rfl (fun hc9 => ?_) (fun hc9 => ?_)
    · try simp only [Bool.or_eq_true, Bool.or_eq_false_iff, Bool.and_eq_true, Bool.and_eq_false_iff, decide_eq_true_eq, decide_eq_false_iff_not, Bool.not_eq_true', Bool.not_eq_false', Int.not_lt, Int.not_le, List.length_map] at hc9
      have hks : k < s.size := by omega
      have hb := okB_iff k (byteAt s k)
      refine W.skip ?_
      refine W.seq ?_
      refine W.block ?_
      refine W.reg ?_
      refine XOps.s rfl rfl rfl (Q.move_d rfl) ?_
      refine XOps.s rfl rfl rfl (Q.idx_sl sl55 (by decide) rfl rfl (by first | omega | (simp only [List.length_map]; omega)) (by exact bytes_row (by omega))) ?_
      refine XOps.s rfl rfl rfl (Q.ld_dp ag5 rfl rfl) ?_
      refine XOps.s rfl rfl rfl (Q.assign_d rfl) ?_
      refine XOps.s rfl rfl rfl (Q.assign_d rfl) ?_
      refine XOps.nil ?_
      refine W.reg ?_
      refine XOps.s rfl rfl rfl (Q.move_d rfl) ?_
      refine XOps.s rfl rfl rfl (Q.geq rfl rfl) ?_
      refine XOps.s rfl rfl rfl (Q.move_d rfl) ?_
      refine XOps.gs rfl rfl rfl rfl rfl rfl rfl (fun hg => Q.move_d rfl) ?_
      refine XOps.gs rfl rfl rfl rfl rfl rfl rfl (fun hg => Quiet.open 16 hg rfl (Q.leq rfl rfl)) ?_
      refine XOps.s rfl rfl rfl (Q.pick_and rfl rfl rfl (fun h => by first | (rw [h]; rfl) | (rw [hg, h]; rfl) | (simp [h, hg]; done))) ?_
      refine XOps.s rfl rfl rfl (Q.move_d rfl) ?_
      refine XOps.gs rfl rfl rfl rfl rfl rfl rfl (fun hg => Q.move_d rfl) ?_
      refine XOps.gs rfl rfl rfl rfl rfl rfl rfl (fun hg => Quiet.open 20 hg rfl (Q.gtr rfl rfl)) ?_
      refine XOps.gs rfl rfl rfl rfl rfl rfl rfl (fun hg => Quiet.open 21 hg rfl (Q.move_d rfl)) ?_
      refine XOps.gsw rfl rfl rfl rfl rfl rfl rfl (fun hg => Q.move_d rfl) ?_
      refine XOps.gsw rfl rfl rfl rfl rfl rfl rfl (fun hg => Quiet.open 23 hg rfl (Q.geq rfl rfl)) ?_
      refine XOps.gs rfl rfl rfl rfl rfl rfl rfl (fun hg => Quiet.open 22 hg rfl (Q.pick_and rfl rfl rfl (fun h => by first | (rw [h]; rfl) | (rw [hg, h]; rfl) | (simp [h, hg]; done)))) ?_
      refine XOps.gs rfl rfl rfl rfl rfl rfl rfl (fun hg => Quiet.open 25 hg rfl (Q.move_d rfl)) ?_
      refine XOps.gsw rfl rfl rfl rfl rfl rfl rfl (fun hg => Q.move_d rfl) ?_
      refine XOps.gsw rfl rfl rfl rfl rfl rfl rfl (fun hg => Quiet.open 27 hg rfl (Q.leq rfl rfl)) ?_
      refine XOps.gs rfl rfl rfl rfl rfl rfl rfl (fun hg => Quiet.open 26 hg rfl (Q.pick_and rfl rfl rfl (fun h => by first | (rw [h]; rfl) | (rw [hg, h]; rfl) | (simp [h, hg]; done)))) ?_
      refine XOps.s rfl rfl rfl (Q.pick_or rfl rfl rfl (fun h => by first | (rw [h]; rfl) | (rw [hg, h]; rfl) | (simp [h, hg]; done))) ?_
      refine XOps.s rfl rfl rfl (Q.not rfl) ?_
      refine XOps.nil ?_
      refine W.cond rfl (fun hc31 => ?_) (fun hc31 => ?_)
      · try simp only [Bool.or_eq_true, Bool.or_eq_false_iff, Bool.and_eq_true, Bool.and_eq_false_iff, decide_eq_true_eq, decide_eq_false_iff_not, Bool.not_eq_true', Bool.not_eq_false', Int.not_lt, Int.not_le, List.length_map] at hc31
        have hr : namedS s = false := named_bad hks (by cases h : okB k (byteAt s k) with | false => rfl | true => exact absurd (hb.1 h) (by unfold byteAt; omega))
        rw [hr]
        refine W.reg ?_
        refine XOps.s rfl rfl rfl (Q.assign_d rfl) ?_
        refine XOps.nil ?_
        refine W.ret ?_
        refine ⟨_, hs, rfl, by repeat (first | exact HLe.refl _ | refine HLe.cons' (by first | rfl | (simp [CC.enc, VB.enc]; done)) ?_ | refine HLe.pick 1 rfl (by first | rfl | (simp [CC.enc, VB.enc]; done)) ?_ | refine HLe.pick 2 rfl (by first | rfl | (simp [CC.enc, VB.enc]; done)) ?_ | refine HLe.pick 3 rfl (by first | rfl | (simp [CC.enc, VB.enc]; done)) ?_ | refine HLe.pick 4 rfl (by first | rfl | (simp [CC.enc, VB.enc]; done)) ?_ | refine HLe.pick 5 rfl (by first | rfl | (simp [CC.enc, VB.enc]; done)) ?_ | refine HLe.skip _ ?_), ?_, rfl⟩
        rfl
      · try simp only [Bool.or_eq_true, Bool.or_eq_false_iff, Bool.and_eq_true, Bool.and_eq_false_iff, decide_eq_true_eq, decide_eq_false_iff_not, Bool.not_eq_true', Bool.not_eq_false', Int.not_lt, Int.not_le, List.length_map] at hc31
        have hok : okB k (byteAt s k) = true := hb.2 (by unfold byteAt; omega)
        refine W.skip ?_
        refine W.region ?_
        refine XOps.s rfl rfl rfl (Q.add rfl rfl (wi64 (by first | omega | (dsimp only; omega) | (simp only [List.length_map]; omega)) (by first | omega | (dsimp only; omega) | (simp only [List.length_map]; omega)))) ?_
        refine XOps.s rfl rfl rfl (Q.move_d rfl) ?_
        refine XOps.nil ?_
        refine ⟨k + 1, ?_, ?_, ?_, ?_⟩
        · refine ⟨by omega, fun i hi => ?_⟩
          by_cases h : i = k
          · subst h; exact hok
          · exact hI i (by omega)
        · omega
        · exact ⟨by first | rfl | exact int_eq (by omega) | exact len_eq (by simp) | exact int_eq (by simp; done), by first | rfl | exact int_eq (by omega) | exact len_eq (by simp) | exact int_eq (by simp; done), by first | rfl | exact int_eq (by omega) | exact len_eq (by simp) | exact int_eq (by simp; done), by first | rfl | exact int_eq (by omega) | exact len_eq (by simp) | exact int_eq (by simp; done), trivial⟩
        · repeat (first | exact HLe.refl _ | refine HLe.cons' (by first | rfl | (simp [CC.enc, VB.enc]; done)) ?_ | refine HLe.pick 1 rfl (by first | rfl | (simp [CC.enc, VB.enc]; done)) ?_ | refine HLe.pick 2 rfl (by first | rfl | (simp [CC.enc, VB.enc]; done)) ?_ | refine HLe.pick 3 rfl (by first | rfl | (simp [CC.enc, VB.enc]; done)) ?_ | refine HLe.pick 4 rfl (by first | rfl | (simp [CC.enc, VB.enc]; done)) ?_ | refine HLe.pick 5 rfl (by first | rfl | (simp [CC.enc, VB.enc]; done)) ?_ | refine HLe.skip _ ?_)
    · try simp only [Bool.or_eq_true, Bool.or_eq_false_iff, Bool.and_eq_true, Bool.and_eq_false_iff, decide_eq_true_eq, decide_eq_false_iff_not, Bool.not_eq_true', Bool.not_eq_false', Int.not_lt, Int.not_le, List.length_map] at hc9
      have hr := named_ok fun i hi => hI i (by omega)
      rw [hr]
      refine W.exit ?_
      refine W.reg ?_
      refine XOps.s rfl rfl rfl (Q.move_d rfl) ?_
      refine XOps.s rfl rfl rfl (Q.neq_str rfl rfl) ?_
      refine XOps.s rfl rfl rfl (Q.move_d rfl) ?_
      refine XOps.gs rfl rfl rfl rfl rfl rfl rfl (fun hg => Q.move_d rfl) ?_
      refine XOps.gs rfl rfl rfl rfl rfl rfl rfl (fun hg => Quiet.open 36 hg rfl (Q.len_str ist9 rfl)) ?_
      refine XOps.gs rfl rfl rfl rfl rfl rfl rfl (fun hg => Quiet.open 37 hg rfl (Q.leq rfl rfl)) ?_
      refine XOps.s rfl rfl rfl (Q.pick_and rfl rfl rfl (fun h => by first | (rw [h]; rfl) | (rw [hg, h]; rfl) | (simp [h, hg]; done))) ?_
      refine XOps.s rfl rfl rfl (Q.assign_d rfl) ?_
      refine XOps.nil ?_
      refine W.ret ?_
      refine ⟨_, hs, rfl, by repeat (first | exact HLe.refl _ | refine HLe.cons' (by first | rfl | (simp [CC.enc, VB.enc]; done)) ?_ | refine HLe.pick 1 rfl (by first | rfl | (simp [CC.enc, VB.enc]; done)) ?_ | refine HLe.pick 2 rfl (by first | rfl | (simp [CC.enc, VB.enc]; done)) ?_ | refine HLe.pick 3 rfl (by first | rfl | (simp [CC.enc, VB.enc]; done)) ?_ | refine HLe.pick 4 rfl (by first | rfl | (simp [CC.enc, VB.enc]; done)) ?_ | refine HLe.pick 5 rfl (by first | rfl | (simp [CC.enc, VB.enc]; done)) ?_ | refine HLe.skip _ ?_), ?_, rfl⟩
      rfl

set_option maxHeartbeats 1000000 in
set_option maxRecDepth 100000 in
theorem verbs_c (hs : Hp) : AC P 16 [] hs (fun r h => r = .d (.sl 5 (verbsL.map VB.enc)) ∧ h = hs) := by
  refine AC.of 12 Tryd.func16 rfl rfl rfl ?_
  refine W.reg ?_
  refine XOps.s rfl rfl rfl (Q.assign_nilsl rfl) ?_
  refine XOps.nil ?_
  refine W.reg ?_
  refine XOps.s rfl rfl rfl (Q.build pl39 tz39 tzd39 rfl) ?_
  refine XOps.s rfl rfl rfl (Q.build pl39 tz39 tzd39 rfl) ?_
  refine XOps.s rfl rfl rfl (Q.build pl39 tz39 tzd39 rfl) ?_
  refine XOps.s rfl rfl rfl (Q.build pl39 tz39 tzd39 rfl) ?_
  refine XOps.s rfl rfl rfl (Q.build pl39 tz39 tzd39 rfl) ?_
  refine XOps.s rfl rfl rfl (Q.build pl39 tz39 tzd39 rfl) ?_
  refine XOps.s rfl rfl rfl (Q.build pl39 tz39 tzd39 rfl) ?_
  refine XOps.s rfl rfl rfl (Q.build pl39 tz39 tzd39 rfl) ?_
  refine XOps.s rfl rfl rfl (Q.build pl39 tz39 tzd39 rfl) ?_
  refine XOps.s rfl rfl rfl (Q.build pl39 tz39 tzd39 rfl) ?_
  refine XOps.s rfl rfl rfl (Q.bsl sl46 (by decide) zr46 rfl zrd46 (by decide) rfl rfl) ?_
  refine XOps.s rfl rfl rfl (Q.assign_d rfl) ?_
  refine XOps.nil ?_
  refine W.ret ?_
  refine ⟨_, hs, rfl, by repeat (first | exact HLe.refl _ | refine HLe.cons' (by first | rfl | (simp [CC.enc, VB.enc]; done)) ?_ | refine HLe.pick 1 rfl (by first | rfl | (simp [CC.enc, VB.enc]; done)) ?_ | refine HLe.pick 2 rfl (by first | rfl | (simp [CC.enc, VB.enc]; done)) ?_ | refine HLe.pick 3 rfl (by first | rfl | (simp [CC.enc, VB.enc]; done)) ?_ | refine HLe.pick 4 rfl (by first | rfl | (simp [CC.enc, VB.enc]; done)) ?_ | refine HLe.pick 5 rfl (by first | rfl | (simp [CC.enc, VB.enc]; done)) ?_ | refine HLe.skip _ ?_), ?_, rfl⟩
  rfl

set_option maxHeartbeats 1000000 in
set_option maxRecDepth 100000 in
theorem isV_c (s : ByteArray) (x : VB) (hs : Hp) : AC P 18 [.d (.agg x.enc), .dp [.str s]] hs (fun r h => r = .d (.bool (isV s x)) ∧ h = hs) := by
  refine AC.of 8 Tryd.func18 rfl rfl rfl ?_
  refine W.reg ?_
  refine XOps.loud rfl (L.boxn rfl rfl) ?_
  rintro _ _ ⟨b2, rfl, rfl⟩
  refine XOps.s rfl rfl rfl (Q.assign_d rfl) ?_
  refine XOps.nil ?_
  refine W.reg ?_
  refine XOps.s rfl rfl rfl (Q.fld_ptr fl39_0 rfl) ?_
  refine XOps.s rfl rfl rfl (Q.ld_ptr (k := 0) ag9 rfl rfl rfl) ?_
  refine XOps.s rfl rfl rfl (Q.ld_dp ag9 rfl rfl) ?_
  refine XOps.s rfl rfl rfl (Q.eql_str rfl rfl) ?_
  refine XOps.s rfl rfl rfl (Q.assign_d rfl) ?_
  refine XOps.nil ?_
  refine W.ret ?_
  exact ⟨_, hs, rfl, HLe.skip _ (HLe.refl _), rfl, rfl⟩

set_option maxHeartbeats 1000000 in
set_option maxRecDepth 100000 in
theorem indexf_c {fn : Func} (f : Nat) (caps : List AV) (p : VB → Bool) (l : List VB) (hs : Hp) (hL : l.length ≤ 4611686018427387904) (hf : P.funcs[f]? = some fn) (hg : callGo fn = true) (hp : ∀ x ∈ l, AC P f ([AV.d (.agg (VB.enc x))] ++ caps) hs (fun r h => r = .d (.bool (p x)) ∧ h = hs)) : AC P 17 [.d (.sl 5 (l.map VB.enc)), .fn f caps] hs (fun r h => r = .d (.int .i64 (idxP p l)) ∧ h = hs) := by
  refine AC.of 19 Tryd.func17 rfl rfl rfl ?_
  refine W.reg ?_
  refine XOps.s rfl rfl rfl (Q.assign_d rfl) ?_
  refine XOps.nil ?_
  refine W.seq ?_
  refine W.reg ?_
  refine XOps.s rfl rfl rfl (Q.move_d rfl) ?_
  refine XOps.s rfl rfl rfl (Q.len_sl isl46 rfl) ?_
  refine XOps.s rfl rfl rfl (Q.move_d rfl) ?_
  refine XOps.nil ?_
  refine W.block ?_
  refine W.loop (ι := Nat) (fun k => [(0, .d (.sl 5 (l.map VB.enc))), (1, .fn f caps), (7, .d (.int .i64 l.length)), (8, .d (.int .i64 k))]) (fun k => hs) (fun k => k ≤ l.length ∧ ∀ i x, i < k → l[i]? = some x → p x = false) (fun k => l.length - k) 0 ?_ ?_ ?_ ?_
  · exact ⟨Nat.zero_le _, fun i x h => absurd h (Nat.not_lt_zero _)⟩
  · exact ⟨by first | rfl | exact int_eq (by omega) | exact len_eq (by simp) | exact int_eq (by simp; done), by first | rfl | exact int_eq (by omega) | exact len_eq (by simp) | exact int_eq (by simp; done), by first | rfl | exact int_eq (by omega) | exact len_eq (by simp) | exact int_eq (by simp; done), by first | rfl | exact int_eq (by omega) | exact len_eq (by simp) | exact int_eq (by simp; done), trivial⟩
  · repeat (first | exact HLe.refl _ | refine HLe.cons' (by first | rfl | (simp [CC.enc, VB.enc]; done)) ?_ | refine HLe.pick 1 rfl (by first | rfl | (simp [CC.enc, VB.enc]; done)) ?_ | refine HLe.pick 2 rfl (by first | rfl | (simp [CC.enc, VB.enc]; done)) ?_ | refine HLe.pick 3 rfl (by first | rfl | (simp [CC.enc, VB.enc]; done)) ?_ | refine HLe.pick 4 rfl (by first | rfl | (simp [CC.enc, VB.enc]; done)) ?_ | refine HLe.pick 5 rfl (by first | rfl | (simp [CC.enc, VB.enc]; done)) ?_ | refine HLe.skip _ ?_)
  · rintro k ⟨hk, hI⟩
    try dsimp only
    refine W.reg ?_
    refine XOps.s rfl rfl rfl (Q.lss rfl rfl) ?_
    refine XOps.nil ?_
    refine W.seq ?_
    refine W.cond rfl (fun hc9 => ?_) (fun hc9 => ?_)
    · try simp only [Bool.or_eq_true, Bool.or_eq_false_iff, Bool.and_eq_true, Bool.and_eq_false_iff, decide_eq_true_eq, decide_eq_false_iff_not, Bool.not_eq_true', Bool.not_eq_false', Int.not_lt, Int.not_le, List.length_map] at hc9
      obtain ⟨x, hx⟩ : ∃ x, l[k]? = some x := ⟨_, List.getElem?_eq_getElem (by omega)⟩
      refine W.skip ?_
      refine W.seq ?_
      refine W.block ?_
      refine W.reg ?_
      refine XOps.s rfl rfl rfl (Q.move_d rfl) ?_
      refine XOps.s rfl rfl rfl (Q.assign_d rfl) ?_
      refine XOps.nil ?_
      refine W.reg ?_
      refine XOps.s rfl rfl rfl (Q.move_fn rfl) ?_
      refine XOps.s rfl rfl rfl (Q.move_d rfl) ?_
      refine XOps.s rfl rfl rfl (Q.move_d rfl) ?_
      refine XOps.s rfl rfl rfl (Q.idx_sl sl46 (by decide) rfl rfl (by first | omega | (simp only [List.length_map]; omega)) (by first | exact map_at (by assumption) | exact map_at0 (by assumption) | assumption)) ?_
      refine XOps.s rfl rfl rfl (Q.ld_dpn ag39 rfl rfl) ?_
      refine XOps.s rfl rfl rfl (Q.call rfl hf hg rfl (hp x (List.mem_of_getElem? hx))) ?_
      refine XOps.nil ?_
      refine W.cond rfl (fun hc16 => ?_) (fun hc16 => ?_)
      · try simp only [Bool.or_eq_true, Bool.or_eq_false_iff, Bool.and_eq_true, Bool.and_eq_false_iff, decide_eq_true_eq, decide_eq_false_iff_not, Bool.not_eq_true', Bool.not_eq_false', Int.not_lt, Int.not_le, List.length_map] at hc16
        have hr := idxP_some hx hc16 hI
        refine W.reg ?_
        refine XOps.s rfl rfl rfl (Q.move_d rfl) ?_
        refine XOps.s rfl rfl rfl (Q.assign_d rfl) ?_
        refine XOps.nil ?_
        refine W.ret ?_
        refine ⟨_, hs, rfl, by repeat (first | exact HLe.refl _ | refine HLe.cons' (by first | rfl | (simp [CC.enc, VB.enc]; done)) ?_ | refine HLe.pick 1 rfl (by first | rfl | (simp [CC.enc, VB.enc]; done)) ?_ | refine HLe.pick 2 rfl (by first | rfl | (simp [CC.enc, VB.enc]; done)) ?_ | refine HLe.pick 3 rfl (by first | rfl | (simp [CC.enc, VB.enc]; done)) ?_ | refine HLe.pick 4 rfl (by first | rfl | (simp [CC.enc, VB.enc]; done)) ?_ | refine HLe.pick 5 rfl (by first | rfl | (simp [CC.enc, VB.enc]; done)) ?_ | refine HLe.skip _ ?_), ?_, rfl⟩
        rw [hr]; rfl
      · try simp only [Bool.or_eq_true, Bool.or_eq_false_iff, Bool.and_eq_true, Bool.and_eq_false_iff, decide_eq_true_eq, decide_eq_false_iff_not, Bool.not_eq_true', Bool.not_eq_false', Int.not_lt, Int.not_le, List.length_map] at hc16
        refine W.skip ?_
        refine W.region ?_
        refine XOps.s rfl rfl rfl (Q.add rfl rfl (wi64 (by first | omega | (dsimp only; omega) | (simp only [List.length_map]; omega)) (by first | omega | (dsimp only; omega) | (simp only [List.length_map]; omega)))) ?_
        refine XOps.s rfl rfl rfl (Q.move_d rfl) ?_
        refine XOps.nil ?_
        refine ⟨k + 1, ?_, ?_, ?_, ?_⟩
        · refine ⟨by omega, fun i y h hy => ?_⟩
          rcases Nat.lt_or_ge i k with h2 | h2
          · exact hI i y h2 hy
          · obtain rfl : i = k := by omega
            rw [hx] at hy; obtain rfl := Option.some.inj hy; exact (by simpa using hc16)
        · omega
        · exact ⟨by first | rfl | exact int_eq (by omega) | exact len_eq (by simp) | exact int_eq (by simp; done), by first | rfl | exact int_eq (by omega) | exact len_eq (by simp) | exact int_eq (by simp; done), by first | rfl | exact int_eq (by omega) | exact len_eq (by simp) | exact int_eq (by simp; done), by first | rfl | exact int_eq (by omega) | exact len_eq (by simp) | exact int_eq (by simp; done), trivial⟩
        · repeat (first | exact HLe.refl _ | refine HLe.cons' (by first | rfl | (simp [CC.enc, VB.enc]; done)) ?_ | refine HLe.pick 1 rfl (by first | rfl | (simp [CC.enc, VB.enc]; done)) ?_ | refine HLe.pick 2 rfl (by first | rfl | (simp [CC.enc, VB.enc]; done)) ?_ | refine HLe.pick 3 rfl (by first | rfl | (simp [CC.enc, VB.enc]; done)) ?_ | refine HLe.pick 4 rfl (by first | rfl | (simp [CC.enc, VB.enc]; done)) ?_ | refine HLe.pick 5 rfl (by first | rfl | (simp [CC.enc, VB.enc]; done)) ?_ | refine HLe.skip _ ?_)
    · try simp only [Bool.or_eq_true, Bool.or_eq_false_iff, Bool.and_eq_true, Bool.and_eq_false_iff, decide_eq_true_eq, decide_eq_false_iff_not, Bool.not_eq_true', Bool.not_eq_false', Int.not_lt, Int.not_le, List.length_map] at hc9
      have hr := idxP_none (p := p) (l := l) fun i x h => hI i x (by have := (List.getElem?_eq_some_iff.1 h).1; omega) h
      refine W.exit ?_
      refine W.reg ?_
      refine XOps.s rfl rfl rfl (Q.assign_d rfl) ?_
      refine XOps.nil ?_
      refine W.ret ?_
      refine ⟨_, hs, rfl, by repeat (first | exact HLe.refl _ | refine HLe.cons' (by first | rfl | (simp [CC.enc, VB.enc]; done)) ?_ | refine HLe.pick 1 rfl (by first | rfl | (simp [CC.enc, VB.enc]; done)) ?_ | refine HLe.pick 2 rfl (by first | rfl | (simp [CC.enc, VB.enc]; done)) ?_ | refine HLe.pick 3 rfl (by first | rfl | (simp [CC.enc, VB.enc]; done)) ?_ | refine HLe.pick 4 rfl (by first | rfl | (simp [CC.enc, VB.enc]; done)) ?_ | refine HLe.pick 5 rfl (by first | rfl | (simp [CC.enc, VB.enc]; done)) ?_ | refine HLe.skip _ ?_), ?_, rfl⟩
      rw [hr]; rfl

set_option maxHeartbeats 1000000 in
set_option maxRecDepth 100000 in
theorem find_c (s : ByteArray) (hs : Hp) : AC P 11 [.d (.str s)] hs (fun r h => r = .tup [.d (.agg (findV s).enc), .d (.bool (findB s))] ∧ h = hs) := by
  refine AC.ofc 17 Tryd.func11 rfl rfl rfl ?_
  refine W.reg ?_
  refine XOps.loud rfl (L.box rfl rfl rfl) ?_
  rintro _ _ ⟨b1, rfl, rfl⟩
  (refine XOps.loud rfl (L.alloc tz39 rfl rfl) ?_; rintro _ _ ⟨b2, rfl, rfl⟩)
  refine XOps.s rfl rfl rfl (Q.assign_d rfl) ?_
  refine XOps.nil ?_
  refine W.reg ?_
  refine XOps.s rfl rfl rfl (Q.call rfl Tryd.func16 go16 rfl (verbs_c _)) ?_
  refine XOps.s rfl rfl rfl (Q.assign_d rfl) ?_
  refine XOps.nil ?_
  refine W.reg ?_
  refine XOps.s rfl rfl rfl (Q.move_d rfl) ?_
  refine XOps.s rfl rfl rfl (Q.mkfn rfl) ?_
  refine XOps.s rfl rfl rfl (Q.bcall rfl Tryd.func17 go17 rfl (.cons (.b1 (.b0 (.d _))) (.cons (.fn (.cons (.ptr 1 rfl (.cons (.d _) rfl (.nil _))) .nil)) .nil)) (indexf_c 18 [.dp [.str s]] (isV s) verbsL [] (by decide) Tryd.func18 go18 (fun x _ => isV_c s x [])) (by simp [OkR, Ok1, D.flat])) ?_
  refine XOps.s rfl rfl rfl (Q.assign_d rfl) ?_
  refine XOps.nil ?_
  refine W.seq ?_
  obtain ⟨j0, hj0⟩ : ∃ j, j = idxP (isV s) verbsL := ⟨_, rfl⟩
  rw [← hj0]
  refine W.reg ?_
  refine XOps.s rfl rfl rfl (Q.move_d rfl) ?_
  refine XOps.s rfl rfl rfl (Q.lss rfl rfl) ?_
  refine XOps.nil ?_
  refine W.cond rfl (fun hc11 => ?_) (fun hc11 => ?_)
  · try simp only [Bool.or_eq_true, Bool.or_eq_false_iff, Bool.and_eq_true, Bool.and_eq_false_iff, decide_eq_true_eq, decide_eq_false_iff_not, Bool.not_eq_true', Bool.not_eq_false', Int.not_lt, Int.not_le, List.length_map] at hc11
    have hB : findB s = false := by unfold findB fndI; rw [← hj0]; simp; omega
    have hV : findV s = VB.zero := find_no hB
    rw [hB, hV]
    refine W.reg ?_
    refine XOps.s rfl rfl rfl (Q.build pl39 tz39 tzd39 rfl) ?_
    refine XOps.loud rfl (L.storen (k := 0) ag39 rfl rfl rfl rfl rfl) ?_
    rintro _ _ ⟨rfl, rfl⟩
    refine XOps.s rfl rfl rfl (Q.assign_d rfl) ?_
    refine XOps.nil ?_
    refine W.ret ?_
    exact ⟨_, hs, (.cons (by first | exact .celln 0 ag39 rfl rfl rfl | exact .cell1 0 ag39 rfl rfl rfl | exact .celln 1 ag39 rfl rfl rfl | exact .cell1 1 ag39 rfl rfl rfl | exact .celln 2 ag39 rfl rfl rfl | exact .cell1 2 ag39 rfl rfl rfl | exact .celln 3 ag39 rfl rfl rfl | exact .cell1 3 ag39 rfl rfl rfl | exact .celln 4 ag39 rfl rfl rfl | exact .cell1 4 ag39 rfl rfl rfl | exact .celln 5 ag39 rfl rfl rfl | exact .cell1 5 ag39 rfl rfl rfl) (.cons (.tmp _) .nil)), HLe.skip _ (HLe.skip _ (HLe.refl _)), rfl, rfl⟩
  · try simp only [Bool.or_eq_true, Bool.or_eq_false_iff, Bool.and_eq_true, Bool.and_eq_false_iff, decide_eq_true_eq, decide_eq_false_iff_not, Bool.not_eq_true', Bool.not_eq_false', Int.not_lt, Int.not_le, List.length_map] at hc11
    have hB : findB s = true := by unfold findB fndI; rw [← hj0]; simp; omega
    obtain ⟨j, hj⟩ : ∃ j : Nat, idxP (isV s) verbsL = j := ⟨(idxP (isV s) verbsL).toNat, by omega⟩
    obtain ⟨x, hx, _⟩ := idxP_at hj
    have hjl := (List.getElem?_eq_some_iff.1 hx).1
    have hvl : verbsL.length = 10 := rfl
    have hV : findV s = x := by unfold findV fndI; rw [if_neg (by omega), hj, Int.toNat_natCast, List.getD_eq_getElem?_getD, hx]; rfl
    rw [hB, hV, hj0, hj]
    refine W.skip ?_
    refine W.reg ?_
    refine XOps.s rfl rfl rfl (Q.move_d rfl) ?_
    refine XOps.s rfl rfl rfl (Q.move_d rfl) ?_
    refine XOps.s rfl rfl rfl (Q.idx_sl sl46 (by decide) rfl rfl (by first | omega | (simp only [List.length_map]; omega)) (by first | exact map_at hx | exact map_at0 hx)) ?_
    refine XOps.s rfl rfl rfl (Q.ld_dpn ag39 rfl rfl) ?_
    refine XOps.loud rfl (L.storen (k := 0) ag39 rfl rfl rfl rfl rfl) ?_
    rintro _ _ ⟨rfl, rfl⟩
    refine XOps.s rfl rfl rfl (Q.assign_d rfl) ?_
    refine XOps.nil ?_
    refine W.ret ?_
    exact ⟨_, hs, (.cons (by first | exact .celln 0 ag39 rfl rfl rfl | exact .cell1 0 ag39 rfl rfl rfl | exact .celln 1 ag39 rfl rfl rfl | exact .cell1 1 ag39 rfl rfl rfl | exact .celln 2 ag39 rfl rfl rfl | exact .cell1 2 ag39 rfl rfl rfl | exact .celln 3 ag39 rfl rfl rfl | exact .cell1 3 ag39 rfl rfl rfl | exact .celln 4 ag39 rfl rfl rfl | exact .cell1 4 ag39 rfl rfl rfl | exact .celln 5 ag39 rfl rfl rfl | exact .cell1 5 ag39 rfl rfl rfl) (.cons (.tmp _) .nil)), HLe.skip _ (HLe.skip _ (HLe.refl _)), rfl, rfl⟩

set_option maxHeartbeats 4000000 in
set_option maxRecDepth 100000 in
theorem check_c (c : CC) (hs : Hp) (h1 : c.call.size ≤ 140737488351232) (h2 : c.fix.size ≤ 140737488351232) : AC P 8 [.d (.agg c.enc)] hs (fun r h => r = .d (.int .i64 (ckC c)) ∧ h = hs) := by
  refine AC.of 59 Tryd.func8 rfl rfl rfl ?_
  refine W.reg ?_
  refine XOps.loud rfl (L.boxn rfl rfl) ?_
  rintro _ _ ⟨b1, rfl, rfl⟩
  refine XOps.s rfl rfl rfl (Q.assign_d rfl) ?_
  refine XOps.nil ?_
  refine W.reg ?_
  refine XOps.s rfl rfl rfl (Q.fld_ptr fl23_0 rfl) ?_
  refine XOps.s rfl rfl rfl (Q.ld_ptr (k := 0) ag9 rfl rfl rfl) ?_
  refine XOps.s rfl rfl rfl (Q.call rfl Tryd.func11 go11 rfl (find_c c.verb _)) ?_
  refine XOps.s rfl rfl rfl (Q.move_tup rfl) ?_
  refine XOps.s rfl rfl rfl (Q.extract rfl rfl) ?_
  refine XOps.s rfl rfl rfl (Q.extract rfl rfl) ?_
  (refine XOps.loud rfl (L.alloc tz39 rfl rfl) ?_; rintro _ _ ⟨b3, rfl, rfl⟩)
  refine XOps.loud rfl (L.storen (k := 0) ag39 rfl rfl rfl rfl rfl) ?_
  rintro _ _ ⟨rfl, rfl⟩
  refine XOps.s rfl rfl rfl (Q.assign_d rfl) ?_
  refine XOps.nil ?_
  refine W.seq ?_
  refine W.block ?_
  refine W.reg ?_
  refine XOps.s rfl rfl rfl (Q.move_d rfl) ?_
  refine XOps.s rfl rfl rfl (Q.not rfl) ?_
  refine XOps.s rfl rfl rfl (Q.assign_d rfl) ?_
  refine XOps.nil ?_
  refine W.cond rfl (fun hc11 => ?_) (fun hc11 => ?_)
  · skip
    have hE : ckC c = 5 := if_pos (by simpa using hc11)
    rw [hE]
    refine W.reg ?_
    refine XOps.s rfl rfl rfl (Q.assign_d rfl) ?_
    refine XOps.nil ?_
    refine W.ret ?_
    exact ⟨_, hs, rfl, HLe.skip _ (HLe.skip _ (HLe.refl _)), rfl, rfl⟩
  · skip
    have q1 : ¬ findB c.verb = false := by simpa using hc11
    refine W.reg ?_
    refine XOps.s rfl rfl rfl (Q.fld_ptr fl23_1 rfl) ?_
    refine XOps.s rfl rfl rfl (Q.ld_ptr (k := 1) ag9 rfl rfl rfl) ?_
    refine XOps.s rfl rfl rfl (Q.call rfl Tryd.func14 go14 rfl (named_c c.call _ h1)) ?_
    refine XOps.s rfl rfl rfl (Q.not rfl) ?_
    refine XOps.s rfl rfl rfl (Q.move_d rfl) ?_
    refine XOps.gs rfl rfl rfl rfl rfl rfl rfl (fun hg => Q.fld_ptr fl39_2 rfl) ?_
    refine XOps.gs rfl rfl rfl rfl rfl rfl rfl (fun hg => Quiet.open 20 hg rfl (Q.ld_ptr (k := 0) ag4 rfl rfl rfl)) ?_
    refine XOps.gs rfl rfl rfl rfl rfl rfl rfl (fun hg => Quiet.open 21 hg rfl (Q.move_d rfl)) ?_
    refine XOps.gsw rfl rfl rfl rfl rfl rfl rfl (fun hg => Q.fld_ptr fl23_3 rfl) ?_
    refine XOps.gsw rfl rfl rfl rfl rfl rfl rfl (fun hg => Quiet.open 23 hg rfl (Q.ld_ptr (k := 1) ag9 rfl rfl rfl)) ?_
    refine XOps.gsw rfl rfl rfl rfl rfl rfl rfl (fun hg => Quiet.open 24 hg rfl (Q.call rfl Tryd.func14 go14 rfl (named_c c.fix _ h2))) ?_
    refine XOps.gsw rfl rfl rfl rfl rfl rfl rfl (fun hg => Quiet.open 25 hg rfl (Q.not rfl)) ?_
    refine XOps.gs rfl rfl rfl rfl rfl rfl rfl (fun hg => Quiet.open 22 hg rfl (Q.pick_and rfl rfl rfl (fun h => by first | (rw [h]; rfl) | (rw [hg, h]; rfl) | (simp [h, hg]; done)))) ?_
    refine XOps.s rfl rfl rfl (Q.pick_or rfl rfl rfl (fun h => by first | (rw [h]; rfl) | (rw [hg, h]; rfl) | (simp [h, hg]; done))) ?_
    refine XOps.s rfl rfl rfl (Q.assign_d rfl) ?_
    refine XOps.nil ?_
    refine W.cond rfl (fun hc14 => ?_) (fun hc14 => ?_)
    · skip
      have hE : ckC c = 6 := by unfold ckC; rw [if_neg q1, if_pos (by simpa using hc14)]
      rw [hE]
      refine W.reg ?_
      refine XOps.s rfl rfl rfl (Q.assign_d rfl) ?_
      refine XOps.nil ?_
      refine W.ret ?_
      exact ⟨_, hs, rfl, HLe.skip _ (HLe.skip _ (HLe.refl _)), rfl, rfl⟩
    · skip
      have q2 : ¬ (namedS c.call = false ∨ ((findV c.verb).fix = true ∧ namedS c.fix = false)) := by simpa using hc14
      refine W.reg ?_
      refine XOps.s rfl rfl rfl (Q.fld_ptr fl39_2 rfl) ?_
      refine XOps.s rfl rfl rfl (Q.ld_ptr (k := 0) ag4 rfl rfl rfl) ?_
      refine XOps.s rfl rfl rfl (Q.not rfl) ?_
      refine XOps.s rfl rfl rfl (Q.move_d rfl) ?_
      refine XOps.gs rfl rfl rfl rfl rfl rfl rfl (fun hg => Q.fld_ptr fl23_3 rfl) ?_
      refine XOps.gs rfl rfl rfl rfl rfl rfl rfl (fun hg => Quiet.open 34 hg rfl (Q.ld_ptr (k := 1) ag9 rfl rfl rfl)) ?_
      refine XOps.gs rfl rfl rfl rfl rfl rfl rfl (fun hg => Quiet.open 35 hg rfl (Q.neq_str rfl rfl)) ?_
      refine XOps.s rfl rfl rfl (Q.pick_and rfl rfl rfl (fun h => by first | (rw [h]; rfl) | (rw [hg, h]; rfl) | (simp [h, hg]; done))) ?_
      refine XOps.s rfl rfl rfl (Q.move_d rfl) ?_
      refine XOps.gs rfl rfl rfl rfl rfl rfl rfl (fun hg => Q.fld_ptr fl39_1 rfl) ?_
      refine XOps.gs rfl rfl rfl rfl rfl rfl rfl (fun hg => Quiet.open 39 hg rfl (Q.ld_ptr (k := 0) ag4 rfl rfl rfl)) ?_
      refine XOps.gs rfl rfl rfl rfl rfl rfl rfl (fun hg => Quiet.open 40 hg rfl (Q.not rfl)) ?_
      refine XOps.gs rfl rfl rfl rfl rfl rfl rfl (fun hg => Quiet.open 41 hg rfl (Q.move_d rfl)) ?_
      refine XOps.gsw rfl rfl rfl rfl rfl rfl rfl (fun hg => Q.fld_ptr fl23_2 rfl) ?_
      refine XOps.gsw rfl rfl rfl rfl rfl rfl rfl (fun hg => Quiet.open 43 hg rfl (Q.ld_ptr (k := 1) ag3 rfl rfl rfl)) ?_
      refine XOps.gsw rfl rfl rfl rfl rfl rfl rfl (fun hg => Quiet.open 44 hg rfl (Q.neq rfl rfl)) ?_
      refine XOps.gs rfl rfl rfl rfl rfl rfl rfl (fun hg => Quiet.open 42 hg rfl (Q.pick_and rfl rfl rfl (fun h => by first | (rw [h]; rfl) | (rw [hg, h]; rfl) | (simp [h, hg]; done)))) ?_
      refine XOps.s rfl rfl rfl (Q.pick_or rfl rfl rfl (fun h => by first | (rw [h]; rfl) | (rw [hg, h]; rfl) | (simp [h, hg]; done))) ?_
      refine XOps.s rfl rfl rfl (Q.assign_d rfl) ?_
      refine XOps.nil ?_
      refine W.cond rfl (fun hc29 => ?_) (fun hc29 => ?_)
      · skip
        have hE : ckC c = 3 := by unfold ckC seq; rw [if_neg q1, if_neg q2, if_pos (by simpa using hc29)]
        rw [hE]
        refine W.reg ?_
        refine XOps.s rfl rfl rfl (Q.assign_d rfl) ?_
        refine XOps.nil ?_
        refine W.ret ?_
        exact ⟨_, hs, rfl, HLe.skip _ (HLe.skip _ (HLe.refl _)), rfl, rfl⟩
      · skip
        have q3 : ¬ (((findV c.verb).fix = false ∧ seq c.fix ⟨#[]⟩ = false) ∨ ((findV c.verb).num = false ∧ c.n ≠ 0)) := by unfold seq; simpa using hc29
        refine W.reg ?_
        refine XOps.s rfl rfl rfl (Q.fld_ptr fl23_2 rfl) ?_
        refine XOps.s rfl rfl rfl (Q.ld_ptr (k := 1) ag3 rfl rfl rfl) ?_
        refine XOps.s rfl rfl rfl (Q.lss rfl rfl) ?_
        refine XOps.s rfl rfl rfl (Q.move_d rfl) ?_
        refine XOps.gs rfl rfl rfl rfl rfl rfl rfl (fun hg => Q.fld_ptr fl23_2 rfl) ?_
        refine XOps.gs rfl rfl rfl rfl rfl rfl rfl (fun hg => Quiet.open 53 hg rfl (Q.ld_ptr (k := 1) ag3 rfl rfl rfl)) ?_
        refine XOps.gs rfl rfl rfl rfl rfl rfl rfl (fun hg => Q.fld_ptr fl39_3 rfl) ?_
        refine XOps.gs rfl rfl rfl rfl rfl rfl rfl (fun hg => Quiet.open 55 hg rfl (Q.ld_ptr (k := 0) ag3 rfl rfl rfl)) ?_
        refine XOps.gs rfl rfl rfl rfl rfl rfl rfl (fun hg => Quiet.open 54 hg rfl (Quiet.open 56 hg rfl (Q.gtr rfl rfl))) ?_
        refine XOps.s rfl rfl rfl (Q.pick_or rfl rfl rfl (fun h => by first | (rw [h]; rfl) | (rw [hg, h]; rfl) | (simp [h, hg]; done))) ?_
        refine XOps.s rfl rfl rfl (Q.assign_d rfl) ?_
        refine XOps.nil ?_
        refine W.cond rfl (fun hc48 => ?_) (fun hc48 => ?_)
        · skip
          have hE : ckC c = 4 := by unfold ckC; rw [if_neg q1, if_neg q2, if_neg q3, if_pos (by simpa using hc48)]
          rw [hE]
          refine W.reg ?_
          refine XOps.s rfl rfl rfl (Q.assign_d rfl) ?_
          refine XOps.nil ?_
          refine W.ret ?_
          exact ⟨_, hs, rfl, HLe.skip _ (HLe.skip _ (HLe.refl _)), rfl, rfl⟩
        · skip
          have hE : ckC c = 0 := by unfold ckC; rw [if_neg q1, if_neg q2, if_neg q3, if_neg (by simpa using hc48)]
          rw [hE]
          refine W.skip ?_
          refine W.reg ?_
          refine XOps.s rfl rfl rfl (Q.assign_d rfl) ?_
          refine XOps.nil ?_
          refine W.ret ?_
          exact ⟨_, hs, rfl, HLe.skip _ (HLe.skip _ (HLe.refl _)), rfl, rfl⟩
end Go.Proofs.YtdddebheolmldaaDoorA
