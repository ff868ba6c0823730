/- One entry applied. -/
import Derived.Test.YtodbcbojkfndiaaDoorFrB
import Derived.Test.YtodbcbojkfndiaaDoorRpA
import Derived.Test.YtodbcbojkfndiaaDoorSnE
set_option linter.unusedVariables false
set_option linter.unusedSimpArgs false
set_option linter.unnecessarySimpa false
namespace Go.Proofs.YtodbcbojkfndiaaDoorA.FRpB
open Go
theorem ag36 : tAgg P 36 = some ((true, 4)) := by kernel_rfl
theorem ag9 : tAgg P 9 = some ((false, 1)) := by kernel_rfl
theorem fl36_2 : tFld P 36 2 = some (2) := by kernel_rfl
theorem fl36_3 : tFld P 36 3 = some (3) := by kernel_rfl
theorem go16 : callGo Go.Proofs.Tryd.f16 = true := by kernel_rfl
theorem go17 : callGo Go.Proofs.Tryd.f17 = true := by kernel_rfl
theorem go24 : callGo Go.Proofs.Tryd.f24 = true := by kernel_rfl
theorem go25 : callGo Go.Proofs.Tryd.f25 = true := by kernel_rfl
theorem go26 : callGo Go.Proofs.Tryd.f26 = true := by kernel_rfl
theorem go27 : callGo Go.Proofs.Tryd.f27 = true := by kernel_rfl
theorem go28 : callGo Go.Proofs.Tryd.f28 = true := by kernel_rfl
end Go.Proofs.YtodbcbojkfndiaaDoorA.FRpB
namespace Go.Proofs.YtodbcbojkfndiaaDoorA
open Go FRpB
attribute [local irreducible] XOps Quiet Loud W AC GQ DT
theorem cutR_sz (c : UInt8) (p : ByteArray) : (cutR c p).size ≤ p.size := by
  unfold cutR; split
  · rw [← bl_len, bl_extract]; simp [bl_len] <;> omega
  · exact Nat.zero_le _
theorem cutL_sz (c : UInt8) (p : ByteArray) : (cutL c p).size ≤ p.size := by
  unfold cutL; split
  · rw [← bl_len, bl_extract]; simp [bl_len] <;> omega
  · exact Nat.le_refl _

theorem copy_c (l : List SR) (hs : Hp) (hL : l.length ≤ 4398046511104) (hz : szR l) : AC P 17 [.d (.sl 2 (l.map SR.enc)), .nilsl] hs (fun r h => r = .tup [.d (.sl 2 ((appL l []).map SR.enc)), .d (.int .i64 (appE l []))] ∧ h = hs) :=
  AC.args (apply_c l [] hs hL hz (by decide) (fun x h => by cases h)) (.same (.nilsl 5 .nil))
theorem step_bad {l : List SR} {x : EN} (h : stepE l x ≠ 0) : stepL l x = [] := if_pos h
theorem set_bad {l : List SR} {c v : ByteArray} (h : setE l c v ≠ 0) : setL l c v = [] := if_pos h
theorem cut_bad {l : List SR} {c : ByteArray} (h : cutE l c ≠ 0) : cutLs l c = [] := if_pos h

set_option maxHeartbeats 8000000 in
set_option maxRecDepth 100000 in
theorem step_c (l : List SR) (x : EN) (gd gs gr : Nat) (ves ver : Value) (o1 : okE ves) (o2 : okE ver) (hs : Hp) (hL : l.length ≤ 4398046511104) (hz : szR l) (h1 : x.kind.size ≤ 140737488355000) (h2 : x.text.size ≤ 140737488355000) : AC P 18 [.d (.sl 2 (l.map SR.enc)), .d (.agg x.enc)] (gH gd gs gr ves ver hs) (fun r h => r = .tup [.d (.sl 2 ((stepL l x).map SR.enc)), .d (.int .i64 (stepE l x))] ∧ h = gH gd gs gr ves ver hs) := by
  have z1 := cutL_sz 32 x.text
  have z2 := cutR_sz 32 x.text
  refine AC.of 85 Tryd.func18 rfl rfl rfl ?_
  refine W.reg ?_
  refine XOps.loud rfl (L.boxn rfl rfl) ?_
  rintro _ _ ⟨b3, rfl, rfl⟩
  refine XOps.s rfl rfl rfl (Q.assign_nilsl rfl) ?_
  refine XOps.s rfl rfl rfl (Q.assign_d rfl) ?_
  refine XOps.nil ?_
  refine W.seq ?_
  refine W.reg ?_
  refine XOps.s rfl rfl rfl (Q.move_d rfl) ?_
  refine XOps.s rfl rfl rfl (Q.call rfl Tryd.func16 go16 rfl (check_c l _ (by omega) hz)) ?_
  refine XOps.s rfl rfl rfl (Q.assign_d rfl) ?_
  refine XOps.nil ?_
  refine W.reg ?_
  refine XOps.s rfl rfl rfl (Q.move_d rfl) ?_
  refine XOps.s rfl rfl rfl (Q.neq rfl rfl) ?_
  refine XOps.nil ?_
  refine W.cond rfl (fun hc14 => ?_) (fun hc14 => ?_)
  · try simp only [Bool.or_eq_true, Bool.or_eq_false_iff, Bool.and_eq_true, Bool.and_eq_false_iff, decide_eq_true_eq, decide_eq_false_iff_not, Bool.not_eq_true', Bool.not_eq_false', Int.not_lt, Int.not_le, List.length_map] at hc14
    have h14 : checkL l ≠ 0 := by first | exact hc14 | (simpa using hc14)
    have hE : stepE l x = checkL l := if_pos h14
    have hV := step_bad (l := l) (x := x) (by rw [hE]; exact h14)
    rw [hE, hV]
    refine W.reg ?_
    refine XOps.s rfl rfl rfl (Q.move_d rfl) ?_
    refine XOps.s rfl rfl rfl (Q.assign_nilsl rfl) ?_
    refine XOps.s rfl rfl rfl (Q.assign_d rfl) ?_
    refine XOps.nil ?_
    refine W.nild 4 2 rfl ?_
    refine W.ret ?_
    exact ⟨_, gH gd gs gr ves ver hs, rfl, HLe.skip _ (HLe.refl _), rfl, rfl⟩
  · try simp only [Bool.or_eq_true, Bool.or_eq_false_iff, Bool.and_eq_true, Bool.and_eq_false_iff, decide_eq_true_eq, decide_eq_false_iff_not, Bool.not_eq_true', Bool.not_eq_false', Int.not_lt, Int.not_le, List.length_map] at hc14
    have h14 : checkL l = 0 := by first | exact hc14 | (simpa using hc14)
    refine W.skip ?_
    refine W.seq ?_
    refine W.reg ?_
    refine XOps.s rfl rfl rfl (Q.ld_ptrn (k := 0) ag36 rfl rfl rfl) ?_
    refine XOps.s rfl rfl rfl (Q.call rfl Tryd.func24 go24 rfl (chk_c x _ (by omega) (by omega))) ?_
    refine XOps.s rfl rfl rfl (Q.assign_d rfl) ?_
    refine XOps.nil ?_
    refine W.reg ?_
    refine XOps.s rfl rfl rfl (Q.move_d rfl) ?_
    refine XOps.s rfl rfl rfl (Q.neq rfl rfl) ?_
    refine XOps.nil ?_
    refine W.cond rfl (fun hc19 => ?_) (fun hc19 => ?_)
    · try simp only [Bool.or_eq_true, Bool.or_eq_false_iff, Bool.and_eq_true, Bool.and_eq_false_iff, decide_eq_true_eq, decide_eq_false_iff_not, Bool.not_eq_true', Bool.not_eq_false', Int.not_lt, Int.not_le, List.length_map] at hc19
      have h19 : checkN x ≠ 0 := by first | exact hc19 | (simpa using hc19)
      have hE : stepE l x = checkN x := by unfold stepE; rw [if_neg (by omega), if_pos h19]
      have hV := step_bad (l := l) (x := x) (by rw [hE]; exact h19)
      rw [hE, hV]
      refine W.reg ?_
      refine XOps.s rfl rfl rfl (Q.move_d rfl) ?_
      refine XOps.s rfl rfl rfl (Q.assign_nilsl rfl) ?_
      refine XOps.s rfl rfl rfl (Q.assign_d rfl) ?_
      refine XOps.nil ?_
      refine W.nild 4 2 rfl ?_
      refine W.ret ?_
      exact ⟨_, gH gd gs gr ves ver hs, rfl, HLe.skip _ (HLe.refl _), rfl, rfl⟩
    · try simp only [Bool.or_eq_true, Bool.or_eq_false_iff, Bool.and_eq_true, Bool.and_eq_false_iff, decide_eq_true_eq, decide_eq_false_iff_not, Bool.not_eq_true', Bool.not_eq_false', Int.not_lt, Int.not_le, List.length_map] at hc19
      have h19 : checkN x = 0 := by first | exact hc19 | (simpa using hc19)
      refine W.skip ?_
      refine W.reg ?_
      refine XOps.s rfl rfl rfl (Q.fld_ptr fl36_3 rfl) ?_
      refine XOps.s rfl rfl rfl (Q.ld_ptr (k := 0) ag9 rfl rfl rfl) ?_
      refine XOps.s rfl rfl rfl (Q.call rfl Tryd.func25 go25 rfl (cut_c1 x.text 32 _ (by omega))) ?_
      refine XOps.s rfl rfl rfl (Q.move_tup rfl) ?_
      refine XOps.s rfl rfl rfl (Q.extract rfl rfl) ?_
      refine XOps.s rfl rfl rfl (Q.extract rfl rfl) ?_
      refine XOps.s rfl rfl rfl (Q.extract rfl rfl) ?_
      refine XOps.s rfl rfl rfl (Q.assign_d rfl) ?_
      refine XOps.s rfl rfl rfl (Q.assign_d rfl) ?_
      refine XOps.s rfl rfl rfl (Q.assign_d rfl) ?_
      refine XOps.nil ?_
      refine W.seq ?_
      refine W.block ?_
      refine W.reg ?_
      refine XOps.s rfl rfl rfl (Q.fld_ptr fl36_2 rfl) ?_
      refine XOps.s rfl rfl rfl (Q.ld_ptr (k := 0) ag9 rfl rfl rfl) ?_
      refine XOps.s rfl rfl rfl (Q.eql_str rfl rfl) ?_
      refine XOps.s rfl rfl rfl (Q.move_d rfl) ?_
      refine XOps.gs rfl rfl rfl rfl rfl rfl rfl (fun hg => Q.move_d rfl) ?_
      refine XOps.s rfl rfl rfl (Q.pick_and rfl rfl rfl (fun h => by first | (rw [h]; rfl) | (rw [hg, h]; rfl) | (simp [h, hg]; done))) ?_
      refine XOps.s rfl rfl rfl (Q.assign_d rfl) ?_
      refine XOps.nil ?_
      refine W.cond rfl (fun hc28 => ?_) (fun hc28 => ?_)
      · try simp only [Bool.or_eq_true, Bool.or_eq_false_iff, Bool.and_eq_true, Bool.and_eq_false_iff, decide_eq_true_eq, decide_eq_false_iff_not, Bool.not_eq_true', Bool.not_eq_false', Int.not_lt, Int.not_le, List.length_map] at hc28
        have c1 : seq x.kind setK = true ∧ cutB 32 x.text = true := ⟨hc28.1, hc28.2⟩
        have hE : stepE l x = setE l (cutL 32 x.text) (cutR 32 x.text) := by unfold stepE; rw [if_neg (by omega), if_neg (by omega), if_pos c1]
        have hV : stepL l x = setL l (cutL 32 x.text) (cutR 32 x.text) := by
          unfold stepL
          by_cases h0 : stepE l x = 0
          · rw [if_neg (by omega), if_pos c1]
          · rw [if_pos h0]; exact (set_bad (by rw [← hE]; exact h0)).symm
        rw [hE, hV]
        refine W.reg ?_
        refine XOps.s rfl rfl rfl (Q.move_d rfl) ?_
        refine XOps.s rfl rfl rfl (Q.move_d rfl) ?_
        refine XOps.s rfl rfl rfl (Q.move_d rfl) ?_
        refine XOps.s rfl rfl rfl (Q.call rfl Tryd.func26 go26 rfl (set_c l (cutL 32 x.text) (cutR 32 x.text) _ hL hz (by omega) (by omega))) ?_
        refine XOps.s rfl rfl rfl (Q.extract rfl rfl) ?_
        refine XOps.s rfl rfl rfl (Q.extract rfl rfl) ?_
        refine XOps.s rfl rfl rfl (Q.assign_d rfl) ?_
        refine XOps.s rfl rfl rfl (Q.assign_d rfl) ?_
        refine XOps.nil ?_
        refine W.ret ?_
        exact ⟨_, gH gd gs gr ves ver hs, rfl, HLe.skip _ (HLe.refl _), rfl, rfl⟩
      · try simp only [Bool.or_eq_true, Bool.or_eq_false_iff, Bool.and_eq_true, Bool.and_eq_false_iff, decide_eq_true_eq, decide_eq_false_iff_not, Bool.not_eq_true', Bool.not_eq_false', Int.not_lt, Int.not_le, List.length_map] at hc28
        have n1 : ¬ (seq x.kind setK = true ∧ cutB 32 x.text = true) := by
          rintro ⟨a, b⟩
          rcases hc28 with h | h
          · rw [show (x.kind.toList == (⟨#[115, 101, 116]⟩ : ByteArray).toList) = true from a] at h; cases h
          · rw [b] at h; cases h
        refine W.reg ?_
        refine XOps.s rfl rfl rfl (Q.fld_ptr fl36_2 rfl) ?_
        refine XOps.s rfl rfl rfl (Q.ld_ptr (k := 0) ag9 rfl rfl rfl) ?_
        refine XOps.s rfl rfl rfl (Q.eql_str rfl rfl) ?_
        refine XOps.s rfl rfl rfl (Q.move_d rfl) ?_
        refine XOps.gs rfl rfl rfl rfl rfl rfl rfl (fun hg => Q.move_d rfl) ?_
        refine XOps.gs rfl rfl rfl rfl rfl rfl rfl (fun hg => Quiet.open 46 hg rfl (Q.not rfl)) ?_
        refine XOps.s rfl rfl rfl (Q.pick_and rfl rfl rfl (fun h => by first | (rw [h]; rfl) | (rw [hg, h]; rfl) | (simp [h, hg]; done))) ?_
        refine XOps.s rfl rfl rfl (Q.assign_d rfl) ?_
        refine XOps.nil ?_
        refine W.cond rfl (fun hc41 => ?_) (fun hc41 => ?_)
        · try simp only [Bool.or_eq_true, Bool.or_eq_false_iff, Bool.and_eq_true, Bool.and_eq_false_iff, decide_eq_true_eq, decide_eq_false_iff_not, Bool.not_eq_true', Bool.not_eq_false', Int.not_lt, Int.not_le, List.length_map] at hc41
          have c2 : seq x.kind cutK = true ∧ cutB 32 x.text = false := ⟨hc41.1, by simpa using hc41.2⟩
          have hE : stepE l x = cutE l (cutL 32 x.text) := by unfold stepE; rw [if_neg (by omega), if_neg (by omega), if_neg n1, if_pos c2]
          have hV : stepL l x = cutLs l (cutL 32 x.text) := by
            unfold stepL
            by_cases h0 : stepE l x = 0
            · rw [if_neg (by omega), if_neg n1, if_pos c2]
            · rw [if_pos h0]; exact (cut_bad (by rw [← hE]; exact h0)).symm
          rw [hE, hV]
          refine W.reg ?_
          refine XOps.s rfl rfl rfl (Q.move_d rfl) ?_
          refine XOps.s rfl rfl rfl (Q.move_d rfl) ?_
          refine XOps.s rfl rfl rfl (Q.call rfl Tryd.func27 go27 rfl (cutS_c l (cutL 32 x.text) _ hL hz)) ?_
          refine XOps.s rfl rfl rfl (Q.extract rfl rfl) ?_
          refine XOps.s rfl rfl rfl (Q.extract rfl rfl) ?_
          refine XOps.s rfl rfl rfl (Q.assign_d rfl) ?_
          refine XOps.s rfl rfl rfl (Q.assign_d rfl) ?_
          refine XOps.nil ?_
          refine W.ret ?_
          exact ⟨_, gH gd gs gr ves ver hs, rfl, HLe.skip _ (HLe.refl _), rfl, rfl⟩
        · try simp only [Bool.or_eq_true, Bool.or_eq_false_iff, Bool.and_eq_true, Bool.and_eq_false_iff, decide_eq_true_eq, decide_eq_false_iff_not, Bool.not_eq_true', Bool.not_eq_false', Int.not_lt, Int.not_le, List.length_map] at hc41
          have n2 : ¬ (seq x.kind cutK = true ∧ cutB 32 x.text = false) := by
            rintro ⟨a, b⟩
            rcases hc41 with h | h
            · rw [show (x.kind.toList == (⟨#[99, 117, 116]⟩ : ByteArray).toList) = true from a] at h; cases h
            · rw [b] at h; simp at h
          refine W.reg ?_
          refine XOps.s rfl rfl rfl (Q.fld_ptr fl36_2 rfl) ?_
          refine XOps.s rfl rfl rfl (Q.ld_ptr (k := 0) ag9 rfl rfl rfl) ?_
          refine XOps.s rfl rfl rfl (Q.eql_str rfl rfl) ?_
          refine XOps.s rfl rfl rfl (Q.move_d rfl) ?_
          refine XOps.gs rfl rfl rfl rfl rfl rfl rfl (fun hg => Q.move_d rfl) ?_
          refine XOps.s rfl rfl rfl (Q.pick_and rfl rfl rfl (fun h => by first | (rw [h]; rfl) | (rw [hg, h]; rfl) | (simp [h, hg]; done))) ?_
          refine XOps.s rfl rfl rfl (Q.assign_d rfl) ?_
          refine XOps.nil ?_
          refine W.cond rfl (fun hc54 => ?_) (fun hc54 => ?_)
          · try simp only [Bool.or_eq_true, Bool.or_eq_false_iff, Bool.and_eq_true, Bool.and_eq_false_iff, decide_eq_true_eq, decide_eq_false_iff_not, Bool.not_eq_true', Bool.not_eq_false', Int.not_lt, Int.not_le, List.length_map] at hc54
            have c3 : seq x.kind growK = true ∧ cutB 32 x.text = true := ⟨hc54.1, hc54.2⟩
            have hE : stepE l x = growE l (cutL 32 x.text) (cutR 32 x.text) := by unfold stepE; rw [if_neg (by omega), if_neg (by omega), if_neg n1, if_neg n2, if_pos c3]
            have hV : stepL l x = growL l (cutL 32 x.text) (cutR 32 x.text) := by
              unfold stepL
              by_cases h0 : stepE l x = 0
              · rw [if_neg (by omega), if_neg n1, if_neg n2, if_pos c3]
              · rw [if_pos h0]; exact (grow_bad (by rw [← hE]; exact h0)).symm
            rw [hE, hV]
            refine W.reg ?_
            refine XOps.s rfl rfl rfl (Q.move_d rfl) ?_
            refine XOps.s rfl rfl rfl (Q.move_d rfl) ?_
            refine XOps.s rfl rfl rfl (Q.move_d rfl) ?_
            (refine XOps.loud rfl (L.call rfl Tryd.func28 go28 rfl (AC.le (grow_c l (cutL 32 x.text) (cutR 32 x.text) gd gs gr ves ver o1 o2 hs hL hz (by omega) (by omega)) (HLe.skip _ (HLe.refl _))) rfl) ?_; rintro _ _ ⟨_, rfl, rfl, rfl⟩)
            refine XOps.s rfl rfl rfl (Q.extract rfl rfl) ?_
            refine XOps.s rfl rfl rfl (Q.extract rfl rfl) ?_
            refine XOps.s rfl rfl rfl (Q.assign_d rfl) ?_
            refine XOps.s rfl rfl rfl (Q.assign_d rfl) ?_
            refine XOps.nil ?_
            refine W.ret ?_
            exact ⟨_, gH gd gs gr ves ver hs, rfl, HLe.refl _, rfl, rfl⟩
          · try simp only [Bool.or_eq_true, Bool.or_eq_false_iff, Bool.and_eq_true, Bool.and_eq_false_iff, decide_eq_true_eq, decide_eq_false_iff_not, Bool.not_eq_true', Bool.not_eq_false', Int.not_lt, Int.not_le, List.length_map] at hc54
            have n3 : ¬ (seq x.kind growK = true ∧ cutB 32 x.text = true) := by
              rintro ⟨a, b⟩
              rcases hc54 with h | h
              · rw [show (x.kind.toList == (⟨#[103, 114, 111, 119]⟩ : ByteArray).toList) = true from a] at h; cases h
              · rw [b] at h; cases h
            refine W.reg ?_
            refine XOps.s rfl rfl rfl (Q.fld_ptr fl36_2 rfl) ?_
            refine XOps.s rfl rfl rfl (Q.ld_ptr (k := 0) ag9 rfl rfl rfl) ?_
            refine XOps.s rfl rfl rfl (Q.eql_str rfl rfl) ?_
            refine XOps.s rfl rfl rfl (Q.move_d rfl) ?_
            refine XOps.gs rfl rfl rfl rfl rfl rfl rfl (fun hg => Q.fld_ptr fl36_2 rfl) ?_
            refine XOps.gs rfl rfl rfl rfl rfl rfl rfl (fun hg => Quiet.open 72 hg rfl (Q.ld_ptr (k := 0) ag9 rfl rfl rfl)) ?_
            refine XOps.gs rfl rfl rfl rfl rfl rfl rfl (fun hg => Quiet.open 73 hg rfl (Q.eql_str rfl rfl)) ?_
            refine XOps.s rfl rfl rfl (Q.pick_or rfl rfl rfl (fun h => by first | (rw [h]; rfl) | (rw [hg, h]; rfl) | (simp [h, hg]; done))) ?_
            refine XOps.s rfl rfl rfl (Q.move_d rfl) ?_
            refine XOps.gs rfl rfl rfl rfl rfl rfl rfl (fun hg => Q.fld_ptr fl36_2 rfl) ?_
            refine XOps.gs rfl rfl rfl rfl rfl rfl rfl (fun hg => Quiet.open 77 hg rfl (Q.ld_ptr (k := 0) ag9 rfl rfl rfl)) ?_
            refine XOps.gs rfl rfl rfl rfl rfl rfl rfl (fun hg => Quiet.open 78 hg rfl (Q.eql_str rfl rfl)) ?_
            refine XOps.s rfl rfl rfl (Q.pick_or rfl rfl rfl (fun h => by first | (rw [h]; rfl) | (rw [hg, h]; rfl) | (simp [h, hg]; done))) ?_
            refine XOps.s rfl rfl rfl (Q.assign_d rfl) ?_
            refine XOps.nil ?_
            refine W.cond rfl (fun hc67 => ?_) (fun hc67 => ?_)
            · try simp only [Bool.or_eq_true, Bool.or_eq_false_iff, Bool.and_eq_true, Bool.and_eq_false_iff, decide_eq_true_eq, decide_eq_false_iff_not, Bool.not_eq_true', Bool.not_eq_false', Int.not_lt, Int.not_le, List.length_map] at hc67
              have hm : mineK x.kind = true := by
                unfold mineK setK cutK growK seq
                rcases hc67 with (h | h) | h <;> rw [h] <;> simp
              have hE : stepE l x = 5 := by unfold stepE; rw [if_neg (by omega), if_neg (by omega), if_neg n1, if_neg n2, if_neg n3, if_pos hm]
              have hV := step_bad (l := l) (x := x) (by rw [hE]; omega)
              rw [hE, hV]
              refine W.reg ?_
              refine XOps.s rfl rfl rfl (Q.assign_nilsl rfl) ?_
              refine XOps.s rfl rfl rfl (Q.assign_d rfl) ?_
              refine XOps.nil ?_
              refine W.nild 4 2 rfl ?_
              refine W.ret ?_
              exact ⟨_, gH gd gs gr ves ver hs, rfl, HLe.skip _ (HLe.refl _), rfl, rfl⟩
            · try simp only [Bool.or_eq_true, Bool.or_eq_false_iff, Bool.and_eq_true, Bool.and_eq_false_iff, decide_eq_true_eq, decide_eq_false_iff_not, Bool.not_eq_true', Bool.not_eq_false', Int.not_lt, Int.not_le, List.length_map] at hc67
              have hm : ¬ mineK x.kind = true := by
                unfold mineK setK cutK growK
                obtain ⟨⟨a, b⟩, c⟩ := hc67
                have a2 : seq x.kind ⟨#[115, 101, 116]⟩ = false := a
                have b2 : seq x.kind ⟨#[99, 117, 116]⟩ = false := b
                have c2 : seq x.kind ⟨#[103, 114, 111, 119]⟩ = false := c
                rw [a2, b2, c2]; simp
              have hE : stepE l x = 0 := by unfold stepE; rw [if_neg (by omega), if_neg (by omega), if_neg n1, if_neg n2, if_neg n3, if_neg hm]
              have hV : stepL l x = l := by unfold stepL; rw [if_neg (by omega), if_neg n1, if_neg n2, if_neg n3]
              obtain ⟨ap1, ap2⟩ := app_nil h14
              rw [hE, hV]
              refine W.skip ?_
              refine W.reg ?_
              refine XOps.s rfl rfl rfl (Q.move_d rfl) ?_
              refine XOps.s rfl rfl rfl (Q.call rfl Tryd.func17 go17 rfl (copy_c l _ hL hz)) ?_
              refine XOps.s rfl rfl rfl (Q.extract rfl rfl) ?_
              refine XOps.s rfl rfl rfl (Q.extract rfl rfl) ?_
              refine XOps.s rfl rfl rfl (Q.assign_d rfl) ?_
              refine XOps.s rfl rfl rfl (Q.assign_d rfl) ?_
              refine XOps.nil ?_
              rw [ap1, ap2]
              refine W.ret ?_
              exact ⟨_, gH gd gs gr ves ver hs, rfl, HLe.skip _ (HLe.refl _), rfl, rfl⟩
end Go.Proofs.YtodbcbojkfndiaaDoorA
