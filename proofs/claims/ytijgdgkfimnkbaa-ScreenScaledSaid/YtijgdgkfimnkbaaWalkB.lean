/- slices.Repeat, put, slices.Backward, Picture without polygons. -/
import Derived.Test.YtijgdgkfimnkbaaBase
import Derived.Test.YtijgdgkfimnkbaaWalkA
import Derived.Test.YtijgdgkfimnkbaaSpec2
import Derived.Test.YtijgdgkfimnkbaaAbs28
import Derived.Test.YtijgdgkfimnkbaaAbs30
set_option linter.unusedVariables false
set_option linter.unusedSimpArgs false
set_option linter.unnecessarySimpa false
namespace Go.Proofs.YtijgdgkfimnkbaaA.FWalkB
open Go
theorem ag25 : tAgg P 25 = some ((true, 5)) := by kernel_rfl
theorem ag27 : tAgg P 27 = some ((true, 2)) := by kernel_rfl
theorem ag3 : tAgg P 3 = some ((false, 1)) := by kernel_rfl
theorem ag5 : tAgg P 5 = some ((false, 1)) := by kernel_rfl
theorem ag60 : tAgg P 60 = some ((false, 1)) := by kernel_rfl
theorem ag63 : tAgg P 63 = some ((false, 1)) := by kernel_rfl
theorem ap63 : tApp P 63 = some ((1, 1)) := by kernel_rfl
theorem fl27_0 : tFld P 27 0 = some (0) := by kernel_rfl
theorem fl27_1 : tFld P 27 1 = some (1) := by kernel_rfl
theorem fl62_0 : tFld P 62 0 = some (0) := by kernel_rfl
theorem fl62_1 : tFld P 62 1 = some (5) := by kernel_rfl
theorem go24 : callGo Go.Proofs.Try.f24 = true := by kernel_rfl
theorem go44 : callGo Go.Proofs.Try.f44 = true := by kernel_rfl
theorem go51 : callGo Go.Proofs.Try.f51 = true := by kernel_rfl
theorem ik3 : tInt P 3 = some (.i64) := by kernel_rfl
theorem ik87 : tInt P 87 = some (.u64) := by kernel_rfl
theorem isl63 : isSl P 63 = true := by kernel_rfl
theorem sl60 : tSl P 60 = some (1) := by kernel_rfl
theorem sl63 : tSl P 63 = some (1) := by kernel_rfl
theorem zr63 : tZrow P 63 = some ([.int .u8 0]) := by kernel_rfl
theorem zrd63 : cellsD [.int .u8 0] = some ([.int .u8 0]) := rfl
end Go.Proofs.YtijgdgkfimnkbaaA.FWalkB
namespace Go.Proofs.YtijgdgkfimnkbaaA
open Go FWalkB
set_option maxHeartbeats 1000000 in
set_option maxRecDepth 100000 in
theorem mul64_c (m : Int) (hs : Hp) (h0 : 0 ≤ m) (h1 : m ≤ 1000) : AC P 51 [.d (.int .u64 1), .d (.int .u64 m)] hs (fun r h => r = .tup [.d (.int .u64 0), .d (.int .u64 m)] ∧ h = hs) := by
  refine AC.of 51 Try.func51 rfl rfl rfl ?_
  refine W.reg ?_
  refine XOps.s rfl rfl rfl (Q.assign_d rfl) ?_
  refine XOps.s rfl rfl rfl (Q.assign_d rfl) ?_
  refine XOps.nil ?_
  refine W.reg ?_
  refine XOps.s rfl rfl rfl (Q.move_d rfl) ?_
  refine XOps.s rfl rfl rfl (Q.and32z rfl rfl (by decide) (by decide)) ?_
  refine XOps.s rfl rfl rfl (Q.assign_d rfl) ?_
  refine XOps.nil ?_
  refine W.reg ?_
  refine XOps.s rfl rfl rfl (Q.move_d rfl) ?_
  refine XOps.s rfl rfl rfl (Q.shr32 (r := 0) rfl rfl (by decide) (by decide)) ?_
  refine XOps.s rfl rfl rfl (Q.assign_d rfl) ?_
  refine XOps.nil ?_
  refine W.reg ?_
  refine XOps.s rfl rfl rfl (Q.move_d rfl) ?_
  refine XOps.s rfl rfl rfl (Q.and32z rfl rfl (by omega) (by omega)) ?_
  refine XOps.s rfl rfl rfl (Q.assign_d rfl) ?_
  refine XOps.nil ?_
  refine W.reg ?_
  refine XOps.s rfl rfl rfl (Q.move_d rfl) ?_
  refine XOps.s rfl rfl rfl (Q.shr32 (r := 0) rfl rfl (by omega) (by omega)) ?_
  refine XOps.s rfl rfl rfl (Q.assign_d rfl) ?_
  refine XOps.nil ?_
  refine W.reg ?_
  refine XOps.s rfl rfl rfl (Q.move_d rfl) ?_
  refine XOps.s rfl rfl rfl (Q.move_d rfl) ?_
  refine XOps.s rfl rfl rfl (Q.mul (r := m) rfl rfl (wu64 (by omega) (by omega) (by omega))) ?_
  refine XOps.s rfl rfl rfl (Q.assign_d rfl) ?_
  refine XOps.nil ?_
  refine W.reg ?_
  refine XOps.s rfl rfl rfl (Q.move_d rfl) ?_
  refine XOps.s rfl rfl rfl (Q.move_d rfl) ?_
  refine XOps.s rfl rfl rfl (Q.mul (r := 0) rfl rfl (wu64 (by omega) (by omega) (by omega))) ?_
  refine XOps.s rfl rfl rfl (Q.move_d rfl) ?_
  refine XOps.s rfl rfl rfl (Q.shr32 (r := 0) rfl rfl (by omega) (by omega)) ?_
  refine XOps.s rfl rfl rfl (Q.add (r := 0) rfl rfl (wu64 (by omega) (by omega) (by omega))) ?_
  refine XOps.s rfl rfl rfl (Q.assign_d rfl) ?_
  refine XOps.nil ?_
  refine W.reg ?_
  refine XOps.s rfl rfl rfl (Q.move_d rfl) ?_
  refine XOps.s rfl rfl rfl (Q.and32z rfl rfl (by decide) (by decide)) ?_
  refine XOps.s rfl rfl rfl (Q.assign_d rfl) ?_
  refine XOps.nil ?_
  refine W.reg ?_
  refine XOps.s rfl rfl rfl (Q.move_d rfl) ?_
  refine XOps.s rfl rfl rfl (Q.shr32 (r := 0) rfl rfl (by decide) (by decide)) ?_
  refine XOps.s rfl rfl rfl (Q.assign_d rfl) ?_
  refine XOps.nil ?_
  refine W.reg ?_
  refine XOps.s rfl rfl rfl (Q.move_d rfl) ?_
  refine XOps.s rfl rfl rfl (Q.move_d rfl) ?_
  refine XOps.s rfl rfl rfl (Q.move_d rfl) ?_
  refine XOps.s rfl rfl rfl (Q.mul (r := 0) rfl rfl (wu64 (by omega) (by omega) (by omega))) ?_
  refine XOps.s rfl rfl rfl (Q.add (r := 0) rfl rfl (wu64 (by omega) (by omega) (by omega))) ?_
  refine XOps.s rfl rfl rfl (Q.assign_d rfl) ?_
  refine XOps.nil ?_
  refine W.reg ?_
  refine XOps.s rfl rfl rfl (Q.move_d rfl) ?_
  refine XOps.s rfl rfl rfl (Q.move_d rfl) ?_
  refine XOps.s rfl rfl rfl (Q.mul (r := 0) rfl rfl (wu64 (by omega) (by omega) (by omega))) ?_
  refine XOps.s rfl rfl rfl (Q.move_d rfl) ?_
  refine XOps.s rfl rfl rfl (Q.add (r := 0) rfl rfl (wu64 (by omega) (by omega) (by omega))) ?_
  refine XOps.s rfl rfl rfl (Q.move_d rfl) ?_
  refine XOps.s rfl rfl rfl (Q.shr32 (r := 0) rfl rfl (by decide) (by decide)) ?_
  refine XOps.s rfl rfl rfl (Q.add (r := 0) rfl rfl (wu64 (by omega) (by omega) (by omega))) ?_
  refine XOps.s rfl rfl rfl (Q.assign_d rfl) ?_
  refine XOps.nil ?_
  refine W.reg ?_
  refine XOps.s rfl rfl rfl (Q.move_d rfl) ?_
  refine XOps.s rfl rfl rfl (Q.move_d rfl) ?_
  refine XOps.s rfl rfl rfl (Q.mul (r := m) rfl rfl (wu64 (by omega) (by omega) (by omega))) ?_
  refine XOps.s rfl rfl rfl (Q.assign_d rfl) ?_
  refine XOps.nil ?_
  refine W.ret ?_
  refine ⟨_, hs, rfl, by repeat (first | exact HLe.refl _ | refine HLe.cons' (by first | rfl | (simp [ceE, Vw.enc]; done)) ?_ | refine HLe.pick 1 rfl (by first | rfl | (simp [ceE, Vw.enc]; done)) ?_ | refine HLe.pick 2 rfl (by first | rfl | (simp [ceE, Vw.enc]; done)) ?_ | refine HLe.pick 3 rfl (by first | rfl | (simp [ceE, Vw.enc]; done)) ?_ | refine HLe.pick 4 rfl (by first | rfl | (simp [ceE, Vw.enc]; done)) ?_ | refine HLe.pick 5 rfl (by first | rfl | (simp [ceE, Vw.enc]; done)) ?_ | refine HLe.skip _ ?_), ?_, rfl⟩
  rfl

set_option maxHeartbeats 1000000 in
set_option maxRecDepth 100000 in
theorem mul_c (m : Int) (hs : Hp) (h0 : 0 ≤ m) (h1 : m ≤ 1000) : AC P 44 [.d (.int .u64 1), .d (.int .u64 m)] hs (fun r h => r = .tup [.d (.int .u64 0), .d (.int .u64 m)] ∧ h = hs) := by
  refine AC.of 30 Try.func44 rfl rfl rfl ?_
  refine W.reg ?_
  refine XOps.s rfl rfl rfl (Q.assign_d rfl) ?_
  refine XOps.s rfl rfl rfl (Q.assign_d rfl) ?_
  refine XOps.nil ?_
  refine W.seq ?_
  refine W.cond rfl (fun hc1 => ?_) (fun hc1 => ?_)
  · try simp only [Bool.or_eq_true, Bool.or_eq_false_iff, Bool.and_eq_true, Bool.and_eq_false_iff, decide_eq_true_eq, decide_eq_false_iff_not, Bool.not_eq_true', Bool.not_eq_false', Int.not_lt, Int.not_le, List.length_map] at hc1
    all_goals (exact absurd hc1 (by decide)) --done
  · try simp only [Bool.or_eq_true, Bool.or_eq_false_iff, Bool.and_eq_true, Bool.and_eq_false_iff, decide_eq_true_eq, decide_eq_false_iff_not, Bool.not_eq_true', Bool.not_eq_false', Int.not_lt, Int.not_le, List.length_map] at hc1
    refine W.skip ?_
    refine W.reg ?_
    refine XOps.s rfl rfl rfl (Q.move_d rfl) ?_
    refine XOps.s rfl rfl rfl (Q.move_d rfl) ?_
    refine XOps.s rfl rfl rfl (Q.call rfl Try.func51 go51 rfl (mul64_c m _ h0 h1)) ?_
    refine XOps.s rfl rfl rfl (Q.move_tup rfl) ?_
    refine XOps.s rfl rfl rfl (Q.extract rfl rfl) ?_
    refine XOps.s rfl rfl rfl (Q.extract rfl rfl) ?_
    refine XOps.s rfl rfl rfl (Q.assign_d rfl) ?_
    refine XOps.s rfl rfl rfl (Q.assign_d rfl) ?_
    refine XOps.nil ?_
    refine W.reg ?_
    refine XOps.s rfl rfl rfl (Q.move_d rfl) ?_
    refine XOps.s rfl rfl rfl (Q.move_d rfl) ?_
    refine XOps.s rfl rfl rfl (Q.assign_d rfl) ?_
    refine XOps.s rfl rfl rfl (Q.assign_d rfl) ?_
    refine XOps.nil ?_
    refine W.ret ?_
    refine ⟨_, hs, rfl, by repeat (first | exact HLe.refl _ | refine HLe.cons' (by first | rfl | (simp [ceE, Vw.enc]; done)) ?_ | refine HLe.pick 1 rfl (by first | rfl | (simp [ceE, Vw.enc]; done)) ?_ | refine HLe.pick 2 rfl (by first | rfl | (simp [ceE, Vw.enc]; done)) ?_ | refine HLe.pick 3 rfl (by first | rfl | (simp [ceE, Vw.enc]; done)) ?_ | refine HLe.pick 4 rfl (by first | rfl | (simp [ceE, Vw.enc]; done)) ?_ | refine HLe.pick 5 rfl (by first | rfl | (simp [ceE, Vw.enc]; done)) ?_ | refine HLe.skip _ ?_), ?_, rfl⟩
    rfl

theorem und_i {t : Nat} {k : IntKind} (h : tInt P t = some k) : ∃ u, P.underlying t = some u := ⟨_, tInt_spec h⟩
def repL (c m : Nat) : List UInt8 := List.replicate c 32 ++ List.replicate (m - c) 0
theorem repL_len {c m : Nat} (h : c ≤ m) : (repL c m).length = m := by simp [repL]; omega
theorem repL_one {m : Nat} (h : 1 ≤ m) : (List.replicate m [D.int .u8 0]).take 0 ++ ([[D.int .u8 32]] : List (List D)).take 1 ++ (List.replicate m [D.int .u8 0]).drop (0 + 1) = (repL 1 m).map bE := by
  simp [repL, bE, List.drop_replicate]
theorem repL_next {c m : Nat} (h : c ≤ m) : ((repL c m).map bE).take c ++ (((repL c m).map bE).drop 0).take (min c (m - c)) ++ ((repL c m).map bE).drop (c + min c (m - c)) = (repL (c + min c (m - c)) m).map bE := by
  rw [List.drop_zero, ← List.map_take, ← List.map_take, ← List.map_drop, ← List.map_append, ← List.map_append]
  congr 1
  unfold repL
  rw [List.take_append_of_le_length (by simp), List.take_append_of_le_length (by simp; omega), List.take_replicate, List.take_replicate, List.drop_append, List.drop_replicate, List.drop_replicate]
  simp only [List.length_replicate]
  rw [show min c c = c by omega, show min (min c (m - c)) c = min c (m - c) by omega, show c - (c + min c (m - c)) = 0 by omega, show m - c - (c + min c (m - c) - c) = m - (c + min c (m - c)) by omega]
  simp [List.replicate_append_replicate, ← List.append_assoc]
theorem repL_all (m : Nat) : repL m m = List.replicate m 32 := by simp [repL]

set_option maxHeartbeats 1000000 in
set_option maxRecDepth 100000 in
theorem repeat_c (m : Nat) (hs : Hp) (h0 : 1 ≤ m) (h1 : m ≤ 60) : AC P 29 [.d (.sl 1 [[.int .u8 32]]), .d (.int .i64 (m : Int))] hs (fun r h => ∃ v, r = .vs v 0 m 1 ∧ h = (v, .lst 1 ((List.replicate m 32).map bE)) :: hs) := by
  refine AC.of 48 Try.func29 rfl rfl rfl ?_
  refine W.reg ?_
  refine XOps.s rfl rfl rfl (Q.assign_nilsl rfl) ?_
  refine XOps.nil ?_
  refine W.seq ?_
  refine W.reg ?_
  refine XOps.s rfl rfl rfl (Q.move_d rfl) ?_
  refine XOps.s rfl rfl rfl (Q.lss rfl rfl) ?_
  refine XOps.nil ?_
  refine W.cond rfl (fun hc10 => ?_) (fun hc10 => ?_)
  · try simp only [Bool.or_eq_true, Bool.or_eq_false_iff, Bool.and_eq_true, Bool.and_eq_false_iff, decide_eq_true_eq, decide_eq_false_iff_not, Bool.not_eq_true', Bool.not_eq_false', Int.not_lt, Int.not_le, List.length_map] at hc10
    exact absurd hc10 (by omega)
  · try simp only [Bool.or_eq_true, Bool.or_eq_false_iff, Bool.and_eq_true, Bool.and_eq_false_iff, decide_eq_true_eq, decide_eq_false_iff_not, Bool.not_eq_true', Bool.not_eq_false', Int.not_lt, Int.not_le, List.length_map] at hc10
    refine W.skip ?_
    refine W.reg ?_
    refine XOps.s rfl rfl rfl (Q.move_d rfl) ?_
    refine XOps.s rfl rfl rfl (Q.len_sl isl63 rfl) ?_
    refine XOps.s rfl rfl rfl (Q.conv_cnt ik87 rfl (und_i ik3) (by decide) (by decide) (.inl rfl)) ?_
    refine XOps.s rfl rfl rfl (Q.move_d rfl) ?_
    refine XOps.s rfl rfl rfl (Q.conv_cnt ik87 rfl (und_i ik3) (by omega) (by omega) (.inl rfl)) ?_
    refine XOps.s rfl rfl rfl (Q.call rfl Try.func44 go44 rfl (mul_c (m : Int) _ (by omega) (by omega))) ?_
    refine XOps.s rfl rfl rfl (Q.move_tup rfl) ?_
    refine XOps.s rfl rfl rfl (Q.extract rfl rfl) ?_
    refine XOps.s rfl rfl rfl (Q.extract rfl rfl) ?_
    refine XOps.s rfl rfl rfl (Q.assign_d rfl) ?_
    refine XOps.s rfl rfl rfl (Q.assign_d rfl) ?_
    refine XOps.nil ?_
    refine W.seq ?_
    refine W.reg ?_
    refine XOps.s rfl rfl rfl (Q.move_d rfl) ?_
    refine XOps.s rfl rfl rfl (Q.gtr rfl rfl) ?_
    refine XOps.s rfl rfl rfl (Q.move_d rfl) ?_
    refine XOps.gs rfl rfl rfl rfl rfl rfl rfl (fun hg => Q.move_d rfl) ?_
    refine XOps.gs rfl rfl rfl rfl rfl rfl rfl (fun hg => Quiet.open 24 hg rfl (Q.gtr rfl rfl)) ?_
    refine XOps.s rfl rfl rfl (Q.pick_or rfl rfl rfl (fun h => by first | (rw [h]; rfl) | (rw [hg, h]; rfl) | (simp [h, hg]; done))) ?_
    refine XOps.nil ?_
    refine W.cond rfl (fun hc26 => ?_) (fun hc26 => ?_)
    · try simp only [Bool.or_eq_true, Bool.or_eq_false_iff, Bool.and_eq_true, Bool.and_eq_false_iff, decide_eq_true_eq, decide_eq_false_iff_not, Bool.not_eq_true', Bool.not_eq_false', Int.not_lt, Int.not_le, List.length_map] at hc26
      exfalso; simp at hc26; omega --done
    · try simp only [Bool.or_eq_true, Bool.or_eq_false_iff, Bool.and_eq_true, Bool.and_eq_false_iff, decide_eq_true_eq, decide_eq_false_iff_not, Bool.not_eq_true', Bool.not_eq_false', Int.not_lt, Int.not_le, List.length_map] at hc26
      refine W.skip ?_
      refine W.reg ?_
      refine XOps.s rfl rfl rfl (Q.move_d rfl) ?_
      refine XOps.s rfl rfl rfl (Q.conv_cnt ik3 rfl (und_i ik87) (by omega) (by omega) (.inr rfl)) ?_
      (refine XOps.loud rfl (L.make (n := m) ap63 zr63 zrd63 rfl rfl (by omega) rfl) ?_; rintro _ _ ⟨v30, rfl, rfl⟩)
      refine XOps.s rfl rfl rfl (Q.assign_vs rfl) ?_
      refine XOps.nil ?_
      refine W.reg ?_
      refine XOps.s rfl rfl rfl (Q.move_vs rfl) ?_
      refine XOps.s rfl rfl rfl (Q.move_d rfl) ?_
      (refine XOps.loud rfl (L.copy_d (k := 0) 1 sl63 (by decide) rfl rfl (by simp) rfl (by first | (simp; done) | (simp; omega)) rfl) ?_; rintro _ _ ⟨rfl, rfl⟩)
      refine XOps.s rfl rfl rfl (Q.assign_d rfl) ?_
      refine XOps.nil ?_
      refine W.seq ?_
      refine W.block ?_
      refine W.loop (ι := Nat) (fun c => [(7, .vs v30 0 m 1), (8, .d (.int .i64 (c : Nat)))]) (fun c => (v30, .lst 1 ((repL c m).map bE)) :: hs) (fun c => 1 ≤ c ∧ c ≤ m) (fun c => m - c) 1 ?_ ?_ ?_ ?_
      · exact ⟨Nat.le_refl _, h0⟩
      · exact ⟨by first | rfl | exact int_eq (by omega) | exact len_eq (by simp) | exact int_eq (by simp; done), by first | rfl | exact int_eq (by omega) | exact len_eq (by simp) | exact int_eq (by simp; done), trivial⟩
      · exact HLe.cons' (congrArg (HO.lst 1) (repL_one h0).symm) (HLe.refl _)
      · rintro c ⟨hc1, hc⟩
        try dsimp only
        refine W.seq ?_
        refine W.reg ?_
        refine XOps.s rfl rfl rfl (Q.move_d rfl) ?_
        refine XOps.s rfl rfl rfl (Q.move_vs rfl) ?_
        refine XOps.s rfl rfl rfl (Q.len_vs isl63 rfl) ?_
        refine XOps.s rfl rfl rfl (Q.lss rfl rfl) ?_
        refine XOps.nil ?_
        refine W.cond rfl (fun hc37 => ?_) (fun hc37 => ?_)
        · try simp only [Bool.or_eq_true, Bool.or_eq_false_iff, Bool.and_eq_true, Bool.and_eq_false_iff, decide_eq_true_eq, decide_eq_false_iff_not, Bool.not_eq_true', Bool.not_eq_false', Int.not_lt, Int.not_le, List.length_map] at hc37
          refine W.skip ?_
          refine W.block ?_
          refine W.drawT 9 [7] follows (by kernel_rfl) (by decide) ?_
          apply DT.moreF [.new, .new, .new, .new, .new, .new, .new, .now, .later] (by kernel_rfl)
          refine PC.new _ rfl (GQ.q rfl (Q.move_d rfl)) rfl ?_
          refine PC.new _ rfl (GQ.q rfl (Q.move_vs rfl)) rfl ?_
          refine PC.new _ rfl (GQ.q rfl (Q.move_d rfl)) rfl ?_
          refine PC.new _ rfl (GQ.q rfl (Q.cut_vs2 (kk := 0) sl63 rfl rfl rfl rfl (by omega) (by omega) (by first | (simp [repL_len hc]; done) | (simp [repL_len hc]; omega)))) rfl ?_
          refine PC.new _ rfl (GQ.q rfl (Q.move_vs rfl)) rfl ?_
          refine PC.new _ rfl (GQ.q rfl (Q.move_d rfl)) rfl ?_
          refine PC.new _ rfl (GQ.q rfl (Q.cut_vs2 (kk := 0) sl63 rfl rfl rfl rfl (by omega) (by omega) (by first | (simp [repL_len hc]; done) | (simp [repL_len hc]; omega)))) rfl ?_
          refine PC.now rfl rfl (fun τ => Loud.to (L.copy_own (k := 0) (k2 := 0) (min c (m - c)) sl63 rfl rfl (by first | (simp [repL_len hc]; done) | (simp [repL_len hc]; omega)) rfl rfl (by omega) (by first | (simp [repL_len hc]; done) | (simp [repL_len hc]; omega)) rfl) (fun _ _ h => ⟨_, h.1, rfl, h.2⟩)) ?_
          refine PC.later rfl ?_
          refine PC.nil ?_
          rintro _ _ ⟨rfl, rfl⟩
          refine DT.last [.old, .did, .did, .did, .did, .did, .did, .did, .new] (by kernel_rfl) ?_
          refine PC.old rfl (GQ.q rfl (Q.move_d rfl)) rfl ?_
          refine PC.did rfl ?_
          refine PC.did rfl ?_
          refine PC.did rfl ?_
          refine PC.did rfl ?_
          refine PC.did rfl ?_
          refine PC.did rfl ?_
          refine PC.did rfl ?_
          refine PC.new _ rfl (GQ.q rfl (Q.add rfl rfl (wi64 (by first | omega | (dsimp only; omega) | (simp only [List.length_map]; omega)) (by first | omega | (dsimp only; omega) | (simp only [List.length_map]; omega))))) rfl ?_
          refine PC.nil ?_
          refine XOps.s rfl rfl rfl (Q.assign_d rfl) ?_
          refine XOps.nil ?_
          refine ⟨c + min c (m - c), ?_, ?_, ?_, ?_⟩
          · omega
          · omega
          · exact ⟨by first | rfl | exact int_eq (by omega) | exact len_eq (by simp) | exact int_eq (by simp; done), by first | rfl | exact int_eq (by omega) | exact len_eq (by simp) | exact int_eq (by simp; done), trivial⟩
          · exact HLe.cons' (by refine (congrArg (HO.lst 1) (repL_next hc).symm).trans ?_; simp only [Nat.zero_add, Int.toNat_natCast]; rfl) (HLe.refl _)
        · try simp only [Bool.or_eq_true, Bool.or_eq_false_iff, Bool.and_eq_true, Bool.and_eq_false_iff, decide_eq_true_eq, decide_eq_false_iff_not, Bool.not_eq_true', Bool.not_eq_false', Int.not_lt, Int.not_le, List.length_map] at hc37
          obtain rfl : c = m := by omega
          rw [repL_all]
          refine W.exit ?_
          refine W.reg ?_
          refine XOps.s rfl rfl rfl (Q.move_vs rfl) ?_
          refine XOps.s rfl rfl rfl (Q.assign_vs rfl) ?_
          refine XOps.nil ?_
          refine W.ret ?_
          exact ⟨_, (v30, .lst 1 ((List.replicate c 32).map bE)) :: hs, rfl, HLe.refl _, v30, rfl, rfl⟩

set_option maxHeartbeats 1000000 in
set_option maxRecDepth 100000 in
theorem put_c (b iv : Nat) (ids : Nat → Nat) (v : Vw) (rows : Rows) (c : Ce) (x : UInt8) (hs : Hp) (hv : v.ok) (hr : ∀ i, (rows i).length = v.w.toNat) : AC P 31 [.ptr b 0, .d (.agg (ceE c)), .d (.int .u8 x.toNat)] (cvH b iv ids v rows v.h.toNat hs) (fun r h => r = .tup [] ∧ h = cvH b iv ids v (putS v rows c x) v.h.toNat hs) := by
  obtain ⟨v1, v2, v3, v4, v5⟩ := hv
  refine AC.of 24 Try.func31 rfl rfl rfl ?_
  refine W.reg ?_
  refine XOps.loud rfl (L.boxn rfl rfl) ?_
  rintro _ _ ⟨b4, rfl, rfl⟩
  refine XOps.nil ?_
  refine W.drawreg 6 follows (by kernel_rfl) ?_
  refine Chain.cons _ (GQ.q rfl (Q.move_ptr rfl)) rfl ?_
  refine Chain.cons _ (GQ.q rfl (Q.nil_ptr rfl)) rfl ?_
  refine Chain.cons _ (GQ.q rfl (Q.fld_ptr fl62_0 rfl)) rfl ?_
  refine Chain.cons _ (GQ.q rfl (Q.ld_ptrn (k := 1) ag25 rfl rfl rfl)) rfl ?_
  refine Chain.cons _ (GQ.q rfl (Q.ld_ptrn (k := 0) ag27 rfl rfl rfl)) rfl ?_
  refine Chain.cons _ (GQ.q rfl (Q.call rfl Try.func24 go24 rfl (vis_c v c _))) rfl ?_
  refine Chain.nil ?_
  refine XOps.nil ?_
  refine W.cond rfl (fun hc11 => ?_) (fun hc11 => ?_)
  · try simp only [Bool.or_eq_true, Bool.or_eq_false_iff, Bool.and_eq_true, Bool.and_eq_false_iff, decide_eq_true_eq, decide_eq_false_iff_not, Bool.not_eq_true', Bool.not_eq_false', Int.not_lt, Int.not_le, List.length_map] at hc11
    have hP : putS v rows c x = updF rows c.2.toNat ((rows c.2.toNat).set c.1.toNat x) := by unfold putS; rw [if_pos hc11]
    rw [visS_iff] at hc11
    have hy : c.2.toNat < v.h.toNat := by omega
    have hx : c.1.toNat < v.w.toNat := by omega
    have hrl := hr c.2.toNat
    rw [hP]
    refine W.draw 11 follows (by kernel_rfl) ?_
    refine Chain.cons _ (GQ.q rfl (Q.move_ptr rfl)) rfl ?_
    refine Chain.cons _ (GQ.q rfl (Q.nil_ptr rfl)) rfl ?_
    refine Chain.cons _ (GQ.q rfl (Q.fld_ptr fl62_1 rfl)) rfl ?_
    refine Chain.cons _ (GQ.q rfl (Q.ld_ptr (k := 1) ag60 rfl rfl rfl)) rfl ?_
    refine Chain.cons _ (GQ.q rfl (Q.fld_ptr fl27_1 rfl)) rfl ?_
    refine Chain.cons _ (GQ.q rfl (Q.ld_ptr (k := 0) ag3 rfl rfl rfl)) rfl ?_
    refine Chain.cons _ (GQ.q rfl (Q.idx_lsv (kk := 2) sl60 rfl rfl rfl (by omega) (by omega))) rfl ?_
    refine Chain.cons _ (GQ.q rfl (Q.ld_lsv (k := 2) ag63 rfl rfl (lsK_at ids v hy))) rfl ?_
    refine Chain.cons _ (GQ.q rfl (Q.fld_ptr fl27_0 rfl)) rfl ?_
    refine Chain.cons _ (GQ.q rfl (Q.ld_ptr (k := 0) ag3 rfl rfl rfl)) rfl ?_
    refine Chain.cons _ (GQ.q rfl (Q.move_d rfl)) rfl ?_
    refine Chain.nil ?_
    refine XOps.s rfl rfl rfl (Q.idx_vs (kk := c.2.toNat + 3) sl63 rfl (rwK_at ids rows hs hy) rfl (by omega) (by omega)) ?_
    (refine XOps.loud rfl (L.store_ep (k := c.2.toNat + 3) ag5 rfl (rwK_at ids rows hs hy) (show ((rows c.2.toNat).map bE)[0 + c.1.toNat]? = some (bE ((rows c.2.toNat)[c.1.toNat]'(by omega))) by rw [Nat.zero_add, List.getElem?_map, List.getElem?_eq_getElem]; rfl) rfl rfl rfl) ?_; rintro _ _ ⟨rfl, rfl⟩)
    refine XOps.nil ?_
    (refine ⟨_, cvH b iv ids v (updF rows c.2.toNat ((rows c.2.toNat).set c.1.toNat x)) v.h.toNat hs, rfl, HLe.skip _ (HLe.cons _ (HLe.cons _ ?_)), rfl, rfl⟩; rw [← rwK_set ids rows hs hy]; exact HLe.perm (List.Perm.of_eq (by congr 1; simp [List.map_set, bE])))
  · try simp only [Bool.or_eq_true, Bool.or_eq_false_iff, Bool.and_eq_true, Bool.and_eq_false_iff, decide_eq_true_eq, decide_eq_false_iff_not, Bool.not_eq_true', Bool.not_eq_false', Int.not_lt, Int.not_le, List.length_map] at hc11
    have hP : putS v rows c x = rows := by unfold putS; rw [if_neg (by simp [hc11])]
    rw [hP]
    refine W.skip ?_
    exact ⟨_, cvH b iv ids v rows v.h.toNat hs, rfl, HLe.skip _ (HLe.refl _), rfl, rfl⟩
end Go.Proofs.YtijgdgkfimnkbaaA
