/- The law SnapshotThrough. -/
import Derived.Test.YtohckiiadkibkaaDoorBase
import Derived.Test.YtohckiiadkibkaaDoorSnG
import Derived.Test.YtohckiiadkibkaaDoorAbs13
import Derived.Test.YtohckiiadkibkaaDoorAbs22
set_option linter.unusedVariables false
set_option linter.unusedSimpArgs false
set_option linter.unnecessarySimpa false
namespace Go.Proofs.YtohckiiadkibkaaDoorA.FSnH
open Go
theorem ag33 : tAgg P 33 = some ((false, 1)) := by kernel_rfl
theorem ap33 : tApp P 33 = some ((5, 56)) := by kernel_rfl
theorem go11 : callGo Go.Proofs.Tryd.f11 = true := by kernel_rfl
theorem go14 : callGo Go.Proofs.Tryd.f14 = true := by kernel_rfl
theorem go16 : callGo Go.Proofs.Tryd.f16 = true := by kernel_rfl
theorem go18 : callGo Go.Proofs.Tryd.f18 = true := by kernel_rfl
theorem go30 : callGo Go.Proofs.Tryd.f30 = true := by kernel_rfl
theorem go9 : callGo Go.Proofs.Tryd.f9 = true := by kernel_rfl
theorem ik3 : tInt P 3 = some (.i64) := by kernel_rfl
theorem isl33 : isSl P 33 = true := by kernel_rfl
theorem isl60 : isSl P 60 = true := by kernel_rfl
theorem sl33 : tSl P 33 = some (5) := by kernel_rfl
theorem sl60 : tSl P 60 = some (1) := by kernel_rfl
theorem zr33 : tZrow P 33 = some ([.string ⟨#[]⟩, .bool false, .bool false, .string ⟨#[]⟩, .string ⟨#[]⟩]) := by kernel_rfl
theorem zr60 : tZrow P 60 = some ([.slice none 0 0]) := by kernel_rfl
theorem zrd33 : cellsD [.string ⟨#[]⟩, .bool false, .bool false, .string ⟨#[]⟩, .string ⟨#[]⟩] = some ([.str ⟨#[]⟩, .bool false, .bool false, .str ⟨#[]⟩, .str ⟨#[]⟩]) := rfl
theorem zrd60 : cellsD [.slice none 0 0] = some ([.sl 0 []]) := rfl
end Go.Proofs.YtohckiiadkibkaaDoorA.FSnH
namespace Go.Proofs.YtohckiiadkibkaaDoorA
open Go FSnH
attribute [local irreducible] XOps Quiet Loud W AC GQ DT
set_option maxHeartbeats 1000000 in
set_option maxRecDepth 100000 in
theorem grow_c (n : Nat) (hs : Hp) (hn : n * 56 ≤ 140737488355328) : AC P 30 [.nilsl, .d (.int .i64 (n : Nat))] hs (fun r h => ∃ v, r = .vs v 0 0 5 ∧ h = (v, .lst 5 []) :: hs) := by
  refine AC.of 27 Tryd.func30 rfl rfl rfl ?_
  refine W.reg ?_
  refine XOps.s rfl rfl rfl (Q.assign_nilsl rfl) ?_
  refine XOps.nil ?_
  refine W.seq ?_
  refine W.reg ?_
  refine XOps.s rfl rfl rfl (Q.move_d rfl) ?_
  refine XOps.s rfl rfl rfl (Q.lss rfl rfl) ?_
  refine XOps.nil ?_
  refine W.cond rfl (fun hc6 => ?_) (fun hc6 => ?_)
  · try simp only [Bool.or_eq_true, Bool.or_eq_false_iff, Bool.and_eq_true, Bool.and_eq_false_iff, decide_eq_true_eq, decide_eq_false_iff_not, Bool.not_eq_true', Bool.not_eq_false', Int.not_lt, Int.not_le, List.length_map] at hc6
    exact absurd hc6 (by omega)
  · try simp only [Bool.or_eq_true, Bool.or_eq_false_iff, Bool.and_eq_true, Bool.and_eq_false_iff, decide_eq_true_eq, decide_eq_false_iff_not, Bool.not_eq_true', Bool.not_eq_false', Int.not_lt, Int.not_le, List.length_map] at hc6
    refine W.skip ?_
    refine W.seq ?_
    refine W.reg ?_
    refine XOps.s rfl rfl rfl (Q.move_d rfl) ?_
    refine XOps.s rfl rfl rfl (Q.move_nilsl rfl) ?_
    refine XOps.s rfl rfl rfl (Q.cap_nil isl33 rfl) ?_
    refine XOps.s rfl rfl rfl (Q.move_nilsl rfl) ?_
    refine XOps.s rfl rfl rfl (Q.len_nil isl33 rfl) ?_
    refine XOps.s rfl rfl rfl (Q.sub rfl rfl (wi64 (by first | omega | (dsimp only; omega) | (simp only [List.length_map]; omega)) (by first | omega | (dsimp only; omega) | (simp only [List.length_map]; omega)))) ?_
    refine XOps.s rfl rfl rfl (Q.sub rfl rfl (wi64 (by first | omega | (dsimp only; omega) | (simp only [List.length_map]; omega)) (by first | omega | (dsimp only; omega) | (simp only [List.length_map]; omega)))) ?_
    refine XOps.s rfl rfl rfl (Q.assign_d rfl) ?_
    refine XOps.nil ?_
    refine W.reg ?_
    refine XOps.s rfl rfl rfl (Q.move_d rfl) ?_
    refine XOps.s rfl rfl rfl (Q.gtr rfl rfl) ?_
    refine XOps.nil ?_
    refine W.cond rfl (fun hc16 => ?_) (fun hc16 => ?_)
    · try simp only [Bool.or_eq_true, Bool.or_eq_false_iff, Bool.and_eq_true, Bool.and_eq_false_iff, decide_eq_true_eq, decide_eq_false_iff_not, Bool.not_eq_true', Bool.not_eq_false', Int.not_lt, Int.not_le, List.length_map] at hc16
      refine W.region ?_
      refine XOps.s rfl rfl rfl (Q.move_nilsl rfl) ?_
      refine XOps.s rfl rfl rfl (Q.move_nilsl rfl) ?_
      refine XOps.s rfl rfl rfl (Q.cap_nil isl33 rfl) ?_
      refine XOps.s rfl rfl rfl (Q.cut_nil sl33 rfl rfl rfl (by first | omega | (simp at hg; omega)) (by first | omega | (simp at hg; omega))) ?_
      refine XOps.s rfl rfl rfl (Q.move_d rfl) ?_
      (refine XOps.loud rfl (L.app_mk ap33 zr33 zrd33 ik3 rfl rfl (by first | omega | (simp at hg; omega)) (by omega) rfl) ?_; rintro _ _ ⟨v22, rfl, rfl⟩)
      refine XOps.s rfl rfl rfl (Q.move_nilsl rfl) ?_
      refine XOps.s rfl rfl rfl (Q.len_nil isl33 rfl) ?_
      refine XOps.s rfl rfl rfl (Q.cut_vs sl33 rfl rfl rfl (by first | omega | (simp only [List.length_map]; omega)) (by first | omega | (simp only [List.length_map]; omega)) (by first | omega | (simp only [List.length_map]; omega))) ?_
      refine XOps.s rfl rfl rfl (Q.assign_vs rfl) ?_
      refine XOps.nil ?_
      (refine W.front_of 0 0 rfl ?_; have v := v22)
      refine W.reg ?_
      refine XOps.s rfl rfl rfl (Q.move_vs rfl) ?_
      refine XOps.s rfl rfl rfl (Q.assign_vs rfl) ?_
      refine XOps.nil ?_
      refine W.ret ?_
      exact ⟨_, (v22, .lst 5 []) :: hs, rfl, HLe.refl _, v22, rfl, rfl⟩
    · try simp only [Bool.or_eq_true, Bool.or_eq_false_iff, Bool.and_eq_true, Bool.and_eq_false_iff, decide_eq_true_eq, decide_eq_false_iff_not, Bool.not_eq_true', Bool.not_eq_false', Int.not_lt, Int.not_le, List.length_map] at hc16
      refine W.skip ?_
      refine W.ghost 0 5 (by decide) rfl rfl (fun v => ?_)
      refine W.reg ?_
      refine XOps.s rfl rfl rfl (Q.move_vs rfl) ?_
      refine XOps.s rfl rfl rfl (Q.assign_vs rfl) ?_
      refine XOps.nil ?_
      refine W.ret ?_
      exact ⟨_, (v, .lst 5 []) :: hs, rfl, HLe.refl _, v, rfl, rfl⟩

def pk (d f : List SC) : Nat → List SC | 0 => d | _ => f
def cc (d f : List SC) : Nat → List SC | 0 => [] | 1 => d | _ => d ++ f
theorem cc_step (d f : List SC) {k : Nat} (h : k < 2) : cc d f (k + 1) = cc d f k ++ pk d f k := by
  have : k = 0 ∨ k = 1 := by omega
  rcases this with rfl | rfl
  · rfl
  · rfl
theorem cc_len (d f : List SC) (k : Nat) : (cc d f k).length ≤ d.length + f.length := by
  match k with
  | 0 => simp [cc]
  | 1 => simp [cc]
  | k + 2 => simp [cc]

set_option maxHeartbeats 4000000 in
set_option maxRecDepth 100000 in
theorem concat_c (d f : List SC) (hs : Hp) (hn : (d.length + f.length) * 56 ≤ 140737488355328) : AC P 18 [.d (.sl 1 [[.sl 5 (d.map SC.enc)], [.sl 5 (f.map SC.enc)]])] hs (fun r h => ∃ v, r = .vs v 0 (d ++ f).length 5 ∧ h = (v, .lst 5 ((d ++ f).map SC.enc)) :: hs) := by
  refine AC.of 36 Tryd.func18 rfl rfl rfl ?_
  refine W.reg ?_
  refine XOps.s rfl rfl rfl (Q.assign_nilsl rfl) ?_
  refine XOps.nil ?_
  refine W.reg ?_
  refine XOps.s rfl rfl rfl (Q.assign_d rfl) ?_
  refine XOps.nil ?_
  refine W.seq ?_
  refine W.reg ?_
  refine XOps.s rfl rfl rfl (Q.move_d rfl) ?_
  refine XOps.s rfl rfl rfl (Q.len_sl isl60 rfl) ?_
  refine XOps.s rfl rfl rfl (Q.move_d rfl) ?_
  refine XOps.nil ?_
  refine W.block ?_
  refine W.loop (ι := Nat) (fun k => [(0, .d (.sl 1 [[.sl 5 (d.map SC.enc)], [.sl 5 (f.map SC.enc)]])), (2, .nilsl), (3, .d (.int .i64 ((cc d f k).length : Nat))), (9, .d (.sl 1 [[.sl 5 (d.map SC.enc)], [.sl 5 (f.map SC.enc)]])), (10, .d (.int .i64 (2 : Nat))), (11, .d (.int .i64 (k : Nat)))]) (fun k => hs) (fun k => k ≤ 2) (fun k => 2 - k) 0 ?_ ?_ ?_ ?_
  · exact Nat.zero_le _
  · exact ⟨by first | rfl | exact int_eq (by omega) | exact len_eq (by simp) | exact int_eq (by simp; done), by first | rfl | exact int_eq (by omega) | exact len_eq (by simp) | exact int_eq (by simp; done), by first | rfl | exact int_eq (by omega) | exact len_eq (by simp) | exact int_eq (by simp; done), by first | rfl | exact int_eq (by omega) | exact len_eq (by simp) | exact int_eq (by simp; done), by first | rfl | exact int_eq (by omega) | exact len_eq (by simp) | exact int_eq (by simp; done), by first | rfl | exact int_eq (by omega) | exact len_eq (by simp) | exact int_eq (by simp; done), trivial⟩
  · repeat (first | exact HLe.refl _ | refine HLe.cons' (by first | rfl | (simp; done)) ?_ | refine HLe.pick 1 rfl (by first | rfl | (simp; done)) ?_ | refine HLe.pick 2 rfl (by first | rfl | (simp; done)) ?_ | refine HLe.pick 3 rfl (by first | rfl | (simp; done)) ?_ | refine HLe.pick 4 rfl (by first | rfl | (simp; done)) ?_ | refine HLe.pick 5 rfl (by first | rfl | (simp; done)) ?_ | refine HLe.skip _ ?_)
  · rintro k hk
    try dsimp only
    refine W.reg ?_
    refine XOps.s rfl rfl rfl (Q.lss rfl rfl) ?_
    refine XOps.nil ?_
    refine W.seq ?_
    refine W.cond rfl (fun hc12 => ?_) (fun hc12 => ?_)
    · try simp only [Bool.or_eq_true, Bool.or_eq_false_iff, Bool.and_eq_true, Bool.and_eq_false_iff, decide_eq_true_eq, decide_eq_false_iff_not, Bool.not_eq_true', Bool.not_eq_false', Int.not_lt, Int.not_le, List.length_map] at hc12
      have hk2 : k = 0 ∨ k = 1 := by omega
      have hrow : ([[.sl 5 (d.map SC.enc)], [.sl 5 (f.map SC.enc)]] : List (List D))[((k : Nat) : Int).toNat]? = some [.sl 5 ((pk d f k).map SC.enc)] := by
        rcases hk2 with rfl | rfl <;> rfl
      have hst := cc_step d f (k := k) (by omega)
      have hln := cc_len d f (k + 1)
      rw [hst, List.length_append] at hln
      refine W.skip ?_
      refine W.seq ?_
      refine W.block ?_
      refine W.reg ?_
      refine XOps.s rfl rfl rfl (Q.idx_sl (r := [.sl 5 ((pk d f k).map SC.enc)]) sl60 (by decide) rfl rfl (by omega) hrow) ?_
      refine XOps.s rfl rfl rfl (Q.ld_dp ag33 rfl rfl) ?_
      refine XOps.s rfl rfl rfl (Q.assign_d rfl) ?_
      refine XOps.nil ?_
      refine W.reg ?_
      refine XOps.s rfl rfl rfl (Q.move_d rfl) ?_
      refine XOps.s rfl rfl rfl (Q.move_d rfl) ?_
      refine XOps.s rfl rfl rfl (Q.len_sl isl33 rfl) ?_
      refine XOps.s rfl rfl rfl (Q.add rfl rfl (wi64 (by first | omega | (dsimp only; omega) | (simp only [List.length_map]; omega)) (by first | omega | (dsimp only; omega) | (simp only [List.length_map]; omega)))) ?_
      refine XOps.s rfl rfl rfl (Q.assign_d rfl) ?_
      refine XOps.nil ?_
      refine W.reg ?_
      refine XOps.s rfl rfl rfl (Q.move_d rfl) ?_
      refine XOps.s rfl rfl rfl (Q.lss rfl rfl) ?_
      refine XOps.nil ?_
      refine W.cond rfl (fun hc20 => ?_) (fun hc20 => ?_)
      · try simp only [Bool.or_eq_true, Bool.or_eq_false_iff, Bool.and_eq_true, Bool.and_eq_false_iff, decide_eq_true_eq, decide_eq_false_iff_not, Bool.not_eq_true', Bool.not_eq_false', Int.not_lt, Int.not_le, List.length_map] at hc20
        exact absurd hc20 (by omega)
      · try simp only [Bool.or_eq_true, Bool.or_eq_false_iff, Bool.and_eq_true, Bool.and_eq_false_iff, decide_eq_true_eq, decide_eq_false_iff_not, Bool.not_eq_true', Bool.not_eq_false', Int.not_lt, Int.not_le, List.length_map] at hc20
        refine W.skip ?_
        refine W.region ?_
        refine XOps.s rfl rfl rfl (Q.add rfl rfl (wi64 (by first | omega | (dsimp only; omega) | (simp only [List.length_map]; omega)) (by first | omega | (dsimp only; omega) | (simp only [List.length_map]; omega)))) ?_
        refine XOps.s rfl rfl rfl (Q.move_d rfl) ?_
        refine XOps.nil ?_
        refine ⟨k + 1, ?_, ?_, ?_, ?_⟩
        · omega
        · omega
        · exact ⟨by first | rfl | exact int_eq (by omega) | exact len_eq (by simp) | exact int_eq (by simp; done), by first | rfl | exact int_eq (by omega) | exact len_eq (by simp) | exact int_eq (by simp; done), by exact int_eq (by rw [hst, List.length_append, List.length_map]; omega), by first | rfl | exact int_eq (by omega) | exact len_eq (by simp) | exact int_eq (by simp; done), by first | rfl | exact int_eq (by omega) | exact len_eq (by simp) | exact int_eq (by simp; done), by first | rfl | exact int_eq (by omega) | exact len_eq (by simp) | exact int_eq (by simp; done), trivial⟩
        · repeat (first | exact HLe.refl _ | refine HLe.cons' (by first | rfl | (simp; done)) ?_ | refine HLe.pick 1 rfl (by first | rfl | (simp; done)) ?_ | refine HLe.pick 2 rfl (by first | rfl | (simp; done)) ?_ | refine HLe.pick 3 rfl (by first | rfl | (simp; done)) ?_ | refine HLe.pick 4 rfl (by first | rfl | (simp; done)) ?_ | refine HLe.pick 5 rfl (by first | rfl | (simp; done)) ?_ | refine HLe.skip _ ?_)
    · try simp only [Bool.or_eq_true, Bool.or_eq_false_iff, Bool.and_eq_true, Bool.and_eq_false_iff, decide_eq_true_eq, decide_eq_false_iff_not, Bool.not_eq_true', Bool.not_eq_false', Int.not_lt, Int.not_le, List.length_map] at hc12
      obtain rfl : k = 2 := by omega
      refine W.exit ?_
      refine W.reg ?_
      refine XOps.s rfl rfl rfl (Q.move_d rfl) ?_
      (refine XOps.loud rfl (L.call rfl Tryd.func30 go30 rfl (grow_c (cc d f 2).length _ (by have := cc_len d f 2; omega)) rfl) ?_; rintro _ _ ⟨_, rfl, v24, rfl, rfl⟩)
      refine XOps.s rfl rfl rfl (Q.assign_vs rfl) ?_
      refine XOps.nil ?_
      refine W.seq ?_
      refine W.reg ?_
      refine XOps.s rfl rfl rfl (Q.move_d rfl) ?_
      refine XOps.s rfl rfl rfl (Q.len_sl isl60 rfl) ?_
      refine XOps.s rfl rfl rfl (Q.move_d rfl) ?_
      refine XOps.nil ?_
      refine W.block ?_
      refine W.loop (ι := Nat × Nat) (fun p => [(25, .d (.sl 1 [[.sl 5 (d.map SC.enc)], [.sl 5 (f.map SC.enc)]])), (26, .d (.int .i64 (2 : Nat))), (27, .d (.int .i64 (p.1 : Nat))), (6, .vs p.2 0 (cc d f p.1).length 5)]) (fun p => (p.2, .lst 5 ((cc d f p.1).map SC.enc)) :: hs) (fun p => p.1 ≤ 2) (fun p => 2 - p.1) (0, v24) ?_ ?_ ?_ ?_
      · exact Nat.zero_le _
      · exact ⟨by first | rfl | exact int_eq (by omega) | exact len_eq (by simp) | exact int_eq (by simp; done), by first | rfl | exact int_eq (by omega) | exact len_eq (by simp) | exact int_eq (by simp; done), by first | rfl | exact int_eq (by omega) | exact len_eq (by simp) | exact int_eq (by simp; done), by first | rfl | exact int_eq (by omega) | exact len_eq (by simp) | exact int_eq (by simp; done), trivial⟩
      · repeat (first | exact HLe.refl _ | refine HLe.cons' (by first | rfl | (simp; done)) ?_ | refine HLe.pick 1 rfl (by first | rfl | (simp; done)) ?_ | refine HLe.pick 2 rfl (by first | rfl | (simp; done)) ?_ | refine HLe.pick 3 rfl (by first | rfl | (simp; done)) ?_ | refine HLe.pick 4 rfl (by first | rfl | (simp; done)) ?_ | refine HLe.pick 5 rfl (by first | rfl | (simp; done)) ?_ | refine HLe.skip _ ?_)
      · rintro ⟨k, v⟩ hk
        dsimp only at hk ⊢
        refine W.reg ?_
        refine XOps.s rfl rfl rfl (Q.lss rfl rfl) ?_
        refine XOps.nil ?_
        refine W.seq ?_
        refine W.cond rfl (fun hc28 => ?_) (fun hc28 => ?_)
        · try simp only [Bool.or_eq_true, Bool.or_eq_false_iff, Bool.and_eq_true, Bool.and_eq_false_iff, decide_eq_true_eq, decide_eq_false_iff_not, Bool.not_eq_true', Bool.not_eq_false', Int.not_lt, Int.not_le, List.length_map] at hc28
          have hk2 : k = 0 ∨ k = 1 := by omega
          have hrow : ([[.sl 5 (d.map SC.enc)], [.sl 5 (f.map SC.enc)]] : List (List D))[((k : Nat) : Int).toNat]? = some [.sl 5 ((pk d f k).map SC.enc)] := by
            rcases hk2 with rfl | rfl <;> rfl
          have hst := cc_step d f (k := k) (by omega)
          have hln := cc_len d f (k + 1)
          rw [hst, List.length_append] at hln
          refine W.skip ?_
          refine W.seq ?_
          refine W.block ?_
          refine W.reg ?_
          refine XOps.s rfl rfl rfl (Q.idx_sl (r := [.sl 5 ((pk d f k).map SC.enc)]) sl60 (by decide) rfl rfl (by omega) hrow) ?_
          refine XOps.s rfl rfl rfl (Q.ld_dp ag33 rfl rfl) ?_
          refine XOps.s rfl rfl rfl (Q.assign_d rfl) ?_
          refine XOps.nil ?_
          refine W.region ?_
          refine XOps.s rfl rfl rfl (Q.move_vs rfl) ?_
          refine XOps.s rfl rfl rfl (Q.move_d rfl) ?_
          refine XOps.loud rfl (L.app (k := 0) ap33 rfl rfl (by first | rfl | (simp; done)) rfl (by simp; omega) rfl) ?_
          rintro _ _ ⟨v33, rfl, rfl⟩
          refine XOps.s rfl rfl rfl (Q.assign_vs rfl) ?_
          refine XOps.nil ?_
          refine W.region ?_
          refine XOps.s rfl rfl rfl (Q.add rfl rfl (wi64 (by first | omega | (dsimp only; omega) | (simp only [List.length_map]; omega)) (by first | omega | (dsimp only; omega) | (simp only [List.length_map]; omega)))) ?_
          refine XOps.s rfl rfl rfl (Q.move_d rfl) ?_
          refine XOps.nil ?_
          refine ⟨(k + 1, v33), ?_, ?_, ?_, ?_⟩
          · show k + 1 ≤ 2; omega
          · show 2 - (k + 1) < 2 - k; omega
          · exact ⟨by first | rfl | exact int_eq (by omega) | exact len_eq (by simp) | exact int_eq (by simp; done), by first | rfl | exact int_eq (by omega) | exact len_eq (by simp) | exact int_eq (by simp; done), by first | rfl | exact int_eq (by omega) | exact len_eq (by simp) | exact int_eq (by simp; done), by exact congrArg (fun z => AV.vs v33 0 z 5) (by rw [hst]; simp), trivial⟩
          · exact HLe.cons' (congrArg (HO.lst 5) (by dsimp only; rw [hst, List.map_append])) (HLe.refl _)
        · try simp only [Bool.or_eq_true, Bool.or_eq_false_iff, Bool.and_eq_true, Bool.and_eq_false_iff, decide_eq_true_eq, decide_eq_false_iff_not, Bool.not_eq_true', Bool.not_eq_false', Int.not_lt, Int.not_le, List.length_map] at hc28
          obtain rfl : k = 2 := by omega
          refine W.exit ?_
          refine W.reg ?_
          refine XOps.s rfl rfl rfl (Q.move_vs rfl) ?_
          refine XOps.s rfl rfl rfl (Q.assign_vs rfl) ?_
          refine XOps.nil ?_
          refine W.ret ?_
          exact ⟨_, (v, .lst 5 ((d ++ f).map SC.enc)) :: hs, rfl, HLe.refl _, v, rfl, rfl⟩

theorem concat_d (d f : List SC) (hs : Hp) (hn : (d.length + f.length) * 56 ≤ 140737488355328) : AC P 18 [.d (.sl 1 [[.sl 5 (d.map SC.enc)], [.sl 5 (f.map SC.enc)]])] hs (fun r h => r = .d (.sl 5 ((d ++ f).map SC.enc)) ∧ h = hs) :=
  AC.frz ((concat_c d f hs hn).mono fun r h ⟨v, h1, h2⟩ => ⟨v, h2, by rw [h1]; exact .vs (by simp)⟩)
theorem szC.app {d f : List SC} (h : szC d) (g : szC f) : szC (d ++ f) := fun x hx => (List.mem_append.1 hx).elim (h x) (g x)

set_option maxHeartbeats 4000000 in
set_option maxRecDepth 100000 in
theorem through_c (a b c : List SR) (gd : Nat) (hs : Hp) (hL : a.length ≤ 4398046511104) (hL2 : b.length ≤ 4398046511104) (hL3 : c.length ≤ 4398046511104) (hz : szR a) (hz2 : szR b) (hz3 : szR c) : AC P 6 [.d (.sl 2 (a.map SR.enc)), .d (.sl 2 (b.map SR.enc)), .d (.sl 2 (c.map SR.enc))] ((gd, dbG) :: hs) (fun r h => r = .d (.bool true)) := by
  refine AC.of 80 Tryd.func6 rfl rfl rfl ?_
  refine W.reg ?_
  refine XOps.s rfl rfl rfl (Q.assign_d rfl) ?_
  refine XOps.nil ?_
  refine W.reg ?_
  refine XOps.s rfl rfl rfl (Q.move_d rfl) ?_
  refine XOps.s rfl rfl rfl (Q.move_d rfl) ?_
  refine XOps.s rfl rfl rfl (Q.call rfl Tryd.func14 go14 rfl (diff_c0 a b _ (by omega) (by omega) hz hz2)) ?_
  refine XOps.s rfl rfl rfl (Q.move_tup rfl) ?_
  refine XOps.s rfl rfl rfl (Q.extract rfl rfl) ?_
  refine XOps.s rfl rfl rfl (Q.extract rfl rfl) ?_
  refine XOps.s rfl rfl rfl (Q.assign_d rfl) ?_
  refine XOps.s rfl rfl rfl (Q.assign_d rfl) ?_
  refine XOps.nil ?_
  refine W.reg ?_
  refine XOps.s rfl rfl rfl (Q.move_d rfl) ?_
  refine XOps.s rfl rfl rfl (Q.move_d rfl) ?_
  refine XOps.s rfl rfl rfl (Q.call rfl Tryd.func14 go14 rfl (diff_c0 b c _ (by omega) (by omega) hz2 hz3)) ?_
  refine XOps.s rfl rfl rfl (Q.move_tup rfl) ?_
  refine XOps.s rfl rfl rfl (Q.extract rfl rfl) ?_
  refine XOps.s rfl rfl rfl (Q.extract rfl rfl) ?_
  refine XOps.s rfl rfl rfl (Q.assign_d rfl) ?_
  refine XOps.s rfl rfl rfl (Q.assign_d rfl) ?_
  refine XOps.nil ?_
  refine W.reg ?_
  refine XOps.s rfl rfl rfl (Q.move_d rfl) ?_
  refine XOps.s rfl rfl rfl (Q.move_d rfl) ?_
  refine XOps.s rfl rfl rfl (Q.call rfl Tryd.func14 go14 rfl (diff_c0 a c _ (by omega) (by omega) hz hz3)) ?_
  refine XOps.s rfl rfl rfl (Q.move_tup rfl) ?_
  refine XOps.s rfl rfl rfl (Q.extract rfl rfl) ?_
  refine XOps.s rfl rfl rfl (Q.extract rfl rfl) ?_
  refine XOps.s rfl rfl rfl (Q.assign_d rfl) ?_
  refine XOps.s rfl rfl rfl (Q.assign_d rfl) ?_
  refine XOps.nil ?_
  refine W.seq ?_
  refine W.reg ?_
  refine XOps.s rfl rfl rfl (Q.move_d rfl) ?_
  refine XOps.s rfl rfl rfl (Q.neq rfl rfl) ?_
  refine XOps.s rfl rfl rfl (Q.move_d rfl) ?_
  refine XOps.gs rfl rfl rfl rfl rfl rfl rfl (fun hg => Q.move_d rfl) ?_
  refine XOps.gs rfl rfl rfl rfl rfl rfl rfl (fun hg => Quiet.open 38 hg rfl (Q.neq rfl rfl)) ?_
  refine XOps.s rfl rfl rfl (Q.pick_or rfl rfl rfl (fun h => by first | (rw [h]; rfl) | (rw [hg, h]; rfl) | (simp [h, hg]; done))) ?_
  refine XOps.s rfl rfl rfl (Q.move_d rfl) ?_
  refine XOps.gs rfl rfl rfl rfl rfl rfl rfl (fun hg => Q.move_d rfl) ?_
  refine XOps.gs rfl rfl rfl rfl rfl rfl rfl (fun hg => Quiet.open 42 hg rfl (Q.neq rfl rfl)) ?_
  refine XOps.s rfl rfl rfl (Q.pick_or rfl rfl rfl (fun h => by first | (rw [h]; rfl) | (rw [hg, h]; rfl) | (simp [h, hg]; done))) ?_
  refine XOps.nil ?_
  refine W.cond rfl (fun hc44 => ?_) (fun hc44 => ?_)
  · try simp only [Bool.or_eq_true, Bool.or_eq_false_iff, Bool.and_eq_true, Bool.and_eq_false_iff, decide_eq_true_eq, decide_eq_false_iff_not, Bool.not_eq_true', Bool.not_eq_false', Int.not_lt, Int.not_le, List.length_map] at hc44
    refine W.reg ?_
    refine XOps.s rfl rfl rfl (Q.call rfl Tryd.func9 go9 rfl (fact_c gd hs)) ?_
    refine XOps.s rfl rfl rfl (Q.assign_d rfl) ?_
    refine XOps.nil ?_
    refine W.ret ?_
    exact ⟨_, _, rfl, HLe.refl _, rfl⟩
  · try simp only [Bool.or_eq_true, Bool.or_eq_false_iff, Bool.and_eq_true, Bool.and_eq_false_iff, decide_eq_true_eq, decide_eq_false_iff_not, Bool.not_eq_true', Bool.not_eq_false', Int.not_lt, Int.not_le, List.length_map] at hc44
    obtain ⟨⟨z1, z2⟩, z3⟩ : (diffE a b = 0 ∧ diffE b c = 0) ∧ diffE a c = 0 := by first | omega | (simpa using hc44) | exact hc44
    obtain ⟨q1, q2, q3, q4⟩ := through z1 z2 z3
    obtain ⟨_, hn1, _, hn2, _⟩ := diffE_zero z1
    obtain ⟨_, _, _, hn3, _⟩ := diffE_zero z2
    have l1 := diffL_len a b
    have l2 := diffL_len b c
    have l3 := diffL_len a c
    refine W.skip ?_
    refine W.reg ?_
    refine XOps.s rfl rfl rfl (Q.move_d rfl) ?_
    refine XOps.s rfl rfl rfl (Q.move_d rfl) ?_
    refine XOps.s rfl rfl rfl (Q.move_d rfl) ?_
    refine XOps.s rfl rfl rfl (Q.bsl sl60 (by decide) zr60 rfl zrd60 (by decide) rfl rfl) ?_
    refine XOps.s rfl rfl rfl (Q.call rfl Tryd.func18 go18 rfl (concat_d (diffL a b) (diffL b c) _ (by omega))) ?_
    refine XOps.s rfl rfl rfl (Q.call rfl Tryd.func16 go16 rfl (apply_c a (diffL a b ++ diffL b c) _ (by omega) hz (by rw [List.length_append]; omega) ((diffL_sz hz hz2).c.app (diffL_sz hz2 hz3).c))) ?_
    refine XOps.s rfl rfl rfl (Q.move_tup rfl) ?_
    refine XOps.s rfl rfl rfl (Q.extract rfl rfl) ?_
    refine XOps.s rfl rfl rfl (Q.extract rfl rfl) ?_
    refine XOps.s rfl rfl rfl (Q.assign_d rfl) ?_
    refine XOps.s rfl rfl rfl (Q.assign_d rfl) ?_
    refine XOps.nil ?_
    refine W.reg ?_
    refine XOps.s rfl rfl rfl (Q.move_d rfl) ?_
    refine XOps.s rfl rfl rfl (Q.move_d rfl) ?_
    refine XOps.s rfl rfl rfl (Q.call rfl Tryd.func16 go16 rfl (apply_c a (diffL a c) _ (by omega) hz (by omega) (diffL_sz hz hz3).c)) ?_
    refine XOps.s rfl rfl rfl (Q.move_tup rfl) ?_
    refine XOps.s rfl rfl rfl (Q.extract rfl rfl) ?_
    refine XOps.s rfl rfl rfl (Q.extract rfl rfl) ?_
    refine XOps.s rfl rfl rfl (Q.assign_d rfl) ?_
    refine XOps.s rfl rfl rfl (Q.assign_d rfl) ?_
    refine XOps.nil ?_
    refine W.reg ?_
    refine XOps.s rfl rfl rfl (Q.call rfl Tryd.func9 go9 rfl (fact_c gd hs)) ?_
    refine XOps.s rfl rfl rfl (Q.move_d rfl) ?_
    refine XOps.gs rfl rfl rfl rfl rfl rfl rfl (fun hg => Q.move_d rfl) ?_
    refine XOps.gs rfl rfl rfl rfl rfl rfl rfl (fun hg => Quiet.open 63 hg rfl (Q.eql rfl rfl)) ?_
    refine XOps.s rfl rfl rfl (Q.pick_and rfl rfl rfl (fun h => by first | (rw [h]; rfl) | (rw [hg, h]; rfl) | (simp [h, hg]; done))) ?_
    refine XOps.s rfl rfl rfl (Q.move_d rfl) ?_
    refine XOps.gs rfl rfl rfl rfl rfl rfl rfl (fun hg => Q.move_d rfl) ?_
    refine XOps.gs rfl rfl rfl rfl rfl rfl rfl (fun hg => Quiet.open 67 hg rfl (Q.eql rfl rfl)) ?_
    refine XOps.s rfl rfl rfl (Q.pick_and rfl rfl rfl (fun h => by first | (rw [h]; rfl) | (rw [hg, h]; rfl) | (simp [h, hg]; done))) ?_
    refine XOps.s rfl rfl rfl (Q.move_d rfl) ?_
    refine XOps.gs rfl rfl rfl rfl rfl rfl rfl (fun hg => Q.move_d rfl) ?_
    refine XOps.gs rfl rfl rfl rfl rfl rfl rfl (fun hg => Q.move_d rfl) ?_
    refine XOps.gs rfl rfl rfl rfl rfl rfl rfl (fun hg => Quiet.open 71 hg rfl (Quiet.open 72 hg rfl (Q.call rfl Tryd.func11 go11 rfl (same_c (appL a (diffL a b ++ diffL b c)) (appL a (diffL a c)) _ (by rw [q3]; omega))))) ?_
    refine XOps.s rfl rfl rfl (Q.pick_and rfl rfl rfl (fun h => by first | (rw [h]; rfl) | (rw [hg, h]; rfl) | (simp [h, hg]; done))) ?_
    refine XOps.s rfl rfl rfl (Q.move_d rfl) ?_
    refine XOps.gs rfl rfl rfl rfl rfl rfl rfl (fun hg => Q.move_d rfl) ?_
    refine XOps.gs rfl rfl rfl rfl rfl rfl rfl (fun hg => Q.move_d rfl) ?_
    refine XOps.gs rfl rfl rfl rfl rfl rfl rfl (fun hg => Quiet.open 76 hg rfl (Quiet.open 77 hg rfl (Q.call rfl Tryd.func11 go11 rfl (same_c (appL a (diffL a b ++ diffL b c)) c _ (by rw [q3]; omega))))) ?_
    refine XOps.s rfl rfl rfl (Q.pick_and rfl rfl rfl (fun h => by first | (rw [h]; rfl) | (rw [hg, h]; rfl) | (simp [h, hg]; done))) ?_
    refine XOps.s rfl rfl rfl (Q.assign_d rfl) ?_
    refine XOps.nil ?_
    refine W.ret ?_
    (refine ⟨_, _, rfl, HLe.refl _, ?_⟩; show AV.d (.bool _) = _; refine congrArg (fun b => AV.d (D.bool b)) ?_; rw [q1, q2, q3, q4]; simp)
end Go.Proofs.YtohckiiadkibkaaDoorA
