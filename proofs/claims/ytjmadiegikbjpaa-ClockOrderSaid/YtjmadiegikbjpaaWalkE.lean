/- Order; the law ClockOrder. -/
import Derived.Test.YtjmadiegikbjpaaBase
import Derived.Test.YtjmadiegikbjpaaWalkC
import Derived.Test.YtjmadiegikbjpaaSpec2
import Derived.Test.YtjmadiegikbjpaaAbs34
import Derived.Test.YtjmadiegikbjpaaLay
set_option linter.unusedVariables false
set_option linter.unusedSimpArgs false
set_option linter.unnecessarySimpa false
namespace Go.Proofs.YtjmadiegikbjpaaA.FWalkE
open Go
theorem ag22 : tAgg P 22 = some ((false, 1)) := by kernel_rfl
theorem ag23 : tAgg P 23 = some ((false, 1)) := by kernel_rfl
theorem ag3 : tAgg P 3 = some ((false, 1)) := by kernel_rfl
theorem ap22 : tApp P 22 = some ((1, 8)) := by kernel_rfl
theorem fl26_0 : tFld P 26 0 = some (0) := by kernel_rfl
theorem go10 : callGo Go.Proofs.Try.f10 = true := by kernel_rfl
theorem go12 : callGo Go.Proofs.Try.f12 = true := by kernel_rfl
theorem go17 : callGo Go.Proofs.Try.f17 = true := by kernel_rfl
theorem go18 : callGo Go.Proofs.Try.f18 = true := by kernel_rfl
theorem go19 : callGo Go.Proofs.Try.f19 = true := by kernel_rfl
theorem go23 : callGo Go.Proofs.Try.f23 = true := by kernel_rfl
theorem go24 : callGo Go.Proofs.Try.f24 = true := by kernel_rfl
theorem go25 : callGo Go.Proofs.Try.f25 = true := by kernel_rfl
theorem go26 : callGo Go.Proofs.Try.f26 = true := by kernel_rfl
theorem go32 : callGo Go.Proofs.Try.f32 = true := by kernel_rfl
theorem go9 : callGo Go.Proofs.Try.f9 = true := by kernel_rfl
theorem isl22 : isSl P 22 = true := by kernel_rfl
theorem isl23 : isSl P 23 = true := by kernel_rfl
theorem sl22 : tSl P 22 = some (1) := by kernel_rfl
theorem sl23 : tSl P 23 = some (3) := by kernel_rfl
theorem tz22 : tZero P 22 = some ([.slice none 0 0]) := by kernel_rfl
theorem zr22 : tZrow P 22 = some ([.int .i64 0]) := by kernel_rfl
theorem zrd22 : cellsD [.int .i64 0] = some ([.int .i64 0]) := rfl
end Go.Proofs.YtjmadiegikbjpaaA.FWalkE
namespace Go.Proofs.YtjmadiegikbjpaaA
open Go FWalkE
set_option maxHeartbeats 1000000 in
set_option maxRecDepth 100000 in
theorem nanI_c (a : Int) (hs : Hp) : AC P 32 [.d (.int .i64 a)] hs (fun r h => r = .d (.bool false) ∧ h = hs) := by
  refine AC.of 6 Try.func32 rfl rfl rfl ?_
  refine W.reg ?_
  refine XOps.s rfl rfl rfl (Q.assign_d rfl) ?_
  refine XOps.nil ?_
  refine W.reg ?_
  refine XOps.s rfl rfl rfl (Q.move_d rfl) ?_
  refine XOps.s rfl rfl rfl (Q.move_d rfl) ?_
  refine XOps.s rfl rfl rfl (Q.neq rfl rfl) ?_
  refine XOps.s rfl rfl rfl (Q.assign_d rfl) ?_
  refine XOps.nil ?_
  refine W.ret ?_
  refine ⟨_, hs, rfl, by repeat (first | exact HLe.refl _ | refine HLe.cons' (by first | rfl | (simp [Ev.enc, nE]; done)) ?_ | refine HLe.pick 1 rfl (by first | rfl | (simp [Ev.enc, nE]; done)) ?_ | refine HLe.pick 2 rfl (by first | rfl | (simp [Ev.enc, nE]; done)) ?_ | refine HLe.pick 3 rfl (by first | rfl | (simp [Ev.enc, nE]; done)) ?_ | refine HLe.pick 4 rfl (by first | rfl | (simp [Ev.enc, nE]; done)) ?_ | refine HLe.pick 5 rfl (by first | rfl | (simp [Ev.enc, nE]; done)) ?_ | refine HLe.skip _ ?_), ?_, rfl⟩
  first | rfl | (show AV.d (.bool _) = _; simp)

set_option maxHeartbeats 1000000 in
set_option maxRecDepth 100000 in
theorem cmpI_c (a b : Int) (hs : Hp) : AC P 26 [.d (.int .i64 a), .d (.int .i64 b)] hs (fun r h => r = .d (.int .i64 (cmpI a b)) ∧ h = hs) := by
  refine AC.of 20 Try.func26 rfl rfl rfl ?_
  refine W.reg ?_
  refine XOps.s rfl rfl rfl (Q.assign_d rfl) ?_
  refine XOps.nil ?_
  refine W.reg ?_
  refine XOps.s rfl rfl rfl (Q.move_d rfl) ?_
  refine XOps.s rfl rfl rfl (Q.call rfl Try.func32 go32 rfl (nanI_c a _)) ?_
  refine XOps.s rfl rfl rfl (Q.assign_d rfl) ?_
  refine XOps.nil ?_
  refine W.reg ?_
  refine XOps.s rfl rfl rfl (Q.move_d rfl) ?_
  refine XOps.s rfl rfl rfl (Q.call rfl Try.func32 go32 rfl (nanI_c b _)) ?_
  refine XOps.s rfl rfl rfl (Q.assign_d rfl) ?_
  refine XOps.nil ?_
  refine W.seq ?_
  refine W.reg ?_
  refine XOps.s rfl rfl rfl (Q.move_d rfl) ?_
  refine XOps.nil ?_
  refine W.cond rfl (fun hc11 => ?_) (fun hc11 => ?_)
  · try simp only [Bool.or_eq_true, Bool.or_eq_false_iff, Bool.and_eq_true, Bool.and_eq_false_iff, decide_eq_true_eq, decide_eq_false_iff_not, Bool.not_eq_true', Bool.not_eq_false', Int.not_lt, Int.not_le, List.length_map, slN] at hc11
    exact absurd hc11 (by decide)
  · try simp only [Bool.or_eq_true, Bool.or_eq_false_iff, Bool.and_eq_true, Bool.and_eq_false_iff, decide_eq_true_eq, decide_eq_false_iff_not, Bool.not_eq_true', Bool.not_eq_false', Int.not_lt, Int.not_le, List.length_map, slN] at hc11
    refine W.skip ?_
    refine W.seq ?_
    refine W.reg ?_
    refine XOps.s rfl rfl rfl (Q.move_d rfl) ?_
    refine XOps.nil ?_
    refine W.cond rfl (fun hc13 => ?_) (fun hc13 => ?_)
    · try simp only [Bool.or_eq_true, Bool.or_eq_false_iff, Bool.and_eq_true, Bool.and_eq_false_iff, decide_eq_true_eq, decide_eq_false_iff_not, Bool.not_eq_true', Bool.not_eq_false', Int.not_lt, Int.not_le, List.length_map, slN] at hc13
      exact absurd hc13 (by decide)
    · try simp only [Bool.or_eq_true, Bool.or_eq_false_iff, Bool.and_eq_true, Bool.and_eq_false_iff, decide_eq_true_eq, decide_eq_false_iff_not, Bool.not_eq_true', Bool.not_eq_false', Int.not_lt, Int.not_le, List.length_map, slN] at hc13
      refine W.skip ?_
      refine W.seq ?_
      refine W.reg ?_
      refine XOps.s rfl rfl rfl (Q.move_d rfl) ?_
      refine XOps.s rfl rfl rfl (Q.move_d rfl) ?_
      refine XOps.s rfl rfl rfl (Q.lss rfl rfl) ?_
      refine XOps.nil ?_
      refine W.cond rfl (fun hc16 => ?_) (fun hc16 => ?_)
      · try simp only [Bool.or_eq_true, Bool.or_eq_false_iff, Bool.and_eq_true, Bool.and_eq_false_iff, decide_eq_true_eq, decide_eq_false_iff_not, Bool.not_eq_true', Bool.not_eq_false', Int.not_lt, Int.not_le, List.length_map, slN] at hc16
        refine W.reg ?_
        refine XOps.s rfl rfl rfl (Q.assign_d rfl) ?_
        refine XOps.nil ?_
        refine W.ret ?_
        refine ⟨_, hs, rfl, by repeat (first | exact HLe.refl _ | refine HLe.cons' (by first | rfl | (simp [Ev.enc, nE]; done)) ?_ | refine HLe.pick 1 rfl (by first | rfl | (simp [Ev.enc, nE]; done)) ?_ | refine HLe.pick 2 rfl (by first | rfl | (simp [Ev.enc, nE]; done)) ?_ | refine HLe.pick 3 rfl (by first | rfl | (simp [Ev.enc, nE]; done)) ?_ | refine HLe.pick 4 rfl (by first | rfl | (simp [Ev.enc, nE]; done)) ?_ | refine HLe.pick 5 rfl (by first | rfl | (simp [Ev.enc, nE]; done)) ?_ | refine HLe.skip _ ?_), ?_, rfl⟩
        exact int_eq (by unfold cmpI; first | (rw [if_pos (by omega)]; done) | (rw [if_neg (by omega), if_pos (by omega)]; done) | (rw [if_neg (by omega), if_neg (by omega)]; done))
      · try simp only [Bool.or_eq_true, Bool.or_eq_false_iff, Bool.and_eq_true, Bool.and_eq_false_iff, decide_eq_true_eq, decide_eq_false_iff_not, Bool.not_eq_true', Bool.not_eq_false', Int.not_lt, Int.not_le, List.length_map, slN] at hc16
        refine W.skip ?_
        refine W.seq ?_
        refine W.reg ?_
        refine XOps.s rfl rfl rfl (Q.move_d rfl) ?_
        refine XOps.s rfl rfl rfl (Q.move_d rfl) ?_
        refine XOps.s rfl rfl rfl (Q.gtr rfl rfl) ?_
        refine XOps.nil ?_
        refine W.cond rfl (fun hc19 => ?_) (fun hc19 => ?_)
        · try simp only [Bool.or_eq_true, Bool.or_eq_false_iff, Bool.and_eq_true, Bool.and_eq_false_iff, decide_eq_true_eq, decide_eq_false_iff_not, Bool.not_eq_true', Bool.not_eq_false', Int.not_lt, Int.not_le, List.length_map, slN] at hc19
          refine W.reg ?_
          refine XOps.s rfl rfl rfl (Q.assign_d rfl) ?_
          refine XOps.nil ?_
          refine W.ret ?_
          refine ⟨_, hs, rfl, by repeat (first | exact HLe.refl _ | refine HLe.cons' (by first | rfl | (simp [Ev.enc, nE]; done)) ?_ | refine HLe.pick 1 rfl (by first | rfl | (simp [Ev.enc, nE]; done)) ?_ | refine HLe.pick 2 rfl (by first | rfl | (simp [Ev.enc, nE]; done)) ?_ | refine HLe.pick 3 rfl (by first | rfl | (simp [Ev.enc, nE]; done)) ?_ | refine HLe.pick 4 rfl (by first | rfl | (simp [Ev.enc, nE]; done)) ?_ | refine HLe.pick 5 rfl (by first | rfl | (simp [Ev.enc, nE]; done)) ?_ | refine HLe.skip _ ?_), ?_, rfl⟩
          exact int_eq (by unfold cmpI; first | (rw [if_pos (by omega)]; done) | (rw [if_neg (by omega), if_pos (by omega)]; done) | (rw [if_neg (by omega), if_neg (by omega)]; done))
        · try simp only [Bool.or_eq_true, Bool.or_eq_false_iff, Bool.and_eq_true, Bool.and_eq_false_iff, decide_eq_true_eq, decide_eq_false_iff_not, Bool.not_eq_true', Bool.not_eq_false', Int.not_lt, Int.not_le, List.length_map, slN] at hc19
          refine W.skip ?_
          refine W.reg ?_
          refine XOps.s rfl rfl rfl (Q.assign_d rfl) ?_
          refine XOps.nil ?_
          refine W.ret ?_
          refine ⟨_, hs, rfl, by repeat (first | exact HLe.refl _ | refine HLe.cons' (by first | rfl | (simp [Ev.enc, nE]; done)) ?_ | refine HLe.pick 1 rfl (by first | rfl | (simp [Ev.enc, nE]; done)) ?_ | refine HLe.pick 2 rfl (by first | rfl | (simp [Ev.enc, nE]; done)) ?_ | refine HLe.pick 3 rfl (by first | rfl | (simp [Ev.enc, nE]; done)) ?_ | refine HLe.pick 4 rfl (by first | rfl | (simp [Ev.enc, nE]; done)) ?_ | refine HLe.pick 5 rfl (by first | rfl | (simp [Ev.enc, nE]; done)) ?_ | refine HLe.skip _ ?_), ?_, rfl⟩
          exact int_eq (by unfold cmpI; first | (rw [if_pos (by omega)]; done) | (rw [if_neg (by omega), if_pos (by omega)]; done) | (rw [if_neg (by omega), if_neg (by omega)]; done))

set_option maxHeartbeats 1000000 in
set_option maxRecDepth 100000 in
theorem or2_c (a b : Int) (hs : Hp) : AC P 25 [.d (.sl 1 ([a, b].map nE))] hs (fun r h => r = .d (.int .i64 (orI a b)) ∧ h = hs) := by
  refine AC.of 18 Try.func25 rfl rfl rfl ?_
  refine W.reg ?_
  refine XOps.s rfl rfl rfl (Q.assign_d rfl) ?_
  refine XOps.nil ?_
  refine W.reg ?_
  refine XOps.s rfl rfl rfl (Q.assign_d rfl) ?_
  refine XOps.nil ?_
  refine W.seq ?_
  refine W.reg ?_
  refine XOps.s rfl rfl rfl (Q.move_d rfl) ?_
  refine XOps.s rfl rfl rfl (Q.len_sl isl22 rfl) ?_
  refine XOps.s rfl rfl rfl (Q.move_d rfl) ?_
  refine XOps.nil ?_
  refine W.block ?_
  refine W.loop (ι := Nat) (fun k => [(0, .d (.sl 1 ([a, b].map nE))), (3, .d (.int .i64 0)), (6, .d (.sl 1 ([a, b].map nE))), (7, .d (.int .i64 2)), (8, .d (.int .i64 (k : Nat)))]) (fun k => hs) (fun k => k ≤ 2 ∧ (0 < k → a = 0) ∧ (1 < k → b = 0)) (fun k => 2 - k) 0 ?_ ?_ ?_ ?_
  · exact ⟨by omega, fun h => by omega, fun h => by omega⟩
  · exact ⟨by first | rfl | exact int_eq (by omega) | exact len_eq (by simp) | exact int_eq (by simp; done), by first | rfl | exact int_eq (by omega) | exact len_eq (by simp) | exact int_eq (by simp; done), by first | rfl | exact int_eq (by omega) | exact len_eq (by simp) | exact int_eq (by simp; done), by first | rfl | exact int_eq (by omega) | exact len_eq (by simp) | exact int_eq (by simp; done), by first | rfl | exact int_eq (by omega) | exact len_eq (by simp) | exact int_eq (by simp; done), trivial⟩
  · repeat (first | exact HLe.refl _ | refine HLe.cons' (by first | rfl | (simp [Ev.enc, nE]; done)) ?_ | refine HLe.pick 1 rfl (by first | rfl | (simp [Ev.enc, nE]; done)) ?_ | refine HLe.pick 2 rfl (by first | rfl | (simp [Ev.enc, nE]; done)) ?_ | refine HLe.pick 3 rfl (by first | rfl | (simp [Ev.enc, nE]; done)) ?_ | refine HLe.pick 4 rfl (by first | rfl | (simp [Ev.enc, nE]; done)) ?_ | refine HLe.pick 5 rfl (by first | rfl | (simp [Ev.enc, nE]; done)) ?_ | refine HLe.skip _ ?_)
  · rintro k hI
    try dsimp only
    refine W.reg ?_
    refine XOps.s rfl rfl rfl (Q.lss rfl rfl) ?_
    refine XOps.nil ?_
    refine W.seq ?_
    refine W.cond rfl (fun hc9 => ?_) (fun hc9 => ?_)
    · try simp only [Bool.or_eq_true, Bool.or_eq_false_iff, Bool.and_eq_true, Bool.and_eq_false_iff, decide_eq_true_eq, decide_eq_false_iff_not, Bool.not_eq_true', Bool.not_eq_false', Int.not_lt, Int.not_le, List.length_map, slN] at hc9
      obtain ⟨x, hx, hxa, hxb⟩ : ∃ x, [a, b][k]? = some x ∧ (k = 0 → x = a) ∧ (k = 1 → x = b) := by
        have h01 : k = 0 ∨ k = 1 := by omega
        rcases h01 with rfl | rfl
        · exact ⟨a, rfl, fun _ => rfl, fun h => by omega⟩
        · exact ⟨b, rfl, fun h => by omega, fun _ => rfl⟩
      have hk2 : k < 2 := by omega
      refine W.skip ?_
      refine W.seq ?_
      refine W.block ?_
      refine W.reg ?_
      refine XOps.s rfl rfl rfl (Q.idx_sl sl22 (by decide) rfl rfl (by first | omega | (simp only [List.length_map]; omega)) (by exact map_at hx)) ?_
      refine XOps.s rfl rfl rfl (Q.ld_dp ag3 rfl rfl) ?_
      refine XOps.s rfl rfl rfl (Q.assign_d rfl) ?_
      refine XOps.nil ?_
      refine W.reg ?_
      refine XOps.s rfl rfl rfl (Q.move_d rfl) ?_
      refine XOps.s rfl rfl rfl (Q.move_d rfl) ?_
      refine XOps.s rfl rfl rfl (Q.neq rfl rfl) ?_
      refine XOps.nil ?_
      refine W.cond rfl (fun hc14 => ?_) (fun hc14 => ?_)
      · try simp only [Bool.or_eq_true, Bool.or_eq_false_iff, Bool.and_eq_true, Bool.and_eq_false_iff, decide_eq_true_eq, decide_eq_false_iff_not, Bool.not_eq_true', Bool.not_eq_false', Int.not_lt, Int.not_le, List.length_map, slN] at hc14
        have hr : orI a b = x := by
          unfold orI
          rcases (show k = 0 ∨ k = 1 by omega) with h | h
          · rw [← hxa h, if_pos (by omega)]
          · rw [if_neg (by have := hI.2.1; omega), hxb h]
        refine W.reg ?_
        refine XOps.s rfl rfl rfl (Q.move_d rfl) ?_
        refine XOps.s rfl rfl rfl (Q.assign_d rfl) ?_
        refine XOps.nil ?_
        refine W.ret ?_
        refine ⟨_, hs, rfl, by repeat (first | exact HLe.refl _ | refine HLe.cons' (by first | rfl | (simp [Ev.enc, nE]; done)) ?_ | refine HLe.pick 1 rfl (by first | rfl | (simp [Ev.enc, nE]; done)) ?_ | refine HLe.pick 2 rfl (by first | rfl | (simp [Ev.enc, nE]; done)) ?_ | refine HLe.pick 3 rfl (by first | rfl | (simp [Ev.enc, nE]; done)) ?_ | refine HLe.pick 4 rfl (by first | rfl | (simp [Ev.enc, nE]; done)) ?_ | refine HLe.pick 5 rfl (by first | rfl | (simp [Ev.enc, nE]; done)) ?_ | refine HLe.skip _ ?_), ?_, rfl⟩
        rw [hr]; rfl
      · try simp only [Bool.or_eq_true, Bool.or_eq_false_iff, Bool.and_eq_true, Bool.and_eq_false_iff, decide_eq_true_eq, decide_eq_false_iff_not, Bool.not_eq_true', Bool.not_eq_false', Int.not_lt, Int.not_le, List.length_map, slN] at hc14
        refine W.skip ?_
        refine W.region ?_
        refine XOps.s rfl rfl rfl (Q.add rfl rfl (wi64 (by first | omega | (dsimp only; omega) | (simp only [List.length_map]; omega)) (by first | omega | (dsimp only; omega) | (simp only [List.length_map]; omega)))) ?_
        refine XOps.s rfl rfl rfl (Q.move_d rfl) ?_
        refine XOps.nil ?_
        refine ⟨k + 1, ?_, ?_, ?_, ?_⟩
        · refine ⟨by omega, fun h => ?_, fun h => ?_⟩
          · rcases (show k = 0 ∨ 0 < k by omega) with h2 | h2
            · rw [← hxa h2]; omega
            · exact hI.2.1 h2
          · rw [← hxb (by omega)]; omega
        · omega
        · exact ⟨by first | rfl | exact int_eq (by omega) | exact len_eq (by simp) | exact int_eq (by simp; done), by first | rfl | exact int_eq (by omega) | exact len_eq (by simp) | exact int_eq (by simp; done), by first | rfl | exact int_eq (by omega) | exact len_eq (by simp) | exact int_eq (by simp; done), by first | rfl | exact int_eq (by omega) | exact len_eq (by simp) | exact int_eq (by simp; done), by first | rfl | exact int_eq (by omega) | exact len_eq (by simp) | exact int_eq (by simp; done), trivial⟩
        · repeat (first | exact HLe.refl _ | refine HLe.cons' (by first | rfl | (simp [Ev.enc, nE]; done)) ?_ | refine HLe.pick 1 rfl (by first | rfl | (simp [Ev.enc, nE]; done)) ?_ | refine HLe.pick 2 rfl (by first | rfl | (simp [Ev.enc, nE]; done)) ?_ | refine HLe.pick 3 rfl (by first | rfl | (simp [Ev.enc, nE]; done)) ?_ | refine HLe.pick 4 rfl (by first | rfl | (simp [Ev.enc, nE]; done)) ?_ | refine HLe.pick 5 rfl (by first | rfl | (simp [Ev.enc, nE]; done)) ?_ | refine HLe.skip _ ?_)
    · try simp only [Bool.or_eq_true, Bool.or_eq_false_iff, Bool.and_eq_true, Bool.and_eq_false_iff, decide_eq_true_eq, decide_eq_false_iff_not, Bool.not_eq_true', Bool.not_eq_false', Int.not_lt, Int.not_le, List.length_map, slN] at hc9
      have hk2 : k = 2 := by omega
      have hr : orI a b = 0 := by unfold orI; rw [if_neg (by have := hI.2.1; omega)]; exact hI.2.2 (by omega)
      refine W.exit ?_
      refine W.reg ?_
      refine XOps.s rfl rfl rfl (Q.move_d rfl) ?_
      refine XOps.s rfl rfl rfl (Q.assign_d rfl) ?_
      refine XOps.nil ?_
      refine W.ret ?_
      refine ⟨_, hs, rfl, by repeat (first | exact HLe.refl _ | refine HLe.cons' (by first | rfl | (simp [Ev.enc, nE]; done)) ?_ | refine HLe.pick 1 rfl (by first | rfl | (simp [Ev.enc, nE]; done)) ?_ | refine HLe.pick 2 rfl (by first | rfl | (simp [Ev.enc, nE]; done)) ?_ | refine HLe.pick 3 rfl (by first | rfl | (simp [Ev.enc, nE]; done)) ?_ | refine HLe.pick 4 rfl (by first | rfl | (simp [Ev.enc, nE]; done)) ?_ | refine HLe.pick 5 rfl (by first | rfl | (simp [Ev.enc, nE]; done)) ?_ | refine HLe.skip _ ?_), ?_, rfl⟩
      rw [hr]; rfl

set_option maxHeartbeats 1000000 in
set_option maxRecDepth 100000 in
theorem ord1_c (l : List Ev) (i j : Nat) (hs : Hp) (hi : i < l.length) (hj : j < l.length) (hL : l.length ≤ 200) : AC P 24 [.d (.int .i64 (i : Nat)), .d (.int .i64 (j : Nat)), .dp [.sl 1 ((lamS l).map nE)], .dp [.sl 3 (l.map Ev.enc)]] hs (fun r h => r = .d (.int .i64 (cmpO l i j)) ∧ h = hs) := by
  have hll := lamS_len l
  obtain ⟨x, hx⟩ : ∃ x, l[i]? = some x := ⟨_, List.getElem?_eq_getElem hi⟩
  obtain ⟨y, hy⟩ : ∃ y, l[j]? = some y := ⟨_, List.getElem?_eq_getElem hj⟩
  obtain ⟨n, hn⟩ : ∃ n, (lamS l)[i]? = some n := ⟨_, List.getElem?_eq_getElem (by omega)⟩
  obtain ⟨m, hm⟩ : ∃ m, (lamS l)[j]? = some m := ⟨_, List.getElem?_eq_getElem (by omega)⟩
  have hr : cmpO l i j = orI (cmpI n m) (cmpI x.site y.site) := by unfold cmpO siteAt; rw [getD_at hx, getD_at hy, getD_at hn, getD_at hm]
  refine AC.of 29 Try.func24 rfl rfl rfl ?_
  refine W.reg ?_
  refine XOps.s rfl rfl rfl (Q.assign_d rfl) ?_
  refine XOps.nil ?_
  refine W.drawreg 22 follows (by kernel_rfl) ?_
  refine Chain.cons _ (GQ.q rfl (Q.ld_dp ag22 rfl rfl)) rfl ?_
  refine Chain.cons _ (GQ.q rfl (Q.move_d rfl)) rfl ?_
  refine Chain.cons _ (GQ.q rfl (Q.idx_sl sl22 (by decide) rfl rfl (by first | omega | (simp only [List.length_map]; omega)) (by first | exact map_at hn | exact map_at hm | exact map_at hx | exact map_at hy))) rfl ?_
  refine Chain.cons _ (GQ.q rfl (Q.ld_dp ag3 rfl rfl)) rfl ?_
  refine Chain.cons _ (GQ.q rfl (Q.ld_dp ag22 rfl rfl)) rfl ?_
  refine Chain.cons _ (GQ.q rfl (Q.move_d rfl)) rfl ?_
  refine Chain.cons _ (GQ.q rfl (Q.idx_sl sl22 (by decide) rfl rfl (by first | omega | (simp only [List.length_map]; omega)) (by first | exact map_at hn | exact map_at hm | exact map_at hx | exact map_at hy))) rfl ?_
  refine Chain.cons _ (GQ.q rfl (Q.ld_dp ag3 rfl rfl)) rfl ?_
  refine Chain.cons _ (GQ.q rfl (Q.call rfl Try.func26 go26 rfl (cmpI_c n m _))) rfl ?_
  refine Chain.cons _ (GQ.q rfl (Q.ld_dp ag23 rfl rfl)) rfl ?_
  refine Chain.cons _ (GQ.q rfl (Q.move_d rfl)) rfl ?_
  refine Chain.cons _ (GQ.q rfl (Q.idx_sl sl23 (by decide) rfl rfl (by first | omega | (simp only [List.length_map]; omega)) (by first | exact map_at hn | exact map_at hm | exact map_at hx | exact map_at hy))) rfl ?_
  refine Chain.cons _ (GQ.q rfl (Q.fld_dp fl26_0 rfl)) rfl ?_
  refine Chain.cons _ (GQ.q rfl (Q.ld_dp ag3 rfl rfl)) rfl ?_
  refine Chain.cons _ (GQ.q rfl (Q.ld_dp ag23 rfl rfl)) rfl ?_
  refine Chain.cons _ (GQ.q rfl (Q.move_d rfl)) rfl ?_
  refine Chain.cons _ (GQ.q rfl (Q.idx_sl sl23 (by decide) rfl rfl (by first | omega | (simp only [List.length_map]; omega)) (by first | exact map_at hn | exact map_at hm | exact map_at hx | exact map_at hy))) rfl ?_
  refine Chain.cons _ (GQ.q rfl (Q.fld_dp fl26_0 rfl)) rfl ?_
  refine Chain.cons _ (GQ.q rfl (Q.ld_dp ag3 rfl rfl)) rfl ?_
  refine Chain.cons _ (GQ.q rfl (Q.call rfl Try.func26 go26 rfl (cmpI_c x.site y.site _))) rfl ?_
  refine Chain.cons _ (GQ.q rfl (Q.bsl sl22 (by decide) zr22 rfl zrd22 (by decide) rfl rfl)) rfl ?_
  refine Chain.cons _ (GQ.q rfl (Q.call rfl Try.func25 go25 rfl (or2_c (cmpI n m) (cmpI x.site y.site) _))) rfl ?_
  refine Chain.nil ?_
  refine XOps.s rfl rfl rfl (Q.assign_d rfl) ?_
  refine XOps.nil ?_
  refine W.ret ?_
  refine ⟨_, hs, rfl, by repeat (first | exact HLe.refl _ | refine HLe.cons' (by first | rfl | (simp [Ev.enc, nE]; done)) ?_ | refine HLe.pick 1 rfl (by first | rfl | (simp [Ev.enc, nE]; done)) ?_ | refine HLe.pick 2 rfl (by first | rfl | (simp [Ev.enc, nE]; done)) ?_ | refine HLe.pick 3 rfl (by first | rfl | (simp [Ev.enc, nE]; done)) ?_ | refine HLe.pick 4 rfl (by first | rfl | (simp [Ev.enc, nE]; done)) ?_ | refine HLe.pick 5 rfl (by first | rfl | (simp [Ev.enc, nE]; done)) ?_ | refine HLe.skip _ ?_), ?_, rfl⟩
  rw [hr]; rfl

def rg (k : Nat) : List Int := (List.range k).map fun n : Nat => (n : Int)
theorem rg_len (k : Nat) : (rg k).length = k := by simp [rg]
theorem rg_succ (k : Nat) : rg (k + 1) = rg k ++ [(k : Int)] := by simp [rg, List.range_succ]
theorem rg_at {n k : Nat} (h : k < n) : (rg n)[k]? = some (k : Int) := by unfold rg; rw [List.getElem?_map, List.getElem?_range h]; rfl
theorem swo_ord (l : List Ev) : Go.Sort.SWO (Go.Proofs.ltOf fun x y : {i : Nat // i < l.length} => cmpO l x.1 y.1) where
  irrefl x := decide_eq_false (by rw [cmpO_lt]; omega)
  trans x y z h1 h2 := by
    have a := (cmpO_lt l x.1 y.1).1 (of_decide_eq_true h1)
    have b := (cmpO_lt l y.1 z.1).1 (of_decide_eq_true h2)
    exact decide_eq_true ((cmpO_lt l x.1 z.1).2 (by omega))
  ntrans x y z h1 h2 := by
    have a := mt (cmpO_lt l x.1 y.1).2 (of_decide_eq_false h1)
    have b := mt (cmpO_lt l y.1 z.1).2 (of_decide_eq_false h2)
    exact decide_eq_false (fun h => by have := (cmpO_lt l x.1 z.1).1 h; omega)
theorem sortO_c (l : List Ev) (hL : l.length ≤ 200) (v b4 b1 : Nat) (hs : Hp) : AC P 23 [.vs v 0 l.length 1, .fn 24 [.ptr b4 0, .ptr b1 0]] ((v, .lst 1 ((rg l.length).map nE)) :: (b4, .cells [.d (.sl 1 ((lamS l).map nE))]) :: (b1, .cells [.d (.sl 3 (l.map Ev.enc))]) :: hs)
    (fun r h => r = .tup [] ∧ ∃ o, ordOk l o ∧ h = (v, .lst 1 (o.map nE)) :: (b4, .cells [.d (.sl 1 ((lamS l).map nE))]) :: (b1, .cells [.d (.sl 3 (l.map Ev.enc))]) :: hs) := by
  rcases Nat.eq_zero_or_pos l.length with h0 | h0
  · have e : l = [] := List.eq_nil_of_length_eq_zero h0
    subst e
    exact (AC.sort0 (P := P) Try.sortF).mono fun r h ⟨h1, h2⟩ => ⟨h1, [], ⟨[], List.Perm.refl _, rfl, fun i j x y _ h => by simp at h⟩, h2⟩
  · haveI : Inhabited {i : Nat // i < l.length} := ⟨⟨0, h0⟩⟩
    let m : List {i : Nat // i < l.length} := (List.range l.length).attach.map fun x => ⟨x.1, List.mem_range.1 x.2⟩
    have e2 : m.map (·.1) = List.range l.length := by
      show ((List.range l.length).attach.map _).map _ = _
      rw [List.map_map]
      exact List.attach_map_subtype_val _
    have e0 : m.length = l.length := by rw [← List.length_map (f := fun x : {i : Nat // i < l.length} => x.1), e2, List.length_range]
    have e1 : ∀ s : List {i : Nat // i < l.length}, s.map (one1 fun x => .int .i64 (x.1 : Nat)) = ((s.map (·.1)).map fun n : Nat => (n : Int)).map nE := fun s => by rw [List.map_map, List.map_map]; rfl
    have h := AC.sort1 (P := P) Try.sortF (f := fun x : {i : Nat // i < l.length} => .int .i64 (x.1 : Nat)) (fun _ => rfl) (fun x y => cmpO l x.1 y.1) (swo_ord l) Try.func24 go24 (caps := [.ptr b4 0, .ptr b1 0]) (capsB := [.dp [.sl 1 ((lamS l).map nE)], .dp [.sl 3 (l.map Ev.enc)]])
      (hs := (b4, .cells [.d (.sl 1 ((lamS l).map nE))]) :: (b1, .cells [.d (.sl 3 (l.map Ev.enc))]) :: hs) (id := v) (fun _ => .cons (.ptr 1 rfl (.cons (.d _) rfl (.nil _))) (.cons (.ptr 2 rfl (.cons (.d _) rfl (.nil _))) .nil)) (fun x y => ord1_c l x.1 y.1 [] x.2 y.2 hL) m (fun he => by rw [he] at e0; simp at e0; omega) (by omega)
    rw [e1, e2, e0] at h
    refine h.mono ?_
    rintro r h' ⟨rfl, s, hp, hsd, rfl⟩
    rw [e1]
    refine ⟨rfl, _, ⟨s.map (·.1), by rw [← e2]; exact hp.map _, rfl, fun i j x y hij hx hy => ?_⟩, rfl⟩
    rw [List.getElem?_map] at hx hy
    obtain ⟨x', hx', rfl⟩ := Option.map_eq_some_iff.1 hx
    obtain ⟨y', hy', rfl⟩ := Option.map_eq_some_iff.1 hy
    exact hsd i j x' y' hij hx' hy'

set_option maxHeartbeats 1000000 in
set_option maxRecDepth 100000 in
theorem order_own (l : List Ev) (hs : Hp) (hl : l.length ≤ 4611686018427387904) : AC P 17 [.d (.sl 3 (l.map Ev.enc))] hs (fun r h => ∃ (v : Nat) (o : List Int), r = .tup [.vs v 0 o.length 1, .d (.int .i64 (checkS l))] ∧ (checkS l = 0 → ordOk l o) ∧ (checkS l ≠ 0 → o = []) ∧ h = (v, .lst 1 (o.map nE)) :: hs) := by
  refine AC.of 30 Try.func17 rfl rfl rfl ?_
  refine W.reg ?_
  refine XOps.loud rfl (L.box rfl rfl rfl) ?_
  rintro _ _ ⟨b1, rfl, rfl⟩
  refine XOps.s rfl rfl rfl (Q.assign_nilsl rfl) ?_
  refine XOps.s rfl rfl rfl (Q.assign_d rfl) ?_
  refine XOps.nil ?_
  refine W.reg ?_
  refine XOps.s rfl rfl rfl (Q.ld_ptr (k := 0) ag23 rfl rfl rfl) ?_
  refine XOps.s rfl rfl rfl (Q.call rfl Try.func12 go12 rfl (lamport_c l _ hl)) ?_
  refine XOps.s rfl rfl rfl (Q.move_tup rfl) ?_
  refine XOps.s rfl rfl rfl (Q.extract rfl rfl) ?_
  refine XOps.s rfl rfl rfl (Q.extract rfl rfl) ?_
  (refine XOps.loud rfl (L.alloc tz22 rfl rfl) ?_; rintro _ _ ⟨b4, rfl, rfl⟩)
  refine XOps.loud rfl (L.store (k := 0) ag22 rfl rfl rfl rfl rfl) ?_
  rintro _ _ ⟨rfl, rfl⟩
  refine XOps.s rfl rfl rfl (Q.assign_d rfl) ?_
  refine XOps.nil ?_
  refine W.seq ?_
  refine W.reg ?_
  refine XOps.s rfl rfl rfl (Q.move_d rfl) ?_
  refine XOps.s rfl rfl rfl (Q.neq rfl rfl) ?_
  refine XOps.nil ?_
  refine W.cond rfl (fun hc14 => ?_) (fun hc14 => ?_)
  · try simp only [Bool.or_eq_true, Bool.or_eq_false_iff, Bool.and_eq_true, Bool.and_eq_false_iff, decide_eq_true_eq, decide_eq_false_iff_not, Bool.not_eq_true', Bool.not_eq_false', Int.not_lt, Int.not_le, List.length_map, slN] at hc14
    refine W.reg ?_
    refine XOps.s rfl rfl rfl (Q.move_d rfl) ?_
    refine XOps.s rfl rfl rfl (Q.assign_nilsl rfl) ?_
    refine XOps.s rfl rfl rfl (Q.assign_d rfl) ?_
    refine XOps.nil ?_
    refine W.ghost 2 1 (by decide) rfl rfl (fun v2 => ?_)
    refine W.ret ?_
    exact ⟨_, (v2, .lst 1 []) :: hs, rfl, HLe.cons _ (HLe.skip _ (HLe.skip _ (HLe.refl _))), v2, [], rfl, fun h => absurd h hc14, fun _ => rfl, rfl⟩
  · try simp only [Bool.or_eq_true, Bool.or_eq_false_iff, Bool.and_eq_true, Bool.and_eq_false_iff, decide_eq_true_eq, decide_eq_false_iff_not, Bool.not_eq_true', Bool.not_eq_false', Int.not_lt, Int.not_le, List.length_map, slN] at hc14
    have hc0 : checkS l = 0 := by omega
    have hE : lamE l = lamS l := by unfold lamE; rw [if_pos hc0]
    have hw := WF.of hc0
    have hln := hw.len
    rw [hE, hc0]
    refine W.skip ?_
    refine W.reg ?_
    refine XOps.s rfl rfl rfl (Q.assign_nilsl rfl) ?_
    refine XOps.nil ?_
    refine W.ghost 6 1 (by decide) rfl rfl (fun v6 => ?_)
    refine W.seq ?_
    refine W.reg ?_
    refine XOps.s rfl rfl rfl (Q.ld_ptr (k := 2) ag23 rfl rfl rfl) ?_
    refine XOps.s rfl rfl rfl (Q.len_sl isl23 rfl) ?_
    refine XOps.s rfl rfl rfl (Q.move_d rfl) ?_
    refine XOps.nil ?_
    refine W.block ?_
    refine W.loop (ι := Nat × Nat) (fun p => [(1, .ptr b1 0), (4, .ptr b4 0), (6, .vs p.2 0 p.1 1), (17, .d (.int .i64 l.length)), (18, .d (.int .i64 (p.1 : Nat)))]) (fun p => (p.2, .lst 1 ((rg p.1).map nE)) :: (b4, .cells [.d (.sl 1 ((lamS l).map nE))]) :: (b1, .cells [.d (.sl 3 (l.map Ev.enc))]) :: hs) (fun p => p.1 ≤ l.length) (fun p => l.length - p.1) (0, v6) ?_ ?_ ?_ ?_
    · exact Nat.zero_le _
    · exact ⟨by first | rfl | exact int_eq (by omega) | exact len_eq (by simp) | exact int_eq (by simp; done), by first | rfl | exact int_eq (by omega) | exact len_eq (by simp) | exact int_eq (by simp; done), by first | rfl | exact int_eq (by omega) | exact len_eq (by simp) | exact int_eq (by simp; done), by first | rfl | exact int_eq (by omega) | exact len_eq (by simp) | exact int_eq (by simp; done), by first | rfl | exact int_eq (by omega) | exact len_eq (by simp) | exact int_eq (by simp; done), trivial⟩
    · repeat (first | exact HLe.refl _ | refine HLe.cons' (by first | rfl | (simp [Ev.enc, nE]; done)) ?_ | refine HLe.pick 1 rfl (by first | rfl | (simp [Ev.enc, nE]; done)) ?_ | refine HLe.pick 2 rfl (by first | rfl | (simp [Ev.enc, nE]; done)) ?_ | refine HLe.pick 3 rfl (by first | rfl | (simp [Ev.enc, nE]; done)) ?_ | refine HLe.pick 4 rfl (by first | rfl | (simp [Ev.enc, nE]; done)) ?_ | refine HLe.pick 5 rfl (by first | rfl | (simp [Ev.enc, nE]; done)) ?_ | refine HLe.skip _ ?_)
    · rintro ⟨k, v⟩ hk
      try dsimp only at hk ⊢
      refine W.reg ?_
      refine XOps.s rfl rfl rfl (Q.lss rfl rfl) ?_
      refine XOps.nil ?_
      refine W.seq ?_
      refine W.cond rfl (fun hc19 => ?_) (fun hc19 => ?_)
      · try simp only [Bool.or_eq_true, Bool.or_eq_false_iff, Bool.and_eq_true, Bool.and_eq_false_iff, decide_eq_true_eq, decide_eq_false_iff_not, Bool.not_eq_true', Bool.not_eq_false', Int.not_lt, Int.not_le, List.length_map, slN] at hc19
        refine W.skip ?_
        refine W.seq ?_
        refine W.block ?_
        refine W.reg ?_
        refine XOps.s rfl rfl rfl (Q.move_d rfl) ?_
        refine XOps.s rfl rfl rfl (Q.assign_d rfl) ?_
        refine XOps.nil ?_
        refine W.region ?_
        refine XOps.s rfl rfl rfl (Q.move_vs rfl) ?_
        refine XOps.s rfl rfl rfl (Q.move_d rfl) ?_
        refine XOps.s rfl rfl rfl (Q.bsl1 sl22 zr22 rfl zrd22 rfl rfl) ?_
        (refine XOps.loud rfl (L.app (k := 0) ap22 rfl rfl (by simp [rg_len]) rfl (by simp [rg_len]; omega) rfl) ?_; rintro _ _ ⟨v24, rfl, rfl⟩)
        refine XOps.s rfl rfl rfl (Q.assign_vs rfl) ?_
        refine XOps.nil ?_
        refine W.region ?_
        refine XOps.s rfl rfl rfl (Q.add rfl rfl (wi64 (by first | omega | (dsimp only; omega) | (simp only [List.length_map]; omega)) (by first | omega | (dsimp only; omega) | (simp only [List.length_map]; omega)))) ?_
        refine XOps.s rfl rfl rfl (Q.move_d rfl) ?_
        refine XOps.nil ?_
        refine ⟨(k + 1, v24), ?_, ?_, ?_, ?_⟩
        · dsimp only; omega
        · dsimp only; omega
        · exact ⟨by first | rfl | exact int_eq (by omega) | exact len_eq (by simp) | exact int_eq (by simp; done), by first | rfl | exact int_eq (by omega) | exact len_eq (by simp) | exact int_eq (by simp; done), by (show AV.vs v24 0 _ 1 = AV.vs v24 0 (k + 1) 1; exact vs_eq (by simp [rg_len])), by first | rfl | exact int_eq (by omega) | exact len_eq (by simp) | exact int_eq (by simp; done), by exact int_eq (by dsimp only; omega), trivial⟩
        · exact HLe.cons' (by rw [rg_succ, List.map_append]; rfl) (HLe.refl _)
      · try simp only [Bool.or_eq_true, Bool.or_eq_false_iff, Bool.and_eq_true, Bool.and_eq_false_iff, decide_eq_true_eq, decide_eq_false_iff_not, Bool.not_eq_true', Bool.not_eq_false', Int.not_lt, Int.not_le, List.length_map, slN] at hc19
        obtain rfl : k = l.length := by omega
        refine W.exit ?_
        refine W.reg ?_
        refine XOps.s rfl rfl rfl (Q.move_vs rfl) ?_
        refine XOps.s rfl rfl rfl (Q.mkfn rfl) ?_
        (refine XOps.loud rfl (L.call rfl Try.func23 go23 rfl (sortO_c l hln v b4 b1 hs) rfl) ?_; rintro _ _ ⟨_, rfl, rfl, o, hoo, rfl⟩)
        refine XOps.nil ?_
        refine W.reg ?_
        refine XOps.s rfl rfl rfl (Q.move_vs rfl) ?_
        refine XOps.s rfl rfl rfl (Q.assign_vs rfl) ?_
        refine XOps.s rfl rfl rfl (Q.assign_d rfl) ?_
        refine XOps.nil ?_
        refine W.ret ?_
        exact ⟨_, (v, .lst 1 (o.map nE)) :: hs, rfl, HLe.cons _ (HLe.skip _ (HLe.skip _ (HLe.refl _))), v, o, by rw [ord_len hoo]; rfl, fun _ => hoo, fun h => absurd rfl h, rfl⟩

theorem sortN_c (o : List Int) (hn : o.length ≤ 1000) (v : Nat) (hs : Hp) : AC P 19 [.vs v 0 o.length 1] ((v, .lst 1 (o.map nE)) :: hs) (fun r h => r = .tup [] ∧ h = (v, .lst 1 ((o.mergeSort fun x y => decide (x ≤ y)).map nE)) :: hs) := by
  rcases Nat.eq_zero_or_pos o.length with h0 | h0
  · have e : o = [] := List.eq_nil_of_length_eq_zero h0
    subst e
    exact (AC.sortN0 (P := P) Try.sortN).mono fun r h ⟨h1, h2⟩ => ⟨h1, by rw [h2]; simp⟩
  · exact AC.sortN (P := P) Try.sortN o (List.length_pos_iff.1 h0) (by omega)

set_option maxHeartbeats 1000000 in
set_option maxRecDepth 100000 in
theorem orderL_c (l : List Ev) (hs : Hp) (hL : l.length ≤ 140737488351232) : AC P 7 [.d (.sl 3 (l.map Ev.enc))] hs (fun r _ => r = .d (.bool true)) := by
  refine AC.of 76 Try.func7 rfl rfl rfl ?_
  refine W.reg ?_
  refine XOps.s rfl rfl rfl (Q.assign_d rfl) ?_
  refine XOps.nil ?_
  refine W.reg ?_
  refine XOps.s rfl rfl rfl (Q.move_d rfl) ?_
  refine XOps.s rfl rfl rfl (Q.move_d rfl) ?_
  refine XOps.s rfl rfl rfl (Q.len_sl isl23 rfl) ?_
  refine XOps.s rfl rfl rfl (Q.mini rfl rfl) ?_
  refine XOps.s rfl rfl rfl (Q.cut_slm sl23 rfl rfl rfl (by omega) (by omega) (by simp; omega)) ?_
  refine XOps.s rfl rfl rfl (Q.assign_d rfl) ?_
  refine XOps.nil ?_
  have hcl : ((l.take (min (((l.map Ev.enc).length : Nat) : Int) 25).toNat).drop (0 : Int).toNat).length ≤ 25 := by simp; omega
  generalize ((l.take (min (((l.map Ev.enc).length : Nat) : Int) 25).toNat).drop (0 : Int).toNat) = c at hcl ⊢
  refine W.reg ?_
  refine XOps.s rfl rfl rfl (Q.move_d rfl) ?_
  (refine XOps.loud rfl (L.call rfl Try.func17 go17 rfl (order_own c hs (by omega)) rfl) ?_; rintro _ _ ⟨_, rfl, v, o, rfl, hok, hbad, rfl⟩)
  refine XOps.s rfl rfl rfl (Q.move_tup rfl) ?_
  refine XOps.s rfl rfl rfl (Q.extract rfl rfl) ?_
  refine XOps.s rfl rfl rfl (Q.extract rfl rfl) ?_
  refine XOps.s rfl rfl rfl (Q.assign_vs rfl) ?_
  refine XOps.s rfl rfl rfl (Q.assign_d rfl) ?_
  refine XOps.nil ?_
  refine W.seq ?_
  refine W.reg ?_
  refine XOps.s rfl rfl rfl (Q.move_d rfl) ?_
  refine XOps.s rfl rfl rfl (Q.neq rfl rfl) ?_
  refine XOps.nil ?_
  refine W.cond rfl (fun hc21 => ?_) (fun hc21 => ?_)
  · try simp only [Bool.or_eq_true, Bool.or_eq_false_iff, Bool.and_eq_true, Bool.and_eq_false_iff, decide_eq_true_eq, decide_eq_false_iff_not, Bool.not_eq_true', Bool.not_eq_false', Int.not_lt, Int.not_le, List.length_map, slN] at hc21
    have hnil := hbad (by omega)
    subst hnil
    refine W.reg ?_
    refine XOps.s rfl rfl rfl (Q.call rfl Try.func9 go9 rfl (fact_c _)) ?_
    refine XOps.s rfl rfl rfl (Q.move_d rfl) ?_
    refine XOps.gs rfl rfl rfl rfl rfl rfl rfl (fun hg => Q.move_vs rfl) ?_
    refine XOps.gs rfl rfl rfl rfl rfl rfl rfl (fun hg => Quiet.open 24 hg rfl (Q.len_vs isl22 rfl)) ?_
    refine XOps.gs rfl rfl rfl rfl rfl rfl rfl (fun hg => Quiet.open 25 hg rfl (Q.eql rfl rfl)) ?_
    refine XOps.s rfl rfl rfl (Q.pick_and rfl rfl rfl (fun h => by first | (rw [h]; rfl) | (rw [hg, h]; rfl) | (simp [h, hg]; done))) ?_
    refine XOps.s rfl rfl rfl (Q.assign_d rfl) ?_
    refine XOps.nil ?_
    refine W.ret ?_
    exact ⟨_, _, rfl, HLe.refl _, rfl⟩
  · try simp only [Bool.or_eq_true, Bool.or_eq_false_iff, Bool.and_eq_true, Bool.and_eq_false_iff, decide_eq_true_eq, decide_eq_false_iff_not, Bool.not_eq_true', Bool.not_eq_false', Int.not_lt, Int.not_le, List.length_map, slN] at hc21
    refine W.skip ?_
    have hc0 : checkS c = 0 := by omega
    have hoo := hok hc0
    have hol := ord_len hoo
    have hw := WF.of hc0
    refine W.freeze 3 0 rfl rfl (by simp) ?_
    refine W.reg ?_
    refine XOps.s rfl rfl rfl (Q.move_d rfl) ?_
    (refine XOps.loud rfl (L.call rfl Try.func18 go18 rfl (cloneN_c o _ (by omega)) rfl) ?_; rintro _ _ ⟨_, rfl, v5, rfl, rfl⟩)
    refine XOps.s rfl rfl rfl (Q.assign_vs rfl) ?_
    refine XOps.nil ?_
    refine W.reg ?_
    refine XOps.s rfl rfl rfl (Q.move_vs rfl) ?_
    (refine XOps.loud rfl (L.call rfl Try.func19 go19 rfl (sortN_c o (by omega) v5 _) rfl) ?_; rintro _ _ ⟨_, rfl, rfl, rfl⟩)
    refine XOps.nil ?_
    refine W.freeze 5 0 rfl rfl (by simp [List.length_mergeSort]) ?_
    rw [ord_sorted hoo]
    refine W.seq ?_
    refine W.reg ?_
    refine XOps.s rfl rfl rfl (Q.call rfl Try.func9 go9 rfl (fact_c _)) ?_
    refine XOps.s rfl rfl rfl (Q.not rfl) ?_
    refine XOps.s rfl rfl rfl (Q.move_d rfl) ?_
    refine XOps.gs rfl rfl rfl rfl rfl rfl rfl (fun hg => Q.move_d rfl) ?_
    refine XOps.gs rfl rfl rfl rfl rfl rfl rfl (fun hg => Quiet.open 35 hg rfl (Q.len_sl isl22 rfl)) ?_
    refine XOps.gs rfl rfl rfl rfl rfl rfl rfl (fun hg => Q.move_d rfl) ?_
    refine XOps.gs rfl rfl rfl rfl rfl rfl rfl (fun hg => Quiet.open 37 hg rfl (Q.len_sl isl23 rfl)) ?_
    refine XOps.gs rfl rfl rfl rfl rfl rfl rfl (fun hg => Quiet.open 36 hg rfl (Quiet.open 38 hg rfl (Q.neq rfl rfl))) ?_
    refine XOps.s rfl rfl rfl (Q.pick_or rfl rfl rfl (fun h => by first | (rw [h]; rfl) | (rw [hg, h]; rfl) | (simp [h, hg]; done))) ?_
    refine XOps.nil ?_
    refine W.cond rfl (fun hc40 => ?_) (fun hc40 => ?_)
    · try simp only [Bool.or_eq_true, Bool.or_eq_false_iff, Bool.and_eq_true, Bool.and_eq_false_iff, decide_eq_true_eq, decide_eq_false_iff_not, Bool.not_eq_true', Bool.not_eq_false', Int.not_lt, Int.not_le, List.length_map, slN] at hc40
      exfalso
      simp [hol] at hc40 --done
    · try simp only [Bool.or_eq_true, Bool.or_eq_false_iff, Bool.and_eq_true, Bool.and_eq_false_iff, decide_eq_true_eq, decide_eq_false_iff_not, Bool.not_eq_true', Bool.not_eq_false', Int.not_lt, Int.not_le, List.length_map, slN] at hc40
      refine W.skip ?_
      refine W.seq ?_
      refine W.reg ?_
      refine XOps.s rfl rfl rfl (Q.move_d rfl) ?_
      refine XOps.s rfl rfl rfl (Q.len_sl isl22 rfl) ?_
      refine XOps.s rfl rfl rfl (Q.move_d rfl) ?_
      refine XOps.nil ?_
      refine W.block ?_
      refine W.loop (ι := Nat) (fun i => [(0, .d (.sl 3 (c.map Ev.enc))), (3, .d (.sl 1 (o.map nE))), (5, .d (.sl 1 ((rg c.length).map nE))), (41, .d (.sl 1 (o.map nE))), (42, .d (.int .i64 o.length)), (43, .d (.int .i64 (i : Nat)))]) (fun i => hs) (fun i => i ≤ c.length) (fun i => c.length - i) 0 ?_ ?_ ?_ ?_
      · exact Nat.zero_le _
      · exact ⟨by first | rfl | exact int_eq (by omega) | exact len_eq (by simp) | exact int_eq (by simp; done), by first | rfl | exact int_eq (by omega) | exact len_eq (by simp) | exact int_eq (by simp; done), by first | rfl | exact int_eq (by omega) | exact len_eq (by simp) | exact int_eq (by simp; done), by first | rfl | exact int_eq (by omega) | exact len_eq (by simp) | exact int_eq (by simp; done), by first | rfl | exact int_eq (by omega) | exact len_eq (by simp) | exact int_eq (by simp; done), by first | rfl | exact int_eq (by omega) | exact len_eq (by simp) | exact int_eq (by simp; done), trivial⟩
      · repeat (first | exact HLe.refl _ | refine HLe.cons' (by first | rfl | (simp [Ev.enc, nE]; done)) ?_ | refine HLe.pick 1 rfl (by first | rfl | (simp [Ev.enc, nE]; done)) ?_ | refine HLe.pick 2 rfl (by first | rfl | (simp [Ev.enc, nE]; done)) ?_ | refine HLe.pick 3 rfl (by first | rfl | (simp [Ev.enc, nE]; done)) ?_ | refine HLe.pick 4 rfl (by first | rfl | (simp [Ev.enc, nE]; done)) ?_ | refine HLe.pick 5 rfl (by first | rfl | (simp [Ev.enc, nE]; done)) ?_ | refine HLe.skip _ ?_)
      · rintro i hi
        try dsimp only
        refine W.reg ?_
        refine XOps.s rfl rfl rfl (Q.lss rfl rfl) ?_
        refine XOps.nil ?_
        refine W.seq ?_
        refine W.cond rfl (fun hc44 => ?_) (fun hc44 => ?_)
        · try simp only [Bool.or_eq_true, Bool.or_eq_false_iff, Bool.and_eq_true, Bool.and_eq_false_iff, decide_eq_true_eq, decide_eq_false_iff_not, Bool.not_eq_true', Bool.not_eq_false', Int.not_lt, Int.not_le, List.length_map, slN] at hc44
          have hic : i < c.length := by simp [hol] at hc44; omega
          obtain ⟨a, hx, hal⟩ := ord_at hoo hic
          have hy := rg_at hic
          refine W.skip ?_
          refine W.seq ?_
          refine W.block ?_
          refine W.reg ?_
          refine XOps.s rfl rfl rfl (Q.move_d rfl) ?_
          refine XOps.s rfl rfl rfl (Q.assign_d rfl) ?_
          refine XOps.nil ?_
          refine W.seq ?_
          refine W.reg ?_
          refine XOps.s rfl rfl rfl (Q.move_d rfl) ?_
          refine XOps.s rfl rfl rfl (Q.move_d rfl) ?_
          refine XOps.s rfl rfl rfl (Q.idx_sl sl22 (by decide) rfl rfl (by first | omega | (simp only [List.length_map]; omega)) (by first | exact map_at hx | exact map_at hy | exact map_at hz)) ?_
          refine XOps.s rfl rfl rfl (Q.ld_dp ag3 rfl rfl) ?_
          refine XOps.s rfl rfl rfl (Q.move_d rfl) ?_
          refine XOps.s rfl rfl rfl (Q.neq rfl rfl) ?_
          refine XOps.nil ?_
          refine W.cond rfl (fun hc51 => ?_) (fun hc51 => ?_)
          · try simp only [Bool.or_eq_true, Bool.or_eq_false_iff, Bool.and_eq_true, Bool.and_eq_false_iff, decide_eq_true_eq, decide_eq_false_iff_not, Bool.not_eq_true', Bool.not_eq_false', Int.not_lt, Int.not_le, List.length_map, slN] at hc51
            exact absurd trivial hc51
          · try simp only [Bool.or_eq_true, Bool.or_eq_false_iff, Bool.and_eq_true, Bool.and_eq_false_iff, decide_eq_true_eq, decide_eq_false_iff_not, Bool.not_eq_true', Bool.not_eq_false', Int.not_lt, Int.not_le, List.length_map, slN] at hc51
            refine W.skip ?_
            refine W.reg ?_
            refine XOps.s rfl rfl rfl (Q.move_d rfl) ?_
            refine XOps.s rfl rfl rfl (Q.move_d rfl) ?_
            refine XOps.nil ?_
            refine W.block ?_
            refine W.loop (ι := Nat) (fun j => [(0, .d (.sl 3 (c.map Ev.enc))), (3, .d (.sl 1 (o.map nE))), (5, .d (.sl 1 ((rg c.length).map nE))), (6, .d (.int .i64 (i : Nat))), (41, .d (.sl 1 (o.map nE))), (42, .d (.int .i64 o.length)), (43, .d (.int .i64 (i : Nat))), (52, .d (.int .i64 (i : Nat))), (53, .d (.int .i64 (j : Nat)))]) (fun j => hs) (fun j => j ≤ i) (fun j => i - j) 0 ?_ ?_ ?_ ?_
            · exact Nat.zero_le _
            · exact ⟨by first | rfl | exact int_eq (by omega) | exact len_eq (by simp) | exact int_eq (by simp; done), by first | rfl | exact int_eq (by omega) | exact len_eq (by simp) | exact int_eq (by simp; done), by first | rfl | exact int_eq (by omega) | exact len_eq (by simp) | exact int_eq (by simp; done), by first | rfl | exact int_eq (by omega) | exact len_eq (by simp) | exact int_eq (by simp; done), by first | rfl | exact int_eq (by omega) | exact len_eq (by simp) | exact int_eq (by simp; done), by first | rfl | exact int_eq (by omega) | exact len_eq (by simp) | exact int_eq (by simp; done), by first | rfl | exact int_eq (by omega) | exact len_eq (by simp) | exact int_eq (by simp; done), by first | rfl | exact int_eq (by omega) | exact len_eq (by simp) | exact int_eq (by simp; done), by first | rfl | exact int_eq (by omega) | exact len_eq (by simp) | exact int_eq (by simp; done), trivial⟩
            · repeat (first | exact HLe.refl _ | refine HLe.cons' (by first | rfl | (simp [Ev.enc, nE]; done)) ?_ | refine HLe.pick 1 rfl (by first | rfl | (simp [Ev.enc, nE]; done)) ?_ | refine HLe.pick 2 rfl (by first | rfl | (simp [Ev.enc, nE]; done)) ?_ | refine HLe.pick 3 rfl (by first | rfl | (simp [Ev.enc, nE]; done)) ?_ | refine HLe.pick 4 rfl (by first | rfl | (simp [Ev.enc, nE]; done)) ?_ | refine HLe.pick 5 rfl (by first | rfl | (simp [Ev.enc, nE]; done)) ?_ | refine HLe.skip _ ?_)
            · rintro j hj
              try dsimp only
              refine W.reg ?_
              refine XOps.s rfl rfl rfl (Q.lss rfl rfl) ?_
              refine XOps.nil ?_
              refine W.seq ?_
              refine W.cond rfl (fun hc54 => ?_) (fun hc54 => ?_)
              · try simp only [Bool.or_eq_true, Bool.or_eq_false_iff, Bool.and_eq_true, Bool.and_eq_false_iff, decide_eq_true_eq, decide_eq_false_iff_not, Bool.not_eq_true', Bool.not_eq_false', Int.not_lt, Int.not_le, List.length_map, slN] at hc54
                have hjc : j < c.length := by omega
                obtain ⟨b, hz, hbl⟩ := ord_at hoo hjc
                have hbf := ord_bef hoo hw (show j < i by omega) hx hz
                refine W.skip ?_
                refine W.seq ?_
                refine W.block ?_
                refine W.reg ?_
                refine XOps.s rfl rfl rfl (Q.move_d rfl) ?_
                refine XOps.s rfl rfl rfl (Q.assign_d rfl) ?_
                refine XOps.nil ?_
                refine W.drawreg 14 follows (by kernel_rfl) ?_
                refine Chain.cons _ (GQ.q rfl (Q.move_d rfl)) rfl ?_
                refine Chain.cons _ (GQ.q rfl (Q.move_d rfl)) rfl ?_
                refine Chain.cons _ (GQ.q rfl (Q.move_d rfl)) rfl ?_
                refine Chain.cons _ (GQ.q rfl (Q.idx_sl sl22 (by decide) rfl rfl (by first | omega | (simp only [List.length_map]; omega)) (by first | exact map_at hx | exact map_at hy | exact map_at hz))) rfl ?_
                refine Chain.cons _ (GQ.q rfl (Q.ld_dp ag3 rfl rfl)) rfl ?_
                refine Chain.cons _ (GQ.q rfl (Q.move_d rfl)) rfl ?_
                refine Chain.cons _ (GQ.q rfl (Q.move_d rfl)) rfl ?_
                refine Chain.cons _ (GQ.q rfl (Q.idx_sl sl22 (by decide) rfl rfl (by first | omega | (simp only [List.length_map]; omega)) (by first | exact map_at hx | exact map_at hy | exact map_at hz))) rfl ?_
                refine Chain.cons _ (GQ.q rfl (Q.ld_dp ag3 rfl rfl)) rfl ?_
                refine Chain.cons _ (GQ.q rfl (Q.call rfl Try.func10 go10 rfl (before_c c a b _ hc0 hal hbl))) rfl ?_
                refine Chain.cons _ (GQ.q rfl (Q.move_tup rfl)) rfl ?_
                refine Chain.cons _ (GQ.q rfl (Q.extract rfl rfl)) rfl ?_
                refine Chain.cons _ (GQ.q rfl (Q.extract rfl rfl)) rfl ?_
                refine Chain.cons _ (GQ.q rfl (Q.assign_d rfl)) rfl ?_
                refine Chain.nil ?_
                refine XOps.s rfl rfl rfl (Q.assign_d rfl) ?_
                refine XOps.nil ?_
                refine W.reg ?_
                refine XOps.s rfl rfl rfl (Q.move_d rfl) ?_
                refine XOps.s rfl rfl rfl (Q.neq rfl rfl) ?_
                refine XOps.s rfl rfl rfl (Q.move_d rfl) ?_
                refine XOps.gs rfl rfl rfl rfl rfl rfl rfl (fun hg => Q.move_d rfl) ?_
                refine XOps.s rfl rfl rfl (Q.pick_or rfl rfl rfl (fun h => by first | (rw [h]; rfl) | (rw [hg, h]; rfl) | (simp [h, hg]; done))) ?_
                refine XOps.nil ?_
                refine W.cond rfl (fun hc73 => ?_) (fun hc73 => ?_)
                · try simp only [Bool.or_eq_true, Bool.or_eq_false_iff, Bool.and_eq_true, Bool.and_eq_false_iff, decide_eq_true_eq, decide_eq_false_iff_not, Bool.not_eq_true', Bool.not_eq_false', Int.not_lt, Int.not_le, List.length_map, slN] at hc73
                  exfalso
                  rw [hbf] at hc73
                  simp at hc73 --done
                · try simp only [Bool.or_eq_true, Bool.or_eq_false_iff, Bool.and_eq_true, Bool.and_eq_false_iff, decide_eq_true_eq, decide_eq_false_iff_not, Bool.not_eq_true', Bool.not_eq_false', Int.not_lt, Int.not_le, List.length_map, slN] at hc73
                  refine W.skip ?_
                  refine W.region ?_
                  refine XOps.s rfl rfl rfl (Q.add rfl rfl (wi64 (by first | omega | (dsimp only; omega) | (simp only [List.length_map]; omega)) (by first | omega | (dsimp only; omega) | (simp only [List.length_map]; omega)))) ?_
                  refine XOps.s rfl rfl rfl (Q.move_d rfl) ?_
                  refine XOps.nil ?_
                  refine ⟨j + 1, ?_, ?_, ?_, ?_⟩
                  · omega
                  · omega
                  · exact ⟨by first | rfl | exact int_eq (by omega) | exact len_eq (by simp) | exact int_eq (by simp; done), by first | rfl | exact int_eq (by omega) | exact len_eq (by simp) | exact int_eq (by simp; done), by first | rfl | exact int_eq (by omega) | exact len_eq (by simp) | exact int_eq (by simp; done), by first | rfl | exact int_eq (by omega) | exact len_eq (by simp) | exact int_eq (by simp; done), by first | rfl | exact int_eq (by omega) | exact len_eq (by simp) | exact int_eq (by simp; done), by first | rfl | exact int_eq (by omega) | exact len_eq (by simp) | exact int_eq (by simp; done), by first | rfl | exact int_eq (by omega) | exact len_eq (by simp) | exact int_eq (by simp; done), by first | rfl | exact int_eq (by omega) | exact len_eq (by simp) | exact int_eq (by simp; done), by first | rfl | exact int_eq (by omega) | exact len_eq (by simp) | exact int_eq (by simp; done), trivial⟩
                  · repeat (first | exact HLe.refl _ | refine HLe.cons' (by first | rfl | (simp [Ev.enc, nE]; done)) ?_ | refine HLe.pick 1 rfl (by first | rfl | (simp [Ev.enc, nE]; done)) ?_ | refine HLe.pick 2 rfl (by first | rfl | (simp [Ev.enc, nE]; done)) ?_ | refine HLe.pick 3 rfl (by first | rfl | (simp [Ev.enc, nE]; done)) ?_ | refine HLe.pick 4 rfl (by first | rfl | (simp [Ev.enc, nE]; done)) ?_ | refine HLe.pick 5 rfl (by first | rfl | (simp [Ev.enc, nE]; done)) ?_ | refine HLe.skip _ ?_)
              · try simp only [Bool.or_eq_true, Bool.or_eq_false_iff, Bool.and_eq_true, Bool.and_eq_false_iff, decide_eq_true_eq, decide_eq_false_iff_not, Bool.not_eq_true', Bool.not_eq_false', Int.not_lt, Int.not_le, List.length_map, slN] at hc54
                refine W.exit ?_
                refine W.region ?_
                refine XOps.s rfl rfl rfl (Q.add rfl rfl (wi64 (by first | omega | (dsimp only; omega) | (simp only [List.length_map]; omega)) (by first | omega | (dsimp only; omega) | (simp only [List.length_map]; omega)))) ?_
                refine XOps.s rfl rfl rfl (Q.move_d rfl) ?_
                refine XOps.nil ?_
                refine ⟨i + 1, ?_, ?_, ?_, ?_⟩
                · omega
                · omega
                · exact ⟨by first | rfl | exact int_eq (by omega) | exact len_eq (by simp) | exact int_eq (by simp; done), by first | rfl | exact int_eq (by omega) | exact len_eq (by simp) | exact int_eq (by simp; done), by first | rfl | exact int_eq (by omega) | exact len_eq (by simp) | exact int_eq (by simp; done), by first | rfl | exact int_eq (by omega) | exact len_eq (by simp) | exact int_eq (by simp; done), by first | rfl | exact int_eq (by omega) | exact len_eq (by simp) | exact int_eq (by simp; done), by first | rfl | exact int_eq (by omega) | exact len_eq (by simp) | exact int_eq (by simp; done), trivial⟩
                · repeat (first | exact HLe.refl _ | refine HLe.cons' (by first | rfl | (simp [Ev.enc, nE]; done)) ?_ | refine HLe.pick 1 rfl (by first | rfl | (simp [Ev.enc, nE]; done)) ?_ | refine HLe.pick 2 rfl (by first | rfl | (simp [Ev.enc, nE]; done)) ?_ | refine HLe.pick 3 rfl (by first | rfl | (simp [Ev.enc, nE]; done)) ?_ | refine HLe.pick 4 rfl (by first | rfl | (simp [Ev.enc, nE]; done)) ?_ | refine HLe.pick 5 rfl (by first | rfl | (simp [Ev.enc, nE]; done)) ?_ | refine HLe.skip _ ?_)
        · try simp only [Bool.or_eq_true, Bool.or_eq_false_iff, Bool.and_eq_true, Bool.and_eq_false_iff, decide_eq_true_eq, decide_eq_false_iff_not, Bool.not_eq_true', Bool.not_eq_false', Int.not_lt, Int.not_le, List.length_map, slN] at hc44
          refine W.exit ?_
          refine W.reg ?_
          refine XOps.s rfl rfl rfl (Q.assign_d rfl) ?_
          refine XOps.nil ?_
          refine W.ret ?_
          exact ⟨_, _, rfl, HLe.refl _, rfl⟩
end Go.Proofs.YtjmadiegikbjpaaA
