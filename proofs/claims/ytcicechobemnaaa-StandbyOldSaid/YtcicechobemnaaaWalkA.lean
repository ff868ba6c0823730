/- R.Cut, R.Itoa, library functions, package standby. -/
import Derived.Test.YtcicechobemnaaaBase
import Derived.Test.YtcicechobemnaaaSpec
import Derived.Test.YtcicechobemnaaaAbs13
set_option linter.unusedVariables false
set_option linter.unusedSimpArgs false
set_option linter.unnecessarySimpa false
namespace Go.Proofs.YtcicechobemnaaaA.FWalkA
open Go
theorem ag26 : tAgg P 26 = some ((false, 1)) := by kernel_rfl
theorem ag3 : tAgg P 3 = some ((false, 1)) := by kernel_rfl
theorem ag33 : tAgg P 33 = some ((false, 1)) := by kernel_rfl
theorem ag9 : tAgg P 9 = some ((false, 1)) := by kernel_rfl
theorem ap26 : tApp P 26 = some ((1, 16)) := by kernel_rfl
theorem ap33 : tApp P 33 = some ((4, 40)) := by kernel_rfl
theorem fl39_0 : tFld P 39 0 = some (0) := by kernel_rfl
theorem fl39_1 : tFld P 39 1 = some (1) := by kernel_rfl
theorem fl39_2 : tFld P 39 2 = some (2) := by kernel_rfl
theorem fl39_3 : tFld P 39 3 = some (3) := by kernel_rfl
theorem fl39_4 : tFld P 39 4 = some (4) := by kernel_rfl
theorem fl39_5 : tFld P 39 5 = some (5) := by kernel_rfl
theorem go15 : callGo Go.Proofs.Try.f15 = true := by kernel_rfl
theorem go30 : callGo Go.Proofs.Try.f30 = true := by kernel_rfl
theorem go31 : callGo Go.Proofs.Try.f31 = true := by kernel_rfl
theorem go32 : callGo Go.Proofs.Try.f32 = true := by kernel_rfl
theorem isl26 : isSl P 26 = true := by kernel_rfl
theorem isl33 : isSl P 33 = true := by kernel_rfl
theorem ist9 : isStr P 9 = true := by kernel_rfl
theorem pl39 : tPl P 39 = some ([(0, 1), (1, 1), (2, 1), (3, 1), (4, 1), (5, 1)]) := by kernel_rfl
theorem pl46 : tPl P 46 = some ([(0, 1), (1, 1), (2, 1), (3, 1)]) := by kernel_rfl
theorem sl26 : tSl P 26 = some (1) := by kernel_rfl
theorem sl33 : tSl P 33 = some (4) := by kernel_rfl
theorem tz39 : tZero P 39 = some ([.int .i64 0, .slice none 0 0, .slice none 0 0, .int .i64 0, .int .i64 0, .slice none 0 0]) := by kernel_rfl
theorem tz46 : tZero P 46 = some ([.int .i64 0, .int .i64 0, .bool false, .string ⟨#[]⟩]) := by kernel_rfl
theorem tzd46 : cellsD [.int .i64 0, .int .i64 0, .bool false, .string ⟨#[]⟩] = some ([.int .i64 0, .int .i64 0, .bool false, .str ⟨#[]⟩]) := rfl
theorem zr26 : tZrow P 26 = some ([.string ⟨#[]⟩]) := by kernel_rfl
theorem zr33 : tZrow P 33 = some ([.int .i64 0, .int .i64 0, .bool false, .string ⟨#[]⟩]) := by kernel_rfl
theorem zrd26 : cellsD [.string ⟨#[]⟩] = some ([.str ⟨#[]⟩]) := rfl
theorem zrd33 : cellsD [.int .i64 0, .int .i64 0, .bool false, .string ⟨#[]⟩] = some ([.int .i64 0, .int .i64 0, .bool false, .str ⟨#[]⟩]) := rfl
end Go.Proofs.YtcicechobemnaaaA.FWalkA
namespace Go.Proofs.YtcicechobemnaaaA
open Go FWalkA
set_option maxHeartbeats 1000000 in
set_option maxRecDepth 100000 in
theorem cut_c (n lo hi : Int) (hs : Hp) (h0 : -1000000000000 ≤ lo) (h1 : lo ≤ hi) (h2 : hi ≤ 1000000000000) : AC P 27 [.d (.int .i64 n), .d (.int .i64 lo), .d (.int .i64 hi)] hs (fun r h => r = .d (.int .i64 (cutI n lo hi)) ∧ h = hs) := by
  refine AC.of 23 Try.func27 rfl rfl rfl ?_
  refine W.reg ?_
  refine XOps.s rfl rfl rfl (Q.assign_d rfl) ?_
  refine XOps.nil ?_
  refine W.reg ?_
  refine XOps.s rfl rfl rfl (Q.move_d rfl) ?_
  refine XOps.s rfl rfl rfl (Q.move_d rfl) ?_
  refine XOps.s rfl rfl rfl (Q.sub rfl rfl (wi64 (by first | omega | (dsimp only; omega) | (simp only [List.length_map]; omega)) (by first | omega | (dsimp only; omega) | (simp only [List.length_map]; omega)))) ?_
  refine XOps.s rfl rfl rfl (Q.add rfl rfl (wi64 (by first | omega | (dsimp only; omega) | (simp only [List.length_map]; omega)) (by first | omega | (dsimp only; omega) | (simp only [List.length_map]; omega)))) ?_
  refine XOps.s rfl rfl rfl (Q.assign_d rfl) ?_
  refine XOps.nil ?_
  refine W.reg ?_
  refine XOps.s rfl rfl rfl (Q.move_d rfl) ?_
  refine XOps.s rfl rfl rfl (Q.move_d rfl) ?_
  refine XOps.s rfl rfl rfl (Q.rem rfl rfl (by omega) rfl) ?_
  refine XOps.s rfl rfl rfl (Q.assign_d rfl) ?_
  refine XOps.nil ?_
  refine W.seq ?_
  have hm := cut_mod (n := n) (m := hi - lo + 1) (by omega) rfl
  have hm0 := Int.emod_nonneg n (by omega : hi - lo + 1 ≠ 0)
  have hm1 := Int.emod_lt_of_pos n (by omega : 0 < hi - lo + 1)
  generalize hT : n.tmod (hi - lo + 1) = t at hm ⊢
  refine W.reg ?_
  refine XOps.s rfl rfl rfl (Q.move_d rfl) ?_
  refine XOps.s rfl rfl rfl (Q.lss rfl rfl) ?_
  refine XOps.nil ?_
  refine W.cond rfl (fun hc16 => ?_) (fun hc16 => ?_)
  · try simp only [Bool.or_eq_true, Bool.or_eq_false_iff, Bool.and_eq_true, Bool.and_eq_false_iff, decide_eq_true_eq, decide_eq_false_iff_not, Bool.not_eq_true', Bool.not_eq_false', Int.not_lt, Int.not_le, List.length_map] at hc16
    rw [if_pos hc16] at hm
    refine W.region ?_
    refine XOps.s rfl rfl rfl (Q.move_d rfl) ?_
    refine XOps.s rfl rfl rfl (Q.move_d rfl) ?_
    refine XOps.s rfl rfl rfl (Q.add rfl rfl (wi64 (by first | omega | (dsimp only; omega) | (simp only [List.length_map]; omega)) (by first | omega | (dsimp only; omega) | (simp only [List.length_map]; omega)))) ?_
    refine XOps.s rfl rfl rfl (Q.assign_d rfl) ?_
    refine XOps.nil ?_
    refine W.reg ?_
    refine XOps.s rfl rfl rfl (Q.move_d rfl) ?_
    refine XOps.s rfl rfl rfl (Q.move_d rfl) ?_
    refine XOps.s rfl rfl rfl (Q.add rfl rfl (wi64 (by first | omega | (dsimp only; omega) | (simp only [List.length_map]; omega)) (by first | omega | (dsimp only; omega) | (simp only [List.length_map]; omega)))) ?_
    refine XOps.s rfl rfl rfl (Q.assign_d rfl) ?_
    refine XOps.nil ?_
    refine W.ret ?_
    refine ⟨_, hs, rfl, by repeat (first | exact HLe.refl _ | refine HLe.cons' (by first | rfl | (simp [Msg.enc, sE]; done)) ?_ | refine HLe.pick 1 rfl (by first | rfl | (simp [Msg.enc, sE]; done)) ?_ | refine HLe.pick 2 rfl (by first | rfl | (simp [Msg.enc, sE]; done)) ?_ | refine HLe.pick 3 rfl (by first | rfl | (simp [Msg.enc, sE]; done)) ?_ | refine HLe.pick 4 rfl (by first | rfl | (simp [Msg.enc, sE]; done)) ?_ | refine HLe.pick 5 rfl (by first | rfl | (simp [Msg.enc, sE]; done)) ?_ | refine HLe.skip _ ?_), ?_, rfl⟩
    exact int_eq (by unfold cutI; omega)
  · try simp only [Bool.or_eq_true, Bool.or_eq_false_iff, Bool.and_eq_true, Bool.and_eq_false_iff, decide_eq_true_eq, decide_eq_false_iff_not, Bool.not_eq_true', Bool.not_eq_false', Int.not_lt, Int.not_le, List.length_map] at hc16
    rw [if_neg (by omega)] at hm
    refine W.skip ?_
    refine W.reg ?_
    refine XOps.s rfl rfl rfl (Q.move_d rfl) ?_
    refine XOps.s rfl rfl rfl (Q.move_d rfl) ?_
    refine XOps.s rfl rfl rfl (Q.add rfl rfl (wi64 (by first | omega | (dsimp only; omega) | (simp only [List.length_map]; omega)) (by first | omega | (dsimp only; omega) | (simp only [List.length_map]; omega)))) ?_
    refine XOps.s rfl rfl rfl (Q.assign_d rfl) ?_
    refine XOps.nil ?_
    refine W.ret ?_
    refine ⟨_, hs, rfl, by repeat (first | exact HLe.refl _ | refine HLe.cons' (by first | rfl | (simp [Msg.enc, sE]; done)) ?_ | refine HLe.pick 1 rfl (by first | rfl | (simp [Msg.enc, sE]; done)) ?_ | refine HLe.pick 2 rfl (by first | rfl | (simp [Msg.enc, sE]; done)) ?_ | refine HLe.pick 3 rfl (by first | rfl | (simp [Msg.enc, sE]; done)) ?_ | refine HLe.pick 4 rfl (by first | rfl | (simp [Msg.enc, sE]; done)) ?_ | refine HLe.pick 5 rfl (by first | rfl | (simp [Msg.enc, sE]; done)) ?_ | refine HLe.skip _ ?_), ?_, rfl⟩
    exact int_eq (by unfold cutI; omega)

set_option maxHeartbeats 1000000 in
set_option maxRecDepth 100000 in
theorem itoa_c (n : Nat) (hs : Hp) (hn : n ≤ 1000000) (hz : (itoaS n).size ≤ 1000) : AC P 28 [.d (.int .i64 (n : Int))] hs (fun r h => r = .d (.str (itoaS n)) ∧ h = hs) := by
  refine AC.of 21 Try.func28 rfl rfl rfl ?_
  refine W.reg ?_
  refine XOps.s rfl rfl rfl (Q.assign_d rfl) ?_
  refine XOps.nil ?_
  refine W.reg ?_
  refine XOps.s rfl rfl rfl (Q.assign_d rfl) ?_
  refine XOps.nil ?_
  refine W.seq ?_
  refine W.block ?_
  refine W.loop (ι := Nat × Nat × ByteArray) (fun p => [(0, .d (.int .i64 (p.2.1 : Nat))), (3, .d (.str p.2.2))]) (fun p => hs) (fun p => itoaR p.1 p.2.1 p.2.2 = itoaS n ∧ p.2.1 + (if seq p.2.2 ⟨#[]⟩ = true then 1 else 0) ≤ p.1 ∧ p.2.1 ≤ 1000000) (fun p => p.1) (n + 1, n, ⟨#[]⟩) ?_ ?_ ?_ ?_
  · exact ⟨rfl, by simp [seq_refl], hn⟩
  · exact ⟨by first | rfl | exact int_eq (by omega) | exact len_eq (by simp) | exact int_eq (by simp; done), by first | rfl | exact int_eq (by omega) | exact len_eq (by simp) | exact int_eq (by simp; done), trivial⟩
  · repeat (first | exact HLe.refl _ | refine HLe.cons' (by first | rfl | (simp [Msg.enc, sE]; done)) ?_ | refine HLe.pick 1 rfl (by first | rfl | (simp [Msg.enc, sE]; done)) ?_ | refine HLe.pick 2 rfl (by first | rfl | (simp [Msg.enc, sE]; done)) ?_ | refine HLe.pick 3 rfl (by first | rfl | (simp [Msg.enc, sE]; done)) ?_ | refine HLe.pick 4 rfl (by first | rfl | (simp [Msg.enc, sE]; done)) ?_ | refine HLe.pick 5 rfl (by first | rfl | (simp [Msg.enc, sE]; done)) ?_ | refine HLe.skip _ ?_)
  · rintro ⟨f, m, s⟩ hI
    try dsimp only at hI ⊢
    refine W.seq ?_
    refine W.reg ?_
    refine XOps.s rfl rfl rfl (Q.move_d rfl) ?_
    refine XOps.s rfl rfl rfl (Q.gtr rfl rfl) ?_
    refine XOps.s rfl rfl rfl (Q.move_d rfl) ?_
    refine XOps.gs rfl rfl rfl rfl rfl rfl rfl (fun hg => Q.move_d rfl) ?_
    refine XOps.gs rfl rfl rfl rfl rfl rfl rfl (fun hg => Quiet.open 7 hg rfl (Q.eql_str rfl rfl)) ?_
    refine XOps.s rfl rfl rfl (Q.pick_or rfl rfl rfl (fun h => by first | (rw [h]; rfl) | (rw [hg, h]; rfl) | (simp [h, hg]; done))) ?_
    refine XOps.nil ?_
    refine W.cond rfl (fun hc9 => ?_) (fun hc9 => ?_)
    · try simp only [Bool.or_eq_true, Bool.or_eq_false_iff, Bool.and_eq_true, Bool.and_eq_false_iff, decide_eq_true_eq, decide_eq_false_iff_not, Bool.not_eq_true', Bool.not_eq_false', Int.not_lt, Int.not_le, List.length_map] at hc9
      have hne : ¬ (m = 0 ∧ seq s ⟨#[]⟩ = false) := fun ⟨h1, h2⟩ => by
        rcases hc9 with h | h
        · omega
        · unfold seq at h2; rw [h2] at h; cases h
      have hf : 1 ≤ f := by
        have h2 := hI.2.1
        split at h2
        · omega
        · rename_i h3
          have : m ≠ 0 := fun h0 => hne ⟨h0, eq_false_of_ne_true h3⟩
          omega
      have hstep : itoaR f m s = itoaR (f - 1) (m / 10) (digs.extract (m % 10) (m % 10 + 1) ++ s) := by
        obtain ⟨g, rfl⟩ : ∃ g, f = g + 1 := ⟨f - 1, by omega⟩
        rw [itoaR, if_neg hne]; rfl
      have hds : (⟨#[48, 49, 50, 51, 52, 53, 54, 55, 56, 57]⟩ : ByteArray).size = 10 := rfl
      have hcut : ((⟨#[48, 49, 50, 51, 52, 53, 54, 55, 56, 57]⟩ : ByteArray).extract ((m : Int) % 10).toNat ((m : Int) % 10 + 1).toNat) = digs.extract (m % 10) (m % 10 + 1) := by rw [show ((m : Int) % 10).toNat = m % 10 by omega, show ((m : Int) % 10 + 1).toNat = m % 10 + 1 by omega]; rfl
      have hm6 := hI.2.2
      refine W.skip ?_
      refine W.block ?_
      refine W.reg ?_
      refine XOps.s rfl rfl rfl (Q.move_d rfl) ?_
      refine XOps.s rfl rfl rfl (Q.rem rfl rfl (by decide) (wrem (by omega))) ?_
      refine XOps.s rfl rfl rfl (Q.move_d rfl) ?_
      refine XOps.s rfl rfl rfl (Q.rem rfl rfl (by decide) (wrem (by omega))) ?_
      refine XOps.s rfl rfl rfl (Q.add rfl rfl (wi64 (by first | omega | (dsimp only; omega) | (simp only [List.length_map]; omega)) (by first | omega | (dsimp only; omega) | (simp only [List.length_map]; omega)))) ?_
      refine XOps.s rfl rfl rfl (Q.cut_str ist9 rfl rfl rfl (by omega) (by omega) (by omega)) ?_
      refine XOps.s rfl rfl rfl (Q.move_d rfl) ?_
      refine XOps.s rfl rfl rfl (Q.adds rfl rfl (by have := itoaR_size (f - 1) (m / 10) (digs.extract (m % 10) (m % 10 + 1) ++ s); have h2 := ByteArray.size_append (a := digs.extract (m % 10) (m % 10 + 1)) (b := s); rw [← hstep, hI.1] at this; rw [hcut]; omega)) ?_
      refine XOps.s rfl rfl rfl (Q.assign_d rfl) ?_
      refine XOps.nil ?_
      refine W.region ?_
      refine XOps.s rfl rfl rfl (Q.move_d rfl) ?_
      refine XOps.s rfl rfl rfl (Q.quo rfl rfl (by decide) (wquo (by omega) (by omega) (by omega))) ?_
      refine XOps.s rfl rfl rfl (Q.assign_d rfl) ?_
      refine XOps.nil ?_
      refine ⟨(f - 1, m / 10, digs.extract (m % 10) (m % 10 + 1) ++ s), ?_, ?_, ?_, ?_⟩
      · refine ⟨by rw [← hstep]; exact hI.1, ?_, ?_⟩
        · dsimp only; rw [dig_ne, if_neg (by decide)]; omega
        · dsimp only; omega
      · dsimp only; omega
      · exact ⟨by exact int_eq (by dsimp only; omega), by (rw [hcut]; rfl), trivial⟩
      · repeat (first | exact HLe.refl _ | refine HLe.cons' (by first | rfl | (simp [Msg.enc, sE]; done)) ?_ | refine HLe.pick 1 rfl (by first | rfl | (simp [Msg.enc, sE]; done)) ?_ | refine HLe.pick 2 rfl (by first | rfl | (simp [Msg.enc, sE]; done)) ?_ | refine HLe.pick 3 rfl (by first | rfl | (simp [Msg.enc, sE]; done)) ?_ | refine HLe.pick 4 rfl (by first | rfl | (simp [Msg.enc, sE]; done)) ?_ | refine HLe.pick 5 rfl (by first | rfl | (simp [Msg.enc, sE]; done)) ?_ | refine HLe.skip _ ?_)
    · try simp only [Bool.or_eq_true, Bool.or_eq_false_iff, Bool.and_eq_true, Bool.and_eq_false_iff, decide_eq_true_eq, decide_eq_false_iff_not, Bool.not_eq_true', Bool.not_eq_false', Int.not_lt, Int.not_le, List.length_map] at hc9
      have hst := itoaR_stop f (n := m) (s := s) ⟨by omega, by unfold seq; simpa using hc9.2⟩
      rw [hst] at hI
      rw [← hI.1]
      refine W.exit ?_
      refine W.reg ?_
      refine XOps.s rfl rfl rfl (Q.move_d rfl) ?_
      refine XOps.s rfl rfl rfl (Q.assign_d rfl) ?_
      refine XOps.nil ?_
      refine W.ret ?_
      refine ⟨_, hs, rfl, by repeat (first | exact HLe.refl _ | refine HLe.cons' (by first | rfl | (simp [Msg.enc, sE]; done)) ?_ | refine HLe.pick 1 rfl (by first | rfl | (simp [Msg.enc, sE]; done)) ?_ | refine HLe.pick 2 rfl (by first | rfl | (simp [Msg.enc, sE]; done)) ?_ | refine HLe.pick 3 rfl (by first | rfl | (simp [Msg.enc, sE]; done)) ?_ | refine HLe.pick 4 rfl (by first | rfl | (simp [Msg.enc, sE]; done)) ?_ | refine HLe.pick 5 rfl (by first | rfl | (simp [Msg.enc, sE]; done)) ?_ | refine HLe.skip _ ?_), ?_, rfl⟩
      rfl

set_option maxHeartbeats 1000000 in
set_option maxRecDepth 100000 in
theorem equalS_c (a b : List ByteArray) (hs : Hp) (hl : a.length ≤ 4611686018427387904) : AC P 13 [.d (.sl 1 (a.map sE)), .d (.sl 1 (b.map sE))] hs (fun r h => r = .d (.bool (decide (a = b))) ∧ h = hs) := by
  refine AC.of 26 Try.func13 rfl rfl rfl ?_
  refine W.reg ?_
  refine XOps.s rfl rfl rfl (Q.assign_d rfl) ?_
  refine XOps.nil ?_
  refine W.seq ?_
  refine W.reg ?_
  refine XOps.s rfl rfl rfl (Q.move_d rfl) ?_
  refine XOps.s rfl rfl rfl (Q.len_sl isl26 rfl) ?_
  refine XOps.s rfl rfl rfl (Q.move_d rfl) ?_
  refine XOps.s rfl rfl rfl (Q.len_sl isl26 rfl) ?_
  refine XOps.s rfl rfl rfl (Q.neq rfl rfl) ?_
  refine XOps.nil ?_
  refine W.cond rfl (fun hc10 => ?_) (fun hc10 => ?_)
  · try simp only [Bool.or_eq_true, Bool.or_eq_false_iff, Bool.and_eq_true, Bool.and_eq_false_iff, decide_eq_true_eq, decide_eq_false_iff_not, Bool.not_eq_true', Bool.not_eq_false', Int.not_lt, Int.not_le, List.length_map] at hc10
    have hr : decide (a = b) = false := decide_eq_false fun h => by subst h; simp at hc10
    refine W.reg ?_
    refine XOps.s rfl rfl rfl (Q.assign_d rfl) ?_
    refine XOps.nil ?_
    refine W.ret ?_
    refine ⟨_, hs, rfl, by repeat (first | exact HLe.refl _ | refine HLe.cons' (by first | rfl | (simp [Msg.enc, sE]; done)) ?_ | refine HLe.pick 1 rfl (by first | rfl | (simp [Msg.enc, sE]; done)) ?_ | refine HLe.pick 2 rfl (by first | rfl | (simp [Msg.enc, sE]; done)) ?_ | refine HLe.pick 3 rfl (by first | rfl | (simp [Msg.enc, sE]; done)) ?_ | refine HLe.pick 4 rfl (by first | rfl | (simp [Msg.enc, sE]; done)) ?_ | refine HLe.pick 5 rfl (by first | rfl | (simp [Msg.enc, sE]; done)) ?_ | refine HLe.skip _ ?_), ?_, rfl⟩
    rw [hr]; rfl
  · try simp only [Bool.or_eq_true, Bool.or_eq_false_iff, Bool.and_eq_true, Bool.and_eq_false_iff, decide_eq_true_eq, decide_eq_false_iff_not, Bool.not_eq_true', Bool.not_eq_false', Int.not_lt, Int.not_le, List.length_map] at hc10
    have hlen : a.length = b.length := by omega
    refine W.skip ?_
    refine W.seq ?_
    refine W.reg ?_
    refine XOps.s rfl rfl rfl (Q.move_d rfl) ?_
    refine XOps.s rfl rfl rfl (Q.len_sl isl26 rfl) ?_
    refine XOps.s rfl rfl rfl (Q.move_d rfl) ?_
    refine XOps.nil ?_
    refine W.block ?_
    refine W.loop (ι := Nat) (fun k => [(0, .d (.sl 1 (a.map sE))), (1, .d (.sl 1 (b.map sE))), (11, .d (.sl 1 (a.map sE))), (12, .d (.int .i64 a.length)), (13, .d (.int .i64 k))]) (fun k => hs) (fun k => k ≤ a.length ∧ ∀ i, i < k → a[i]? = b[i]?) (fun k => a.length - k) 0 ?_ ?_ ?_ ?_
    · exact ⟨Nat.zero_le _, fun i hi => absurd hi (Nat.not_lt_zero _)⟩
    · exact ⟨by first | rfl | exact int_eq (by omega) | exact len_eq (by simp) | exact int_eq (by simp; done), by first | rfl | exact int_eq (by omega) | exact len_eq (by simp) | exact int_eq (by simp; done), by first | rfl | exact int_eq (by omega) | exact len_eq (by simp) | exact int_eq (by simp; done), by first | rfl | exact int_eq (by omega) | exact len_eq (by simp) | exact int_eq (by simp; done), by first | rfl | exact int_eq (by omega) | exact len_eq (by simp) | exact int_eq (by simp; done), trivial⟩
    · repeat (first | exact HLe.refl _ | refine HLe.cons' (by first | rfl | (simp [Msg.enc, sE]; done)) ?_ | refine HLe.pick 1 rfl (by first | rfl | (simp [Msg.enc, sE]; done)) ?_ | refine HLe.pick 2 rfl (by first | rfl | (simp [Msg.enc, sE]; done)) ?_ | refine HLe.pick 3 rfl (by first | rfl | (simp [Msg.enc, sE]; done)) ?_ | refine HLe.pick 4 rfl (by first | rfl | (simp [Msg.enc, sE]; done)) ?_ | refine HLe.pick 5 rfl (by first | rfl | (simp [Msg.enc, sE]; done)) ?_ | refine HLe.skip _ ?_)
    · rintro k ⟨hk, hI⟩
      try dsimp only
      refine W.reg ?_
      refine XOps.s rfl rfl rfl (Q.lss rfl rfl) ?_
      refine XOps.nil ?_
      refine W.seq ?_
      refine W.cond rfl (fun hc14 => ?_) (fun hc14 => ?_)
      · try simp only [Bool.or_eq_true, Bool.or_eq_false_iff, Bool.and_eq_true, Bool.and_eq_false_iff, decide_eq_true_eq, decide_eq_false_iff_not, Bool.not_eq_true', Bool.not_eq_false', Int.not_lt, Int.not_le, List.length_map] at hc14
        obtain ⟨u, hu⟩ : ∃ u, a[k]? = some u := ⟨_, List.getElem?_eq_getElem (by omega)⟩
        obtain ⟨v, hv⟩ : ∃ v, b[k]? = some v := ⟨_, List.getElem?_eq_getElem (by omega)⟩
        refine W.skip ?_
        refine W.seq ?_
        refine W.block ?_
        refine W.reg ?_
        refine XOps.s rfl rfl rfl (Q.move_d rfl) ?_
        refine XOps.s rfl rfl rfl (Q.assign_d rfl) ?_
        refine XOps.nil ?_
        refine W.drawreg 9 follows (by kernel_rfl) ?_
        refine Chain.cons _ (GQ.q rfl (Q.move_d rfl)) rfl ?_
        refine Chain.cons _ (GQ.q rfl (Q.move_d rfl)) rfl ?_
        refine Chain.cons _ (GQ.q rfl (Q.idx_sl sl26 (by decide) rfl rfl (by omega) (by first | exact map_at (by assumption) | exact map_at0 (by assumption) | assumption))) rfl ?_
        refine Chain.cons _ (GQ.q rfl (Q.ld_dp ag9 rfl rfl)) rfl ?_
        refine Chain.cons _ (GQ.q rfl (Q.move_d rfl)) rfl ?_
        refine Chain.cons _ (GQ.q rfl (Q.move_d rfl)) rfl ?_
        refine Chain.cons _ (GQ.q rfl (Q.idx_sl sl26 (by decide) rfl rfl (by omega) (by first | exact map_at (by assumption) | exact map_at0 (by assumption) | assumption))) rfl ?_
        refine Chain.cons _ (GQ.q rfl (Q.ld_dp ag9 rfl rfl)) rfl ?_
        refine Chain.cons _ (GQ.q rfl (Q.neq_str rfl rfl)) rfl ?_
        refine Chain.nil ?_
        refine XOps.nil ?_
        refine W.cond rfl (fun hc24 => ?_) (fun hc24 => ?_)
        · try simp only [Bool.or_eq_true, Bool.or_eq_false_iff, Bool.and_eq_true, Bool.and_eq_false_iff, decide_eq_true_eq, decide_eq_false_iff_not, Bool.not_eq_true', Bool.not_eq_false', Int.not_lt, Int.not_le, List.length_map] at hc24
          have hr : decide (a = b) = false := decide_eq_false fun h => by subst h; rw [hu] at hv; obtain rfl := Option.some.inj hv; simp at hc24
          refine W.reg ?_
          refine XOps.s rfl rfl rfl (Q.assign_d rfl) ?_
          refine XOps.nil ?_
          refine W.ret ?_
          refine ⟨_, hs, rfl, by repeat (first | exact HLe.refl _ | refine HLe.cons' (by first | rfl | (simp [Msg.enc, sE]; done)) ?_ | refine HLe.pick 1 rfl (by first | rfl | (simp [Msg.enc, sE]; done)) ?_ | refine HLe.pick 2 rfl (by first | rfl | (simp [Msg.enc, sE]; done)) ?_ | refine HLe.pick 3 rfl (by first | rfl | (simp [Msg.enc, sE]; done)) ?_ | refine HLe.pick 4 rfl (by first | rfl | (simp [Msg.enc, sE]; done)) ?_ | refine HLe.pick 5 rfl (by first | rfl | (simp [Msg.enc, sE]; done)) ?_ | refine HLe.skip _ ?_), ?_, rfl⟩
          rw [hr]; rfl
        · try simp only [Bool.or_eq_true, Bool.or_eq_false_iff, Bool.and_eq_true, Bool.and_eq_false_iff, decide_eq_true_eq, decide_eq_false_iff_not, Bool.not_eq_true', Bool.not_eq_false', Int.not_lt, Int.not_le, List.length_map] at hc24
          have huv : u = v := toList_inj (by simpa using hc24)
          refine W.skip ?_
          refine W.region ?_
          refine XOps.s rfl rfl rfl (Q.add rfl rfl (wi64 (by first | omega | (dsimp only; omega) | (simp only [List.length_map]; omega)) (by first | omega | (dsimp only; omega) | (simp only [List.length_map]; omega)))) ?_
          refine XOps.s rfl rfl rfl (Q.move_d rfl) ?_
          refine XOps.nil ?_
          refine ⟨k + 1, ?_, ?_, ?_, ?_⟩
          · refine ⟨by omega, fun i hi => ?_⟩
            by_cases h : i = k
            · subst h; rw [hu, hv, huv]
            · exact hI i (by omega)
          · omega
          · exact ⟨by first | rfl | exact int_eq (by omega) | exact len_eq (by simp) | exact int_eq (by simp; done), by first | rfl | exact int_eq (by omega) | exact len_eq (by simp) | exact int_eq (by simp; done), by first | rfl | exact int_eq (by omega) | exact len_eq (by simp) | exact int_eq (by simp; done), by first | rfl | exact int_eq (by omega) | exact len_eq (by simp) | exact int_eq (by simp; done), by first | rfl | exact int_eq (by omega) | exact len_eq (by simp) | exact int_eq (by simp; done), trivial⟩
          · repeat (first | exact HLe.refl _ | refine HLe.cons' (by first | rfl | (simp [Msg.enc, sE]; done)) ?_ | refine HLe.pick 1 rfl (by first | rfl | (simp [Msg.enc, sE]; done)) ?_ | refine HLe.pick 2 rfl (by first | rfl | (simp [Msg.enc, sE]; done)) ?_ | refine HLe.pick 3 rfl (by first | rfl | (simp [Msg.enc, sE]; done)) ?_ | refine HLe.pick 4 rfl (by first | rfl | (simp [Msg.enc, sE]; done)) ?_ | refine HLe.pick 5 rfl (by first | rfl | (simp [Msg.enc, sE]; done)) ?_ | refine HLe.skip _ ?_)
      · try simp only [Bool.or_eq_true, Bool.or_eq_false_iff, Bool.and_eq_true, Bool.and_eq_false_iff, decide_eq_true_eq, decide_eq_false_iff_not, Bool.not_eq_true', Bool.not_eq_false', Int.not_lt, Int.not_le, List.length_map] at hc14
        have hr : decide (a = b) = true := decide_eq_true (List.ext_getElem? fun i => by
          rcases Nat.lt_or_ge i k with h | h
          · exact hI i h
          · rw [List.getElem?_eq_none (by omega), List.getElem?_eq_none (by omega)])
        refine W.exit ?_
        refine W.reg ?_
        refine XOps.s rfl rfl rfl (Q.assign_d rfl) ?_
        refine XOps.nil ?_
        refine W.ret ?_
        refine ⟨_, hs, rfl, by repeat (first | exact HLe.refl _ | refine HLe.cons' (by first | rfl | (simp [Msg.enc, sE]; done)) ?_ | refine HLe.pick 1 rfl (by first | rfl | (simp [Msg.enc, sE]; done)) ?_ | refine HLe.pick 2 rfl (by first | rfl | (simp [Msg.enc, sE]; done)) ?_ | refine HLe.pick 3 rfl (by first | rfl | (simp [Msg.enc, sE]; done)) ?_ | refine HLe.pick 4 rfl (by first | rfl | (simp [Msg.enc, sE]; done)) ?_ | refine HLe.pick 5 rfl (by first | rfl | (simp [Msg.enc, sE]; done)) ?_ | refine HLe.skip _ ?_), ?_, rfl⟩
        rw [hr]; rfl

set_option maxHeartbeats 1000000 in
set_option maxRecDepth 100000 in
theorem cloneS_c (l : List ByteArray) (hs : Hp) (hL : l.length * 16 ≤ 140737488355328) : AC P 15 [.d (.sl 1 (l.map sE))] hs (fun r h => ∃ v, r = .vs v 0 l.length 1 ∧ h = (v, .lst 1 (l.map sE)) :: hs) := by
  refine AC.of 8 Try.func15 rfl rfl rfl ?_
  refine W.reg ?_
  refine XOps.s rfl rfl rfl (Q.assign_nilsl rfl) ?_
  refine XOps.nil ?_
  refine W.seq ?_
  refine W.reg ?_
  refine XOps.s rfl rfl rfl (Q.move_d rfl) ?_
  (refine XOps.loud rfl (L.eqnil sl26 (by decide) rfl rfl rfl) ?_; rintro _ _ ⟨bb, hbb, rfl, hh⟩; obtain rfl := hh.symm)
  refine XOps.nil ?_
  refine W.cond rfl (fun hc4 => ?_) (fun hc4 => ?_)
  · try simp only [Bool.or_eq_true, Bool.or_eq_false_iff, Bool.and_eq_true, Bool.and_eq_false_iff, decide_eq_true_eq, decide_eq_false_iff_not, Bool.not_eq_true', Bool.not_eq_false', Int.not_lt, Int.not_le, List.length_map] at hc4
    have hle : l = [] := by simpa using hbb hc4
    subst hle
    refine W.reg ?_
    refine XOps.s rfl rfl rfl (Q.assign_nilsl rfl) ?_
    refine XOps.nil ?_
    refine W.ghost 2 1 (by decide) rfl (by decide) (fun v2 => ?_)
    refine W.ret ?_
    exact ⟨_, (v2, .lst 1 []) :: hs, rfl, by repeat (first | exact HLe.refl _ | refine HLe.cons' (by first | rfl | (simp [Msg.enc, sE]; done)) ?_ | refine HLe.pick 1 rfl (by first | rfl | (simp [Msg.enc, sE]; done)) ?_ | refine HLe.pick 2 rfl (by first | rfl | (simp [Msg.enc, sE]; done)) ?_ | refine HLe.pick 3 rfl (by first | rfl | (simp [Msg.enc, sE]; done)) ?_ | refine HLe.pick 4 rfl (by first | rfl | (simp [Msg.enc, sE]; done)) ?_ | refine HLe.pick 5 rfl (by first | rfl | (simp [Msg.enc, sE]; done)) ?_ | refine HLe.skip _ ?_), v2, rfl, rfl⟩
  · try simp only [Bool.or_eq_true, Bool.or_eq_false_iff, Bool.and_eq_true, Bool.and_eq_false_iff, decide_eq_true_eq, decide_eq_false_iff_not, Bool.not_eq_true', Bool.not_eq_false', Int.not_lt, Int.not_le, List.length_map] at hc4
    refine W.skip ?_
    refine W.reg ?_
    refine XOps.s rfl rfl rfl (Q.bsl0 sl26) ?_
    refine XOps.s rfl rfl rfl (Q.move_d rfl) ?_
    refine XOps.loud rfl (L.app_new ap26 (.inl rfl) (by first | exact .inl rfl | exact .inr (by simp)) rfl (by simp; omega) rfl) ?_
    rintro _ _ ⟨v7, rfl, rfl⟩
    refine XOps.s rfl rfl rfl (Q.assign_vs rfl) ?_
    refine XOps.nil ?_
    refine W.ret ?_
    exact ⟨_, (v7, .lst 1 (l.map sE)) :: hs, rfl, by repeat (first | exact HLe.refl _ | refine HLe.cons' (by first | rfl | (simp [Msg.enc, sE]; done)) ?_ | refine HLe.pick 1 rfl (by first | rfl | (simp [Msg.enc, sE]; done)) ?_ | refine HLe.pick 2 rfl (by first | rfl | (simp [Msg.enc, sE]; done)) ?_ | refine HLe.pick 3 rfl (by first | rfl | (simp [Msg.enc, sE]; done)) ?_ | refine HLe.pick 4 rfl (by first | rfl | (simp [Msg.enc, sE]; done)) ?_ | refine HLe.pick 5 rfl (by first | rfl | (simp [Msg.enc, sE]; done)) ?_ | refine HLe.skip _ ?_), v7, by show AV.vs _ _ _ _ = _; congr 1; simp, rfl⟩

set_option maxHeartbeats 1000000 in
set_option maxRecDepth 100000 in
theorem cloneM_c (l : List Msg) (hs : Hp) (hL : l.length * 40 ≤ 140737488355328) : AC P 30 [.d (.sl 4 (l.map Msg.enc))] hs (fun r h => ∃ v, r = .vs v 0 l.length 4 ∧ h = (v, .lst 4 (l.map Msg.enc)) :: hs) := by
  refine AC.of 8 Try.func30 rfl rfl rfl ?_
  refine W.reg ?_
  refine XOps.s rfl rfl rfl (Q.assign_nilsl rfl) ?_
  refine XOps.nil ?_
  refine W.seq ?_
  refine W.reg ?_
  refine XOps.s rfl rfl rfl (Q.move_d rfl) ?_
  (refine XOps.loud rfl (L.eqnil sl33 (by decide) rfl rfl rfl) ?_; rintro _ _ ⟨bb, hbb, rfl, hh⟩; obtain rfl := hh.symm)
  refine XOps.nil ?_
  refine W.cond rfl (fun hc4 => ?_) (fun hc4 => ?_)
  · try simp only [Bool.or_eq_true, Bool.or_eq_false_iff, Bool.and_eq_true, Bool.and_eq_false_iff, decide_eq_true_eq, decide_eq_false_iff_not, Bool.not_eq_true', Bool.not_eq_false', Int.not_lt, Int.not_le, List.length_map] at hc4
    have hle : l = [] := by simpa using hbb hc4
    subst hle
    refine W.reg ?_
    refine XOps.s rfl rfl rfl (Q.assign_nilsl rfl) ?_
    refine XOps.nil ?_
    refine W.ghost 2 4 (by decide) rfl (by decide) (fun v2 => ?_)
    refine W.ret ?_
    exact ⟨_, (v2, .lst 4 []) :: hs, rfl, by repeat (first | exact HLe.refl _ | refine HLe.cons' (by first | rfl | (simp [Msg.enc, sE]; done)) ?_ | refine HLe.pick 1 rfl (by first | rfl | (simp [Msg.enc, sE]; done)) ?_ | refine HLe.pick 2 rfl (by first | rfl | (simp [Msg.enc, sE]; done)) ?_ | refine HLe.pick 3 rfl (by first | rfl | (simp [Msg.enc, sE]; done)) ?_ | refine HLe.pick 4 rfl (by first | rfl | (simp [Msg.enc, sE]; done)) ?_ | refine HLe.pick 5 rfl (by first | rfl | (simp [Msg.enc, sE]; done)) ?_ | refine HLe.skip _ ?_), v2, rfl, rfl⟩
  · try simp only [Bool.or_eq_true, Bool.or_eq_false_iff, Bool.and_eq_true, Bool.and_eq_false_iff, decide_eq_true_eq, decide_eq_false_iff_not, Bool.not_eq_true', Bool.not_eq_false', Int.not_lt, Int.not_le, List.length_map] at hc4
    refine W.skip ?_
    refine W.reg ?_
    refine XOps.s rfl rfl rfl (Q.bsl0 sl33) ?_
    refine XOps.s rfl rfl rfl (Q.move_d rfl) ?_
    refine XOps.loud rfl (L.app_new ap33 (.inl rfl) (by first | exact .inl rfl | exact .inr (by simp)) rfl (by simp; omega) rfl) ?_
    rintro _ _ ⟨v7, rfl, rfl⟩
    refine XOps.s rfl rfl rfl (Q.assign_vs rfl) ?_
    refine XOps.nil ?_
    refine W.ret ?_
    exact ⟨_, (v7, .lst 4 (l.map Msg.enc)) :: hs, rfl, by repeat (first | exact HLe.refl _ | refine HLe.cons' (by first | rfl | (simp [Msg.enc, sE]; done)) ?_ | refine HLe.pick 1 rfl (by first | rfl | (simp [Msg.enc, sE]; done)) ?_ | refine HLe.pick 2 rfl (by first | rfl | (simp [Msg.enc, sE]; done)) ?_ | refine HLe.pick 3 rfl (by first | rfl | (simp [Msg.enc, sE]; done)) ?_ | refine HLe.pick 4 rfl (by first | rfl | (simp [Msg.enc, sE]; done)) ?_ | refine HLe.pick 5 rfl (by first | rfl | (simp [Msg.enc, sE]; done)) ?_ | refine HLe.skip _ ?_), v7, by show AV.vs _ _ _ _ = _; congr 1; simp, rfl⟩

set_option maxHeartbeats 1000000 in
set_option maxRecDepth 100000 in
theorem delM_c (m i j : Nat) (rows : List (List D)) (hs : Hp) (hij : i < j) (hj : j ≤ rows.length) (hn : rows.length ≤ 4611686018427387904) : AC P 31 [.vs m 0 rows.length 4, .d (.int .i64 i), .d (.int .i64 j)] ((m, .lst 4 rows) :: hs) (fun r h => r = .vs m 0 (rows.length - (j - i)) 4 ∧ h = (m, .lst 4 (rows.take i ++ rows.drop j)) :: hs) := by
  refine AC.of 33 Try.func31 rfl rfl rfl ?_
  refine W.reg ?_
  refine XOps.s rfl rfl rfl (Q.assign_nilsl rfl) ?_
  refine XOps.nil ?_
  refine W.reg ?_
  refine XOps.s rfl rfl rfl (Q.move_vs rfl) ?_
  refine XOps.s rfl rfl rfl (Q.move_d rfl) ?_
  refine XOps.s rfl rfl rfl (Q.move_d rfl) ?_
  refine XOps.s rfl rfl rfl (Q.move_vs rfl) ?_
  refine XOps.s rfl rfl rfl (Q.len_vs isl33 rfl) ?_
  refine XOps.s rfl rfl rfl (Q.cut3_vs sl33 rfl rfl rfl rfl (by omega) (by omega) (by omega) (by omega)) ?_
  refine XOps.nil ?_
  refine W.seq ?_
  refine W.reg ?_
  refine XOps.s rfl rfl rfl (Q.move_d rfl) ?_
  refine XOps.s rfl rfl rfl (Q.move_d rfl) ?_
  refine XOps.s rfl rfl rfl (Q.eql rfl rfl) ?_
  refine XOps.nil ?_
  refine W.cond rfl (fun hc16 => ?_) (fun hc16 => ?_)
  · try simp only [Bool.or_eq_true, Bool.or_eq_false_iff, Bool.and_eq_true, Bool.and_eq_false_iff, decide_eq_true_eq, decide_eq_false_iff_not, Bool.not_eq_true', Bool.not_eq_false', Int.not_lt, Int.not_le, List.length_map] at hc16
    exact absurd hc16 (by omega)
  · try simp only [Bool.or_eq_true, Bool.or_eq_false_iff, Bool.and_eq_true, Bool.and_eq_false_iff, decide_eq_true_eq, decide_eq_false_iff_not, Bool.not_eq_true', Bool.not_eq_false', Int.not_lt, Int.not_le, List.length_map] at hc16
    refine W.skip ?_
    refine W.reg ?_
    refine XOps.s rfl rfl rfl (Q.move_vs rfl) ?_
    refine XOps.s rfl rfl rfl (Q.len_vs isl33 rfl) ?_
    refine XOps.s rfl rfl rfl (Q.assign_d rfl) ?_
    refine XOps.nil ?_
    refine W.drawTreg 8 [6] follows (by kernel_rfl) (by decide) ?_
    refine DT.more (Rp := fun v h => v = .vs m 0 (i + (rows.length - j)) 4 ∧ h = (m, .lst 4 (rows.take i ++ (rows.drop j).take (rows.length - j) ++ rows.drop (i + (rows.length - j)))) :: hs) [.new, .new, .new, .new, .new, .new, .now, .later] (by kernel_rfl) ?_
    refine PC.new _ rfl (GQ.q rfl (Q.move_vs rfl)) rfl ?_
    refine PC.new _ rfl (GQ.q rfl (Q.move_d rfl)) rfl ?_
    refine PC.new _ rfl (GQ.q rfl (Q.cut_vs sl33 rfl rfl rfl (by omega) (by omega) (by omega))) rfl ?_
    refine PC.new _ rfl (GQ.q rfl (Q.move_vs rfl)) rfl ?_
    refine PC.new _ rfl (GQ.q rfl (Q.move_d rfl)) rfl ?_
    refine PC.new _ rfl (GQ.q rfl (Q.cut_vs sl33 rfl rfl rfl (by omega) (by omega) (by omega))) rfl ?_
    refine PC.now rfl rfl (fun τ => Loud.to (L.app_in (k := 0) ap33 rfl rfl rfl (by simp; omega) (by simp; omega) rfl) (fun _ _ h => ⟨_, h.1, rfl, by simpa using h.2⟩)) ?_
    refine PC.later rfl ?_
    refine PC.nil ?_
    rintro _ _ ⟨rfl, rfl⟩
    refine DT.last [.did, .did, .did, .did, .did, .did, .did, .new] (by kernel_rfl) ?_
    refine PC.did rfl ?_
    refine PC.did rfl ?_
    refine PC.did rfl ?_
    refine PC.did rfl ?_
    refine PC.did rfl ?_
    refine PC.did rfl ?_
    refine PC.did rfl ?_
    refine PC.new _ rfl (GQ.q rfl (Q.assign_vs rfl)) rfl ?_
    refine PC.nil ?_
    refine XOps.nil ?_
    refine W.reg ?_
    refine XOps.s rfl rfl rfl (Q.move_vs rfl) ?_
    refine XOps.s rfl rfl rfl (Q.move_vs rfl) ?_
    refine XOps.s rfl rfl rfl (Q.len_vs isl33 rfl) ?_
    refine XOps.s rfl rfl rfl (Q.move_d rfl) ?_
    refine XOps.s rfl rfl rfl (Q.cut_vs2 (kk := 0) sl33 rfl rfl rfl rfl (by omega) (by omega) (by simp; omega)) ?_
    refine XOps.loud rfl (L.clear (k := 0) sl33 zr33 rfl zrd33 (by decide) rfl rfl (by simp; omega)) ?_
    rintro _ _ ⟨rfl, rfl⟩
    refine XOps.nil ?_
    refine W.front_of 0 (rows.length - (j - i)) rfl ?_
    refine W.reg ?_
    refine XOps.s rfl rfl rfl (Q.move_vs rfl) ?_
    refine XOps.s rfl rfl rfl (Q.assign_vs rfl) ?_
    refine XOps.nil ?_
    refine W.ret ?_
    refine ⟨_, (m, .lst 4 (rows.take i ++ rows.drop j)) :: hs, rfl, HLe.cons' ?_ (HLe.refl _), ?_, rfl⟩
    · congr 1
      rw [List.append_assoc]
      exact (del_rows rows i j _ _ hij hj (by omega) (by omega) _ _).symm
    · show AV.vs _ _ _ _ = _
      congr 1
      omega

theorem delM1_c (rows : List Msg) (m : Nat) (i : Nat) (hs : Hp) (h0 : i < rows.length) (hn : rows.length ≤ 1000) : AC P 31 [.vs m 0 rows.length 4, .d (.int .i64 (i : Int)), .d (.int .i64 ((i : Int) + 1))] ((m, .lst 4 (rows.map Msg.enc)) :: hs)
    (fun r h => r = .vs m 0 (rows.take i ++ rows.drop (i + 1)).length 4 ∧ h = (m, .lst 4 ((rows.take i ++ rows.drop (i + 1)).map Msg.enc)) :: hs) := by
  have h := delM_c m i (i + 1) (rows.map Msg.enc) hs (by omega) (by simp; omega) (by simp; omega)
  rw [List.length_map] at h
  exact h.mono fun r h' ⟨h1, h2⟩ => ⟨by rw [h1]; simp; omega, by rw [h2]; simp⟩

set_option maxHeartbeats 1000000 in
set_option maxRecDepth 100000 in
theorem new_c (hs : Hp) : AC P 7 [] hs (fun r h => ∃ b f s w, r = .ptr b 0 ∧ h = prH b ps0 f s w hs) := by
  refine AC.of 3 Try.func7 rfl rfl rfl ?_
  refine W.reg ?_
  refine XOps.s rfl rfl rfl (Q.assign_d rfl) ?_
  refine XOps.nil ?_
  refine W.reg ?_
  refine XOps.s rfl rfl rfl (Q.buildS pl39 tz39 rfl rfl) ?_
  (refine XOps.loud rfl (L.boxv rfl rfl) ?_; rintro _ _ ⟨b2, rfl, rfl⟩)
  refine XOps.s rfl rfl rfl (Q.assign_ptr rfl) ?_
  refine XOps.nil ?_
  refine W.ghostc 0 1 1 (by decide) rfl rfl (fun f => ?_)
  refine W.ghostc 1 2 1 (by decide) rfl rfl (fun s => ?_)
  refine W.ghostc 2 5 4 (by decide) rfl rfl (fun w => ?_)
  refine W.ret ?_
  refine ⟨_, prH b2 ps0 f s w hs, rfl, ?_, b2, f, s, w, rfl, rfl⟩
  exact HLe.pick 3 rfl rfl (HLe.pick 2 rfl rfl (HLe.pick 1 rfl rfl (HLe.pick 0 rfl rfl (HLe.refl _))))

set_option maxHeartbeats 1000000 in
set_option maxRecDepth 100000 in
theorem term_c (b : Nat) (p : PS) (f s w : Nat) (hs : Hp) : AC P 24 [.ptr b 0] (prH b p f s w hs) (fun r h => r = .d (.int .i64 p.term) ∧ h = prH b p f s w hs) := by
  refine AC.of 7 Try.func24 rfl rfl rfl ?_
  refine W.reg ?_
  refine XOps.s rfl rfl rfl (Q.assign_d rfl) ?_
  refine XOps.nil ?_
  refine W.reg ?_
  refine XOps.s rfl rfl rfl (Q.move_ptr rfl) ?_
  refine XOps.s rfl rfl rfl (Q.nil_ptr rfl) ?_
  refine XOps.s rfl rfl rfl (Q.fld_ptr fl39_0 rfl) ?_
  refine XOps.s rfl rfl rfl (Q.ld_ptr (k := 0) ag3 rfl rfl rfl) ?_
  refine XOps.s rfl rfl rfl (Q.assign_d rfl) ?_
  refine XOps.nil ?_
  refine W.ret ?_
  exact ⟨_, prH b p f s w hs, rfl, HLe.refl _, rfl, rfl⟩

set_option maxHeartbeats 1000000 in
set_option maxRecDepth 100000 in
theorem done_c (b : Nat) (p : PS) (f s w : Nat) (hs : Hp) : AC P 14 [.ptr b 0] (prH b p f s w hs) (fun r h => r = .d (.int .i64 p.done) ∧ h = prH b p f s w hs) := by
  refine AC.of 7 Try.func14 rfl rfl rfl ?_
  refine W.reg ?_
  refine XOps.s rfl rfl rfl (Q.assign_d rfl) ?_
  refine XOps.nil ?_
  refine W.reg ?_
  refine XOps.s rfl rfl rfl (Q.move_ptr rfl) ?_
  refine XOps.s rfl rfl rfl (Q.nil_ptr rfl) ?_
  refine XOps.s rfl rfl rfl (Q.fld_ptr fl39_3 rfl) ?_
  refine XOps.s rfl rfl rfl (Q.ld_ptr (k := 0) ag3 rfl rfl rfl) ?_
  refine XOps.s rfl rfl rfl (Q.assign_d rfl) ?_
  refine XOps.nil ?_
  refine W.ret ?_
  exact ⟨_, prH b p f s w hs, rfl, HLe.refl _, rfl, rfl⟩

set_option maxHeartbeats 1000000 in
set_option maxRecDepth 100000 in
theorem ans_c (b : Nat) (p : PS) (f s w : Nat) (hs : Hp) : AC P 12 [.ptr b 0] (prH b p f s w hs) (fun r h => r = .d (.int .i64 p.ans) ∧ h = prH b p f s w hs) := by
  refine AC.of 7 Try.func12 rfl rfl rfl ?_
  refine W.reg ?_
  refine XOps.s rfl rfl rfl (Q.assign_d rfl) ?_
  refine XOps.nil ?_
  refine W.reg ?_
  refine XOps.s rfl rfl rfl (Q.move_ptr rfl) ?_
  refine XOps.s rfl rfl rfl (Q.nil_ptr rfl) ?_
  refine XOps.s rfl rfl rfl (Q.fld_ptr fl39_4 rfl) ?_
  refine XOps.s rfl rfl rfl (Q.ld_ptr (k := 0) ag3 rfl rfl rfl) ?_
  refine XOps.s rfl rfl rfl (Q.assign_d rfl) ?_
  refine XOps.nil ?_
  refine W.ret ?_
  exact ⟨_, prH b p f s w hs, rfl, HLe.refl _, rfl, rfl⟩

set_option maxHeartbeats 1000000 in
set_option maxRecDepth 100000 in
theorem primary_own (b : Nat) (p : PS) (f s w : Nat) (hs : Hp) (hl : p.first.length ≤ 1000) : AC P 11 [.ptr b 0] (prH b p f s w hs) (fun r h => ∃ v, r = .vs v 0 p.first.length 1 ∧ h = (v, .lst 1 (p.first.map sE)) :: prH b p f s w hs) := by
  refine AC.of 8 Try.func11 rfl rfl rfl ?_
  refine W.reg ?_
  refine XOps.s rfl rfl rfl (Q.assign_nilsl rfl) ?_
  refine XOps.nil ?_
  refine W.reg ?_
  refine XOps.s rfl rfl rfl (Q.move_ptr rfl) ?_
  refine XOps.s rfl rfl rfl (Q.nil_ptr rfl) ?_
  refine XOps.s rfl rfl rfl (Q.fld_ptr fl39_1 rfl) ?_
  refine XOps.s rfl rfl rfl (Q.ld_ptr (k := 0) ag26 rfl rfl rfl) ?_
  (refine XOps.loud rfl (L.bcall rfl Try.func15 go15 rfl (.cons (.b1 (.b0 (.vs 1 rfl (by simp)))) .nil) (cloneS_c p.first [] (by omega)) (fun r h ⟨v, h1, h2⟩ => by subst h1; subst h2; exact ⟨by simp [OkR, Ok1], by simp [OkH, sE, D.flat]⟩) rfl) ?_; rintro _ _ ⟨_, _, rfl, ⟨v, rfl, rfl⟩, rfl⟩)
  refine XOps.s rfl rfl rfl (Q.assign_vs rfl) ?_
  refine XOps.nil ?_
  refine W.ret ?_
  exact ⟨_, (v, .lst 1 (p.first.map sE)) :: prH b p f s w hs, rfl, HLe.refl _, v, rfl, rfl⟩

theorem primary_c (b : Nat) (p : PS) (f s w : Nat) (hs : Hp) (hl : p.first.length ≤ 1000) : AC P 11 [.ptr b 0] (prH b p f s w hs) (fun r h => r = .d (.sl 1 (p.first.map sE)) ∧ h = prH b p f s w hs) :=
  AC.frz ((primary_own b p f s w hs hl).mono fun r h ⟨v, h1, h2⟩ => ⟨v, h2, h1 ▸ .vs (by simp)⟩)

set_option maxHeartbeats 1000000 in
set_option maxRecDepth 100000 in
theorem standby_own (b : Nat) (p : PS) (f s w : Nat) (hs : Hp) (hl : p.second.length ≤ 1000) : AC P 17 [.ptr b 0] (prH b p f s w hs) (fun r h => ∃ v, r = .vs v 0 p.second.length 1 ∧ h = (v, .lst 1 (p.second.map sE)) :: prH b p f s w hs) := by
  refine AC.of 8 Try.func17 rfl rfl rfl ?_
  refine W.reg ?_
  refine XOps.s rfl rfl rfl (Q.assign_nilsl rfl) ?_
  refine XOps.nil ?_
  refine W.reg ?_
  refine XOps.s rfl rfl rfl (Q.move_ptr rfl) ?_
  refine XOps.s rfl rfl rfl (Q.nil_ptr rfl) ?_
  refine XOps.s rfl rfl rfl (Q.fld_ptr fl39_2 rfl) ?_
  refine XOps.s rfl rfl rfl (Q.ld_ptr (k := 0) ag26 rfl rfl rfl) ?_
  (refine XOps.loud rfl (L.bcall rfl Try.func15 go15 rfl (.cons (.b1 (.b0 (.vs 2 rfl (by simp)))) .nil) (cloneS_c p.second [] (by omega)) (fun r h ⟨v, h1, h2⟩ => by subst h1; subst h2; exact ⟨by simp [OkR, Ok1], by simp [OkH, sE, D.flat]⟩) rfl) ?_; rintro _ _ ⟨_, _, rfl, ⟨v, rfl, rfl⟩, rfl⟩)
  refine XOps.s rfl rfl rfl (Q.assign_vs rfl) ?_
  refine XOps.nil ?_
  refine W.ret ?_
  exact ⟨_, (v, .lst 1 (p.second.map sE)) :: prH b p f s w hs, rfl, HLe.refl _, v, rfl, rfl⟩

theorem standby_c (b : Nat) (p : PS) (f s w : Nat) (hs : Hp) (hl : p.second.length ≤ 1000) : AC P 17 [.ptr b 0] (prH b p f s w hs) (fun r h => r = .d (.sl 1 (p.second.map sE)) ∧ h = prH b p f s w hs) :=
  AC.frz ((standby_own b p f s w hs hl).mono fun r h ⟨v, h1, h2⟩ => ⟨v, h2, h1 ▸ .vs (by simp)⟩)

set_option maxHeartbeats 1000000 in
set_option maxRecDepth 100000 in
theorem wire_own (b : Nat) (p : PS) (f s w : Nat) (hs : Hp) (hl : p.wire.length ≤ 1000) : AC P 19 [.ptr b 0] (prH b p f s w hs) (fun r h => ∃ v, r = .vs v 0 p.wire.length 4 ∧ h = (v, .lst 4 (p.wire.map Msg.enc)) :: prH b p f s w hs) := by
  refine AC.of 8 Try.func19 rfl rfl rfl ?_
  refine W.reg ?_
  refine XOps.s rfl rfl rfl (Q.assign_nilsl rfl) ?_
  refine XOps.nil ?_
  refine W.reg ?_
  refine XOps.s rfl rfl rfl (Q.move_ptr rfl) ?_
  refine XOps.s rfl rfl rfl (Q.nil_ptr rfl) ?_
  refine XOps.s rfl rfl rfl (Q.fld_ptr fl39_5 rfl) ?_
  refine XOps.s rfl rfl rfl (Q.ld_ptr (k := 0) ag33 rfl rfl rfl) ?_
  (refine XOps.loud rfl (L.bcall rfl Try.func30 go30 rfl (.cons (.b1 (.b0 (.vs 3 rfl (by simp)))) .nil) (cloneM_c p.wire [] (by omega)) (fun r h ⟨v, h1, h2⟩ => by subst h1; subst h2; exact ⟨by simp [OkR, Ok1], by simp [OkH, Msg.enc, D.flat]⟩) rfl) ?_; rintro _ _ ⟨_, _, rfl, ⟨v, rfl, rfl⟩, rfl⟩)
  refine XOps.s rfl rfl rfl (Q.assign_vs rfl) ?_
  refine XOps.nil ?_
  refine W.ret ?_
  exact ⟨_, (v, .lst 4 (p.wire.map Msg.enc)) :: prH b p f s w hs, rfl, HLe.refl _, v, rfl, rfl⟩

theorem wire_c (b : Nat) (p : PS) (f s w : Nat) (hs : Hp) (hl : p.wire.length ≤ 1000) : AC P 19 [.ptr b 0] (prH b p f s w hs) (fun r h => r = .d (.sl 4 (p.wire.map Msg.enc)) ∧ h = prH b p f s w hs) :=
  AC.frz ((wire_own b p f s w hs hl).mono fun r h ⟨v, h1, h2⟩ => ⟨v, h2, h1 ▸ .vs (by simp)⟩)

set_option maxHeartbeats 1000000 in
set_option maxRecDepth 100000 in
theorem send_c (b : Nat) (p : PS) (f s w : Nat) (l : List Msg) (hs : Hp) (hw : p.wire.length ≤ 64) (hl : l.length ≤ 1000) : AC P 32 [.ptr b 0, .d (.sl 4 (l.map Msg.enc))] (prH b p f s w hs) (fun r h => ∃ w2, r = .d (.int .i64 (p.sendE l)) ∧ h = prH b (p.send l) f s w2 hs) := by
  refine AC.of 23 Try.func32 rfl rfl rfl ?_
  refine W.reg ?_
  refine XOps.s rfl rfl rfl (Q.assign_d rfl) ?_
  refine XOps.nil ?_
  refine W.seq ?_
  refine W.reg ?_
  refine XOps.s rfl rfl rfl (Q.move_ptr rfl) ?_
  refine XOps.s rfl rfl rfl (Q.nil_ptr rfl) ?_
  refine XOps.s rfl rfl rfl (Q.fld_ptr fl39_5 rfl) ?_
  refine XOps.s rfl rfl rfl (Q.ld_ptr (k := 0) ag33 rfl rfl rfl) ?_
  refine XOps.s rfl rfl rfl (Q.len_vs isl33 rfl) ?_
  refine XOps.s rfl rfl rfl (Q.move_d rfl) ?_
  refine XOps.s rfl rfl rfl (Q.len_sl isl33 rfl) ?_
  refine XOps.s rfl rfl rfl (Q.add rfl rfl (wi64 (by first | omega | (dsimp only; omega) | (simp only [List.length_map]; omega)) (by first | omega | (dsimp only; omega) | (simp only [List.length_map]; omega)))) ?_
  refine XOps.s rfl rfl rfl (Q.gtr rfl rfl) ?_
  refine XOps.nil ?_
  refine W.cond rfl (fun hc13 => ?_) (fun hc13 => ?_)
  · try simp only [Bool.or_eq_true, Bool.or_eq_false_iff, Bool.and_eq_true, Bool.and_eq_false_iff, decide_eq_true_eq, decide_eq_false_iff_not, Bool.not_eq_true', Bool.not_eq_false', Int.not_lt, Int.not_le, List.length_map] at hc13
    have hE : p.sendE l = 9 := by unfold PS.sendE; rw [if_pos (by omega)]
    have hS : p.send l = p := by unfold PS.send; rw [if_pos (by omega)]
    rw [hE, hS]
    refine W.reg ?_
    refine XOps.s rfl rfl rfl (Q.assign_d rfl) ?_
    refine XOps.nil ?_
    refine W.ret ?_
    exact ⟨_, prH b p f s w hs, rfl, HLe.refl _, w, rfl, rfl⟩
  · try simp only [Bool.or_eq_true, Bool.or_eq_false_iff, Bool.and_eq_true, Bool.and_eq_false_iff, decide_eq_true_eq, decide_eq_false_iff_not, Bool.not_eq_true', Bool.not_eq_false', Int.not_lt, Int.not_le, List.length_map] at hc13
    have hE : p.sendE l = 0 := by unfold PS.sendE; rw [if_neg (by omega)]
    have hS : p.send l = ⟨p.term, p.first, p.second, p.done, p.ans, p.wire ++ l⟩ := by unfold PS.send; rw [if_neg (by omega)]
    rw [hE, hS]
    refine W.skip ?_
    refine W.reg ?_
    refine XOps.s rfl rfl rfl (Q.move_ptr rfl) ?_
    refine XOps.s rfl rfl rfl (Q.move_ptr rfl) ?_
    refine XOps.s rfl rfl rfl (Q.nil_ptr rfl) ?_
    refine XOps.s rfl rfl rfl (Q.fld_ptr fl39_5 rfl) ?_
    refine XOps.s rfl rfl rfl (Q.ld_ptr (k := 0) ag33 rfl rfl rfl) ?_
    refine XOps.s rfl rfl rfl (Q.move_d rfl) ?_
    refine XOps.loud rfl (L.app (k := 3) ap33 rfl rfl (by first | rfl | (simp [List.length_map]; done)) rfl (by simp; omega) rfl) ?_
    rintro _ _ ⟨v20, rfl, rfl⟩
    refine XOps.s rfl rfl rfl (Q.nil_ptr rfl) ?_
    refine XOps.s rfl rfl rfl (Q.fld_ptr fl39_5 rfl) ?_
    refine XOps.loud rfl (L.store (k := 1) ag33 rfl rfl rfl rfl rfl) ?_
    rintro _ _ ⟨rfl, rfl⟩
    refine XOps.nil ?_
    refine W.reg ?_
    refine XOps.s rfl rfl rfl (Q.assign_d rfl) ?_
    refine XOps.nil ?_
    refine W.ret ?_
    exact ⟨_, prH b ⟨p.term, p.first, p.second, p.done, p.ans, p.wire ++ l⟩ f s v20 hs, rfl, (HLe.pick 1 rfl (by first | rfl | (simp [PS.cells, Msg.enc, sE]; done) | (simp [PS.cells, Msg.enc, sE]; rfl) | (simp [PS.cells, Msg.enc, sE]; exact ⟨rfl, rfl⟩)) (HLe.pick 1 rfl (by first | rfl | (simp [PS.cells, Msg.enc, sE]; done) | (simp [PS.cells, Msg.enc, sE]; rfl) | (simp [PS.cells, Msg.enc, sE]; exact ⟨rfl, rfl⟩)) (HLe.pick 1 rfl (by first | rfl | (simp [PS.cells, Msg.enc, sE]; done) | (simp [PS.cells, Msg.enc, sE]; rfl) | (simp [PS.cells, Msg.enc, sE]; exact ⟨rfl, rfl⟩)) (HLe.pick 0 rfl (by first | rfl | (simp [PS.cells, Msg.enc, sE]; done) | (simp [PS.cells, Msg.enc, sE]; rfl) | (simp [PS.cells, Msg.enc, sE]; exact ⟨rfl, rfl⟩)) (HLe.refl _))))), v20, rfl, rfl⟩

set_option maxHeartbeats 1000000 in
set_option maxRecDepth 100000 in
theorem submit_c (b : Nat) (p : PS) (f s w : Nat) (t : ByteArray) (hs : Hp) (hok : p.ok 100) : AC P 26 [.ptr b 0, .d (.str t)] (prH b p f s w hs) (fun r h => ∃ f2 w2, r = .tup [.d (.int .i64 (p.subN t)), .d (.int .i64 (p.subE t))] ∧ h = prH b (p.submit t) f2 s w2 hs) := by
  have hln := hok.len
  have hwl := hok.wl
  refine AC.of 47 Try.func26 rfl rfl rfl ?_
  refine W.reg ?_
  refine XOps.s rfl rfl rfl (Q.assign_d rfl) ?_
  refine XOps.s rfl rfl rfl (Q.assign_d rfl) ?_
  refine XOps.nil ?_
  refine W.seq ?_
  refine W.reg ?_
  refine XOps.s rfl rfl rfl (Q.move_d rfl) ?_
  refine XOps.s rfl rfl rfl (Q.len_str ist9 rfl) ?_
  refine XOps.s rfl rfl rfl (Q.gtr rfl rfl) ?_
  refine XOps.nil ?_
  refine W.cond rfl (fun hc10 => ?_) (fun hc10 => ?_)
  · try simp only [Bool.or_eq_true, Bool.or_eq_false_iff, Bool.and_eq_true, Bool.and_eq_false_iff, decide_eq_true_eq, decide_eq_false_iff_not, Bool.not_eq_true', Bool.not_eq_false', Int.not_lt, Int.not_le, List.length_map] at hc10
    have hE : p.subE t = 2 := by unfold PS.subE; rw [if_pos (by omega)]
    have hN : p.subN t = 0 := by unfold PS.subN; rw [if_neg (by omega)]
    have hS : p.submit t = p := by unfold PS.submit; rw [if_neg (by omega)]
    rw [hE, hN, hS]
    refine W.reg ?_
    refine XOps.s rfl rfl rfl (Q.assign_d rfl) ?_
    refine XOps.s rfl rfl rfl (Q.assign_d rfl) ?_
    refine XOps.nil ?_
    refine W.ret ?_
    exact ⟨_, prH b p f s w hs, rfl, HLe.refl _, f, w, rfl, rfl⟩
  · try simp only [Bool.or_eq_true, Bool.or_eq_false_iff, Bool.and_eq_true, Bool.and_eq_false_iff, decide_eq_true_eq, decide_eq_false_iff_not, Bool.not_eq_true', Bool.not_eq_false', Int.not_lt, Int.not_le, List.length_map] at hc10
    refine W.skip ?_
    refine W.seq ?_
    refine W.reg ?_
    refine XOps.s rfl rfl rfl (Q.move_ptr rfl) ?_
    refine XOps.s rfl rfl rfl (Q.nil_ptr rfl) ?_
    refine XOps.s rfl rfl rfl (Q.fld_ptr fl39_1 rfl) ?_
    refine XOps.s rfl rfl rfl (Q.ld_ptr (k := 0) ag26 rfl rfl rfl) ?_
    refine XOps.s rfl rfl rfl (Q.len_vs isl26 rfl) ?_
    refine XOps.s rfl rfl rfl (Q.eql rfl rfl) ?_
    refine XOps.nil ?_
    refine W.cond rfl (fun hc16 => ?_) (fun hc16 => ?_)
    · try simp only [Bool.or_eq_true, Bool.or_eq_false_iff, Bool.and_eq_true, Bool.and_eq_false_iff, decide_eq_true_eq, decide_eq_false_iff_not, Bool.not_eq_true', Bool.not_eq_false', Int.not_lt, Int.not_le, List.length_map] at hc16
      have hE : p.subE t = 9 := by unfold PS.subE; rw [if_neg (by omega), if_pos hc16]
      have hN : p.subN t = 0 := by unfold PS.subN; rw [if_neg (by omega)]
      have hS : p.submit t = p := by unfold PS.submit; rw [if_neg (by omega)]
      rw [hE, hN, hS]
      refine W.reg ?_
      refine XOps.s rfl rfl rfl (Q.assign_d rfl) ?_
      refine XOps.s rfl rfl rfl (Q.assign_d rfl) ?_
      refine XOps.nil ?_
      refine W.ret ?_
      exact ⟨_, prH b p f s w hs, rfl, HLe.refl _, f, w, rfl, rfl⟩
    · try simp only [Bool.or_eq_true, Bool.or_eq_false_iff, Bool.and_eq_true, Bool.and_eq_false_iff, decide_eq_true_eq, decide_eq_false_iff_not, Bool.not_eq_true', Bool.not_eq_false', Int.not_lt, Int.not_le, List.length_map] at hc16
      have hE : p.subE t = p.sendE [p.subM t] := by unfold PS.subE; rw [if_neg (by omega), if_neg hc16]
      refine W.skip ?_
      refine W.reg ?_
      refine XOps.s rfl rfl rfl (Q.move_ptr rfl) ?_
      refine XOps.s rfl rfl rfl (Q.nil_ptr rfl) ?_
      refine XOps.s rfl rfl rfl (Q.fld_ptr fl39_1 rfl) ?_
      refine XOps.s rfl rfl rfl (Q.ld_ptr (k := 0) ag26 rfl rfl rfl) ?_
      refine XOps.s rfl rfl rfl (Q.len_vs isl26 rfl) ?_
      refine XOps.s rfl rfl rfl (Q.add rfl rfl (wi64 (by first | omega | (dsimp only; omega) | (simp only [List.length_map]; omega)) (by first | omega | (dsimp only; omega) | (simp only [List.length_map]; omega)))) ?_
      refine XOps.s rfl rfl rfl (Q.assign_d rfl) ?_
      refine XOps.nil ?_
      refine W.seq ?_
      refine W.reg ?_
      refine XOps.s rfl rfl rfl (Q.move_ptr rfl) ?_
      refine XOps.s rfl rfl rfl (Q.move_ptr rfl) ?_
      refine XOps.s rfl rfl rfl (Q.nil_ptr rfl) ?_
      refine XOps.s rfl rfl rfl (Q.fld_ptr fl39_0 rfl) ?_
      refine XOps.s rfl rfl rfl (Q.ld_ptr (k := 0) ag3 rfl rfl rfl) ?_
      refine XOps.s rfl rfl rfl (Q.move_d rfl) ?_
      refine XOps.s rfl rfl rfl (Q.move_d rfl) ?_
      refine XOps.s rfl rfl rfl (Q.build pl46 tz46 tzd46 rfl) ?_
      refine XOps.s rfl rfl rfl (Q.bsl1n sl33 (by decide) zr33 rfl zrd33 rfl rfl (by decide)) ?_
      (refine XOps.loud rfl (L.call rfl Try.func32 go32 rfl (send_c b p f s w [p.subM t] hs hwl (by simp)) rfl) ?_; rintro _ _ ⟨_, rfl, w2, rfl, rfl⟩)
      refine XOps.s rfl rfl rfl (Q.assign_d rfl) ?_
      refine XOps.nil ?_
      refine W.reg ?_
      refine XOps.s rfl rfl rfl (Q.move_d rfl) ?_
      refine XOps.s rfl rfl rfl (Q.neq rfl rfl) ?_
      refine XOps.nil ?_
      refine W.cond rfl (fun hc34 => ?_) (fun hc34 => ?_)
      · try simp only [Bool.or_eq_true, Bool.or_eq_false_iff, Bool.and_eq_true, Bool.and_eq_false_iff, decide_eq_true_eq, decide_eq_false_iff_not, Bool.not_eq_true', Bool.not_eq_false', Int.not_lt, Int.not_le, List.length_map] at hc34
        have hN : p.subN t = 0 := by unfold PS.subN; rw [if_neg (by omega)]
        have hS : p.submit t = p := by unfold PS.submit; rw [if_neg (by omega)]
        have hSd : p.send [p.subM t] = p := PS.send_err hc34
        rw [hE, hN, hS, hSd]
        refine W.reg ?_
        refine XOps.s rfl rfl rfl (Q.move_d rfl) ?_
        refine XOps.s rfl rfl rfl (Q.assign_d rfl) ?_
        refine XOps.s rfl rfl rfl (Q.assign_d rfl) ?_
        refine XOps.nil ?_
        refine W.ret ?_
        exact ⟨_, prH b p f s w2 hs, rfl, HLe.refl _, f, w2, rfl, rfl⟩
      · try simp only [Bool.or_eq_true, Bool.or_eq_false_iff, Bool.and_eq_true, Bool.and_eq_false_iff, decide_eq_true_eq, decide_eq_false_iff_not, Bool.not_eq_true', Bool.not_eq_false', Int.not_lt, Int.not_le, List.length_map] at hc34
        have hN : p.subN t = (p.first.length : Int) + 1 := by unfold PS.subN; rw [if_pos (by omega)]
        have hS : p.submit t = ⟨p.term, p.first ++ [t], p.second, p.done, p.ans, p.wire ++ [p.subM t]⟩ := by unfold PS.submit; rw [if_pos (by omega)]
        have hSd : p.send [p.subM t] = ⟨p.term, p.first, p.second, p.done, p.ans, p.wire ++ [p.subM t]⟩ := PS.send_ok (by omega)
        rw [show p.subE t = 0 by omega, hN, hS, hSd]
        refine W.skip ?_
        refine W.reg ?_
        refine XOps.s rfl rfl rfl (Q.move_ptr rfl) ?_
        refine XOps.s rfl rfl rfl (Q.move_ptr rfl) ?_
        refine XOps.s rfl rfl rfl (Q.nil_ptr rfl) ?_
        refine XOps.s rfl rfl rfl (Q.fld_ptr fl39_1 rfl) ?_
        refine XOps.s rfl rfl rfl (Q.ld_ptr (k := 0) ag26 rfl rfl rfl) ?_
        refine XOps.s rfl rfl rfl (Q.move_d rfl) ?_
        refine XOps.s rfl rfl rfl (Q.bsl1 sl26 zr26 rfl zrd26 rfl rfl) ?_
        refine XOps.loud rfl (L.app (k := 1) ap26 rfl rfl (by first | rfl | (simp [List.length_map]; done)) rfl (by simp; omega) rfl) ?_
        rintro _ _ ⟨v43, rfl, rfl⟩
        refine XOps.s rfl rfl rfl (Q.nil_ptr rfl) ?_
        refine XOps.s rfl rfl rfl (Q.fld_ptr fl39_1 rfl) ?_
        refine XOps.loud rfl (L.store (k := 1) ag26 rfl rfl rfl rfl rfl) ?_
        rintro _ _ ⟨rfl, rfl⟩
        refine XOps.nil ?_
        refine W.reg ?_
        refine XOps.s rfl rfl rfl (Q.move_d rfl) ?_
        refine XOps.s rfl rfl rfl (Q.assign_d rfl) ?_
        refine XOps.s rfl rfl rfl (Q.assign_d rfl) ?_
        refine XOps.nil ?_
        refine W.ret ?_
        exact ⟨_, prH b ⟨p.term, p.first ++ [t], p.second, p.done, p.ans, p.wire ++ [p.subM t]⟩ v43 s w2 hs, rfl, (HLe.pick 1 rfl (by first | rfl | (simp [PS.cells, Msg.enc, sE]; done) | (simp [PS.cells, Msg.enc, sE]; rfl) | (simp [PS.cells, Msg.enc, sE]; exact ⟨rfl, rfl⟩)) (HLe.pick 0 rfl (by first | rfl | (simp [PS.cells, Msg.enc, sE]; done) | (simp [PS.cells, Msg.enc, sE]; rfl) | (simp [PS.cells, Msg.enc, sE]; exact ⟨rfl, rfl⟩)) (HLe.pick 0 rfl (by first | rfl | (simp [PS.cells, Msg.enc, sE]; done) | (simp [PS.cells, Msg.enc, sE]; rfl) | (simp [PS.cells, Msg.enc, sE]; exact ⟨rfl, rfl⟩)) (HLe.pick 0 rfl (by first | rfl | (simp [PS.cells, Msg.enc, sE]; done) | (simp [PS.cells, Msg.enc, sE]; rfl) | (simp [PS.cells, Msg.enc, sE]; exact ⟨rfl, rfl⟩)) (HLe.refl _))))), v43, w2, rfl, rfl⟩

set_option maxHeartbeats 1000000 in
set_option maxRecDepth 100000 in
theorem drop_c (b : Nat) (p : PS) (f s w : Nat) (k : Int) (hs : Hp) (hok : p.ok 100) : AC P 20 [.ptr b 0, .d (.int .i64 k)] (prH b p f s w hs) (fun r h => r = .d (.int .i64 (p.dropE k)) ∧ h = prH b (p.drop k) f s w hs) := by
  have hwl := hok.wl
  refine AC.of 27 Try.func20 rfl rfl rfl ?_
  refine W.reg ?_
  refine XOps.s rfl rfl rfl (Q.assign_d rfl) ?_
  refine XOps.nil ?_
  refine W.seq ?_
  refine W.reg ?_
  refine XOps.s rfl rfl rfl (Q.move_d rfl) ?_
  refine XOps.s rfl rfl rfl (Q.lss rfl rfl) ?_
  refine XOps.s rfl rfl rfl (Q.move_d rfl) ?_
  refine XOps.gs rfl rfl rfl rfl rfl rfl rfl (fun hg => Q.move_d rfl) ?_
  refine XOps.gs rfl rfl rfl rfl rfl rfl rfl (fun hg => Q.move_ptr rfl) ?_
  refine XOps.gs rfl rfl rfl rfl rfl rfl rfl (fun hg => Quiet.open 9 hg rfl (Q.nil_ptr rfl)) ?_
  refine XOps.gs rfl rfl rfl rfl rfl rfl rfl (fun hg => Quiet.open 10 hg rfl (Q.fld_ptr fl39_5 rfl)) ?_
  refine XOps.gs rfl rfl rfl rfl rfl rfl rfl (fun hg => Quiet.open 11 hg rfl (Q.ld_ptr (k := 0) ag33 rfl rfl rfl)) ?_
  refine XOps.gs rfl rfl rfl rfl rfl rfl rfl (fun hg => Quiet.open 12 hg rfl (Q.len_vs isl33 rfl)) ?_
  refine XOps.gs rfl rfl rfl rfl rfl rfl rfl (fun hg => Quiet.open 8 hg rfl (Quiet.open 13 hg rfl (Q.geq rfl rfl))) ?_
  refine XOps.s rfl rfl rfl (Q.pick_or rfl rfl rfl (fun h => by first | (rw [h]; rfl) | (rw [hg, h]; rfl) | (simp [h, hg]; done))) ?_
  refine XOps.nil ?_
  refine W.cond rfl (fun hc15 => ?_) (fun hc15 => ?_)
  · try simp only [Bool.or_eq_true, Bool.or_eq_false_iff, Bool.and_eq_true, Bool.and_eq_false_iff, decide_eq_true_eq, decide_eq_false_iff_not, Bool.not_eq_true', Bool.not_eq_false', Int.not_lt, Int.not_le, List.length_map] at hc15
    have hin : ¬ p.inW k := by unfold PS.inW; omega
    have hE : p.dropE k = 8 := by unfold PS.dropE; rw [if_neg hin]
    have hS : p.drop k = p := by unfold PS.drop; rw [if_neg hin]
    rw [hE, hS]
    refine W.reg ?_
    refine XOps.s rfl rfl rfl (Q.assign_d rfl) ?_
    refine XOps.nil ?_
    refine W.ret ?_
    exact ⟨_, prH b p f s w hs, rfl, HLe.refl _, rfl, rfl⟩
  · try simp only [Bool.or_eq_true, Bool.or_eq_false_iff, Bool.and_eq_true, Bool.and_eq_false_iff, decide_eq_true_eq, decide_eq_false_iff_not, Bool.not_eq_true', Bool.not_eq_false', Int.not_lt, Int.not_le, List.length_map] at hc15
    obtain ⟨i, rfl⟩ : ∃ i : Nat, k = i := ⟨k.toNat, by omega⟩
    have hin : p.inW i := by unfold PS.inW; omega
    have hE : p.dropE i = 0 := by unfold PS.dropE; rw [if_pos hin]
    have hS : p.drop i = p.without i := by unfold PS.drop; rw [if_pos hin, Int.toNat_natCast]
    rw [hE, hS]
    refine W.skip ?_
    refine W.reg ?_
    refine XOps.s rfl rfl rfl (Q.move_ptr rfl) ?_
    refine XOps.s rfl rfl rfl (Q.move_ptr rfl) ?_
    refine XOps.s rfl rfl rfl (Q.nil_ptr rfl) ?_
    refine XOps.s rfl rfl rfl (Q.fld_ptr fl39_5 rfl) ?_
    refine XOps.s rfl rfl rfl (Q.ld_ptr (k := 0) ag33 rfl rfl rfl) ?_
    refine XOps.s rfl rfl rfl (Q.move_d rfl) ?_
    refine XOps.s rfl rfl rfl (Q.move_d rfl) ?_
    refine XOps.s rfl rfl rfl (Q.add rfl rfl (wi64 (by first | omega | (dsimp only; omega) | (simp only [List.length_map]; omega)) (by first | omega | (dsimp only; omega) | (simp only [List.length_map]; omega)))) ?_
    (refine XOps.loud rfl (L.call rfl Try.func31 go31 rfl (AC.le (delM1_c p.wire w i ((b, .cells (p.cells f s w)) :: (f, .lst 1 (p.first.map sE)) :: (s, .lst 1 (p.second.map sE)) :: hs) (by omega) (by omega)) (HLe.pick 3 rfl rfl (HLe.refl _))) rfl) ?_; rintro _ _ ⟨_, rfl, rfl, rfl⟩)
    refine XOps.s rfl rfl rfl (Q.nil_ptr rfl) ?_
    refine XOps.s rfl rfl rfl (Q.fld_ptr fl39_5 rfl) ?_
    refine XOps.loud rfl (L.store (k := 1) ag33 rfl rfl rfl rfl rfl) ?_
    rintro _ _ ⟨rfl, rfl⟩
    refine XOps.nil ?_
    refine W.reg ?_
    refine XOps.s rfl rfl rfl (Q.assign_d rfl) ?_
    refine XOps.nil ?_
    refine W.ret ?_
    exact ⟨_, prH b (p.without i) f s w hs, rfl, (HLe.pick 1 rfl (by first | rfl | (simp [PS.cells, Msg.enc, sE]; done) | (simp [PS.cells, Msg.enc, sE]; rfl) | (simp [PS.cells, Msg.enc, sE]; exact ⟨rfl, rfl⟩)) (HLe.pick 1 rfl (by first | rfl | (simp [PS.cells, Msg.enc, sE]; done) | (simp [PS.cells, Msg.enc, sE]; rfl) | (simp [PS.cells, Msg.enc, sE]; exact ⟨rfl, rfl⟩)) (HLe.pick 1 rfl (by first | rfl | (simp [PS.cells, Msg.enc, sE]; done) | (simp [PS.cells, Msg.enc, sE]; rfl) | (simp [PS.cells, Msg.enc, sE]; exact ⟨rfl, rfl⟩)) (HLe.pick 0 rfl (by first | rfl | (simp [PS.cells, Msg.enc, sE]; done) | (simp [PS.cells, Msg.enc, sE]; rfl) | (simp [PS.cells, Msg.enc, sE]; exact ⟨rfl, rfl⟩)) (HLe.refl _))))), rfl, rfl⟩
end Go.Proofs.YtcicechobemnaaaA
