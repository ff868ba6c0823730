/- What the laws of package replay use. -/
import Derived.Test.YtodbcbojkfndiaaDoorFrB
import Derived.Test.YtodbcbojkfndiaaDoorRpC
import Derived.Test.YtodbcbojkfndiaaDoorRep3
import Derived.Test.YtodbcbojkfndiaaDoorFrC
set_option linter.unusedVariables false
set_option linter.unusedSimpArgs false
set_option linter.unnecessarySimpa false
namespace Go.Proofs.YtodbcbojkfndiaaDoorA.FRpD
open Go
theorem ag3 : tAgg P 3 = some ((false, 1)) := by kernel_rfl
theorem ag34 : tAgg P 34 = some ((true, 2)) := by kernel_rfl
theorem ap23 : tApp P 23 = some ((4, 48)) := by kernel_rfl
theorem eqt34 : tEq P 34 = some ([.str, .str]) := by kernel_rfl
theorem fl36_0 : tFld P 36 0 = some (0) := by kernel_rfl
theorem go15 : callGo Go.Proofs.Tryd.f15 = true := by kernel_rfl
theorem go18 : callGo Go.Proofs.Tryd.f18 = true := by kernel_rfl
theorem isl22 : isSl P 22 = true := by kernel_rfl
theorem isl23 : isSl P 23 = true := by kernel_rfl
theorem ist9 : isStr P 9 = true := by kernel_rfl
theorem pl34 : tPl P 34 = some ([(0, 1), (1, 1)]) := by kernel_rfl
theorem pl36 : tPl P 36 = some ([(0, 1), (1, 1), (2, 1), (3, 1)]) := by kernel_rfl
theorem sl22 : tSl P 22 = some (2) := by kernel_rfl
theorem sl23 : tSl P 23 = some (4) := by kernel_rfl
theorem tz34 : tZero P 34 = some ([.string ⟨#[]⟩, .string ⟨#[]⟩]) := by kernel_rfl
theorem tz36 : tZero P 36 = some ([.int .i64 0, .int .i64 0, .string ⟨#[]⟩, .string ⟨#[]⟩]) := by kernel_rfl
theorem tzd34 : cellsD [.string ⟨#[]⟩, .string ⟨#[]⟩] = some ([.str ⟨#[]⟩, .str ⟨#[]⟩]) := rfl
theorem tzd36 : cellsD [.int .i64 0, .int .i64 0, .string ⟨#[]⟩, .string ⟨#[]⟩] = some ([.int .i64 0, .int .i64 0, .str ⟨#[]⟩, .str ⟨#[]⟩]) := rfl
theorem zr22 : tZrow P 22 = some ([.string ⟨#[]⟩, .string ⟨#[]⟩]) := by kernel_rfl
theorem zrd22 : cellsD [.string ⟨#[]⟩, .string ⟨#[]⟩] = some ([.str ⟨#[]⟩, .str ⟨#[]⟩]) := rfl
end Go.Proofs.YtodbcbojkfndiaaDoorA.FRpD
namespace Go.Proofs.YtodbcbojkfndiaaDoorA
open Go FRpD
attribute [local irreducible] XOps Quiet Loud W AC GQ DT
set_option maxHeartbeats 1000000 in
set_option maxRecDepth 100000 in
theorem rcut_c (n lo hi : Int) (hs : Hp) (h0 : -1000000000000 ≤ lo) (h1 : lo ≤ hi) (h2 : hi ≤ 1000000000000) : AC P 8 [.d (.int .i64 n), .d (.int .i64 lo), .d (.int .i64 hi)] hs (fun r h => r = .d (.int .i64 (cutI n lo hi)) ∧ h = hs) := by
  refine AC.of 23 Tryd.func8 rfl rfl rfl ?_
  refine W.reg ?_
  refine XOps.s rfl rfl rfl (Q.assign_d rfl) ?_
  refine XOps.nil ?_
  refine W.reg ?_
  refine XOps.s rfl rfl rfl (Q.move_d rfl) ?_
  refine XOps.s rfl rfl rfl (Q.move_d rfl) ?_
  refine XOps.s rfl rfl rfl (Q.sub rfl rfl (wi64 (by first | omega | (dsimp only; omega) | (simp only [List.length_map]; omega)) (by first | omega | (dsimp only; omega) | (simp only [List.length_map]; omega)))) ?_
  refine XOps.s rfl rfl rfl (Q.add rfl rfl (wi64 (by first | omega | (dsimp only; omega) | (simp only [List.length_map]; omega)) (by first | omega | (dsimp only; omega) | (simp only [List.length_map]; omega)))) ?_
  refine XOps.s rfl rfl rfl (Q.assign_d rfl) ?_
  refine XOps.nil ?_
  refine W.reg ?_
  refine XOps.s rfl rfl rfl (Q.move_d rfl) ?_
  refine XOps.s rfl rfl rfl (Q.move_d rfl) ?_
  refine XOps.s rfl rfl rfl (Q.rem rfl rfl (by omega) rfl) ?_
  refine XOps.s rfl rfl rfl (Q.assign_d rfl) ?_
  refine XOps.nil ?_
  refine W.seq ?_
  have hm := cut_mod (n := n) (m := hi - lo + 1) (by omega) rfl
  have hm0 := Int.emod_nonneg n (by omega : hi - lo + 1 ≠ 0)
  have hm1 := Int.emod_lt_of_pos n (by omega : 0 < hi - lo + 1)
  generalize hT : n.tmod (hi - lo + 1) = t at hm ⊢
  refine W.reg ?_
  refine XOps.s rfl rfl rfl (Q.move_d rfl) ?_
  refine XOps.s rfl rfl rfl (Q.lss rfl rfl) ?_
  refine XOps.nil ?_
  refine W.cond rfl (fun hc16 => ?_) (fun hc16 => ?_)
  · try simp only [Bool.or_eq_true, Bool.or_eq_false_iff, Bool.and_eq_true, Bool.and_eq_false_iff, decide_eq_true_eq, decide_eq_false_iff_not, Bool.not_eq_true', Bool.not_eq_false', Int.not_lt, Int.not_le, List.length_map] at hc16
    rw [if_pos hc16] at hm
    refine W.region ?_
    refine XOps.s rfl rfl rfl (Q.move_d rfl) ?_
    refine XOps.s rfl rfl rfl (Q.move_d rfl) ?_
    refine XOps.s rfl rfl rfl (Q.add rfl rfl (wi64 (by first | omega | (dsimp only; omega) | (simp only [List.length_map]; omega)) (by first | omega | (dsimp only; omega) | (simp only [List.length_map]; omega)))) ?_
    refine XOps.s rfl rfl rfl (Q.assign_d rfl) ?_
    refine XOps.nil ?_
    refine W.reg ?_
    refine XOps.s rfl rfl rfl (Q.move_d rfl) ?_
    refine XOps.s rfl rfl rfl (Q.move_d rfl) ?_
    refine XOps.s rfl rfl rfl (Q.add rfl rfl (wi64 (by first | omega | (dsimp only; omega) | (simp only [List.length_map]; omega)) (by first | omega | (dsimp only; omega) | (simp only [List.length_map]; omega)))) ?_
    refine XOps.s rfl rfl rfl (Q.assign_d rfl) ?_
    refine XOps.nil ?_
    refine W.ret ?_
    refine ⟨_, hs, rfl, by repeat (first | exact HLe.refl _ | refine HLe.cons' (by first | rfl | (simp; done)) ?_ | refine HLe.pick 1 rfl (by first | rfl | (simp; done)) ?_ | refine HLe.pick 2 rfl (by first | rfl | (simp; done)) ?_ | refine HLe.pick 3 rfl (by first | rfl | (simp; done)) ?_ | refine HLe.pick 4 rfl (by first | rfl | (simp; done)) ?_ | refine HLe.pick 5 rfl (by first | rfl | (simp; done)) ?_ | refine HLe.skip _ ?_), ?_, rfl⟩
    exact int_eq (by unfold cutI; omega)
  · try simp only [Bool.or_eq_true, Bool.or_eq_false_iff, Bool.and_eq_true, Bool.and_eq_false_iff, decide_eq_true_eq, decide_eq_false_iff_not, Bool.not_eq_true', Bool.not_eq_false', Int.not_lt, Int.not_le, List.length_map] at hc16
    rw [if_neg (by omega)] at hm
    refine W.skip ?_
    refine W.reg ?_
    refine XOps.s rfl rfl rfl (Q.move_d rfl) ?_
    refine XOps.s rfl rfl rfl (Q.move_d rfl) ?_
    refine XOps.s rfl rfl rfl (Q.add rfl rfl (wi64 (by first | omega | (dsimp only; omega) | (simp only [List.length_map]; omega)) (by first | omega | (dsimp only; omega) | (simp only [List.length_map]; omega)))) ?_
    refine XOps.s rfl rfl rfl (Q.assign_d rfl) ?_
    refine XOps.nil ?_
    refine W.ret ?_
    refine ⟨_, hs, rfl, by repeat (first | exact HLe.refl _ | refine HLe.cons' (by first | rfl | (simp; done)) ?_ | refine HLe.pick 1 rfl (by first | rfl | (simp; done)) ?_ | refine HLe.pick 2 rfl (by first | rfl | (simp; done)) ?_ | refine HLe.pick 3 rfl (by first | rfl | (simp; done)) ?_ | refine HLe.pick 4 rfl (by first | rfl | (simp; done)) ?_ | refine HLe.pick 5 rfl (by first | rfl | (simp; done)) ?_ | refine HLe.skip _ ?_), ?_, rfl⟩
    exact int_eq (by unfold cutI; omega)

set_option maxHeartbeats 1000000 in
set_option maxRecDepth 100000 in
theorem rit_c (n : Nat) (hs : Hp) (hn : n ≤ 1000000) (hz : (itoaS n).size ≤ 1000) : AC P 13 [.d (.int .i64 (n : Int))] hs (fun r h => r = .d (.str (itoaS n)) ∧ h = hs) := by
  refine AC.of 21 Tryd.func13 rfl rfl rfl ?_
  refine W.reg ?_
  refine XOps.s rfl rfl rfl (Q.assign_d rfl) ?_
  refine XOps.nil ?_
  refine W.reg ?_
  refine XOps.s rfl rfl rfl (Q.assign_d rfl) ?_
  refine XOps.nil ?_
  refine W.seq ?_
  refine W.block ?_
  refine W.loop (ι := Nat × Nat × ByteArray) (fun p => [(0, .d (.int .i64 (p.2.1 : Nat))), (3, .d (.str p.2.2))]) (fun p => hs) (fun p => itoaR p.1 p.2.1 p.2.2 = itoaS n ∧ p.2.1 + (if seq p.2.2 ⟨#[]⟩ = true then 1 else 0) ≤ p.1 ∧ p.2.1 ≤ 1000000) (fun p => p.1) (n + 1, n, ⟨#[]⟩) ?_ ?_ ?_ ?_
  · exact ⟨rfl, by simp [seq_refl], hn⟩
  · exact ⟨by first | rfl | exact int_eq (by omega) | exact len_eq (by simp) | exact int_eq (by simp; done), by first | rfl | exact int_eq (by omega) | exact len_eq (by simp) | exact int_eq (by simp; done), trivial⟩
  · repeat (first | exact HLe.refl _ | refine HLe.cons' (by first | rfl | (simp; done)) ?_ | refine HLe.pick 1 rfl (by first | rfl | (simp; done)) ?_ | refine HLe.pick 2 rfl (by first | rfl | (simp; done)) ?_ | refine HLe.pick 3 rfl (by first | rfl | (simp; done)) ?_ | refine HLe.pick 4 rfl (by first | rfl | (simp; done)) ?_ | refine HLe.pick 5 rfl (by first | rfl | (simp; done)) ?_ | refine HLe.skip _ ?_)
  · rintro ⟨f, m, s⟩ hI
    try dsimp only at hI ⊢
    refine W.seq ?_
    refine W.reg ?_
    refine XOps.s rfl rfl rfl (Q.move_d rfl) ?_
    refine XOps.s rfl rfl rfl (Q.gtr rfl rfl) ?_
    refine XOps.s rfl rfl rfl (Q.move_d rfl) ?_
    refine XOps.gs rfl rfl rfl rfl rfl rfl rfl (fun hg => Q.move_d rfl) ?_
    refine XOps.gs rfl rfl rfl rfl rfl rfl rfl (fun hg => Quiet.open 7 hg rfl (Q.eql_str rfl rfl)) ?_
    refine XOps.s rfl rfl rfl (Q.pick_or rfl rfl rfl (fun h => by first | (rw [h]; rfl) | (rw [hg, h]; rfl) | (simp [h, hg]; done))) ?_
    refine XOps.nil ?_
    refine W.cond rfl (fun hc9 => ?_) (fun hc9 => ?_)
    · try simp only [Bool.or_eq_true, Bool.or_eq_false_iff, Bool.and_eq_true, Bool.and_eq_false_iff, decide_eq_true_eq, decide_eq_false_iff_not, Bool.not_eq_true', Bool.not_eq_false', Int.not_lt, Int.not_le, List.length_map] at hc9
      have hne : ¬ (m = 0 ∧ seq s ⟨#[]⟩ = false) := fun ⟨h1, h2⟩ => by
        rcases hc9 with h | h
        · omega
        · unfold seq at h2; rw [h2] at h; cases h
      have hf : 1 ≤ f := by
        have h2 := hI.2.1
        split at h2
        · omega
        · rename_i h3
          have : m ≠ 0 := fun h0 => hne ⟨h0, eq_false_of_ne_true h3⟩
          omega
      have hstep : itoaR f m s = itoaR (f - 1) (m / 10) (digs.extract (m % 10) (m % 10 + 1) ++ s) := by
        obtain ⟨g, rfl⟩ : ∃ g, f = g + 1 := ⟨f - 1, by omega⟩
        rw [itoaR, if_neg hne]; rfl
      have hds : (⟨#[48, 49, 50, 51, 52, 53, 54, 55, 56, 57]⟩ : ByteArray).size = 10 := rfl
      have hcut : ((⟨#[48, 49, 50, 51, 52, 53, 54, 55, 56, 57]⟩ : ByteArray).extract ((m : Int) % 10).toNat ((m : Int) % 10 + 1).toNat) = digs.extract (m % 10) (m % 10 + 1) := by rw [show ((m : Int) % 10).toNat = m % 10 by omega, show ((m : Int) % 10 + 1).toNat = m % 10 + 1 by omega]; rfl
      have hm6 := hI.2.2
      refine W.skip ?_
      refine W.block ?_
      refine W.reg ?_
      refine XOps.s rfl rfl rfl (Q.move_d rfl) ?_
      refine XOps.s rfl rfl rfl (Q.rem rfl rfl (by decide) (wrem (by omega))) ?_
      refine XOps.s rfl rfl rfl (Q.move_d rfl) ?_
      refine XOps.s rfl rfl rfl (Q.rem rfl rfl (by decide) (wrem (by omega))) ?_
      refine XOps.s rfl rfl rfl (Q.add rfl rfl (wi64 (by first | omega | (dsimp only; omega) | (simp only [List.length_map]; omega)) (by first | omega | (dsimp only; omega) | (simp only [List.length_map]; omega)))) ?_
      refine XOps.s rfl rfl rfl (Q.cut_str ist9 rfl rfl rfl (by omega) (by omega) (by omega)) ?_
      refine XOps.s rfl rfl rfl (Q.move_d rfl) ?_
      refine XOps.s rfl rfl rfl (Q.adds rfl rfl (by have := itoaR_size (f - 1) (m / 10) (digs.extract (m % 10) (m % 10 + 1) ++ s); have h2 := ByteArray.size_append (a := digs.extract (m % 10) (m % 10 + 1)) (b := s); rw [← hstep, hI.1] at this; rw [hcut]; omega)) ?_
      refine XOps.s rfl rfl rfl (Q.assign_d rfl) ?_
      refine XOps.nil ?_
      refine W.region ?_
      refine XOps.s rfl rfl rfl (Q.move_d rfl) ?_
      refine XOps.s rfl rfl rfl (Q.quo rfl rfl (by decide) (wquo (by omega) (by omega) (by omega))) ?_
      refine XOps.s rfl rfl rfl (Q.assign_d rfl) ?_
      refine XOps.nil ?_
      refine ⟨(f - 1, m / 10, digs.extract (m % 10) (m % 10 + 1) ++ s), ?_, ?_, ?_, ?_⟩
      · refine ⟨by rw [← hstep]; exact hI.1, ?_, ?_⟩
        · dsimp only; rw [dig_ne, if_neg (by decide)]; omega
        · dsimp only; omega
      · dsimp only; omega
      · exact ⟨by exact int_eq (by dsimp only; omega), by (rw [hcut]; rfl), trivial⟩
      · repeat (first | exact HLe.refl _ | refine HLe.cons' (by first | rfl | (simp; done)) ?_ | refine HLe.pick 1 rfl (by first | rfl | (simp; done)) ?_ | refine HLe.pick 2 rfl (by first | rfl | (simp; done)) ?_ | refine HLe.pick 3 rfl (by first | rfl | (simp; done)) ?_ | refine HLe.pick 4 rfl (by first | rfl | (simp; done)) ?_ | refine HLe.pick 5 rfl (by first | rfl | (simp; done)) ?_ | refine HLe.skip _ ?_)
    · try simp only [Bool.or_eq_true, Bool.or_eq_false_iff, Bool.and_eq_true, Bool.and_eq_false_iff, decide_eq_true_eq, decide_eq_false_iff_not, Bool.not_eq_true', Bool.not_eq_false', Int.not_lt, Int.not_le, List.length_map] at hc9
      have hst := itoaR_stop f (n := m) (s := s) ⟨by omega, by unfold seq; simpa using hc9.2⟩
      rw [hst] at hI
      rw [← hI.1]
      refine W.exit ?_
      refine W.reg ?_
      refine XOps.s rfl rfl rfl (Q.move_d rfl) ?_
      refine XOps.s rfl rfl rfl (Q.assign_d rfl) ?_
      refine XOps.nil ?_
      refine W.ret ?_
      refine ⟨_, hs, rfl, by repeat (first | exact HLe.refl _ | refine HLe.cons' (by first | rfl | (simp; done)) ?_ | refine HLe.pick 1 rfl (by first | rfl | (simp; done)) ?_ | refine HLe.pick 2 rfl (by first | rfl | (simp; done)) ?_ | refine HLe.pick 3 rfl (by first | rfl | (simp; done)) ?_ | refine HLe.pick 4 rfl (by first | rfl | (simp; done)) ?_ | refine HLe.pick 5 rfl (by first | rfl | (simp; done)) ?_ | refine HLe.skip _ ?_), ?_, rfl⟩
      rfl

set_option maxHeartbeats 1000000 in
set_option maxRecDepth 100000 in
theorem same_c (a b : List SR) (hs : Hp) (hl : a.length ≤ 4611686018427387904) : AC P 11 [.d (.sl 2 (a.map SR.enc)), .d (.sl 2 (b.map SR.enc))] hs (fun r h => r = .d (.bool (decide (a = b))) ∧ h = hs) := by
  refine AC.of 26 Tryd.func11 rfl rfl rfl ?_
  refine W.reg ?_
  refine XOps.s rfl rfl rfl (Q.assign_d rfl) ?_
  refine XOps.nil ?_
  refine W.seq ?_
  refine W.reg ?_
  refine XOps.s rfl rfl rfl (Q.move_d rfl) ?_
  refine XOps.s rfl rfl rfl (Q.len_sl isl22 rfl) ?_
  refine XOps.s rfl rfl rfl (Q.move_d rfl) ?_
  refine XOps.s rfl rfl rfl (Q.len_sl isl22 rfl) ?_
  refine XOps.s rfl rfl rfl (Q.neq rfl rfl) ?_
  refine XOps.nil ?_
  refine W.cond rfl (fun hc10 => ?_) (fun hc10 => ?_)
  · try simp only [decide_eq_true_eq, decide_eq_false_iff_not, Int.not_lt, Int.not_le, Bool.not_eq_true', Bool.not_eq_false', List.length_map] at hc10
    have hr : decide (a = b) = false := decide_eq_false fun h => by subst h; simp at hc10
    refine W.reg ?_
    refine XOps.s rfl rfl rfl (Q.assign_d rfl) ?_
    refine XOps.nil ?_
    refine W.ret ?_
    refine ⟨_, hs, rfl, by repeat (first | exact HLe.refl _ | refine HLe.cons' (by first | rfl | (simp; done)) ?_ | refine HLe.pick 1 rfl (by first | rfl | (simp; done)) ?_ | refine HLe.pick 2 rfl (by first | rfl | (simp; done)) ?_ | refine HLe.pick 3 rfl (by first | rfl | (simp; done)) ?_ | refine HLe.pick 4 rfl (by first | rfl | (simp; done)) ?_ | refine HLe.pick 5 rfl (by first | rfl | (simp; done)) ?_ | refine HLe.skip _ ?_), ?_, rfl⟩
    rw [hr]; rfl
  · try simp only [decide_eq_true_eq, decide_eq_false_iff_not, Int.not_lt, Int.not_le, Bool.not_eq_true', Bool.not_eq_false', List.length_map] at hc10
    have hlen : a.length = b.length := by omega
    refine W.skip ?_
    refine W.seq ?_
    refine W.reg ?_
    refine XOps.s rfl rfl rfl (Q.move_d rfl) ?_
    refine XOps.s rfl rfl rfl (Q.len_sl isl22 rfl) ?_
    refine XOps.s rfl rfl rfl (Q.move_d rfl) ?_
    refine XOps.nil ?_
    refine W.block ?_
    refine W.loop (ι := Nat) (fun k => [(0, .d (.sl 2 (a.map SR.enc))), (1, .d (.sl 2 (b.map SR.enc))), (12, .d (.int .i64 a.length)), (13, .d (.int .i64 k))]) (fun k => hs) (fun k => k ≤ a.length ∧ ∀ i, i < k → a[i]? = b[i]?) (fun k => a.length - k) 0 ?_ ?_ ?_ ?_
    · exact ⟨Nat.zero_le _, fun i hi => absurd hi (Nat.not_lt_zero _)⟩
    · exact ⟨by first | rfl | exact int_eq (by omega) | exact len_eq (by simp) | exact int_eq (by simp; done), by first | rfl | exact int_eq (by omega) | exact len_eq (by simp) | exact int_eq (by simp; done), by first | rfl | exact int_eq (by omega) | exact len_eq (by simp) | exact int_eq (by simp; done), by first | rfl | exact int_eq (by omega) | exact len_eq (by simp) | exact int_eq (by simp; done), trivial⟩
    · repeat (first | exact HLe.refl _ | refine HLe.cons' (by first | rfl | (simp; done)) ?_ | refine HLe.pick 1 rfl (by first | rfl | (simp; done)) ?_ | refine HLe.pick 2 rfl (by first | rfl | (simp; done)) ?_ | refine HLe.pick 3 rfl (by first | rfl | (simp; done)) ?_ | refine HLe.pick 4 rfl (by first | rfl | (simp; done)) ?_ | refine HLe.pick 5 rfl (by first | rfl | (simp; done)) ?_ | refine HLe.skip _ ?_)
    · rintro k ⟨hk, hI⟩
      try dsimp only
      refine W.reg ?_
      refine XOps.s rfl rfl rfl (Q.lss rfl rfl) ?_
      refine XOps.nil ?_
      refine W.seq ?_
      refine W.cond rfl (fun hc14 => ?_) (fun hc14 => ?_)
      · try simp only [decide_eq_true_eq, decide_eq_false_iff_not, Int.not_lt, Int.not_le, Bool.not_eq_true', Bool.not_eq_false', List.length_map] at hc14
        obtain ⟨u, hu⟩ : ∃ u, a[k]? = some u := ⟨_, List.getElem?_eq_getElem (by omega)⟩
        obtain ⟨v, hv⟩ : ∃ v, b[k]? = some v := ⟨_, List.getElem?_eq_getElem (by omega)⟩
        have hsm : allD (u.enc.take 2) (v.enc.take 2) = decide (u = v) := same_sr u v
        refine W.skip ?_
        refine W.seq ?_
        refine W.block ?_
        refine W.reg ?_
        refine XOps.s rfl rfl rfl (Q.move_d rfl) ?_
        refine XOps.s rfl rfl rfl (Q.assign_d rfl) ?_
        refine XOps.nil ?_
        refine W.drawreg 9 follows (by kernel_rfl) ?_
        refine Chain.cons _ (GQ.q rfl (Q.move_d rfl)) rfl ?_
        refine Chain.cons _ (GQ.q rfl (Q.move_d rfl)) rfl ?_
        refine Chain.cons _ (GQ.q rfl (Q.idx_sl sl22 (by decide) rfl rfl (by first | omega | (simp only [List.length_map]; omega)) (by first | exact map_at hu | exact map_at hv))) rfl ?_
        refine Chain.cons _ (GQ.q rfl (Q.ld_dpn ag34 rfl rfl)) rfl ?_
        refine Chain.cons _ (GQ.q rfl (Q.move_d rfl)) rfl ?_
        refine Chain.cons _ (GQ.q rfl (Q.move_d rfl)) rfl ?_
        refine Chain.cons _ (GQ.q rfl (Q.idx_sl sl22 (by decide) rfl rfl (by first | omega | (simp only [List.length_map]; omega)) (by first | exact map_at hu | exact map_at hv))) rfl ?_
        refine Chain.cons _ (GQ.q rfl (Q.ld_dpn ag34 rfl rfl)) rfl ?_
        refine Chain.cons _ (GQ.q rfl (Q.neq_agg eqt34 rfl rfl rfl rfl rfl)) rfl ?_
        refine Chain.nil ?_
        refine XOps.nil ?_
        refine W.cond rfl (fun hc24 => ?_) (fun hc24 => ?_)
        · try simp only [decide_eq_true_eq, decide_eq_false_iff_not, Int.not_lt, Int.not_le, Bool.not_eq_true', Bool.not_eq_false', List.length_map] at hc24
          rw [hsm] at hc24
          have hr : decide (a = b) = false := decide_eq_false fun h => by subst h; rw [hu] at hv; obtain rfl := Option.some.inj hv; simp at hc24
          refine W.reg ?_
          refine XOps.s rfl rfl rfl (Q.assign_d rfl) ?_
          refine XOps.nil ?_
          refine W.ret ?_
          refine ⟨_, hs, rfl, by repeat (first | exact HLe.refl _ | refine HLe.cons' (by first | rfl | (simp; done)) ?_ | refine HLe.pick 1 rfl (by first | rfl | (simp; done)) ?_ | refine HLe.pick 2 rfl (by first | rfl | (simp; done)) ?_ | refine HLe.pick 3 rfl (by first | rfl | (simp; done)) ?_ | refine HLe.pick 4 rfl (by first | rfl | (simp; done)) ?_ | refine HLe.pick 5 rfl (by first | rfl | (simp; done)) ?_ | refine HLe.skip _ ?_), ?_, rfl⟩
          rw [hr]; rfl
        · try simp only [decide_eq_true_eq, decide_eq_false_iff_not, Int.not_lt, Int.not_le, Bool.not_eq_true', Bool.not_eq_false', List.length_map] at hc24
          rw [hsm] at hc24
          have huv : u = v := by simpa using hc24
          refine W.skip ?_
          refine W.region ?_
          refine XOps.s rfl rfl rfl (Q.add rfl rfl (wi64 (by first | omega | (dsimp only; omega) | (simp only [List.length_map]; omega)) (by first | omega | (dsimp only; omega) | (simp only [List.length_map]; omega)))) ?_
          refine XOps.s rfl rfl rfl (Q.move_d rfl) ?_
          refine XOps.nil ?_
          refine ⟨k + 1, ?_, ?_, ?_, ?_⟩
          · refine ⟨by omega, fun i hi => ?_⟩
            by_cases h : i = k
            · subst h; rw [hu, hv, huv]
            · exact hI i (by omega)
          · omega
          · exact ⟨by first | rfl | exact int_eq (by omega) | exact len_eq (by simp) | exact int_eq (by simp; done), by first | rfl | exact int_eq (by omega) | exact len_eq (by simp) | exact int_eq (by simp; done), by first | rfl | exact int_eq (by omega) | exact len_eq (by simp) | exact int_eq (by simp; done), by first | rfl | exact int_eq (by omega) | exact len_eq (by simp) | exact int_eq (by simp; done), trivial⟩
          · repeat (first | exact HLe.refl _ | refine HLe.cons' (by first | rfl | (simp; done)) ?_ | refine HLe.pick 1 rfl (by first | rfl | (simp; done)) ?_ | refine HLe.pick 2 rfl (by first | rfl | (simp; done)) ?_ | refine HLe.pick 3 rfl (by first | rfl | (simp; done)) ?_ | refine HLe.pick 4 rfl (by first | rfl | (simp; done)) ?_ | refine HLe.pick 5 rfl (by first | rfl | (simp; done)) ?_ | refine HLe.skip _ ?_)
      · try simp only [decide_eq_true_eq, decide_eq_false_iff_not, Int.not_lt, Int.not_le, Bool.not_eq_true', Bool.not_eq_false', List.length_map] at hc14
        have hr : decide (a = b) = true := decide_eq_true (List.ext_getElem? fun i => by
          rcases Nat.lt_or_ge i k with h | h
          · exact hI i h
          · rw [List.getElem?_eq_none (by omega), List.getElem?_eq_none (by omega)])
        refine W.exit ?_
        refine W.reg ?_
        refine XOps.s rfl rfl rfl (Q.assign_d rfl) ?_
        refine XOps.nil ?_
        refine W.ret ?_
        refine ⟨_, hs, rfl, by repeat (first | exact HLe.refl _ | refine HLe.cons' (by first | rfl | (simp; done)) ?_ | refine HLe.pick 1 rfl (by first | rfl | (simp; done)) ?_ | refine HLe.pick 2 rfl (by first | rfl | (simp; done)) ?_ | refine HLe.pick 3 rfl (by first | rfl | (simp; done)) ?_ | refine HLe.pick 4 rfl (by first | rfl | (simp; done)) ?_ | refine HLe.pick 5 rfl (by first | rfl | (simp; done)) ?_ | refine HLe.skip _ ?_), ?_, rfl⟩
        rw [hr]; rfl

set_option maxHeartbeats 1000000 in
set_option maxRecDepth 100000 in
theorem cloneE_c (l : List EN) (hs : Hp) (hL : l.length * 48 ≤ 140737488355328) : AC P 15 [.d (.sl 4 (l.map EN.enc))] hs (fun r h => ∃ v, r = .vs v 0 l.length 4 ∧ h = (v, .lst 4 (l.map EN.enc)) :: hs) := by
  refine AC.of 8 Tryd.func15 rfl rfl rfl ?_
  refine W.reg ?_
  refine XOps.s rfl rfl rfl (Q.assign_nilsl rfl) ?_
  refine XOps.nil ?_
  refine W.seq ?_
  refine W.reg ?_
  refine XOps.s rfl rfl rfl (Q.move_d rfl) ?_
  (refine XOps.loud rfl (L.eqnil sl23 (by decide) rfl rfl rfl) ?_; rintro _ _ ⟨bb, hbb, rfl, hh⟩; obtain rfl := hh.symm)
  refine XOps.nil ?_
  refine W.cond rfl (fun hc4 => ?_) (fun hc4 => ?_)
  · try simp only [Bool.or_eq_true, Bool.or_eq_false_iff, Bool.and_eq_true, Bool.and_eq_false_iff, decide_eq_true_eq, decide_eq_false_iff_not, Bool.not_eq_true', Bool.not_eq_false', Int.not_lt, Int.not_le, List.length_map] at hc4
    have hle : l = [] := by simpa using hbb hc4
    subst hle
    refine W.reg ?_
    refine XOps.s rfl rfl rfl (Q.assign_nilsl rfl) ?_
    refine XOps.nil ?_
    refine W.ghost 2 4 (by decide) rfl rfl (fun v2 => ?_)
    refine W.ret ?_
    exact ⟨_, (v2, .lst 4 []) :: hs, rfl, by repeat (first | exact HLe.refl _ | refine HLe.cons' (by first | rfl | (simp; done)) ?_ | refine HLe.pick 1 rfl (by first | rfl | (simp; done)) ?_ | refine HLe.pick 2 rfl (by first | rfl | (simp; done)) ?_ | refine HLe.pick 3 rfl (by first | rfl | (simp; done)) ?_ | refine HLe.pick 4 rfl (by first | rfl | (simp; done)) ?_ | refine HLe.pick 5 rfl (by first | rfl | (simp; done)) ?_ | refine HLe.skip _ ?_), v2, rfl, rfl⟩
  · try simp only [Bool.or_eq_true, Bool.or_eq_false_iff, Bool.and_eq_true, Bool.and_eq_false_iff, decide_eq_true_eq, decide_eq_false_iff_not, Bool.not_eq_true', Bool.not_eq_false', Int.not_lt, Int.not_le, List.length_map] at hc4
    refine W.skip ?_
    refine W.reg ?_
    refine XOps.s rfl rfl rfl (Q.bsl0 sl23) ?_
    refine XOps.s rfl rfl rfl (Q.move_d rfl) ?_
    refine XOps.loud rfl (L.app_new ap23 (.inl rfl) (by first | exact .inl rfl | exact .inr (by simp)) rfl (by simp; omega) rfl) ?_
    rintro _ _ ⟨v7, rfl, rfl⟩
    refine XOps.s rfl rfl rfl (Q.assign_vs rfl) ?_
    refine XOps.nil ?_
    refine W.ret ?_
    exact ⟨_, (v7, .lst 4 (l.map EN.enc)) :: hs, rfl, by repeat (first | exact HLe.refl _ | refine HLe.cons' (by first | rfl | (simp; done)) ?_ | refine HLe.pick 1 rfl (by first | rfl | (simp; done)) ?_ | refine HLe.pick 2 rfl (by first | rfl | (simp; done)) ?_ | refine HLe.pick 3 rfl (by first | rfl | (simp; done)) ?_ | refine HLe.pick 4 rfl (by first | rfl | (simp; done)) ?_ | refine HLe.pick 5 rfl (by first | rfl | (simp; done)) ?_ | refine HLe.skip _ ?_), v7, by show AV.vs _ _ _ _ = _; congr 1; simp, rfl⟩

theorem take12 {xs : List EN} : (xs.take (min (((xs.map EN.enc).length : Nat) : Int) 12).toNat).drop (0 : Int).toNat = xs.take 12 := by
  rw [List.length_map, show (0 : Int).toNat = 0 from rfl, List.drop_zero]
  rcases Nat.le_total xs.length 12 with h | h
  · rw [show (min ((xs.length : Nat) : Int) 12).toNat = xs.length by omega, List.take_length, List.take_of_length_le h]
  · rw [show (min ((xs.length : Nat) : Int) 12).toNat = 12 by omega]
def midX (ys : List EN) (k : Nat) : List EN := ys.mapIdx fun i x => if i < k then numX i x else x
theorem midX_len (ys : List EN) (k : Nat) : (midX ys k).length = ys.length := by simp [midX]
theorem midX_zero (ys : List EN) : midX ys 0 = ys := List.ext_getElem? fun i => by
  unfold midX
  rw [List.getElem?_mapIdx]
  cases ys[i]? <;> simp
theorem midX_all (ys : List EN) : midX ys ys.length = ys.mapIdx numX := List.ext_getElem? fun i => by
  unfold midX
  rw [List.getElem?_mapIdx, List.getElem?_mapIdx]
  cases hq : ys[i]? with
  | none => rfl
  | some y =>
    have := (List.getElem?_eq_some_iff.1 hq).1
    simp [this]
theorem midX_at {ys : List EN} {k : Nat} {x : EN} (h : ys[k]? = some x) : (midX ys k)[k]? = some x := by
  unfold midX
  rw [List.getElem?_mapIdx, h]; simp
theorem midX_set {ys : List EN} {k : Nat} {x : EN} (h : ys[k]? = some x) : (midX ys k).set k (numX k x) = midX ys (k + 1) := List.ext_getElem? fun i => by
  have hk := (List.getElem?_eq_some_iff.1 h).1
  rw [List.getElem?_set]
  split
  · rename_i he
    subst he
    rw [midX_len, if_pos hk]
    unfold midX
    rw [List.getElem?_mapIdx, h]; simp
  · rename_i he
    unfold midX
    rw [List.getElem?_mapIdx, List.getElem?_mapIdx]
    cases ys[i]? with
    | none => rfl
    | some y =>
      have : (i < k) ↔ (i < k + 1) := by omega
      simp [this]
theorem midX_row {ys : List EN} {k : Nat} {x : EN} (h : ys[k]? = some x) (r : List D) (hr : r = (numX k x).enc) : ((midX ys k).map EN.enc).set k r = (midX ys (k + 1)).map EN.enc := by
  rw [hr, ← List.map_set, midX_set h]

set_option maxHeartbeats 4000000 in
set_option maxRecDepth 100000 in
theorem numb_c (es : List EN) (hs : Hp) : AC P 7 [.d (.sl 4 (es.map EN.enc))] hs (fun r h => r = .d (.sl 4 ((numL es).map EN.enc)) ∧ h = hs) := by
  have hyl : (es.take 12).length ≤ 12 := by simp; omega
  refine AC.of 23 Tryd.func7 rfl rfl rfl ?_
  refine W.reg ?_
  refine XOps.s rfl rfl rfl (Q.assign_nilsl rfl) ?_
  refine XOps.nil ?_
  refine W.reg ?_
  refine XOps.s rfl rfl rfl (Q.move_d rfl) ?_
  refine XOps.s rfl rfl rfl (Q.move_d rfl) ?_
  refine XOps.s rfl rfl rfl (Q.len_sl isl23 rfl) ?_
  refine XOps.s rfl rfl rfl (Q.mini rfl rfl) ?_
  refine XOps.s rfl rfl rfl (Quiet.to (v' := .d (.sl 4 ((es.take 12).map EN.enc))) (Q.cut_slm sl23 rfl rfl rfl (by omega) (by omega) (by simp; omega)) (fun _ _ _ _ h => by rw [take12] at h; exact h)) ?_
  (refine XOps.loud rfl (L.call rfl Tryd.func15 go15 rfl (cloneE_c (es.take 12) _ (by omega)) rfl) ?_; rintro _ _ ⟨_, rfl, v9, rfl, rfl⟩)
  refine XOps.s rfl rfl rfl (Q.assign_vs rfl) ?_
  refine XOps.nil ?_
  refine W.seq ?_
  refine W.reg ?_
  refine XOps.s rfl rfl rfl (Q.move_vs rfl) ?_
  refine XOps.s rfl rfl rfl (Q.len_vs isl23 rfl) ?_
  refine XOps.s rfl rfl rfl (Q.move_d rfl) ?_
  refine XOps.nil ?_
  refine W.block ?_
  refine W.loop (ι := Nat) (fun k => [(0, .vs v9 0 (es.take 12).length 4), (11, .d (.int .i64 (es.take 12).length)), (12, .d (.int .i64 (k : Nat)))]) (fun k => (v9, .lst 4 ((midX (es.take 12) k).map EN.enc)) :: hs) (fun k => k ≤ (es.take 12).length) (fun k => (es.take 12).length - k) 0 ?_ ?_ ?_ ?_
  · exact Nat.zero_le _
  · exact ⟨by first | rfl | exact int_eq (by omega) | exact len_eq (by simp) | exact int_eq (by simp; done), by first | rfl | exact int_eq (by omega) | exact len_eq (by simp) | exact int_eq (by simp; done), by first | rfl | exact int_eq (by omega) | exact len_eq (by simp) | exact int_eq (by simp; done), trivial⟩
  · (rw [midX_zero]; exact HLe.refl _)
  · rintro k hk
    try dsimp only
    refine W.reg ?_
    refine XOps.s rfl rfl rfl (Q.lss rfl rfl) ?_
    refine XOps.nil ?_
    refine W.seq ?_
    refine W.cond rfl (fun hc13 => ?_) (fun hc13 => ?_)
    · try simp only [Bool.or_eq_true, Bool.or_eq_false_iff, Bool.and_eq_true, Bool.and_eq_false_iff, decide_eq_true_eq, decide_eq_false_iff_not, Bool.not_eq_true', Bool.not_eq_false', Int.not_lt, Int.not_le, List.length_map] at hc13
      obtain ⟨x, hx⟩ : ∃ x, (es.take 12)[k]? = some x := ⟨_, List.getElem?_eq_getElem (by omega)⟩
      refine W.skip ?_
      refine W.seq ?_
      refine W.block ?_
      refine W.reg ?_
      refine XOps.s rfl rfl rfl (Q.move_d rfl) ?_
      refine XOps.s rfl rfl rfl (Q.assign_d rfl) ?_
      refine XOps.nil ?_
      refine W.region ?_
      refine XOps.s rfl rfl rfl (Q.move_vs rfl) ?_
      refine XOps.s rfl rfl rfl (Q.move_d rfl) ?_
      refine XOps.s rfl rfl rfl (Q.move_d rfl) ?_
      refine XOps.s rfl rfl rfl (Q.add rfl rfl (wi64 (by first | omega | (dsimp only; omega) | (simp only [List.length_map]; omega)) (by first | omega | (dsimp only; omega) | (simp only [List.length_map]; omega)))) ?_
      refine XOps.s rfl rfl rfl (Q.idx_vs (kk := 0) sl23 rfl rfl rfl (by omega) (by omega)) ?_
      refine XOps.s rfl rfl rfl (Q.fld_ep fl36_0 rfl) ?_
      (refine XOps.loud rfl (L.store_ep (k := 0) ag3 rfl rfl (map_at0 (midX_at hx)) rfl rfl rfl) ?_; rintro _ _ ⟨rfl, rfl⟩)
      refine XOps.nil ?_
      refine W.heap ((v9, .lst 4 ((midX (es.take 12) (k + 1)).map EN.enc)) :: hs) (HLe.cons' (congrArg (HO.lst 4) (by rw [Nat.zero_add, Int.toNat_natCast]; exact (midX_row hx _ rfl).symm)) (HLe.refl _)) ?_
      refine W.region ?_
      refine XOps.s rfl rfl rfl (Q.add rfl rfl (wi64 (by first | omega | (dsimp only; omega) | (simp only [List.length_map]; omega)) (by first | omega | (dsimp only; omega) | (simp only [List.length_map]; omega)))) ?_
      refine XOps.s rfl rfl rfl (Q.move_d rfl) ?_
      refine XOps.nil ?_
      refine ⟨k + 1, ?_, ?_, ?_, ?_⟩
      · omega
      · omega
      · exact ⟨by first | rfl | exact int_eq (by omega) | exact len_eq (by simp) | exact int_eq (by simp; done), by first | rfl | exact int_eq (by omega) | exact len_eq (by simp) | exact int_eq (by simp; done), by first | rfl | exact int_eq (by omega) | exact len_eq (by simp) | exact int_eq (by simp; done), trivial⟩
      · exact HLe.refl _
    · try simp only [Bool.or_eq_true, Bool.or_eq_false_iff, Bool.and_eq_true, Bool.and_eq_false_iff, decide_eq_true_eq, decide_eq_false_iff_not, Bool.not_eq_true', Bool.not_eq_false', Int.not_lt, Int.not_le, List.length_map] at hc13
      obtain rfl : k = (es.take 12).length := by omega
      rw [midX_all]
      refine W.exit ?_
      refine W.reg ?_
      refine XOps.s rfl rfl rfl (Q.move_vs rfl) ?_
      refine XOps.s rfl rfl rfl (Q.assign_vs rfl) ?_
      refine XOps.nil ?_
      refine W.freeze 2 0 rfl rfl (by simp) ?_
      refine W.ret ?_
      exact ⟨_, hs, rfl, HLe.refl _, rfl, rfl⟩

theorem fact_s : stepE [⟨⟨#[97]⟩, ⟨#[51]⟩⟩] ⟨1, 0, ⟨#[103, 114, 111, 119]⟩, ⟨#[97, 32, 50]⟩⟩ = 0 ∧ stepL [⟨⟨#[97]⟩, ⟨#[51]⟩⟩] ⟨1, 0, ⟨#[103, 114, 111, 119]⟩, ⟨#[97, 32, 50]⟩⟩ = [⟨⟨#[97]⟩, ⟨#[53]⟩⟩] := by
  have d3 : bs (Lib.itoa 3) = ⟨#[51]⟩ := bl_inj (by rw [bl_itoa, if_neg (by decide), decL_small (by decide)]; rfl)
  have d2 : bs (Lib.itoa 2) = ⟨#[50]⟩ := bl_inj (by rw [bl_itoa, if_neg (by decide), decL_small (by decide)]; rfl)
  have d5 : bs (Lib.itoa (3 + 2)) = ⟨#[53]⟩ := bl_inj (by rw [bl_itoa, if_neg (by decide), decL_small (by decide)]; rfl)
  have h := grow_one (K := ⟨#[97]⟩) (by decide +kernel) (a := 3) (b := 2) (by decide) (by decide) (x := ⟨1, 0, growK, ⟨#[97, 32, 50]⟩⟩) (by decide +kernel) rfl (by rw [d2]; rfl)
  rw [d3, d5] at h
  exact h

set_option maxHeartbeats 1000000 in
set_option maxRecDepth 100000 in
theorem pfact_c (gd gs gr : Nat) (ves ver : Value) (o1 : okE ves) (o2 : okE ver) (hs : Hp) : AC P 10 [] (gH gd gs gr ves ver hs) (fun r h => r = .d (.bool true) ∧ h = gH gd gs gr ves ver hs) := by
  refine AC.of 24 Tryd.func10 rfl rfl rfl ?_
  refine W.reg ?_
  refine XOps.s rfl rfl rfl (Q.assign_d rfl) ?_
  refine XOps.nil ?_
  refine W.reg ?_
  refine XOps.s rfl rfl rfl (Q.build pl34 tz34 tzd34 rfl) ?_
  refine XOps.s rfl rfl rfl (Q.bsl1n sl22 (by decide) zr22 rfl zrd22 rfl rfl (by decide)) ?_
  refine XOps.s rfl rfl rfl (Q.build pl36 tz36 tzd36 rfl) ?_
  refine XOps.s rfl rfl rfl (Q.call rfl Tryd.func18 go18 rfl (step_c [⟨⟨#[97]⟩, ⟨#[51]⟩⟩] ⟨1, 0, ⟨#[103, 114, 111, 119]⟩, ⟨#[97, 32, 50]⟩⟩ gd gs gr ves ver o1 o2 hs (by decide) (fun x hx => by simp at hx; subst hx; exact ⟨by decide, by decide⟩) (by decide) (by decide))) ?_
  refine XOps.s rfl rfl rfl (Q.move_tup rfl) ?_
  refine XOps.s rfl rfl rfl (Q.extract rfl rfl) ?_
  refine XOps.s rfl rfl rfl (Q.extract rfl rfl) ?_
  refine XOps.s rfl rfl rfl (Q.assign_d rfl) ?_
  refine XOps.s rfl rfl rfl (Q.assign_d rfl) ?_
  refine XOps.nil ?_
  rw [fact_s.1, fact_s.2]
  refine W.reg ?_
  refine XOps.s rfl rfl rfl (Q.move_d rfl) ?_
  refine XOps.s rfl rfl rfl (Q.eql rfl rfl) ?_
  refine XOps.s rfl rfl rfl (Q.move_d rfl) ?_
  refine XOps.gs rfl rfl rfl rfl rfl rfl rfl (fun hg => Q.move_d rfl) ?_
  refine XOps.gs rfl rfl rfl rfl rfl rfl rfl (fun hg => Quiet.open 13 hg rfl (Q.len_sl isl22 rfl)) ?_
  refine XOps.gs rfl rfl rfl rfl rfl rfl rfl (fun hg => Quiet.open 14 hg rfl (Q.eql rfl rfl)) ?_
  refine XOps.s rfl rfl rfl (Q.pick_and rfl rfl rfl (fun h => by first | (rw [h]; rfl) | (rw [hg, h]; rfl) | (simp [h, hg]; done))) ?_
  refine XOps.s rfl rfl rfl (Q.move_d rfl) ?_
  refine XOps.gs rfl rfl rfl rfl rfl rfl rfl (fun hg => Q.move_d rfl) ?_
  refine XOps.gs rfl rfl rfl rfl rfl rfl rfl (fun hg => Quiet.open 18 hg rfl (Q.idx_sl sl22 (by decide) rfl rfl (by first | omega | (simp only [List.length_map]; omega)) (by first | rfl | exact rfl))) ?_
  refine XOps.gs rfl rfl rfl rfl rfl rfl rfl (fun hg => Quiet.open 19 hg rfl (Q.ld_dpn ag34 rfl rfl)) ?_
  refine XOps.gs rfl rfl rfl rfl rfl rfl rfl (fun hg => Q.build pl34 tz34 tzd34 rfl) ?_
  refine XOps.gs rfl rfl rfl rfl rfl rfl rfl (fun hg => Quiet.open 20 hg rfl (Quiet.open 21 hg rfl (Q.eql_agg eqt34 rfl rfl rfl rfl rfl))) ?_
  refine XOps.s rfl rfl rfl (Q.pick_and rfl rfl rfl (fun h => by first | (rw [h]; rfl) | (rw [hg, h]; rfl) | (simp [h, hg]; done))) ?_
  refine XOps.s rfl rfl rfl (Q.assign_d rfl) ?_
  refine XOps.nil ?_
  refine W.ret ?_
  refine ⟨_, gH gd gs gr ves ver hs, rfl, HLe.refl _, ?_, rfl⟩
  show AV.d (.bool _) = _
  refine congrArg (fun b => AV.d (D.bool b)) ?_
  decide +kernel
end Go.Proofs.YtodbcbojkfndiaaDoorA
