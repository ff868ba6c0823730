/- Quotients, roots, points. -/
import Derived.Test.YtaegeaajhbfkgaaGreatDoorFrB
import Derived.Test.YtaegeaajhbfkgaaGreatDoorCen1
set_option linter.unusedVariables false
set_option linter.unusedSimpArgs false
set_option linter.unnecessarySimpa false
namespace Go.Proofs.YtaegeaajhbfkgaaGreatDoorA.FCeA
open Go
theorem go91 : callGo Go.Proofs.Tryz.f91 = true := by kernel_rfl
theorem go95 : callGo Go.Proofs.Tryz.f95 = true := by kernel_rfl
theorem ik3 : tInt P 3 = some (.i64) := by kernel_rfl
theorem isb4 : isB P 4 = true := by kernel_rfl
end Go.Proofs.YtaegeaajhbfkgaaGreatDoorA.FCeA
namespace Go.Proofs.YtaegeaajhbfkgaaGreatDoorA
open Go FCeA
attribute [local irreducible] XOps Quiet Loud W AC GQ DT
set_option maxHeartbeats 1000000 in
set_option maxRecDepth 100000 in
theorem divd_c (a b : Int) (hs : Hp) (hb : 0 < b) (h0 : -9223372036854775807 ≤ a) (h1 : a ≤ 9223372036854775807) : AC P 91 [.d (.int .i64 (a)), .d (.int .i64 (b))] hs (fun r h => r = .tup [.d (.int .i64 (divD a b)), .d (.int .i64 (0))] ∧ h = hs) := by
  obtain ⟨w1, w2⟩ := div_wr hb h0 h1
  obtain ⟨t1, t2⟩ := divD_tr (a := a) hb
  refine AC.of 34 Tryz.func91 rfl rfl rfl ?_
  refine W.reg ?_
  refine XOps.s rfl rfl rfl (Q.assign_d rfl) ?_
  refine XOps.s rfl rfl rfl (Q.assign_d rfl) ?_
  refine XOps.nil ?_
  refine W.seq ?_
  refine W.block ?_
  refine W.reg ?_
  refine XOps.s rfl rfl rfl (Q.move_d rfl) ?_
  refine XOps.s rfl rfl rfl (Q.eql rfl rfl) ?_
  refine XOps.s rfl rfl rfl (Q.assign_d rfl) ?_
  refine XOps.nil ?_
  refine W.cond rfl (fun hc7 => ?_) (fun hc7 => ?_)
  · skip
    exact absurd (of_decide_eq_true hc7) (by omega)
  · skip
    refine W.reg ?_
    refine XOps.s rfl rfl rfl (Q.move_d rfl) ?_
    refine XOps.s rfl rfl rfl (Q.eql rfl rfl) ?_
    refine XOps.s rfl rfl rfl (Q.move_d rfl) ?_
    refine XOps.gs rfl rfl rfl rfl rfl rfl rfl (fun hg => Q.move_d rfl) ?_
    refine XOps.gs rfl rfl rfl rfl rfl rfl rfl (fun hg => Quiet.open 14 hg rfl (Q.eql rfl rfl)) ?_
    refine XOps.s rfl rfl rfl (Q.pick_and rfl rfl rfl (fun h => by first | (rw [h]; rfl) | (rw [hg, h]; rfl) | (simp [h, hg]; done))) ?_
    refine XOps.s rfl rfl rfl (Q.assign_d rfl) ?_
    refine XOps.nil ?_
    refine W.cond rfl (fun hc10 => ?_) (fun hc10 => ?_)
    · skip
      exact absurd hc10 (by rw [decide_eq_false (show ¬ a = -9223372036854775808 by omega)]; simp)
    · skip
      refine W.skip ?_
      refine W.reg ?_
      refine XOps.s rfl rfl rfl (Q.move_d rfl) ?_
      refine XOps.s rfl rfl rfl (Q.move_d rfl) ?_
      refine XOps.s rfl rfl rfl (Q.quo rfl rfl (by omega) w1) ?_
      refine XOps.s rfl rfl rfl (Q.assign_d rfl) ?_
      refine XOps.nil ?_
      refine W.seq ?_
      refine W.reg ?_
      refine XOps.s rfl rfl rfl (Q.move_d rfl) ?_
      refine XOps.s rfl rfl rfl (Q.move_d rfl) ?_
      refine XOps.s rfl rfl rfl (Q.rem rfl rfl (by omega) rfl) ?_
      refine XOps.s rfl rfl rfl (Q.neq rfl rfl) ?_
      refine XOps.s rfl rfl rfl (Q.move_d rfl) ?_
      refine XOps.gs rfl rfl rfl rfl rfl rfl rfl (fun hg => Q.move_d rfl) ?_
      refine XOps.gs rfl rfl rfl rfl rfl rfl rfl (fun hg => Quiet.open 25 hg rfl (Q.lss rfl rfl)) ?_
      refine XOps.gs rfl rfl rfl rfl rfl rfl rfl (fun hg => Q.move_d rfl) ?_
      refine XOps.gs rfl rfl rfl rfl rfl rfl rfl (fun hg => Quiet.open 27 hg rfl (Q.lss rfl rfl)) ?_
      refine XOps.gs rfl rfl rfl rfl rfl rfl rfl (fun hg => Quiet.open 26 hg rfl (Quiet.open 28 hg rfl (Q.neq_bool isb4 rfl rfl))) ?_
      refine XOps.s rfl rfl rfl (Q.pick_and rfl rfl rfl (fun h => by first | (rw [h]; rfl) | (rw [hg, h]; rfl) | (simp [h, hg]; done))) ?_
      refine XOps.nil ?_
      refine W.cond rfl (fun hc30 => ?_) (fun hc30 => ?_)
      · skip
        have h30 : a.tmod b ≠ 0 ∧ a < 0 := by
          have h2 := hc30
          rw [decide_eq_false (show ¬ b < 0 by omega)] at h2
          simpa using h2
        rw [t1 h30]
        refine W.region ?_
        refine XOps.s rfl rfl rfl (Q.move_d rfl) ?_
        refine XOps.s rfl rfl rfl (Q.sub rfl rfl (w2 h30)) ?_
        refine XOps.s rfl rfl rfl (Q.assign_d rfl) ?_
        refine XOps.nil ?_
        refine W.reg ?_
        refine XOps.s rfl rfl rfl (Q.move_d rfl) ?_
        refine XOps.s rfl rfl rfl (Q.assign_d rfl) ?_
        refine XOps.s rfl rfl rfl (Q.assign_d rfl) ?_
        refine XOps.nil ?_
        refine W.ret ?_
        exact ⟨_, hs, rfl, HLe.refl _, rfl, rfl⟩
      · skip
        have h30 : ¬ (a.tmod b ≠ 0 ∧ a < 0) := by
          have h2 := hc30
          rw [decide_eq_false (show ¬ b < 0 by omega)] at h2
          intro h3
          simp [h3.1, h3.2] at h2
        rw [t2 h30]
        refine W.skip ?_
        refine W.reg ?_
        refine XOps.s rfl rfl rfl (Q.move_d rfl) ?_
        refine XOps.s rfl rfl rfl (Q.assign_d rfl) ?_
        refine XOps.s rfl rfl rfl (Q.assign_d rfl) ?_
        refine XOps.nil ?_
        refine W.ret ?_
        exact ⟨_, hs, rfl, HLe.refl _, rfl, rfl⟩
set_option maxHeartbeats 1000000 in
set_option maxRecDepth 100000 in
theorem divu_c (a b : Int) (hs : Hp) (hb : 0 < b) (h0 : -9223372036854775807 ≤ a) (h1 : a ≤ 9223372036854775806) : AC P 92 [.d (.int .i64 (a)), .d (.int .i64 (b))] hs (fun r h => r = .tup [.d (.int .i64 (divU a b)), .d (.int .i64 (0))] ∧ h = hs) := by
  obtain ⟨m1, m2⟩ := divD_mag (a := a) hb
  have hup : divD a b + 1 ≤ 9223372036854775807 ∧ -9223372036854775808 ≤ divD a b + 1 := by
    rcases (show 0 ≤ a ∨ a < 0 by omega) with h | h
    · have := m1 h; omega
    · have := m2 h; omega
  refine AC.of 26 Tryz.func92 rfl rfl rfl ?_
  refine W.reg ?_
  refine XOps.s rfl rfl rfl (Q.assign_d rfl) ?_
  refine XOps.s rfl rfl rfl (Q.assign_d rfl) ?_
  refine XOps.nil ?_
  refine W.reg ?_
  refine XOps.s rfl rfl rfl (Q.move_d rfl) ?_
  refine XOps.s rfl rfl rfl (Q.move_d rfl) ?_
  refine XOps.s rfl rfl rfl (Q.call rfl Tryz.func91 go91 rfl (divd_c a b _ hb h0 (by omega))) ?_
  refine XOps.s rfl rfl rfl (Q.move_tup rfl) ?_
  refine XOps.s rfl rfl rfl (Q.extract rfl rfl) ?_
  refine XOps.s rfl rfl rfl (Q.extract rfl rfl) ?_
  refine XOps.s rfl rfl rfl (Q.assign_d rfl) ?_
  refine XOps.s rfl rfl rfl (Q.assign_d rfl) ?_
  refine XOps.nil ?_
  refine W.seq ?_
  refine W.reg ?_
  refine XOps.s rfl rfl rfl (Q.move_d rfl) ?_
  refine XOps.s rfl rfl rfl (Q.eql rfl rfl) ?_
  refine XOps.s rfl rfl rfl (Q.move_d rfl) ?_
  refine XOps.gs rfl rfl rfl rfl rfl rfl rfl (fun hg => Q.move_d rfl) ?_
  refine XOps.gs rfl rfl rfl rfl rfl rfl rfl (fun hg => Q.move_d rfl) ?_
  refine XOps.gs rfl rfl rfl rfl rfl rfl rfl (fun hg => Quiet.open 17 hg rfl (Quiet.open 18 hg rfl (Q.rem rfl rfl (by omega) rfl))) ?_
  refine XOps.gs rfl rfl rfl rfl rfl rfl rfl (fun hg => Quiet.open 19 hg rfl (Q.neq rfl rfl)) ?_
  refine XOps.s rfl rfl rfl (Q.pick_and rfl rfl rfl (fun h => by first | (rw [h]; rfl) | (rw [hg, h]; rfl) | (simp [h, hg]; done))) ?_
  refine XOps.nil ?_
  refine W.cond rfl (fun hc21 => ?_) (fun hc21 => ?_)
  · skip
    have h21 : ¬ a % b = 0 := by
      intro h3
      rw [tmod_zero.2 h3] at hc21
      simp at hc21
    have hE : divU a b = divD a b + 1 := if_neg h21
    rw [hE]
    refine W.region ?_
    refine XOps.s rfl rfl rfl (Q.move_d rfl) ?_
    refine XOps.s rfl rfl rfl (Q.add rfl rfl (wi64 hup.2 hup.1)) ?_
    refine XOps.s rfl rfl rfl (Q.assign_d rfl) ?_
    refine XOps.nil ?_
    refine W.reg ?_
    refine XOps.s rfl rfl rfl (Q.move_d rfl) ?_
    refine XOps.s rfl rfl rfl (Q.move_d rfl) ?_
    refine XOps.s rfl rfl rfl (Q.assign_d rfl) ?_
    refine XOps.s rfl rfl rfl (Q.assign_d rfl) ?_
    refine XOps.nil ?_
    refine W.ret ?_
    exact ⟨_, hs, rfl, HLe.refl _, rfl, rfl⟩
  · skip
    have h21 : a % b = 0 := by
      refine tmod_zero.1 (Classical.byContradiction fun h3 => ?_)
      rw [decide_eq_false h3] at hc21
      simp at hc21
    have hE : divU a b = divD a b := if_pos h21
    rw [hE]
    refine W.skip ?_
    refine W.reg ?_
    refine XOps.s rfl rfl rfl (Q.move_d rfl) ?_
    refine XOps.s rfl rfl rfl (Q.move_d rfl) ?_
    refine XOps.s rfl rfl rfl (Q.assign_d rfl) ?_
    refine XOps.s rfl rfl rfl (Q.assign_d rfl) ?_
    refine XOps.nil ?_
    refine W.ret ?_
    exact ⟨_, hs, rfl, HLe.refl _, rfl, rfl⟩
set_option maxHeartbeats 1000000 in
set_option maxRecDepth 100000 in
theorem sqrt_c (x r : Nat) (hs : Hp) (h : FloatKind.f64.format.sqrt x = some r) : AC P 95 [.d (.flt x)] hs (fun z h => z = .d (.flt r) ∧ h = hs) := by
  refine AC.of 5 Tryz.func95 rfl rfl rfl ?_
  refine W.reg ?_
  refine XOps.s rfl rfl rfl (Q.assign rfl) ?_
  refine XOps.nil ?_
  refine W.reg ?_
  refine XOps.s rfl rfl rfl (Q.move_d rfl) ?_
  refine XOps.s rfl rfl rfl (Q.sqrt rfl (run_callFunc_extern (e := Extern.MathSqrt.sqrt) Tryz.func116 (by kernel_rfl) (by kernel_rfl) (by kernel_rfl) (by kernel_rfl)) rfl h) ?_
  refine XOps.s rfl rfl rfl (Q.assign_d rfl) ?_
  refine XOps.nil ?_
  refine W.ret ?_
  exact ⟨_, hs, rfl, HLe.refl _, rfl, rfl⟩
set_option maxHeartbeats 1000000 in
set_option maxRecDepth 100000 in
theorem root_c (n : Int) (hs : Hp) (hn : n ≤ 1000000000000000000) : AC P 72 [.d (.int .i64 (n))] hs (fun r h => r = .d (.int .i64 (rootI n)) ∧ h = hs) := by
  refine AC.of 27 Tryz.func72 rfl rfl rfl ?_
  refine W.reg ?_
  refine XOps.s rfl rfl rfl (Q.assign_d rfl) ?_
  refine XOps.nil ?_
  refine W.seq ?_
  refine W.reg ?_
  refine XOps.s rfl rfl rfl (Q.move_d rfl) ?_
  refine XOps.s rfl rfl rfl (Q.leq rfl rfl) ?_
  refine XOps.nil ?_
  refine W.cond rfl (fun hc5 => ?_) (fun hc5 => ?_)
  · try simp only [Bool.or_eq_true, Bool.or_eq_false_iff, Bool.and_eq_true, Bool.and_eq_false_iff, decide_eq_true_eq, decide_eq_false_iff_not, Bool.not_eq_true', Bool.not_eq_false', Int.not_lt, Int.not_le, List.length_map] at hc5
    have hz : rootI n = 0 := by unfold rootI; rw [show n.toNat = 0 by omega]; rfl
    rw [hz]
    refine W.reg ?_
    refine XOps.s rfl rfl rfl (Q.assign_d rfl) ?_
    refine XOps.nil ?_
    refine W.ret ?_
    exact ⟨_, hs, rfl, HLe.refl _, rfl, rfl⟩
  · try simp only [Bool.or_eq_true, Bool.or_eq_false_iff, Bool.and_eq_true, Bool.and_eq_false_iff, decide_eq_true_eq, decide_eq_false_iff_not, Bool.not_eq_true', Bool.not_eq_false', Int.not_lt, Int.not_le, List.length_map] at hc5
    obtain ⟨w0, hw0, r0, hr0, hr1, hr2⟩ := float_root (n := n) (by omega) (by omega)
    refine W.skip ?_
    refine W.reg ?_
    refine XOps.s rfl rfl rfl (Q.move_d rfl) ?_
    refine XOps.s rfl rfl rfl (Q.conv_flt (by kernel_rfl) rfl (und_int ik3)) ?_
    refine XOps.s rfl rfl rfl (Q.call rfl Tryz.func95 go95 rfl (sqrt_c _ w0 _ hw0)) ?_
    refine XOps.s rfl rfl rfl (Q.conv_ofl ik3 rfl ⟨_, (show P.underlying 141 = some (.float .f64) by kernel_rfl)⟩ hr0 (by show (-9223372036854775808 : Int) ≤ _; omega) (by show _ ≤ (9223372036854775807 : Int); omega)) ?_
    refine XOps.s rfl rfl rfl (Q.assign_d rfl) ?_
    refine XOps.nil ?_
    refine W.seq ?_
    refine W.block ?_
    refine W.loop (ι := Int) (fun q => [(0, .d (.int .i64 (n))), (3, .d (.int .i64 (q)))]) (fun q => hs) (fun q => 1 ≤ q ∧ q ≤ 4294967296) (fun q => q.toNat) r0 ?_ ?_ ?_ ?_
    · exact ⟨hr1, hr2⟩
    · exact ⟨by first | rfl | exact int_eq (by omega) | exact len_eq (by simp) | exact int_eq (by simp; done), by first | rfl | exact int_eq (by omega) | exact len_eq (by simp) | exact int_eq (by simp; done), trivial⟩
    · repeat (first | exact HLe.refl _ | refine HLe.cons' (by first | rfl | (simp [Nd.enc]; done)) ?_ | refine HLe.pick 1 rfl (by first | rfl | (simp [Nd.enc]; done)) ?_ | refine HLe.pick 2 rfl (by first | rfl | (simp [Nd.enc]; done)) ?_ | refine HLe.pick 3 rfl (by first | rfl | (simp [Nd.enc]; done)) ?_ | refine HLe.pick 4 rfl (by first | rfl | (simp [Nd.enc]; done)) ?_ | refine HLe.pick 5 rfl (by first | rfl | (simp [Nd.enc]; done)) ?_ | refine HLe.skip _ ?_)
    · rintro q ⟨hI1, hI2⟩
      refine W.seq ?_
      refine W.reg ?_
      refine XOps.s rfl rfl rfl (Q.move_d rfl) ?_
      refine XOps.s rfl rfl rfl (Q.move_d rfl) ?_
      refine XOps.s rfl rfl rfl (Q.move_d rfl) ?_
      refine XOps.s rfl rfl rfl (Q.quo rfl rfl (by omega) (wquo (by omega) (by omega) (by omega))) ?_
      refine XOps.s rfl rfl rfl (Q.gtr rfl rfl) ?_
      refine XOps.nil ?_
      refine W.cond rfl (fun hc14 => ?_) (fun hc14 => ?_)
      · try simp only [Bool.or_eq_true, Bool.or_eq_false_iff, Bool.and_eq_true, Bool.and_eq_false_iff, decide_eq_true_eq, decide_eq_false_iff_not, Bool.not_eq_true', Bool.not_eq_false', Int.not_lt, Int.not_le, List.length_map] at hc14
        have hgt : n < q * q := by
          have := Int.lt_mul_of_ediv_lt (show 0 < q by omega) (show n / q < q by omega); omega
        have hq2 : 2 ≤ q := by
          rcases (show q = 1 ∨ 2 ≤ q by omega) with h | h
          · subst h; omega
          · exact h
        refine W.skip ?_
        refine W.block ?_
        refine W.region ?_
        refine XOps.s rfl rfl rfl (Q.move_d rfl) ?_
        refine XOps.s rfl rfl rfl (Q.sub rfl rfl (wi64 (by first | omega | (dsimp only; omega) | (simp only [List.length_map]; omega)) (by first | omega | (dsimp only; omega) | (simp only [List.length_map]; omega)))) ?_
        refine XOps.s rfl rfl rfl (Q.assign_d rfl) ?_
        refine XOps.nil ?_
        refine ⟨q - 1, ?_, ?_, ?_, ?_⟩
        · omega
        · omega
        · exact ⟨by first | rfl | exact int_eq (by omega) | exact len_eq (by simp) | exact int_eq (by simp; done), by first | rfl | exact int_eq (by omega) | exact len_eq (by simp) | exact int_eq (by simp; done), trivial⟩
        · repeat (first | exact HLe.refl _ | refine HLe.cons' (by first | rfl | (simp [Nd.enc]; done)) ?_ | refine HLe.pick 1 rfl (by first | rfl | (simp [Nd.enc]; done)) ?_ | refine HLe.pick 2 rfl (by first | rfl | (simp [Nd.enc]; done)) ?_ | refine HLe.pick 3 rfl (by first | rfl | (simp [Nd.enc]; done)) ?_ | refine HLe.pick 4 rfl (by first | rfl | (simp [Nd.enc]; done)) ?_ | refine HLe.pick 5 rfl (by first | rfl | (simp [Nd.enc]; done)) ?_ | refine HLe.skip _ ?_)
      · try simp only [Bool.or_eq_true, Bool.or_eq_false_iff, Bool.and_eq_true, Bool.and_eq_false_iff, decide_eq_true_eq, decide_eq_false_iff_not, Bool.not_eq_true', Bool.not_eq_false', Int.not_lt, Int.not_le, List.length_map] at hc14
        have hle : q * q ≤ n := by
          have := Int.mul_le_of_le_ediv (show 0 < q by omega) (show q ≤ n / q by omega); omega
        have hqn : q ≤ 1000000000 := by
          rcases (show q ≤ 1000000000 ∨ 1000000001 ≤ q by omega) with h | h
          · exact h
          · have := Int.mul_le_mul h h (by omega) (by omega); omega
        refine W.exit ?_
        refine W.seq ?_
        refine W.block ?_
        refine W.loop (ι := Int) (fun p => [(0, .d (.int .i64 (n))), (3, .d (.int .i64 (p)))]) (fun p => hs) (fun p => 1 ≤ p ∧ p * p ≤ n ∧ p ≤ 1000000000) (fun p => (1000000000 - p).toNat) q ?_ ?_ ?_ ?_
        · exact ⟨by omega, hle, hqn⟩
        · exact ⟨by first | rfl | exact int_eq (by omega) | exact len_eq (by simp) | exact int_eq (by simp; done), by first | rfl | exact int_eq (by omega) | exact len_eq (by simp) | exact int_eq (by simp; done), trivial⟩
        · repeat (first | exact HLe.refl _ | refine HLe.cons' (by first | rfl | (simp [Nd.enc]; done)) ?_ | refine HLe.pick 1 rfl (by first | rfl | (simp [Nd.enc]; done)) ?_ | refine HLe.pick 2 rfl (by first | rfl | (simp [Nd.enc]; done)) ?_ | refine HLe.pick 3 rfl (by first | rfl | (simp [Nd.enc]; done)) ?_ | refine HLe.pick 4 rfl (by first | rfl | (simp [Nd.enc]; done)) ?_ | refine HLe.pick 5 rfl (by first | rfl | (simp [Nd.enc]; done)) ?_ | refine HLe.skip _ ?_)
        · rintro p ⟨hI1, hI2, hI3⟩
          refine W.seq ?_
          refine W.reg ?_
          refine XOps.s rfl rfl rfl (Q.move_d rfl) ?_
          refine XOps.s rfl rfl rfl (Q.add rfl rfl (wi64 (by first | omega | (dsimp only; omega) | (simp only [List.length_map]; omega)) (by first | omega | (dsimp only; omega) | (simp only [List.length_map]; omega)))) ?_
          refine XOps.s rfl rfl rfl (Q.move_d rfl) ?_
          refine XOps.s rfl rfl rfl (Q.move_d rfl) ?_
          refine XOps.s rfl rfl rfl (Q.add rfl rfl (wi64 (by first | omega | (dsimp only; omega) | (simp only [List.length_map]; omega)) (by first | omega | (dsimp only; omega) | (simp only [List.length_map]; omega)))) ?_
          refine XOps.s rfl rfl rfl (Q.quo rfl rfl (by omega) (wquo (by omega) (by omega) (by omega))) ?_
          refine XOps.s rfl rfl rfl (Q.leq rfl rfl) ?_
          refine XOps.nil ?_
          refine W.cond rfl (fun hc23 => ?_) (fun hc23 => ?_)
          · try simp only [Bool.or_eq_true, Bool.or_eq_false_iff, Bool.and_eq_true, Bool.and_eq_false_iff, decide_eq_true_eq, decide_eq_false_iff_not, Bool.not_eq_true', Bool.not_eq_false', Int.not_lt, Int.not_le, List.length_map] at hc23
            have hle2 : (p + 1) * (p + 1) ≤ n := by
              have := Int.mul_le_of_le_ediv (show 0 < p + 1 by omega) (show p + 1 ≤ n / (p + 1) by omega); omega
            have hpn : p + 1 ≤ 1000000000 := by
              rcases (show p + 1 ≤ 1000000000 ∨ 1000000001 ≤ p + 1 by omega) with h | h
              · exact h
              · have := Int.mul_le_mul h h (by omega) (by omega); omega
            refine W.skip ?_
            refine W.block ?_
            refine W.region ?_
            refine XOps.s rfl rfl rfl (Q.move_d rfl) ?_
            refine XOps.s rfl rfl rfl (Q.add rfl rfl (wi64 (by first | omega | (dsimp only; omega) | (simp only [List.length_map]; omega)) (by first | omega | (dsimp only; omega) | (simp only [List.length_map]; omega)))) ?_
            refine XOps.s rfl rfl rfl (Q.assign_d rfl) ?_
            refine XOps.nil ?_
            refine ⟨p + 1, ?_, ?_, ?_, ?_⟩
            · exact ⟨by omega, hle2, hpn⟩
            · omega
            · exact ⟨by first | rfl | exact int_eq (by omega) | exact len_eq (by simp) | exact int_eq (by simp; done), by first | rfl | exact int_eq (by omega) | exact len_eq (by simp) | exact int_eq (by simp; done), trivial⟩
            · repeat (first | exact HLe.refl _ | refine HLe.cons' (by first | rfl | (simp [Nd.enc]; done)) ?_ | refine HLe.pick 1 rfl (by first | rfl | (simp [Nd.enc]; done)) ?_ | refine HLe.pick 2 rfl (by first | rfl | (simp [Nd.enc]; done)) ?_ | refine HLe.pick 3 rfl (by first | rfl | (simp [Nd.enc]; done)) ?_ | refine HLe.pick 4 rfl (by first | rfl | (simp [Nd.enc]; done)) ?_ | refine HLe.pick 5 rfl (by first | rfl | (simp [Nd.enc]; done)) ?_ | refine HLe.skip _ ?_)
          · try simp only [Bool.or_eq_true, Bool.or_eq_false_iff, Bool.and_eq_true, Bool.and_eq_false_iff, decide_eq_true_eq, decide_eq_false_iff_not, Bool.not_eq_true', Bool.not_eq_false', Int.not_lt, Int.not_le, List.length_map] at hc23
            have hgt2 : n < (p + 1) * (p + 1) := by
              have := Int.lt_mul_of_ediv_lt (show 0 < p + 1 by omega) (show n / (p + 1) < p + 1 by omega); omega
            have hR : rootI n = p := rootI_uniq (by omega) hI2 hgt2
            rw [hR]
            refine W.exit ?_
            refine W.reg ?_
            refine XOps.s rfl rfl rfl (Q.move_d rfl) ?_
            refine XOps.s rfl rfl rfl (Q.assign_d rfl) ?_
            refine XOps.nil ?_
            refine W.ret ?_
            exact ⟨_, hs, rfl, HLe.refl _, rfl, rfl⟩
end Go.Proofs.YtaegeaajhbfkgaaGreatDoorA

