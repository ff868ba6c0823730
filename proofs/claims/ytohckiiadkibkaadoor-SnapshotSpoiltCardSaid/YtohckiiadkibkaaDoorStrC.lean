/- Hexadecimal numbers. -/
import Derived.Test.YtohckiiadkibkaaDoorBase
import Derived.Test.YtohckiiadkibkaaDoorStr2
import Derived.Test.YtohckiiadkibkaaDoorAbs13
import Derived.Test.YtohckiiadkibkaaDoorAbs39
set_option linter.unusedVariables false
set_option linter.unusedSimpArgs false
set_option linter.unnecessarySimpa false
namespace Go.Proofs.YtohckiiadkibkaaDoorA.FStrC
open Go
theorem ag5 : tAgg P 5 = some ((false, 1)) := by kernel_rfl
theorem ar110 : tArr P 110 = some ((64, 1)) := by kernel_rfl
theorem ar98 : tArr P 98 = some ((65, 1)) := by kernel_rfl
theorem go42 : callGo Go.Proofs.Tryd.f42 = true := by kernel_rfl
theorem go53 : callGo Go.Proofs.Tryd.f53 = true := by kernel_rfl
theorem go64 : callGo Go.Proofs.Tryd.f64 = true := by kernel_rfl
theorem go65 : callGo Go.Proofs.Tryd.f65 = true := by kernel_rfl
theorem go74 : callGo Go.Proofs.Tryd.f74 = true := by kernel_rfl
theorem ibs49 : isBytes P 49 = true := by kernel_rfl
theorem ik3 : tInt P 3 = some (.i64) := by kernel_rfl
theorem ik5 : tInt P 5 = some (.u8) := by kernel_rfl
theorem ik62 : tInt P 62 = some (.u64) := by kernel_rfl
theorem ik84 : tInt P 84 = some (.u64) := by kernel_rfl
theorem ist9 : isStr P 9 = true := by kernel_rfl
theorem tz98 : tZero P 98 = some ([.int .u8 0, .int .u8 0, .int .u8 0, .int .u8 0, .int .u8 0, .int .u8 0, .int .u8 0, .int .u8 0, .int .u8 0, .int .u8 0, .int .u8 0, .int .u8 0, .int .u8 0, .int .u8 0, .int .u8 0, .int .u8 0, .int .u8 0, .int .u8 0, .int .u8 0, .int .u8 0, .int .u8 0, .int .u8 0, .int .u8 0, .int .u8 0, .int .u8 0, .int .u8 0, .int .u8 0, .int .u8 0, .int .u8 0, .int .u8 0, .int .u8 0, .int .u8 0, .int .u8 0, .int .u8 0, .int .u8 0, .int .u8 0, .int .u8 0, .int .u8 0, .int .u8 0, .int .u8 0, .int .u8 0, .int .u8 0, .int .u8 0, .int .u8 0, .int .u8 0, .int .u8 0, .int .u8 0, .int .u8 0, .int .u8 0, .int .u8 0, .int .u8 0, .int .u8 0, .int .u8 0, .int .u8 0, .int .u8 0, .int .u8 0, .int .u8 0, .int .u8 0, .int .u8 0, .int .u8 0, .int .u8 0, .int .u8 0, .int .u8 0, .int .u8 0, .int .u8 0]) := by kernel_rfl
end Go.Proofs.YtohckiiadkibkaaDoorA.FStrC
namespace Go.Proofs.YtohckiiadkibkaaDoorA
open Go FStrC
attribute [local irreducible] XOps Quiet Loud W AC GQ DT
abbrev dbG : HO := .glob 3 dbT

set_option maxHeartbeats 1000000 in
set_option maxRecDepth 100000 in
theorem p16_c (hs : Hp) : AC P 64 [.d (.int .i64 16)] hs (fun r h => r = .d (.bool true) ∧ h = hs) := by
  refine AC.of 8 Tryd.func64 rfl rfl rfl ?_
  refine W.reg ?_
  refine XOps.s rfl rfl rfl (Q.assign_d rfl) ?_
  refine XOps.nil ?_
  refine W.reg ?_
  refine XOps.s rfl rfl rfl (Q.move_d rfl) ?_
  refine XOps.s rfl rfl rfl (Q.move_d rfl) ?_
  refine XOps.s rfl rfl rfl (Q.sub rfl rfl rfl) ?_
  refine XOps.s rfl rfl rfl (Q.andc (r := 0) rfl rfl (.inl rfl) (by decide)) ?_
  refine XOps.s rfl rfl rfl (Q.eql rfl rfl) ?_
  refine XOps.s rfl rfl rfl (Q.assign_d rfl) ?_
  refine XOps.nil ?_
  refine W.ret ?_
  refine ⟨_, hs, rfl, by repeat (first | exact HLe.refl _ | refine HLe.cons' (by first | rfl | (simp; done)) ?_ | refine HLe.pick 1 rfl (by first | rfl | (simp; done)) ?_ | refine HLe.pick 2 rfl (by first | rfl | (simp; done)) ?_ | refine HLe.pick 3 rfl (by first | rfl | (simp; done)) ?_ | refine HLe.pick 4 rfl (by first | rfl | (simp; done)) ?_ | refine HLe.pick 5 rfl (by first | rfl | (simp; done)) ?_ | refine HLe.skip _ ?_), ?_, rfl⟩
  rfl

set_option maxHeartbeats 1000000 in
set_option maxRecDepth 100000 in
theorem tz16_c (gd : Nat) (hs : Hp) : AC P 74 [.d (.int .u64 16)] ((gd, dbG) :: hs) (fun r h => r = .d (.int .i64 4) ∧ h = (gd, dbG) :: hs) := by
  refine AC.of 14 Tryd.func74 rfl rfl rfl ?_
  refine W.reg ?_
  refine XOps.s rfl rfl rfl (Q.assign_d rfl) ?_
  refine XOps.nil ?_
  refine W.seq ?_
  refine W.reg ?_
  refine XOps.s rfl rfl rfl (Q.move_d rfl) ?_
  refine XOps.s rfl rfl rfl (Q.eql rfl rfl) ?_
  refine XOps.nil ?_
  refine W.cond rfl (fun hc4 => ?_) (fun hc4 => ?_)
  · try simp only [Bool.or_eq_true, Bool.or_eq_false_iff, Bool.and_eq_true, Bool.and_eq_false_iff, decide_eq_true_eq, decide_eq_false_iff_not, Bool.not_eq_true', Bool.not_eq_false', Int.not_lt, Int.not_le, List.length_map] at hc4
    exact absurd hc4 (by decide)
  · try simp only [Bool.or_eq_true, Bool.or_eq_false_iff, Bool.and_eq_true, Bool.and_eq_false_iff, decide_eq_true_eq, decide_eq_false_iff_not, Bool.not_eq_true', Bool.not_eq_false', Int.not_lt, Int.not_le, List.length_map] at hc4
    refine W.skip ?_
    refine W.reg ?_
    refine XOps.s rfl rfl rfl (Q.move_d rfl) ?_
    refine XOps.s rfl rfl rfl (Q.move_d rfl) ?_
    refine XOps.s rfl rfl rfl (Q.neg rfl rfl) ?_
    refine XOps.s rfl rfl rfl (Q.andc (r := 16) rfl rfl (.inr rfl) (by decide)) ?_
    refine XOps.s rfl rfl rfl (Q.mul (r := 4573923408821661840) rfl rfl (by decide)) ?_
    refine XOps.s rfl rfl rfl (Q.shrn (n := 4573923408821661840) (s := 58) rfl rfl (by decide)) ?_
    refine XOps.s rfl rfl rfl (Q.idx_glob (kk := 0) ar110 rfl dbT_d rfl (by decide) (by decide)) ?_
    refine XOps.s rfl rfl rfl (Q.ld_dp (y := .int .u8 4) ag5 rfl rfl) ?_
    refine XOps.s rfl rfl rfl (Q.conv_int ik3 rfl (und_int ik5) rfl) ?_
    refine XOps.s rfl rfl rfl (Q.assign_d rfl) ?_
    refine XOps.nil ?_
    refine W.ret ?_
    exact ⟨_, _, rfl, HLe.refl _, rfl, rfl⟩

set_option maxHeartbeats 1000000 in
set_option maxRecDepth 100000 in
theorem tzu16_c (gd : Nat) (hs : Hp) : AC P 65 [.d (.int .u64 16)] ((gd, dbG) :: hs) (fun r h => r = .d (.int .i64 4) ∧ h = (gd, dbG) :: hs) := by
  refine AC.of 8 Tryd.func65 rfl rfl rfl ?_
  refine W.reg ?_
  refine XOps.s rfl rfl rfl (Q.assign_d rfl) ?_
  refine XOps.nil ?_
  refine W.seq ?_
  refine W.cond_f rfl ?_
  refine W.skip ?_
  refine W.reg ?_
  refine XOps.s rfl rfl rfl (Q.move_d rfl) ?_
  refine XOps.s rfl rfl rfl (Q.call rfl Tryd.func74 go74 rfl (tz16_c gd hs)) ?_
  refine XOps.s rfl rfl rfl (Q.assign_d rfl) ?_
  refine XOps.nil ?_
  refine W.ret ?_
  exact ⟨_, _, rfl, HLe.refl _, rfl, rfl⟩

set_option maxHeartbeats 4000000 in
set_option maxRecDepth 100000 in
theorem fb16_c (n gd : Nat) (hs : Hp) (hn : n < 18446744073709551616) : AC P 53 [.nilsl, .d (.int .u64 (n : Nat)), .d (.int .i64 16), .d (.bool false), .d (.bool false)] ((gd, dbG) :: hs) (fun r h => r = .tup [.nilsl, .d (.str (hexS n))] ∧ h = (gd, dbG) :: hs) := by
  have hnl := hexR_len n 15 (by show n < 18446744073709551616; exact hn)
  refine AC.of 102 Tryd.func53 rfl rfl rfl ?_
  refine W.reg ?_
  refine XOps.s rfl rfl rfl (Q.assign_nilsl rfl) ?_
  refine XOps.s rfl rfl rfl (Q.assign_d rfl) ?_
  refine XOps.nil ?_
  refine W.seq ?_
  refine W.reg ?_
  refine XOps.s rfl rfl rfl (Q.move_d rfl) ?_
  refine XOps.s rfl rfl rfl (Q.lss rfl rfl) ?_
  refine XOps.s rfl rfl rfl (Q.move_d rfl) ?_
  refine XOps.gs rfl rfl rfl rfl rfl rfl rfl (fun hg => Q.move_d rfl) ?_
  refine XOps.gs rfl rfl rfl rfl rfl rfl rfl (fun hg => Quiet.open 22 hg rfl (Q.eql rfl rfl)) ?_
  refine XOps.s rfl rfl rfl (Q.pick_or rfl rfl rfl (fun h => by first | (rw [h]; rfl) | (rw [hg, h]; rfl) | (simp [h, hg]; done))) ?_
  refine XOps.s rfl rfl rfl (Q.move_d rfl) ?_
  refine XOps.gs rfl rfl rfl rfl rfl rfl rfl (fun hg => Q.move_d rfl) ?_
  refine XOps.gs rfl rfl rfl rfl rfl rfl rfl (fun hg => Quiet.open 26 hg rfl (Q.gtr rfl rfl)) ?_
  refine XOps.s rfl rfl rfl (Q.pick_or rfl rfl rfl (fun h => by first | (rw [h]; rfl) | (rw [hg, h]; rfl) | (simp [h, hg]; done))) ?_
  refine XOps.nil ?_
  refine W.cond_f rfl ?_
  refine W.skip ?_
  refine W.reg ?_
  (refine XOps.loud rfl (L.alloc tz98 rfl rfl) ?_; rintro _ _ ⟨b12, rfl, rfl⟩)
  refine XOps.nil ?_
  refine W.heap ((b12, .cells ((padR 65 []).map bA)) :: (gd, dbG) :: hs) (HLe.cons' rfl (HLe.refl _)) ?_
  refine W.reg ?_
  refine XOps.s rfl rfl rfl (Q.assign_d rfl) ?_
  refine XOps.nil ?_
  refine W.seq ?_
  refine W.reg ?_
  refine XOps.s rfl rfl rfl (Q.move_d rfl) ?_
  refine XOps.nil ?_
  refine W.cond_f rfl ?_
  refine W.skip ?_
  refine W.seq ?_
  refine W.reg ?_
  refine XOps.s rfl rfl rfl (Q.move_d rfl) ?_
  refine XOps.s rfl rfl rfl (Q.call rfl Tryd.func64 go64 rfl (p16_c _)) ?_
  refine XOps.nil ?_
  refine W.cond_t rfl ?_
  refine W.reg ?_
  refine XOps.s rfl rfl rfl (Q.move_d rfl) ?_
  refine XOps.s rfl rfl rfl (Q.conv_int ik84 rfl (und_int ik3) rfl) ?_
  (refine XOps.loud rfl (L.call rfl Tryd.func65 go65 rfl (AC.le (tzu16_c gd ((b12, .cells ((padR 65 []).map bA)) :: hs)) (HLe.pick 1 rfl rfl (HLe.refl _))) rfl) ?_; rintro _ _ ⟨_, rfl, rfl, rfl⟩)
  refine XOps.s rfl rfl rfl (Q.conv_int ik84 rfl (und_int ik3) rfl) ?_
  refine XOps.s rfl rfl rfl (Q.assign_d rfl) ?_
  refine XOps.nil ?_
  refine W.reg ?_
  refine XOps.s rfl rfl rfl (Q.move_d rfl) ?_
  refine XOps.s rfl rfl rfl (Q.conv_int ik62 rfl (und_int ik3) rfl) ?_
  refine XOps.s rfl rfl rfl (Q.assign_d rfl) ?_
  refine XOps.nil ?_
  refine W.reg ?_
  refine XOps.s rfl rfl rfl (Q.move_d rfl) ?_
  refine XOps.s rfl rfl rfl (Q.conv_int ik84 rfl (und_int ik3) rfl) ?_
  refine XOps.s rfl rfl rfl (Q.sub (r := 15) rfl rfl rfl) ?_
  refine XOps.s rfl rfl rfl (Q.assign_d rfl) ?_
  refine XOps.nil ?_
  refine W.seq ?_
  refine W.block ?_
  refine W.loop (ι := Nat × List UInt8) (fun p => [(0, .nilsl), (1, .d (.int .u64 (p.1 : Nat))), (2, .d (.int .i64 16)), (3, .d (.bool false)), (4, .d (.bool false)), (10, .nilsl), (12, .ptr b12 0), (13, .d (.int .i64 ((65 - p.2.length : Nat) : Nat))), (14, .d (.int .u64 4)), (15, .d (.int .u64 16)), (16, .d (.int .u64 15))]) (fun p => (gd, dbG) :: (b12, .cells ((padR 65 p.2).map bA)) :: hs) (fun p => p.1 < 18446744073709551616 ∧ hexR n = p.2.reverse ++ hexR p.1 ∧ p.2.length ≤ 15) (fun p => p.1) (n, []) ?_ ?_ ?_ ?_
  · exact ⟨hn, rfl, Nat.zero_le _⟩
  · exact ⟨by first | rfl | exact int_eq (by omega) | exact len_eq (by simp) | exact int_eq (by simp; done), by first | rfl | exact int_eq (by omega) | exact len_eq (by simp) | exact int_eq (by simp; done), by first | rfl | exact int_eq (by omega) | exact len_eq (by simp) | exact int_eq (by simp; done), by first | rfl | exact int_eq (by omega) | exact len_eq (by simp) | exact int_eq (by simp; done), by first | rfl | exact int_eq (by omega) | exact len_eq (by simp) | exact int_eq (by simp; done), by first | rfl | exact int_eq (by omega) | exact len_eq (by simp) | exact int_eq (by simp; done), by first | rfl | exact int_eq (by omega) | exact len_eq (by simp) | exact int_eq (by simp; done), by first | rfl | exact int_eq (by omega) | exact len_eq (by simp) | exact int_eq (by simp; done), by first | rfl | exact int_eq (by omega) | exact len_eq (by simp) | exact int_eq (by simp; done), by first | rfl | exact int_eq (by omega) | exact len_eq (by simp) | exact int_eq (by simp; done), by first | rfl | exact int_eq (by omega) | exact len_eq (by simp) | exact int_eq (by simp; done), trivial⟩
  · repeat (first | exact HLe.refl _ | refine HLe.cons' (by first | rfl | (simp; done)) ?_ | refine HLe.pick 1 rfl (by first | rfl | (simp; done)) ?_ | refine HLe.pick 2 rfl (by first | rfl | (simp; done)) ?_ | refine HLe.pick 3 rfl (by first | rfl | (simp; done)) ?_ | refine HLe.pick 4 rfl (by first | rfl | (simp; done)) ?_ | refine HLe.pick 5 rfl (by first | rfl | (simp; done)) ?_ | refine HLe.skip _ ?_)
  · rintro ⟨q, t⟩ ⟨hI1, hI2, hI3⟩
    try dsimp only at hI1 hI2 hI3 ⊢
    refine W.seq ?_
    refine W.reg ?_
    refine XOps.s rfl rfl rfl (Q.move_d rfl) ?_
    refine XOps.s rfl rfl rfl (Q.move_d rfl) ?_
    refine XOps.s rfl rfl rfl (Q.geq rfl rfl) ?_
    refine XOps.nil ?_
    refine W.cond rfl (fun hc46 => ?_) (fun hc46 => ?_)
    · try simp only [Bool.or_eq_true, Bool.or_eq_false_iff, Bool.and_eq_true, Bool.and_eq_false_iff, decide_eq_true_eq, decide_eq_false_iff_not, Bool.not_eq_true', Bool.not_eq_false', Int.not_lt, Int.not_le, List.length_map] at hc46
      have hq : 16 ≤ q := by omega
      have hst := hexR_step hq
      have hlen := congrArg List.length hI2
      rw [hst] at hlen
      simp at hlen
      refine W.skip ?_
      refine W.block ?_
      refine W.reg ?_
      refine XOps.s rfl rfl rfl (Q.move_d rfl) ?_
      refine XOps.s rfl rfl rfl (Q.sub rfl rfl (wi64 (by first | omega | (dsimp only; omega) | (simp only [List.length_map]; omega)) (by first | omega | (dsimp only; omega) | (simp only [List.length_map]; omega)))) ?_
      refine XOps.s rfl rfl rfl (Q.assign_d rfl) ?_
      refine XOps.nil ?_
      refine W.reg ?_
      refine XOps.s rfl rfl rfl (Q.move_d rfl) ?_
      refine XOps.s rfl rfl rfl (Q.move_d rfl) ?_
      refine XOps.s rfl rfl rfl (Q.move_d rfl) ?_
      refine XOps.s rfl rfl rfl (Q.andm (n := q) (s := 4) rfl rfl rfl (by decide) (by omega)) ?_
      refine XOps.s rfl rfl rfl (Q.idx_str ist9 rfl rfl (by omega) (by show _ < ((36 : Nat) : Int); omega)) ?_
      refine XOps.s rfl rfl rfl (Q.idx_arr ar98 rfl rfl (by first | omega | (simp at hg; omega)) (by first | omega | (simp at hg; omega))) ?_
      (refine XOps.loud rfl (L.store (k := 1) (off := 0 + (((65 - t.length : Nat) : Int) - 1).toNat * 1) (v := bA (digB (q % 16))) ag5 rfl rfl (by simp [Nat.blt_eq, padR_len (show t.length ≤ 65 by omega)]; omega) (by show AV.d (.int .u8 ((digs36.data.toList.getD ((q % 2 ^ 4 : Nat) : Int).toNat 0).toNat)) = _; rw [show ((q % 2 ^ 4 : Nat) : Int).toNat = q % 16 from Int.toNat_natCast _, dig_at (by omega)]; rfl) rfl) ?_; rintro _ _ ⟨rfl, rfl⟩)
      refine XOps.nil ?_
      refine W.region ?_
      refine XOps.s rfl rfl rfl (Q.move_d rfl) ?_
      refine XOps.s rfl rfl rfl (Q.move_d rfl) ?_
      refine XOps.s rfl rfl rfl (Q.shrn (n := q) (s := 4) rfl rfl (by decide)) ?_
      refine XOps.s rfl rfl rfl (Q.assign_d rfl) ?_
      refine XOps.nil ?_
      refine ⟨(q / 2 ^ 4, digB (q % 16) :: t), ?_, ?_, ?_, ?_⟩
      · refine ⟨by show q / 16 < _; omega, by show hexR n = (digB (q % 16) :: t).reverse ++ hexR (q / 16); rw [hI2, hst]; simp, by show (digB (q % 16) :: t).length ≤ 15; have := List.length_pos_iff.2 (hexR_ne (q / 16)); simp; omega⟩
      · show q / 16 < q; omega
      · exact ⟨by first | rfl | exact int_eq (by omega) | exact len_eq (by simp) | exact int_eq (by simp; done), by first | rfl | exact int_eq (by omega) | exact len_eq (by simp) | exact int_eq (by simp; done), by first | rfl | exact int_eq (by omega) | exact len_eq (by simp) | exact int_eq (by simp; done), by first | rfl | exact int_eq (by omega) | exact len_eq (by simp) | exact int_eq (by simp; done), by first | rfl | exact int_eq (by omega) | exact len_eq (by simp) | exact int_eq (by simp; done), by first | rfl | exact int_eq (by omega) | exact len_eq (by simp) | exact int_eq (by simp; done), by first | rfl | exact int_eq (by omega) | exact len_eq (by simp) | exact int_eq (by simp; done), by exact int_eq (by simp; omega), by first | rfl | exact int_eq (by omega) | exact len_eq (by simp) | exact int_eq (by simp; done), by first | rfl | exact int_eq (by omega) | exact len_eq (by simp) | exact int_eq (by simp; done), by first | rfl | exact int_eq (by omega) | exact len_eq (by simp) | exact int_eq (by simp; done), trivial⟩
      · exact HLe.cons _ (HLe.cons' (congrArg HO.cells (by rw [bA_set _ _ _ _ rfl, padR_set (by omega) _ (by omega)])) (HLe.refl _))
    · try simp only [Bool.or_eq_true, Bool.or_eq_false_iff, Bool.and_eq_true, Bool.and_eq_false_iff, decide_eq_true_eq, decide_eq_false_iff_not, Bool.not_eq_true', Bool.not_eq_false', Int.not_lt, Int.not_le, List.length_map] at hc46
      have hq : q < 16 := by omega
      have hst := hexR_last hq
      have hlen := congrArg List.length hI2
      rw [hst] at hlen
      simp at hlen
      refine W.exit ?_
      refine W.reg ?_
      refine XOps.s rfl rfl rfl (Q.move_d rfl) ?_
      refine XOps.s rfl rfl rfl (Q.sub rfl rfl (wi64 (by first | omega | (dsimp only; omega) | (simp only [List.length_map]; omega)) (by first | omega | (dsimp only; omega) | (simp only [List.length_map]; omega)))) ?_
      refine XOps.s rfl rfl rfl (Q.assign_d rfl) ?_
      refine XOps.nil ?_
      refine W.region ?_
      refine XOps.s rfl rfl rfl (Q.move_d rfl) ?_
      refine XOps.s rfl rfl rfl (Q.move_d rfl) ?_
      refine XOps.s rfl rfl rfl (Q.idx_str ist9 rfl rfl (by omega) (by show _ < ((36 : Nat) : Int); omega)) ?_
      refine XOps.s rfl rfl rfl (Q.idx_arr ar98 rfl rfl (by first | omega | (simp at hg; omega)) (by first | omega | (simp at hg; omega))) ?_
      (refine XOps.loud rfl (L.store (k := 1) (off := 0 + (((65 - t.length : Nat) : Int) - 1).toNat * 1) (v := bA (digB q)) ag5 rfl rfl (by simp [Nat.blt_eq, padR_len (show t.length ≤ 65 by omega)]; omega) (by show AV.d (.int .u8 ((digs36.data.toList.getD ((q : Nat) : Int).toNat 0).toNat)) = _; rw [Int.toNat_natCast, dig_at (by omega)]; rfl) rfl) ?_; rintro _ _ ⟨rfl, rfl⟩)
      refine XOps.nil ?_
      refine W.seq ?_
      refine W.reg ?_
      refine XOps.s rfl rfl rfl (Q.move_d rfl) ?_
      refine XOps.nil ?_
      refine W.cond_f rfl ?_
      refine W.skip ?_
      refine W.seq ?_
      refine W.reg ?_
      refine XOps.s rfl rfl rfl (Q.move_d rfl) ?_
      refine XOps.nil ?_
      refine W.cond_f rfl ?_
      refine W.skip ?_
      have hfin : (padR 65 t).set (0 + (((65 - t.length : Nat) : Int) - 1).toNat * 1) (digB q) = padR 65 (digB q :: t) := padR_set (by omega) _ (by omega)
      rw [bA_set _ _ _ _ rfl, hfin]
      have hdl : (digB q :: t) = (hexR n).reverse := by rw [hI2, hst]; simp
      rw [bA_map (padR 65 (digB q :: t))]
      refine W.reg ?_
      refine XOps.s rfl rfl rfl (Q.move_d rfl) ?_
      (refine XOps.loud rfl (L.arrcut (k := 1) (i := 64 - t.length) (ds := (padR 65 (digB q :: t)).map byD) ar98 rfl (by exact int_eq (by omega)) rfl (by rw [List.length_map, padR_len (by simp; omega)]) (by intro x hx; obtain ⟨b, _, rfl⟩ := List.mem_map.1 hx; rfl) (by omega) rfl) ?_; rintro _ _ ⟨rfl, rfl⟩)
      refine XOps.s rfl rfl rfl (Q.conv_str (l := (padR 65 (digB q :: t)).drop (64 - t.length)) ibs49 ist9 (by show AV.d (.sl 1 _) = _; rw [by_rows])) ?_
      refine XOps.s rfl rfl rfl (Q.assign_d rfl) ?_
      refine XOps.nil ?_
      refine W.ret ?_
      refine ⟨_, _, rfl, HLe.refl _, ?_, rfl⟩
      have hpd : (padR 65 (digB q :: t)).drop (64 - t.length) = (hexR n).reverse := by rw [padR_drop (by rw [List.length_cons]; omega) (by rw [List.length_cons]; omega)]; exact hdl
      rw [hpd]; rfl

set_option maxHeartbeats 1000000 in
set_option maxRecDepth 100000 in
theorem ifu16_c (n gd : Nat) (hs : Hp) (hn : n < 18446744073709551616) : AC P 42 [.d (.int .u64 (n : Nat)), .d (.int .i64 16)] ((gd, dbG) :: hs) (fun r h => r = .d (.str (hexS n)) ∧ h = (gd, dbG) :: hs) := by
  refine AC.of 32 Tryd.func42 rfl rfl rfl ?_
  refine W.reg ?_
  refine XOps.s rfl rfl rfl (Q.assign_d rfl) ?_
  refine XOps.nil ?_
  refine W.seq ?_
  refine W.reg ?_
  refine XOps.s rfl rfl rfl (Q.move_d rfl) ?_
  refine XOps.s rfl rfl rfl (Q.eql rfl rfl) ?_
  refine XOps.nil ?_
  refine W.cond rfl (fun hc10 => ?_) (fun hc10 => ?_)
  · try simp only [Bool.or_eq_true, Bool.or_eq_false_iff, Bool.and_eq_true, Bool.and_eq_false_iff, decide_eq_true_eq, decide_eq_false_iff_not, Bool.not_eq_true', Bool.not_eq_false', Int.not_lt, Int.not_le, List.length_map] at hc10
    exact absurd hc10 (by decide)
  · try simp only [Bool.or_eq_true, Bool.or_eq_false_iff, Bool.and_eq_true, Bool.and_eq_false_iff, decide_eq_true_eq, decide_eq_false_iff_not, Bool.not_eq_true', Bool.not_eq_false', Int.not_lt, Int.not_le, List.length_map] at hc10
    refine W.skip ?_
    refine W.reg ?_
    refine XOps.s rfl rfl rfl (Q.move_d rfl) ?_
    refine XOps.s rfl rfl rfl (Q.move_d rfl) ?_
    refine XOps.s rfl rfl rfl (Q.call rfl Tryd.func53 go53 rfl (fb16_c n gd hs hn)) ?_
    refine XOps.s rfl rfl rfl (Q.move_tup rfl) ?_
    refine XOps.s rfl rfl rfl (Q.extract rfl rfl) ?_
    refine XOps.s rfl rfl rfl (Q.extract rfl rfl) ?_
    refine XOps.s rfl rfl rfl (Q.assign_nilsl rfl) ?_
    refine XOps.s rfl rfl rfl (Q.assign_d rfl) ?_
    refine XOps.nil ?_
    refine W.reg ?_
    refine XOps.s rfl rfl rfl (Q.move_d rfl) ?_
    refine XOps.s rfl rfl rfl (Q.assign_d rfl) ?_
    refine XOps.nil ?_
    refine W.ret ?_
    exact ⟨_, _, rfl, HLe.refl _, rfl, rfl⟩

set_option maxHeartbeats 1000000 in
set_option maxRecDepth 100000 in
theorem fu16_c (n gd : Nat) (hs : Hp) (hn : n < 18446744073709551616) : AC P 32 [.d (.int .u64 (n : Nat)), .d (.int .i64 16)] ((gd, dbG) :: hs) (fun r h => r = .d (.str (hexS n)) ∧ h = (gd, dbG) :: hs) := by
  refine AC.of 8 Tryd.func32 rfl rfl rfl ?_
  refine W.reg ?_
  refine XOps.s rfl rfl rfl (Q.assign_d rfl) ?_
  refine XOps.nil ?_
  refine W.reg ?_
  refine XOps.s rfl rfl rfl (Q.move_d rfl) ?_
  refine XOps.s rfl rfl rfl (Q.move_d rfl) ?_
  refine XOps.s rfl rfl rfl (Q.call rfl Tryd.func42 go42 rfl (ifu16_c n gd hs hn)) ?_
  refine XOps.s rfl rfl rfl (Q.assign_d rfl) ?_
  refine XOps.nil ?_
  refine W.ret ?_
  exact ⟨_, _, rfl, HLe.refl _, rfl, rfl⟩
end Go.Proofs.YtohckiiadkibkaaDoorA
