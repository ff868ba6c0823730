/- Package record: sums, Encode, logs. -/
import Derived.Test.YtaegeaajhbfkgaaGreatDoorFrB
import Derived.Test.YtaegeaajhbfkgaaGreatDoorRec4
import Derived.Test.YtaegeaajhbfkgaaGreatDoorStrA
import Derived.Test.YtaegeaajhbfkgaaGreatDoorFrD
import Derived.Test.YtaegeaajhbfkgaaGreatDoorFrC
set_option linter.unusedVariables false
set_option linter.unusedSimpArgs false
set_option linter.unnecessarySimpa false
namespace Go.Proofs.YtaegeaajhbfkgaaGreatDoorA.FCeR
open Go
theorem ag3 : tAgg P 3 = some ((false, 1)) := by kernel_rfl
theorem ag5 : tAgg P 5 = some ((false, 1)) := by kernel_rfl
theorem ag69 : tAgg P 69 = some ((true, 4)) := by kernel_rfl
theorem ag9 : tAgg P 9 = some ((false, 1)) := by kernel_rfl
theorem fl69_0 : tFld P 69 0 = some (0) := by kernel_rfl
theorem fl69_1 : tFld P 69 1 = some (1) := by kernel_rfl
theorem fl69_2 : tFld P 69 2 = some (2) := by kernel_rfl
theorem fl69_3 : tFld P 69 3 = some (3) := by kernel_rfl
theorem go113 : callGo Go.Proofs.Tryz.f113 = true := by kernel_rfl
theorem go114 : callGo Go.Proofs.Tryz.f114 = true := by kernel_rfl
theorem go115 : callGo Go.Proofs.Tryz.f115 = true := by kernel_rfl
theorem go125 : callGo Go.Proofs.Tryz.f125 = true := by kernel_rfl
theorem go126 : callGo Go.Proofs.Tryz.f126 = true := by kernel_rfl
theorem go138 : callGo Go.Proofs.Tryz.f138 = true := by kernel_rfl
theorem ibs169 : isBytes P 169 = true := by kernel_rfl
theorem ik3 : tInt P 3 = some (.i64) := by kernel_rfl
theorem ik5 : tInt P 5 = some (.u8) := by kernel_rfl
theorem isl169 : isSl P 169 = true := by kernel_rfl
theorem ist9 : isStr P 9 = true := by kernel_rfl
theorem sl169 : tSl P 169 = some (1) := by kernel_rfl
end Go.Proofs.YtaegeaajhbfkgaaGreatDoorA.FCeR
namespace Go.Proofs.YtaegeaajhbfkgaaGreatDoorA
open Go FCeR
attribute [local irreducible] XOps Quiet Loud W AC GQ DT
def byteAtR (s : ByteArray) (k : Nat) : UInt8 := s.data.toList.getD k 0
set_option maxHeartbeats 1000000 in
set_option maxRecDepth 100000 in
theorem sum_c (s : ByteArray) (hs : Hp) (hL : s.size ≤ 140737488355000) : AC P 115 [.d (.str s)] hs (fun r h => r = .d (.int .i64 (sumV (bl s) : Nat)) ∧ h = hs) := by
  have hbl := bytes_len s
  refine AC.of 28 Tryz.func115 rfl rfl rfl ?_
  refine W.reg ?_
  refine XOps.s rfl rfl rfl (Q.assign_d rfl) ?_
  refine XOps.nil ?_
  refine W.reg ?_
  refine XOps.s rfl rfl rfl (Q.assign_d rfl) ?_
  refine XOps.s rfl rfl rfl (Q.assign_d rfl) ?_
  refine XOps.nil ?_
  refine W.seq ?_
  refine W.reg ?_
  refine XOps.s rfl rfl rfl (Q.move_d rfl) ?_
  refine XOps.s rfl rfl rfl (Q.conv_bytes ist9 ibs169 rfl) ?_
  refine XOps.s rfl rfl rfl (Q.len_sl isl169 rfl) ?_
  refine XOps.s rfl rfl rfl (Q.move_d rfl) ?_
  refine XOps.nil ?_
  refine W.block ?_
  refine W.loop (ι := Nat) (fun k => [(0, .d (.str s)), (8, .d (bytesD s)), (9, .d (.int .i64 s.size)), (10, .d (.int .i64 k)), (3, .d (.int .i64 ((sumP ((bl s).take k)).1 : Nat))), (4, .d (.int .i64 ((sumP ((bl s).take k)).2 : Nat)))]) (fun k => hs) (fun k => k ≤ s.size) (fun k => s.size - k) 0 ?_ ?_ ?_ ?_
  · exact Nat.zero_le _
  · exact ⟨by first | rfl | exact int_eq (by omega) | exact len_eq (by simp) | exact int_eq (by simp; done), by first | rfl | exact int_eq (by omega) | exact len_eq (by simp) | exact int_eq (by simp; done), by exact len_eq (bytes_len s), by first | rfl | exact int_eq (by omega) | exact len_eq (by simp) | exact int_eq (by simp; done), by first | rfl | exact int_eq (by omega) | exact len_eq (by simp) | exact int_eq (by simp; done), by first | rfl | exact int_eq (by omega) | exact len_eq (by simp) | exact int_eq (by simp; done), trivial⟩
  · repeat (first | exact HLe.refl _ | refine HLe.cons' (by first | rfl | (simp; done)) ?_ | refine HLe.pick 1 rfl (by first | rfl | (simp; done)) ?_ | refine HLe.pick 2 rfl (by first | rfl | (simp; done)) ?_ | refine HLe.pick 3 rfl (by first | rfl | (simp; done)) ?_ | refine HLe.pick 4 rfl (by first | rfl | (simp; done)) ?_ | refine HLe.pick 5 rfl (by first | rfl | (simp; done)) ?_ | refine HLe.skip _ ?_)
  · rintro k hk
    try dsimp only
    refine W.reg ?_
    refine XOps.s rfl rfl rfl (Q.lss rfl rfl) ?_
    refine XOps.nil ?_
    refine W.seq ?_
    refine W.cond rfl (fun hc11 => ?_) (fun hc11 => ?_)
    · try simp only [Bool.or_eq_true, Bool.or_eq_false_iff, Bool.and_eq_true, Bool.and_eq_false_iff, decide_eq_true_eq, decide_eq_false_iff_not, Bool.not_eq_true', Bool.not_eq_false', Int.not_lt, Int.not_le, List.length_map] at hc11
      have hks : k < s.size := by omega
      have hcl : (bl s)[k]? = some (byteAtR s k) := by unfold byteAtR; rw [List.getD_eq_getElem?_getD]; show (bl s)[k]? = some ((bl s)[k]?.getD 0); rw [List.getElem?_eq_getElem (by rw [bl_len]; exact hks)]; rfl
      have hst := sum_step hcl
      have hl1 := sumP_lt ((bl s).take k)
      have hc8 : (byteAtR s k).toNat < 256 := (byteAtR s k).toNat_lt
      unfold byteAtR at hc8 hst
      refine W.skip ?_
      refine W.seq ?_
      refine W.block ?_
      refine W.reg ?_
      refine XOps.s rfl rfl rfl (Q.idx_sl sl169 (by decide) rfl rfl (by first | omega | (simp only [List.length_map]; omega)) (by exact bytes_row (by omega))) ?_
      refine XOps.s rfl rfl rfl (Q.ld_dp ag5 rfl rfl) ?_
      refine XOps.s rfl rfl rfl (Q.assign_d rfl) ?_
      refine XOps.nil ?_
      refine W.reg ?_
      refine XOps.s rfl rfl rfl (Q.move_d rfl) ?_
      refine XOps.s rfl rfl rfl (Q.move_d rfl) ?_
      refine XOps.s rfl rfl rfl (Q.conv_int ik3 rfl (und_int ik5) (wi64 (by omega) (by omega))) ?_
      refine XOps.s rfl rfl rfl (Q.add rfl rfl (wi64 (by first | omega | (dsimp only; omega) | (simp only [List.length_map]; omega)) (by first | omega | (dsimp only; omega) | (simp only [List.length_map]; omega)))) ?_
      refine XOps.s rfl rfl rfl (Q.rem rfl rfl (by first | omega | (simp at hg; omega)) (wrem (by first | omega | (simp at hg; omega)))) ?_
      refine XOps.s rfl rfl rfl (Q.assign_d rfl) ?_
      refine XOps.nil ?_
      refine W.region ?_
      refine XOps.s rfl rfl rfl (Q.move_d rfl) ?_
      refine XOps.s rfl rfl rfl (Q.move_d rfl) ?_
      refine XOps.s rfl rfl rfl (Q.add rfl rfl (wi64 (by first | omega | (dsimp only; omega) | (simp only [List.length_map]; omega)) (by first | omega | (dsimp only; omega) | (simp only [List.length_map]; omega)))) ?_
      refine XOps.s rfl rfl rfl (Q.rem rfl rfl (by first | omega | (simp at hg; omega)) (wrem (by first | omega | (simp at hg; omega)))) ?_
      refine XOps.s rfl rfl rfl (Q.assign_d rfl) ?_
      refine XOps.nil ?_
      refine W.region ?_
      refine XOps.s rfl rfl rfl (Q.add rfl rfl (wi64 (by first | omega | (dsimp only; omega) | (simp only [List.length_map]; omega)) (by first | omega | (dsimp only; omega) | (simp only [List.length_map]; omega)))) ?_
      refine XOps.s rfl rfl rfl (Q.move_d rfl) ?_
      refine XOps.nil ?_
      refine ⟨k + 1, ?_, ?_, ?_, ?_⟩
      · omega
      · omega
      · exact ⟨by first | rfl | exact int_eq (by omega) | exact len_eq (by simp) | exact int_eq (by simp; done), by first | rfl | exact int_eq (by omega) | exact len_eq (by simp) | exact int_eq (by simp; done), by first | rfl | exact int_eq (by omega) | exact len_eq (by simp) | exact int_eq (by simp; done), by first | rfl | exact int_eq (by omega) | exact len_eq (by simp) | exact int_eq (by simp; done), by exact int_eq (by rw [hst]; show _ = ((((sumP ((bl s).take k)).1 + (s.data.toList.getD k 0).toNat) % 251 : Nat) : Int); omega), by exact int_eq (by rw [hst]; show _ = ((((sumP ((bl s).take k)).2 + ((sumP ((bl s).take k)).1 + (s.data.toList.getD k 0).toNat) % 251) % 241 : Nat) : Int); omega), trivial⟩
      · repeat (first | exact HLe.refl _ | refine HLe.cons' (by first | rfl | (simp; done)) ?_ | refine HLe.pick 1 rfl (by first | rfl | (simp; done)) ?_ | refine HLe.pick 2 rfl (by first | rfl | (simp; done)) ?_ | refine HLe.pick 3 rfl (by first | rfl | (simp; done)) ?_ | refine HLe.pick 4 rfl (by first | rfl | (simp; done)) ?_ | refine HLe.pick 5 rfl (by first | rfl | (simp; done)) ?_ | refine HLe.skip _ ?_)
    · try simp only [Bool.or_eq_true, Bool.or_eq_false_iff, Bool.and_eq_true, Bool.and_eq_false_iff, decide_eq_true_eq, decide_eq_false_iff_not, Bool.not_eq_true', Bool.not_eq_false', Int.not_lt, Int.not_le, List.length_map] at hc11
      have hks : k = s.size := by omega
      have htk : (bl s).take k = bl s := List.take_of_length_le (by rw [bl_len]; omega)
      have hl1 := sumP_lt ((bl s).take k)
      refine W.exit ?_
      refine W.reg ?_
      refine XOps.s rfl rfl rfl (Q.move_d rfl) ?_
      refine XOps.s rfl rfl rfl (Q.mul rfl rfl (wi64 (by first | omega | (dsimp only; omega) | (simp only [List.length_map]; omega)) (by first | omega | (dsimp only; omega) | (simp only [List.length_map]; omega)))) ?_
      refine XOps.s rfl rfl rfl (Q.move_d rfl) ?_
      refine XOps.s rfl rfl rfl (Q.add rfl rfl (wi64 (by first | omega | (dsimp only; omega) | (simp only [List.length_map]; omega)) (by first | omega | (dsimp only; omega) | (simp only [List.length_map]; omega)))) ?_
      refine XOps.s rfl rfl rfl (Q.assign_d rfl) ?_
      refine XOps.nil ?_
      refine W.ret ?_
      refine ⟨_, hs, rfl, by repeat (first | exact HLe.refl _ | refine HLe.cons' (by first | rfl | (simp; done)) ?_ | refine HLe.pick 1 rfl (by first | rfl | (simp; done)) ?_ | refine HLe.pick 2 rfl (by first | rfl | (simp; done)) ?_ | refine HLe.pick 3 rfl (by first | rfl | (simp; done)) ?_ | refine HLe.pick 4 rfl (by first | rfl | (simp; done)) ?_ | refine HLe.pick 5 rfl (by first | rfl | (simp; done)) ?_ | refine HLe.skip _ ?_), ?_, rfl⟩
      exact int_eq (by unfold sumV; rw [htk]; rw [htk] at hl1; omega)
abbrev p10G : HO := .glob 3 p10T
theorem itoa_int (n : Int) (h : 0 ≤ n) : bs (Lib.itoa n) = bs (decL n.toNat) := by
  rw [show n = (n.toNat : Nat) by omega, itoa_nat, Int.toNat_natCast]
set_option maxHeartbeats 1000000 in
set_option maxRecDepth 100000 in
theorem itoai_c (m : Int) (gd : Nat) (hs : Hp) (h0 : -9223372036854775808 ≤ m) (h1 : m ≤ 9223372036854775807) : AC P 126 [.d (.int .i64 m)] ((gd, p10G) :: hs) (fun r h => r = .d (.str (bs (Lib.itoa m))) ∧ h = (gd, p10G) :: hs) := by
  refine AC.of 5 Tryz.func126 rfl rfl rfl ?_
  refine W.reg ?_
  refine XOps.s rfl rfl rfl (Q.assign_d rfl) ?_
  refine XOps.nil ?_
  refine W.reg ?_
  refine XOps.s rfl rfl rfl (Q.move_d rfl) ?_
  refine XOps.s rfl rfl rfl (Q.call rfl Tryz.func138 go138 rfl (fmt_c (f := 138) (g := 3) rfl (by kernel_rfl) m h0 h1 gd hs)) ?_
  refine XOps.s rfl rfl rfl (Q.assign_d rfl) ?_
  refine XOps.nil ?_
  refine W.ret ?_
  exact ⟨_, _, rfl, HLe.refl _, rfl, rfl⟩
set_option maxHeartbeats 1000000 in
set_option maxRecDepth 100000 in
theorem itoas_c (m : Int) (gd : Nat) (hs : Hp) (h0 : -9223372036854775808 ≤ m) (h1 : m ≤ 9223372036854775807) : AC P 114 [.d (.int .i64 m)] ((gd, p10G) :: hs) (fun r h => r = .d (.str (bs (Lib.itoa m))) ∧ h = (gd, p10G) :: hs) := by
  refine AC.of 5 Tryz.func114 rfl rfl rfl ?_
  refine W.reg ?_
  refine XOps.s rfl rfl rfl (Q.assign_d rfl) ?_
  refine XOps.nil ?_
  refine W.reg ?_
  refine XOps.s rfl rfl rfl (Q.move_d rfl) ?_
  refine XOps.s rfl rfl rfl (Q.call rfl Tryz.func126 go126 rfl (itoai_c m gd hs h0 h1)) ?_
  refine XOps.s rfl rfl rfl (Q.assign_d rfl) ?_
  refine XOps.nil ?_
  refine W.ret ?_
  exact ⟨_, _, rfl, HLe.refl _, rfl, rfl⟩
theorem itoa_c (m : Int) (gd : Nat) (hs : Hp) (h0 : 0 ≤ m) (h1 : m ≤ 9223372036854775807) : AC P 114 [.d (.int .i64 m)] ((gd, p10G) :: hs) (fun r h => r = .d (.str (bs (decL m.toNat))) ∧ h = (gd, p10G) :: hs) :=
  (itoas_c m gd hs (by omega) h1).mono fun r h hr => by rw [← itoa_int m h0]; exact hr
set_option maxHeartbeats 1000000 in
set_option maxRecDepth 100000 in
theorem chk_c (e : EN) (hs : Hp) (h1 : e.kind.size ≤ 140737488355000) (h2 : e.text.size ≤ 140737488355000) : AC P 113 [.d (.agg e.enc)] hs (fun r h => r = .d (.int .i64 (checkN e)) ∧ h = hs) := by
  refine AC.of 43 Tryz.func113 rfl rfl rfl ?_
  refine W.reg ?_
  refine XOps.loud rfl (L.boxn rfl rfl) ?_
  rintro _ _ ⟨b1, rfl, rfl⟩
  refine XOps.s rfl rfl rfl (Q.assign_d rfl) ?_
  refine XOps.nil ?_
  refine W.seq ?_
  refine W.block ?_
  refine W.reg ?_
  refine XOps.s rfl rfl rfl (Q.fld_ptr fl69_0 rfl) ?_
  refine XOps.s rfl rfl rfl (Q.ld_ptr (k := 0) ag3 rfl rfl rfl) ?_
  refine XOps.s rfl rfl rfl (Q.lss rfl rfl) ?_
  refine XOps.s rfl rfl rfl (Q.move_d rfl) ?_
  refine XOps.gs rfl rfl rfl rfl rfl rfl rfl (fun hg => Q.fld_ptr fl69_0 rfl) ?_
  refine XOps.gs rfl rfl rfl rfl rfl rfl rfl (fun hg => Quiet.open 8 hg rfl (Q.ld_ptr (k := 0) ag3 rfl rfl rfl)) ?_
  refine XOps.gs rfl rfl rfl rfl rfl rfl rfl (fun hg => Quiet.open 9 hg rfl (Q.gtr rfl rfl)) ?_
  refine XOps.s rfl rfl rfl (Q.pick_or rfl rfl rfl (fun h => by first | (rw [h]; rfl) | (rw [hg, h]; rfl) | (simp [h, hg]; done))) ?_
  refine XOps.s rfl rfl rfl (Q.move_d rfl) ?_
  refine XOps.gs rfl rfl rfl rfl rfl rfl rfl (fun hg => Q.fld_ptr fl69_1 rfl) ?_
  refine XOps.gs rfl rfl rfl rfl rfl rfl rfl (fun hg => Quiet.open 13 hg rfl (Q.ld_ptr (k := 0) ag3 rfl rfl rfl)) ?_
  refine XOps.gs rfl rfl rfl rfl rfl rfl rfl (fun hg => Quiet.open 14 hg rfl (Q.lss rfl rfl)) ?_
  refine XOps.s rfl rfl rfl (Q.pick_or rfl rfl rfl (fun h => by first | (rw [h]; rfl) | (rw [hg, h]; rfl) | (simp [h, hg]; done))) ?_
  refine XOps.s rfl rfl rfl (Q.move_d rfl) ?_
  refine XOps.gs rfl rfl rfl rfl rfl rfl rfl (fun hg => Q.fld_ptr fl69_1 rfl) ?_
  refine XOps.gs rfl rfl rfl rfl rfl rfl rfl (fun hg => Quiet.open 18 hg rfl (Q.ld_ptr (k := 0) ag3 rfl rfl rfl)) ?_
  refine XOps.gs rfl rfl rfl rfl rfl rfl rfl (fun hg => Quiet.open 19 hg rfl (Q.gtr rfl rfl)) ?_
  refine XOps.s rfl rfl rfl (Q.pick_or rfl rfl rfl (fun h => by first | (rw [h]; rfl) | (rw [hg, h]; rfl) | (simp [h, hg]; done))) ?_
  refine XOps.s rfl rfl rfl (Q.assign_d rfl) ?_
  refine XOps.nil ?_
  refine W.cond rfl (fun hc3 => ?_) (fun hc3 => ?_)
  · try simp only [Bool.or_eq_true, Bool.or_eq_false_iff, Bool.and_eq_true, Bool.and_eq_false_iff, decide_eq_true_eq, decide_eq_false_iff_not, Bool.not_eq_true', Bool.not_eq_false', Int.not_lt, Int.not_le, List.length_map] at hc3
    have hE : checkN e = 4 := if_pos (by omega)
    rw [hE]
    refine W.reg ?_
    refine XOps.s rfl rfl rfl (Q.assign_d rfl) ?_
    refine XOps.nil ?_
    refine W.ret ?_
    exact ⟨_, hs, rfl, HLe.skip _ (HLe.refl _), rfl, rfl⟩
  · try simp only [Bool.or_eq_true, Bool.or_eq_false_iff, Bool.and_eq_true, Bool.and_eq_false_iff, decide_eq_true_eq, decide_eq_false_iff_not, Bool.not_eq_true', Bool.not_eq_false', Int.not_lt, Int.not_le, List.length_map] at hc3
    have h3 : ¬ (e.num < 1 ∨ 500 < e.num ∨ e.tm < 0 ∨ 200000 < e.tm) := by omega
    refine W.reg ?_
    refine XOps.s rfl rfl rfl (Q.fld_ptr fl69_3 rfl) ?_
    refine XOps.s rfl rfl rfl (Q.ld_ptr (k := 0) ag9 rfl rfl rfl) ?_
    refine XOps.s rfl rfl rfl (Q.len_str ist9 rfl) ?_
    refine XOps.s rfl rfl rfl (Q.gtr rfl rfl) ?_
    refine XOps.s rfl rfl rfl (Q.move_d rfl) ?_
    refine XOps.gs rfl rfl rfl rfl rfl rfl rfl (fun hg => Q.fld_ptr fl69_2 rfl) ?_
    refine XOps.gs rfl rfl rfl rfl rfl rfl rfl (fun hg => Quiet.open 28 hg rfl (Q.ld_ptr (k := 0) ag9 rfl rfl rfl)) ?_
    refine XOps.gs rfl rfl rfl rfl rfl rfl rfl (fun hg => Quiet.open 29 hg rfl (Q.len_str ist9 rfl)) ?_
    refine XOps.gs rfl rfl rfl rfl rfl rfl rfl (fun hg => Quiet.open 30 hg rfl (Q.gtr rfl rfl)) ?_
    refine XOps.s rfl rfl rfl (Q.pick_or rfl rfl rfl (fun h => by first | (rw [h]; rfl) | (rw [hg, h]; rfl) | (simp [h, hg]; done))) ?_
    refine XOps.s rfl rfl rfl (Q.assign_d rfl) ?_
    refine XOps.nil ?_
    refine W.cond rfl (fun hc22 => ?_) (fun hc22 => ?_)
    · try simp only [Bool.or_eq_true, Bool.or_eq_false_iff, Bool.and_eq_true, Bool.and_eq_false_iff, decide_eq_true_eq, decide_eq_false_iff_not, Bool.not_eq_true', Bool.not_eq_false', Int.not_lt, Int.not_le, List.length_map] at hc22
      have hE : checkN e = 2 := by unfold checkN; rw [if_neg h3, if_pos (by omega)]
      rw [hE]
      refine W.reg ?_
      refine XOps.s rfl rfl rfl (Q.assign_d rfl) ?_
      refine XOps.nil ?_
      refine W.ret ?_
      exact ⟨_, hs, rfl, HLe.skip _ (HLe.refl _), rfl, rfl⟩
    · try simp only [Bool.or_eq_true, Bool.or_eq_false_iff, Bool.and_eq_true, Bool.and_eq_false_iff, decide_eq_true_eq, decide_eq_false_iff_not, Bool.not_eq_true', Bool.not_eq_false', Int.not_lt, Int.not_le, List.length_map] at hc22
      have h22 : ¬ (120 < e.text.size ∨ 8 < e.kind.size) := by omega
      refine W.reg ?_
      refine XOps.s rfl rfl rfl (Q.fld_ptr fl69_2 rfl) ?_
      refine XOps.s rfl rfl rfl (Q.ld_ptr (k := 0) ag9 rfl rfl rfl) ?_
      refine XOps.s rfl rfl rfl (Q.eql_str rfl rfl) ?_
      refine XOps.s rfl rfl rfl (Q.move_d rfl) ?_
      refine XOps.gs rfl rfl rfl rfl rfl rfl rfl (fun hg => Q.fld_ptr fl69_2 rfl) ?_
      refine XOps.gs rfl rfl rfl rfl rfl rfl rfl (fun hg => Quiet.open 38 hg rfl (Q.ld_ptr (k := 0) ag9 rfl rfl rfl)) ?_
      refine XOps.gs rfl rfl rfl rfl rfl rfl rfl (fun hg => Quiet.open 39 hg rfl (Q.call rfl Tryz.func125 go125 rfl (trim_c (f := 125) rfl (by kernel_rfl) e.kind h1 _))) ?_
      refine XOps.gs rfl rfl rfl rfl rfl rfl rfl (fun hg => Quiet.open 40 hg rfl (Q.neq_str rfl rfl)) ?_
      refine XOps.s rfl rfl rfl (Q.pick_or rfl rfl rfl (fun h => by first | (rw [h]; rfl) | (rw [hg, h]; rfl) | (simp [h, hg]; done))) ?_
      refine XOps.s rfl rfl rfl (Q.assign_d rfl) ?_
      refine XOps.nil ?_
      refine W.cond rfl (fun hc33 => ?_) (fun hc33 => ?_)
      · try simp only [Bool.or_eq_true, Bool.or_eq_false_iff, Bool.and_eq_true, Bool.and_eq_false_iff, decide_eq_true_eq, decide_eq_false_iff_not, Bool.not_eq_true', Bool.not_eq_false', Int.not_lt, Int.not_le, List.length_map] at hc33
        have h33 : e.kind.size = 0 ∨ lowS e.kind = false := by
          rcases hc33 with h | h
          · have h4 : e.kind = ⟨#[]⟩ := (seq_iff _ _).1 h
            rw [h4]; exact .inl rfl
          · refine .inr ?_
            rw [← trim_low]; exact h
        have hE : checkN e = 6 := by unfold checkN; rw [if_neg h3, if_neg h22, if_pos h33]
        rw [hE]
        refine W.reg ?_
        refine XOps.s rfl rfl rfl (Q.assign_d rfl) ?_
        refine XOps.nil ?_
        refine W.ret ?_
        exact ⟨_, hs, rfl, HLe.skip _ (HLe.refl _), rfl, rfl⟩
      · try simp only [Bool.or_eq_true, Bool.or_eq_false_iff, Bool.and_eq_true, Bool.and_eq_false_iff, decide_eq_true_eq, decide_eq_false_iff_not, Bool.not_eq_true', Bool.not_eq_false', Int.not_lt, Int.not_le, List.length_map] at hc33
        have h33 : ¬ (e.kind.size = 0 ∨ lowS e.kind = false) := by
          obtain ⟨ha, hb⟩ := hc33
          rintro (h | h)
          · have h4 : e.kind = ⟨#[]⟩ := bl_inj (List.eq_nil_of_length_eq_zero (by rw [bl_len]; exact h))
            have ha2 : seq e.kind ⟨#[]⟩ = false := ha
            rw [h4, seq_refl] at ha2; cases ha2
          · rw [← trim_low] at h
            have hb2 : seq (bs (Lib.trimS (bl e.kind) (bl abcS))) ⟨#[]⟩ = true := hb
            rw [h] at hb2; cases hb2
        have hE : checkN e = 0 := by unfold checkN; rw [if_neg h3, if_neg h22, if_neg h33]
        rw [hE]
        refine W.skip ?_
        refine W.reg ?_
        refine XOps.s rfl rfl rfl (Q.assign_d rfl) ?_
        refine XOps.nil ?_
        refine W.ret ?_
        exact ⟨_, hs, rfl, HLe.skip _ (HLe.refl _), rfl, rfl⟩
theorem body_str (e : EN) : bs (decL e.num.toNat) ++ ⟨#[32]⟩ ++ bs (decL e.tm.toNat) ++ ⟨#[32]⟩ ++ e.kind ++ ⟨#[32]⟩ ++ bs (decL e.text.size) ++ ⟨#[58]⟩ ++ e.text = bs (bodyB e) := by
  refine bl_inj ?_
  have h32 : bl ⟨#[32]⟩ = [32] := rfl
  have h58 : bl ⟨#[58]⟩ = [58] := rfl
  simp [bl_app, bl_bs, bodyB, h32, h58]
theorem enc_str (e : EN) (h : checkN e = 0) : bs (bodyB e) ++ ⟨#[59]⟩ ++ bs (decL (sumV (bodyB e))) ++ ⟨#[10]⟩ = encV e := by
  unfold encV
  rw [if_neg (by omega)]
  refine bl_inj ?_
  have h59 : bl ⟨#[59]⟩ = [59] := rfl
  have h10 : bl ⟨#[10]⟩ = [10] := rfl
  simp [bl_app, bl_bs, encB, h59, h10]
set_option maxHeartbeats 4000000 in
set_option maxRecDepth 100000 in
theorem enc_c (e : EN) (gd : Nat) (hs : Hp) (h1 : e.kind.size ≤ 140737488355000) (h2 : e.text.size ≤ 140737488355000) : AC P 90 [.d (.agg e.enc)] ((gd, p10G) :: hs) (fun r h => r = .tup [.d (.str (encV e)), .d (.int .i64 (checkN e))] ∧ h = (gd, p10G) :: hs) := by
  refine AC.of 40 Tryz.func90 rfl rfl rfl ?_
  refine W.reg ?_
  refine XOps.loud rfl (L.boxn rfl rfl) ?_
  rintro _ _ ⟨b1, rfl, rfl⟩
  refine XOps.s rfl rfl rfl (Q.assign_d rfl) ?_
  refine XOps.s rfl rfl rfl (Q.assign_d rfl) ?_
  refine XOps.nil ?_
  refine W.seq ?_
  refine W.reg ?_
  refine XOps.s rfl rfl rfl (Q.ld_ptrn (k := 0) ag69 rfl rfl rfl) ?_
  refine XOps.s rfl rfl rfl (Q.call rfl Tryz.func113 go113 rfl (chk_c e _ h1 h2)) ?_
  refine XOps.s rfl rfl rfl (Q.assign_d rfl) ?_
  refine XOps.nil ?_
  refine W.reg ?_
  refine XOps.s rfl rfl rfl (Q.move_d rfl) ?_
  refine XOps.s rfl rfl rfl (Q.neq rfl rfl) ?_
  refine XOps.nil ?_
  refine W.cond rfl (fun hc9 => ?_) (fun hc9 => ?_)
  · try simp only [Bool.or_eq_true, Bool.or_eq_false_iff, Bool.and_eq_true, Bool.and_eq_false_iff, decide_eq_true_eq, decide_eq_false_iff_not, Bool.not_eq_true', Bool.not_eq_false', Int.not_lt, Int.not_le, List.length_map] at hc9
    have h9 : checkN e ≠ 0 := by first | exact hc9 | (simpa using hc9)
    have hV : encV e = ⟨#[]⟩ := if_pos h9
    rw [hV]
    refine W.reg ?_
    refine XOps.s rfl rfl rfl (Q.move_d rfl) ?_
    refine XOps.s rfl rfl rfl (Q.assign_d rfl) ?_
    refine XOps.s rfl rfl rfl (Q.assign_d rfl) ?_
    refine XOps.nil ?_
    refine W.ret ?_
    exact ⟨_, (gd, p10G) :: hs, rfl, HLe.skip _ (HLe.refl _), rfl, rfl⟩
  · try simp only [Bool.or_eq_true, Bool.or_eq_false_iff, Bool.and_eq_true, Bool.and_eq_false_iff, decide_eq_true_eq, decide_eq_false_iff_not, Bool.not_eq_true', Bool.not_eq_false', Int.not_lt, Int.not_le, List.length_map] at hc9
    have h9 : checkN e = 0 := by first | exact hc9 | (simpa using hc9)
    have ok := checkN_zero.1 h9
    have ok1 := ok.num
    have ok2 := ok.tm
    have ok3 := ok.text
    have ok4 := ok.kind
    have hbl := body_len ok
    have hsm := sumV_lt (bodyB e)
    have z1 : (bs (decL e.num.toNat)).size ≤ 3 := by rw [bs_size]; exact decL_len _ 2 (by omega)
    have z2 : (bs (decL e.tm.toNat)).size ≤ 6 := by rw [bs_size]; exact decL_len _ 5 (by omega)
    have z3 : (bs (decL (((e.text.size : Nat) : Int)).toNat)).size ≤ 3 := by rw [bs_size]; exact decL_len _ 2 (by omega)
    have z4 : (bs (decL (((sumV (bl (bs (bodyB e))) : Nat) : Int)).toNat)).size ≤ 5 := by rw [bs_size, bl_bs]; exact decL_len _ 4 (by omega)
    have y1 : (⟨#[32]⟩ : ByteArray).size = 1 := rfl
    have y2 : (⟨#[58]⟩ : ByteArray).size = 1 := rfl
    have y3 : (⟨#[59]⟩ : ByteArray).size = 1 := rfl
    have y4 : (⟨#[10]⟩ : ByteArray).size = 1 := rfl
    have y5 : (bs (bodyB e)).size ≤ 146 := by rw [bs_size]; exact hbl
    have hsm2 : sumV (bl (bs (bodyB e))) < 62000 := hsm
    have hbs := body_str e
    refine W.skip ?_
    refine W.drawTreg 22 [2, 6, 16] follows (by kernel_rfl) (by decide) ?_
    apply DT.moreC [.new, .new, .now, .later, .new, .new, .later, .later, .later, .new, .new, .later, .later, .new, .new, .new, .later, .later, .later, .new, .new, .later] (by kernel_rfl)
    refine PC.new _ rfl (GQ.q rfl (Q.fld_ptr fl69_0 rfl)) rfl ?_
    refine PC.new _ rfl (GQ.q rfl (Q.ld_ptr (k := 0) ag3 rfl rfl rfl)) rfl ?_
    refine PC.now rfl rfl (fun τ => Loud.to (L.call rfl Tryz.func114 go114 rfl (AC.le (itoa_c e.num gd ((b1, .cells (e.enc.map .d)) :: hs) (by omega) (by omega)) (HLe.pick 1 rfl rfl (HLe.refl _))) rfl) (fun _ _ ⟨r, h1, h2⟩ => ⟨r, h1, _, h2, rfl⟩)) ?_
    refine PC.later rfl ?_
    refine PC.new _ rfl (GQ.q rfl (Q.fld_ptr fl69_1 rfl)) rfl ?_
    refine PC.new _ rfl (GQ.q rfl (Q.ld_ptr (k := 0) ag3 rfl rfl rfl)) rfl ?_
    refine PC.later rfl ?_
    refine PC.later rfl ?_
    refine PC.later rfl ?_
    refine PC.new _ rfl (GQ.q rfl (Q.fld_ptr fl69_2 rfl)) rfl ?_
    refine PC.new _ rfl (GQ.q rfl (Q.ld_ptr (k := 0) ag9 rfl rfl rfl)) rfl ?_
    refine PC.later rfl ?_
    refine PC.later rfl ?_
    refine PC.new _ rfl (GQ.q rfl (Q.fld_ptr fl69_3 rfl)) rfl ?_
    refine PC.new _ rfl (GQ.q rfl (Q.ld_ptr (k := 0) ag9 rfl rfl rfl)) rfl ?_
    refine PC.new _ rfl (GQ.q rfl (Q.len_str ist9 rfl)) rfl ?_
    refine PC.later rfl ?_
    refine PC.later rfl ?_
    refine PC.later rfl ?_
    refine PC.new _ rfl (GQ.q rfl (Q.fld_ptr fl69_3 rfl)) rfl ?_
    refine PC.new _ rfl (GQ.q rfl (Q.ld_ptr (k := 0) ag9 rfl rfl rfl)) rfl ?_
    refine PC.later rfl ?_
    refine PC.nil ?_
    rintro _ _ ⟨_, ⟨rfl, rfl⟩, rfl⟩
    apply DT.moreC [.did, .did, .did, .new, .old, .old, .now, .later, .later, .old, .old, .later, .later, .old, .old, .old, .later, .later, .later, .old, .old, .later] (by kernel_rfl)
    refine PC.did rfl ?_
    refine PC.did rfl ?_
    refine PC.did rfl ?_
    refine PC.new _ rfl (GQ.q rfl (Q.adds rfl rfl (by first | omega | (simp only [ByteArray.size_append]; omega)))) rfl ?_
    refine PC.old rfl (GQ.q rfl (Q.fld_ptr fl69_1 rfl)) rfl ?_
    refine PC.old rfl (GQ.q rfl (Q.ld_ptr (k := 1) ag3 rfl rfl rfl)) rfl ?_
    refine PC.now rfl rfl (fun τ => Loud.to (L.call rfl Tryz.func114 go114 rfl (itoa_c e.tm gd ((b1, .cells (e.enc.map .d)) :: hs) (by omega) (by omega)) rfl) (fun _ _ ⟨r, h1, h2⟩ => ⟨r, h1, _, h2, rfl⟩)) ?_
    refine PC.later rfl ?_
    refine PC.later rfl ?_
    refine PC.old rfl (GQ.q rfl (Q.fld_ptr fl69_2 rfl)) rfl ?_
    refine PC.old rfl (GQ.q rfl (Q.ld_ptr (k := 1) ag9 rfl rfl rfl)) rfl ?_
    refine PC.later rfl ?_
    refine PC.later rfl ?_
    refine PC.old rfl (GQ.q rfl (Q.fld_ptr fl69_3 rfl)) rfl ?_
    refine PC.old rfl (GQ.q rfl (Q.ld_ptr (k := 1) ag9 rfl rfl rfl)) rfl ?_
    refine PC.old rfl (GQ.q rfl (Q.len_str ist9 rfl)) rfl ?_
    refine PC.later rfl ?_
    refine PC.later rfl ?_
    refine PC.later rfl ?_
    refine PC.old rfl (GQ.q rfl (Q.fld_ptr fl69_3 rfl)) rfl ?_
    refine PC.old rfl (GQ.q rfl (Q.ld_ptr (k := 1) ag9 rfl rfl rfl)) rfl ?_
    refine PC.later rfl ?_
    refine PC.nil ?_
    rintro _ _ ⟨_, ⟨rfl, rfl⟩, rfl⟩
    apply DT.moreC [.did, .did, .did, .old, .did, .did, .did, .new, .new, .old, .old, .new, .new, .old, .old, .old, .now, .later, .later, .old, .old, .later] (by kernel_rfl)
    refine PC.did rfl ?_
    refine PC.did rfl ?_
    refine PC.did rfl ?_
    refine PC.old rfl (GQ.q rfl (Q.adds rfl rfl (by first | omega | (simp only [ByteArray.size_append]; omega)))) rfl ?_
    refine PC.did rfl ?_
    refine PC.did rfl ?_
    refine PC.did rfl ?_
    refine PC.new _ rfl (GQ.q rfl (Q.adds rfl rfl (by first | omega | (simp only [ByteArray.size_append]; omega)))) rfl ?_
    refine PC.new _ rfl (GQ.q rfl (Q.adds rfl rfl (by first | omega | (simp only [ByteArray.size_append]; omega)))) rfl ?_
    refine PC.old rfl (GQ.q rfl (Q.fld_ptr fl69_2 rfl)) rfl ?_
    refine PC.old rfl (GQ.q rfl (Q.ld_ptr (k := 1) ag9 rfl rfl rfl)) rfl ?_
    refine PC.new _ rfl (GQ.q rfl (Q.adds rfl rfl (by first | omega | (simp only [ByteArray.size_append]; omega)))) rfl ?_
    refine PC.new _ rfl (GQ.q rfl (Q.adds rfl rfl (by first | omega | (simp only [ByteArray.size_append]; omega)))) rfl ?_
    refine PC.old rfl (GQ.q rfl (Q.fld_ptr fl69_3 rfl)) rfl ?_
    refine PC.old rfl (GQ.q rfl (Q.ld_ptr (k := 1) ag9 rfl rfl rfl)) rfl ?_
    refine PC.old rfl (GQ.q rfl (Q.len_str ist9 rfl)) rfl ?_
    refine PC.now rfl rfl (fun τ => Loud.to (L.call rfl Tryz.func114 go114 rfl (itoa_c (e.text.size : Nat) gd ((b1, .cells (e.enc.map .d)) :: hs) (by omega) (by omega)) rfl) (fun _ _ ⟨r, h1, h2⟩ => ⟨r, h1, _, h2, rfl⟩)) ?_
    refine PC.later rfl ?_
    refine PC.later rfl ?_
    refine PC.old rfl (GQ.q rfl (Q.fld_ptr fl69_3 rfl)) rfl ?_
    refine PC.old rfl (GQ.q rfl (Q.ld_ptr (k := 1) ag9 rfl rfl rfl)) rfl ?_
    refine PC.later rfl ?_
    refine PC.nil ?_
    rintro _ _ ⟨_, ⟨rfl, rfl⟩, rfl⟩
    refine DT.last [.did, .did, .did, .old, .did, .did, .did, .old, .old, .old, .old, .old, .old, .did, .did, .did, .did, .new, .new, .old, .old, .new] (by kernel_rfl) ?_
    refine PC.did rfl ?_
    refine PC.did rfl ?_
    refine PC.did rfl ?_
    refine PC.old rfl (GQ.q rfl (Q.adds rfl rfl (by first | omega | (simp only [ByteArray.size_append]; omega)))) rfl ?_
    refine PC.did rfl ?_
    refine PC.did rfl ?_
    refine PC.did rfl ?_
    refine PC.old rfl (GQ.q rfl (Q.adds rfl rfl (by first | omega | (simp only [ByteArray.size_append]; omega)))) rfl ?_
    refine PC.old rfl (GQ.q rfl (Q.adds rfl rfl (by first | omega | (simp only [ByteArray.size_append]; omega)))) rfl ?_
    refine PC.old rfl (GQ.q rfl (Q.fld_ptr fl69_2 rfl)) rfl ?_
    refine PC.old rfl (GQ.q rfl (Q.ld_ptr (k := 1) ag9 rfl rfl rfl)) rfl ?_
    refine PC.old rfl (GQ.q rfl (Q.adds rfl rfl (by first | omega | (simp only [ByteArray.size_append]; omega)))) rfl ?_
    refine PC.old rfl (GQ.q rfl (Q.adds rfl rfl (by first | omega | (simp only [ByteArray.size_append]; omega)))) rfl ?_
    refine PC.did rfl ?_
    refine PC.did rfl ?_
    refine PC.did rfl ?_
    refine PC.did rfl ?_
    refine PC.new _ rfl (GQ.q rfl (Q.adds rfl rfl (by first | omega | (simp only [ByteArray.size_append]; omega)))) rfl ?_
    refine PC.new _ rfl (GQ.q rfl (Q.adds rfl rfl (by first | omega | (simp only [ByteArray.size_append]; omega)))) rfl ?_
    refine PC.old rfl (GQ.q rfl (Q.fld_ptr fl69_3 rfl)) rfl ?_
    refine PC.old rfl (GQ.q rfl (Q.ld_ptr (k := 1) ag9 rfl rfl rfl)) rfl ?_
    refine PC.new _ rfl (GQ.q rfl (Q.adds rfl rfl (by first | omega | (simp only [ByteArray.size_append]; omega)))) rfl ?_
    refine PC.nil ?_
    refine XOps.s rfl rfl rfl (Q.assign_d rfl) ?_
    refine XOps.nil ?_
    rw [Int.toNat_natCast, hbs]
    refine W.reg ?_
    refine XOps.s rfl rfl rfl (Q.move_d rfl) ?_
    refine XOps.s rfl rfl rfl (Q.adds rfl rfl (by first | omega | (simp only [ByteArray.size_append]; omega))) ?_
    refine XOps.s rfl rfl rfl (Q.move_d rfl) ?_
    refine XOps.s rfl rfl rfl (Q.call rfl Tryz.func115 go115 rfl (sum_c (bs (bodyB e)) _ (by rw [bs_size]; omega))) ?_
    (refine XOps.loud rfl (L.call rfl Tryz.func114 go114 rfl (itoa_c (sumV (bl (bs (bodyB e))) : Nat) gd ((b1, .cells (e.enc.map .d)) :: hs) (by omega) (by omega)) rfl) ?_; rintro _ _ ⟨_, rfl, rfl, rfl⟩)
    refine XOps.s rfl rfl rfl (Q.adds rfl rfl (by first | omega | (simp only [ByteArray.size_append]; omega))) ?_
    refine XOps.s rfl rfl rfl (Q.adds rfl rfl (by first | omega | (simp only [ByteArray.size_append]; omega))) ?_
    refine XOps.s rfl rfl rfl (Q.assign_d rfl) ?_
    refine XOps.s rfl rfl rfl (Q.assign_d rfl) ?_
    refine XOps.nil ?_
    refine W.ret ?_
    (refine ⟨_, (gd, p10G) :: hs, rfl, HLe.cons _ (HLe.skip _ (HLe.refl _)), ?_, rfl⟩; rw [h9, ← enc_str e h9]; rfl)
end Go.Proofs.YtaegeaajhbfkgaaGreatDoorA

