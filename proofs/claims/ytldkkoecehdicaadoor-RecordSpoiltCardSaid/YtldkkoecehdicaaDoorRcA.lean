/- Sums and numbers of package record. -/
import Derived.Test.YtldkkoecehdicaaDoorBase
import Derived.Test.YtldkkoecehdicaaDoorRec2
import Derived.Test.YtldkkoecehdicaaDoorStrA
import Derived.Test.YtldkkoecehdicaaDoorAbs19
import Derived.Test.YtldkkoecehdicaaDoorAbs39
set_option linter.unusedVariables false
set_option linter.unusedSimpArgs false
set_option linter.unnecessarySimpa false
namespace Go.Proofs.YtldkkoecehdicaaDoorA.FRcA
open Go
theorem ag5 : tAgg P 5 = some ((false, 1)) := by kernel_rfl
theorem go31 : callGo Go.Proofs.Tryd.f31 = true := by kernel_rfl
theorem ibs46 : isBytes P 46 = true := by kernel_rfl
theorem ik3 : tInt P 3 = some (.i64) := by kernel_rfl
theorem ik5 : tInt P 5 = some (.u8) := by kernel_rfl
theorem isl46 : isSl P 46 = true := by kernel_rfl
theorem ist9 : isStr P 9 = true := by kernel_rfl
theorem sl46 : tSl P 46 = some (1) := by kernel_rfl
end Go.Proofs.YtldkkoecehdicaaDoorA.FRcA
namespace Go.Proofs.YtldkkoecehdicaaDoorA
open Go FRcA
attribute [local irreducible] XOps Quiet Loud W AC GQ DT
def byteAtR (s : ByteArray) (k : Nat) : UInt8 := s.data.toList.getD k 0
def numN (s : ByteArray) (c : UInt8) : Nat := match numV s c with | some (n, _) => n | none => 0
def numR (s : ByteArray) (c : UInt8) : ByteArray := match numV s c with | some (_, r) => r | none => ⟨#[]⟩
def numB (s : ByteArray) (c : UInt8) : Bool := (numV s c).isSome
theorem num_none {s : ByteArray} {c : UInt8} (h : numV s c = none) : numN s c = 0 ∧ numR s c = ⟨#[]⟩ ∧ numB s c = false := by
  unfold numN numR numB; rw [h]; exact ⟨rfl, rfl, rfl⟩
theorem num_some {s : ByteArray} {c : UInt8} {n : Nat} {r : ByteArray} (h : numV s c = some (n, r)) : numN s c = n ∧ numR s c = r ∧ numB s c = true := by
  unfold numN numR numB; rw [h]; exact ⟨rfl, rfl, rfl⟩
theorem wrap_dig {n : Int} (h : 48 ≤ n) (h2 : n ≤ 255) : IntKind.u8.wrap (n - 48) = n - 48 := by
  show (n - 48) % 256 = _
  omega

set_option maxHeartbeats 1000000 in
set_option maxRecDepth 100000 in
theorem sum_c (s : ByteArray) (hs : Hp) (hL : s.size ≤ 140737488355000) : AC P 22 [.d (.str s)] hs (fun r h => r = .d (.int .i64 (sumV (bl s) : Nat)) ∧ h = hs) := by
  have hbl := bytes_len s
  refine AC.of 28 Tryd.func22 rfl rfl rfl ?_
  refine W.reg ?_
  refine XOps.s rfl rfl rfl (Q.assign_d rfl) ?_
  refine XOps.nil ?_
  refine W.reg ?_
  refine XOps.s rfl rfl rfl (Q.assign_d rfl) ?_
  refine XOps.s rfl rfl rfl (Q.assign_d rfl) ?_
  refine XOps.nil ?_
  refine W.seq ?_
  refine W.reg ?_
  refine XOps.s rfl rfl rfl (Q.move_d rfl) ?_
  refine XOps.s rfl rfl rfl (Q.conv_bytes ist9 ibs46 rfl) ?_
  refine XOps.s rfl rfl rfl (Q.len_sl isl46 rfl) ?_
  refine XOps.s rfl rfl rfl (Q.move_d rfl) ?_
  refine XOps.nil ?_
  refine W.block ?_
  refine W.loop (ι := Nat) (fun k => [(0, .d (.str s)), (8, .d (bytesD s)), (9, .d (.int .i64 s.size)), (10, .d (.int .i64 k)), (3, .d (.int .i64 ((sumP ((bl s).take k)).1 : Nat))), (4, .d (.int .i64 ((sumP ((bl s).take k)).2 : Nat)))]) (fun k => hs) (fun k => k ≤ s.size) (fun k => s.size - k) 0 ?_ ?_ ?_ ?_
  · exact Nat.zero_le _
  · exact ⟨by first | rfl | exact int_eq (by omega) | exact len_eq (by simp) | exact int_eq (by simp; done), by first | rfl | exact int_eq (by omega) | exact len_eq (by simp) | exact int_eq (by simp; done), by exact len_eq (bytes_len s), by first | rfl | exact int_eq (by omega) | exact len_eq (by simp) | exact int_eq (by simp; done), by first | rfl | exact int_eq (by omega) | exact len_eq (by simp) | exact int_eq (by simp; done), by first | rfl | exact int_eq (by omega) | exact len_eq (by simp) | exact int_eq (by simp; done), trivial⟩
  · repeat (first | exact HLe.refl _ | refine HLe.cons' (by first | rfl | (simp; done)) ?_ | refine HLe.pick 1 rfl (by first | rfl | (simp; done)) ?_ | refine HLe.pick 2 rfl (by first | rfl | (simp; done)) ?_ | refine HLe.pick 3 rfl (by first | rfl | (simp; done)) ?_ | refine HLe.pick 4 rfl (by first | rfl | (simp; done)) ?_ | refine HLe.pick 5 rfl (by first | rfl | (simp; done)) ?_ | refine HLe.skip _ ?_)
  · rintro k hk
    try dsimp only
    refine W.reg ?_
    refine XOps.s rfl rfl rfl (Q.lss rfl rfl) ?_
    refine XOps.nil ?_
    refine W.seq ?_
    refine W.cond rfl (fun hc11 => ?_) (fun hc11 => ?_)
    · try simp only [Bool.or_eq_true, Bool.or_eq_false_iff, Bool.and_eq_true, Bool.and_eq_false_iff, decide_eq_true_eq, decide_eq_false_iff_not, Bool.not_eq_true', Bool.not_eq_false', Int.not_lt, Int.not_le, List.length_map] at hc11
      have hks : k < s.size := by omega
      have hcl : (bl s)[k]? = some (byteAtR s k) := by unfold byteAtR; rw [List.getD_eq_getElem?_getD]; show (bl s)[k]? = some ((bl s)[k]?.getD 0); rw [List.getElem?_eq_getElem (by rw [bl_len]; exact hks)]; rfl
      have hst := sum_step hcl
      have hl1 := sumP_lt ((bl s).take k)
      have hc8 : (byteAtR s k).toNat < 256 := (byteAtR s k).toNat_lt
      unfold byteAtR at hc8 hst
      refine W.skip ?_
      refine W.seq ?_
      refine W.block ?_
      refine W.reg ?_
      refine XOps.s rfl rfl rfl (Q.idx_sl sl46 (by decide) rfl rfl (by first | omega | (simp only [List.length_map]; omega)) (by exact bytes_row (by omega))) ?_
      refine XOps.s rfl rfl rfl (Q.ld_dp ag5 rfl rfl) ?_
      refine XOps.s rfl rfl rfl (Q.assign_d rfl) ?_
      refine XOps.nil ?_
      refine W.reg ?_
      refine XOps.s rfl rfl rfl (Q.move_d rfl) ?_
      refine XOps.s rfl rfl rfl (Q.move_d rfl) ?_
      refine XOps.s rfl rfl rfl (Q.conv_int ik3 rfl (und_int ik5) (wi64 (by omega) (by omega))) ?_
      refine XOps.s rfl rfl rfl (Q.add rfl rfl (wi64 (by first | omega | (dsimp only; omega) | (simp only [List.length_map]; omega)) (by first | omega | (dsimp only; omega) | (simp only [List.length_map]; omega)))) ?_
      refine XOps.s rfl rfl rfl (Q.rem rfl rfl (by first | omega | (simp at hg; omega)) (wrem (by first | omega | (simp at hg; omega)))) ?_
      refine XOps.s rfl rfl rfl (Q.assign_d rfl) ?_
      refine XOps.nil ?_
      refine W.region ?_
      refine XOps.s rfl rfl rfl (Q.move_d rfl) ?_
      refine XOps.s rfl rfl rfl (Q.move_d rfl) ?_
      refine XOps.s rfl rfl rfl (Q.add rfl rfl (wi64 (by first | omega | (dsimp only; omega) | (simp only [List.length_map]; omega)) (by first | omega | (dsimp only; omega) | (simp only [List.length_map]; omega)))) ?_
      refine XOps.s rfl rfl rfl (Q.rem rfl rfl (by first | omega | (simp at hg; omega)) (wrem (by first | omega | (simp at hg; omega)))) ?_
      refine XOps.s rfl rfl rfl (Q.assign_d rfl) ?_
      refine XOps.nil ?_
      refine W.region ?_
      refine XOps.s rfl rfl rfl (Q.add rfl rfl (wi64 (by first | omega | (dsimp only; omega) | (simp only [List.length_map]; omega)) (by first | omega | (dsimp only; omega) | (simp only [List.length_map]; omega)))) ?_
      refine XOps.s rfl rfl rfl (Q.move_d rfl) ?_
      refine XOps.nil ?_
      refine ⟨k + 1, ?_, ?_, ?_, ?_⟩
      · omega
      · omega
      · exact ⟨by first | rfl | exact int_eq (by omega) | exact len_eq (by simp) | exact int_eq (by simp; done), by first | rfl | exact int_eq (by omega) | exact len_eq (by simp) | exact int_eq (by simp; done), by first | rfl | exact int_eq (by omega) | exact len_eq (by simp) | exact int_eq (by simp; done), by first | rfl | exact int_eq (by omega) | exact len_eq (by simp) | exact int_eq (by simp; done), by exact int_eq (by rw [hst]; show _ = ((((sumP ((bl s).take k)).1 + (s.data.toList.getD k 0).toNat) % 251 : Nat) : Int); omega), by exact int_eq (by rw [hst]; show _ = ((((sumP ((bl s).take k)).2 + ((sumP ((bl s).take k)).1 + (s.data.toList.getD k 0).toNat) % 251) % 241 : Nat) : Int); omega), trivial⟩
      · repeat (first | exact HLe.refl _ | refine HLe.cons' (by first | rfl | (simp; done)) ?_ | refine HLe.pick 1 rfl (by first | rfl | (simp; done)) ?_ | refine HLe.pick 2 rfl (by first | rfl | (simp; done)) ?_ | refine HLe.pick 3 rfl (by first | rfl | (simp; done)) ?_ | refine HLe.pick 4 rfl (by first | rfl | (simp; done)) ?_ | refine HLe.pick 5 rfl (by first | rfl | (simp; done)) ?_ | refine HLe.skip _ ?_)
    · try simp only [Bool.or_eq_true, Bool.or_eq_false_iff, Bool.and_eq_true, Bool.and_eq_false_iff, decide_eq_true_eq, decide_eq_false_iff_not, Bool.not_eq_true', Bool.not_eq_false', Int.not_lt, Int.not_le, List.length_map] at hc11
      have hks : k = s.size := by omega
      have htk : (bl s).take k = bl s := List.take_of_length_le (by rw [bl_len]; omega)
      have hl1 := sumP_lt ((bl s).take k)
      refine W.exit ?_
      refine W.reg ?_
      refine XOps.s rfl rfl rfl (Q.move_d rfl) ?_
      refine XOps.s rfl rfl rfl (Q.mul rfl rfl (wi64 (by first | omega | (dsimp only; omega) | (simp only [List.length_map]; omega)) (by first | omega | (dsimp only; omega) | (simp only [List.length_map]; omega)))) ?_
      refine XOps.s rfl rfl rfl (Q.move_d rfl) ?_
      refine XOps.s rfl rfl rfl (Q.add rfl rfl (wi64 (by first | omega | (dsimp only; omega) | (simp only [List.length_map]; omega)) (by first | omega | (dsimp only; omega) | (simp only [List.length_map]; omega)))) ?_
      refine XOps.s rfl rfl rfl (Q.assign_d rfl) ?_
      refine XOps.nil ?_
      refine W.ret ?_
      refine ⟨_, hs, rfl, by repeat (first | exact HLe.refl _ | refine HLe.cons' (by first | rfl | (simp; done)) ?_ | refine HLe.pick 1 rfl (by first | rfl | (simp; done)) ?_ | refine HLe.pick 2 rfl (by first | rfl | (simp; done)) ?_ | refine HLe.pick 3 rfl (by first | rfl | (simp; done)) ?_ | refine HLe.pick 4 rfl (by first | rfl | (simp; done)) ?_ | refine HLe.pick 5 rfl (by first | rfl | (simp; done)) ?_ | refine HLe.skip _ ?_), ?_, rfl⟩
      exact int_eq (by unfold sumV; rw [htk]; rw [htk] at hl1; omega)

set_option maxHeartbeats 1000000 in
set_option maxRecDepth 100000 in
theorem number_c (s : ByteArray) (c : UInt8) (hs : Hp) (hL : s.size ≤ 140737488355000) : AC P 24 [.d (.str s), .d (.int .u8 (c.toNat : Nat))] hs (fun r h => r = .tup [.d (.int .i64 (numN s c : Nat)), .d (.str (numR s c)), .d (.bool (numB s c))] ∧ h = hs) := by
  have hix : Lib.indexByte (bl s) c < 0 ∨ ∃ m : Nat, Lib.indexByte (bl s) c = m ∧ m < s.size := by
    rcases (show Lib.indexByte (bl s) c < 0 ∨ 0 ≤ Lib.indexByte (bl s) c by omega) with h | h
    · exact .inl h
    · have e : Lib.indexByte (bl s) c = ((Lib.indexByte (bl s) c).toNat : Nat) := by omega
      exact .inr ⟨_, e, (idx_parts e).1⟩
  have hge := Lib.indexByte_ge (bl s) c
  have hlt : Lib.indexByte (bl s) c ≤ s.size := by rcases hix with h | ⟨m, h, h2⟩ <;> omega
  refine AC.of 56 Tryd.func24 rfl rfl rfl ?_
  refine W.reg ?_
  refine XOps.s rfl rfl rfl (Q.assign_d rfl) ?_
  refine XOps.s rfl rfl rfl (Q.assign_d rfl) ?_
  refine XOps.s rfl rfl rfl (Q.assign_d rfl) ?_
  refine XOps.nil ?_
  refine W.reg ?_
  refine XOps.s rfl rfl rfl (Q.move_d rfl) ?_
  refine XOps.s rfl rfl rfl (Q.move_d rfl) ?_
  refine XOps.s rfl rfl rfl (Q.call rfl Tryd.func31 go31 rfl (sidxb_c s c _)) ?_
  refine XOps.s rfl rfl rfl (Q.assign_d rfl) ?_
  refine XOps.nil ?_
  refine W.seq ?_
  refine W.reg ?_
  refine XOps.s rfl rfl rfl (Q.move_d rfl) ?_
  refine XOps.s rfl rfl rfl (Q.lss rfl rfl) ?_
  refine XOps.s rfl rfl rfl (Q.move_d rfl) ?_
  refine XOps.gs rfl rfl rfl rfl rfl rfl rfl (fun hg => Q.move_d rfl) ?_
  refine XOps.gs rfl rfl rfl rfl rfl rfl rfl (fun hg => Quiet.open 17 hg rfl (Q.gtr rfl rfl)) ?_
  refine XOps.s rfl rfl rfl (Q.pick_or rfl rfl rfl (fun h => by first | (rw [h]; rfl) | (rw [hg, h]; rfl) | (simp [h, hg]; done))) ?_
  refine XOps.s rfl rfl rfl (Q.move_d rfl) ?_
  refine XOps.gs rfl rfl rfl rfl rfl rfl rfl (fun hg => Q.move_d rfl) ?_
  refine XOps.gs rfl rfl rfl rfl rfl rfl rfl (fun hg => Quiet.open 21 hg rfl (Q.gtr rfl rfl)) ?_
  refine XOps.gs rfl rfl rfl rfl rfl rfl rfl (fun hg => Quiet.open 22 hg rfl (Q.move_d rfl)) ?_
  refine XOps.gsw rfl rfl rfl rfl rfl rfl rfl (fun hg => Q.move_d rfl) ?_
  refine XOps.gsw rfl rfl rfl rfl rfl rfl rfl (fun hg => Quiet.open 24 hg rfl (Q.idx_str ist9 rfl rfl (by first | omega | (simp at hg; omega)) (by first | omega | (simp at hg; omega)))) ?_
  refine XOps.gsw rfl rfl rfl rfl rfl rfl rfl (fun hg => Quiet.open 25 hg rfl (Q.eql rfl rfl)) ?_
  refine XOps.gs rfl rfl rfl rfl rfl rfl rfl (fun hg => Quiet.open 23 hg rfl (Q.pick_and rfl rfl rfl (fun h => by first | (rw [h]; rfl) | (rw [hg, h]; rfl) | (simp [h, hg]; done)))) ?_
  refine XOps.s rfl rfl rfl (Q.pick_or rfl rfl rfl (fun h => by first | (rw [h]; rfl) | (rw [hg, h]; rfl) | (simp [h, hg]; done))) ?_
  refine XOps.nil ?_
  refine W.cond rfl (fun hc28 => ?_) (fun hc28 => ?_)
  · try simp only [Bool.or_eq_true, Bool.or_eq_false_iff, Bool.and_eq_true, Bool.and_eq_false_iff, decide_eq_true_eq, decide_eq_false_iff_not, Bool.not_eq_true', Bool.not_eq_false', Int.not_lt, Int.not_le, List.length_map] at hc28
    have hN : numV s c = none := if_pos (by
      rcases hc28 with (h | h) | ⟨h, h2⟩
      · exact .inl h
      · exact .inr (.inl h)
      · refine .inr (.inr ⟨h, UInt8.toNat_inj.1 ?_⟩)
        have h3 : (((bl s).getD 0 0).toNat : Int) = 48 := h2
        show ((bl s).getD 0 0).toNat = 48
        omega)
    obtain ⟨n1, n2, n3⟩ := num_none hN
    rw [n1, n2, n3]
    refine W.reg ?_
    refine XOps.s rfl rfl rfl (Q.assign_d rfl) ?_
    refine XOps.s rfl rfl rfl (Q.assign_d rfl) ?_
    refine XOps.s rfl rfl rfl (Q.assign_d rfl) ?_
    refine XOps.nil ?_
    refine W.ret ?_
    refine ⟨_, hs, rfl, by repeat (first | exact HLe.refl _ | refine HLe.cons' (by first | rfl | (simp; done)) ?_ | refine HLe.pick 1 rfl (by first | rfl | (simp; done)) ?_ | refine HLe.pick 2 rfl (by first | rfl | (simp; done)) ?_ | refine HLe.pick 3 rfl (by first | rfl | (simp; done)) ?_ | refine HLe.pick 4 rfl (by first | rfl | (simp; done)) ?_ | refine HLe.pick 5 rfl (by first | rfl | (simp; done)) ?_ | refine HLe.skip _ ?_), ?_, rfl⟩
    rfl
  · try simp only [Bool.or_eq_true, Bool.or_eq_false_iff, Bool.and_eq_true, Bool.and_eq_false_iff, decide_eq_true_eq, decide_eq_false_iff_not, Bool.not_eq_true', Bool.not_eq_false', Int.not_lt, Int.not_le, List.length_map] at hc28
    obtain ⟨m, hm, hms⟩ : ∃ m : Nat, Lib.indexByte (bl s) c = m ∧ m < s.size := by
      rcases hix with h | h
      · exfalso; have := hc28.1.1; omega
      · exact h
    have hm1 : 1 ≤ m ∧ m ≤ 6 := by have h1 := hc28.1.1; have h2 := hc28.1.2; omega
    have hNV : numV s c = (valD ((bl s).take m) 0).map fun n => (n, s.extract (m + 1) s.size) := by
      unfold numV
      rw [if_neg, hm, Int.toNat_natCast]
      rintro (h | h | ⟨h, h2⟩)
      · omega
      · omega
      · rcases hc28.2 with h3 | h3
        · omega
        · refine h3 ?_
          show (((bl s).getD 0 0).toNat : Int) = 48
          rw [h2]; rfl
    have hxs : (s.extract 0 m).size = m := by rw [← bl_len, bl_extract]; simp [bl_len]; omega
    have hbl := bytes_len (s.extract 0 m)
    have hbx : bl (s.extract 0 m) = (bl s).take m := by rw [bl_extract, List.drop_zero]
    rw [hm]
    refine W.skip ?_
    refine W.reg ?_
    refine XOps.s rfl rfl rfl (Q.assign_d rfl) ?_
    refine XOps.nil ?_
    refine W.seq ?_
    refine W.reg ?_
    refine XOps.s rfl rfl rfl (Q.move_d rfl) ?_
    refine XOps.s rfl rfl rfl (Q.move_d rfl) ?_
    refine XOps.s rfl rfl rfl (Q.cut_str ist9 rfl rfl rfl (by first | omega | (simp at hg; omega)) (by first | omega | (simp at hg; omega)) (by first | omega | (simp at hg; omega))) ?_
    refine XOps.s rfl rfl rfl (Q.conv_bytes ist9 ibs46 rfl) ?_
    refine XOps.s rfl rfl rfl (Q.len_sl isl46 rfl) ?_
    refine XOps.s rfl rfl rfl (Q.move_d rfl) ?_
    refine XOps.nil ?_
    refine W.block ?_
    refine W.loop (ι := Nat × Nat) (fun p => [(0, .d (.str s)), (1, .d (.int .u8 (c.toNat : Nat))), (7, .d (.int .i64 (m : Nat))), (32, .d (bytesD (s.extract 0 m))), (33, .d (.int .i64 (m : Nat))), (34, .d (.int .i64 (p.1 : Nat))), (8, .d (.int .i64 (p.2 : Nat)))]) (fun p => hs) (fun p => p.1 ≤ m ∧ valD (((bl s).take m).drop p.1) p.2 = valD ((bl s).take m) 0 ∧ p.2 < 10 ^ p.1) (fun p => m - p.1) (0, 0) ?_ ?_ ?_ ?_
    · exact ⟨Nat.zero_le _, rfl, by decide⟩
    · exact ⟨by first | rfl | exact int_eq (by omega) | exact len_eq (by simp) | exact int_eq (by simp; done), by first | rfl | exact int_eq (by omega) | exact len_eq (by simp) | exact int_eq (by simp; done), by first | rfl | exact int_eq (by omega) | exact len_eq (by simp) | exact int_eq (by simp; done), by rfl, by exact int_eq (by show (((s.extract 0 m).data.toList.map bE).length : Int) = _; rw [hbl, hxs]), by first | rfl | exact int_eq (by omega) | exact len_eq (by simp) | exact int_eq (by simp; done), by first | rfl | exact int_eq (by omega) | exact len_eq (by simp) | exact int_eq (by simp; done), trivial⟩
    · repeat (first | exact HLe.refl _ | refine HLe.cons' (by first | rfl | (simp; done)) ?_ | refine HLe.pick 1 rfl (by first | rfl | (simp; done)) ?_ | refine HLe.pick 2 rfl (by first | rfl | (simp; done)) ?_ | refine HLe.pick 3 rfl (by first | rfl | (simp; done)) ?_ | refine HLe.pick 4 rfl (by first | rfl | (simp; done)) ?_ | refine HLe.pick 5 rfl (by first | rfl | (simp; done)) ?_ | refine HLe.skip _ ?_)
    · rintro ⟨j, q⟩ ⟨hj, hI, hq⟩
      dsimp only at hj hI hq ⊢
      refine W.reg ?_
      refine XOps.s rfl rfl rfl (Q.lss rfl rfl) ?_
      refine XOps.nil ?_
      refine W.seq ?_
      refine W.cond rfl (fun hc35 => ?_) (fun hc35 => ?_)
      · try simp only [Bool.or_eq_true, Bool.or_eq_false_iff, Bool.and_eq_true, Bool.and_eq_false_iff, decide_eq_true_eq, decide_eq_false_iff_not, Bool.not_eq_true', Bool.not_eq_false', Int.not_lt, Int.not_le, List.length_map] at hc35
        obtain ⟨x, hx⟩ : ∃ x, (s.extract 0 m).data.toList[j]? = some x := ⟨_, List.getElem?_eq_getElem (by show j < (bl (s.extract 0 m)).length; rw [bl_len]; omega)⟩
        have hx2 : ((bl s).take m)[j]? = some x := by rw [← hbx]; exact hx
        have hst : valD (((bl s).take m).drop j) q = if isD x = true then valD (((bl s).take m).drop (j + 1)) (10 * q + (x.toNat - 48)) else none := by
          obtain ⟨h1, h2⟩ := List.getElem?_eq_some_iff.1 hx2
          rw [List.drop_eq_getElem_cons h1, h2, valD]
        have hq6 : q < 1000000 := Nat.lt_of_lt_of_le hq (Nat.le_trans (Nat.pow_le_pow_right (by omega) (show j ≤ 6 by omega)) (by decide))
        have hx8 := x.toNat_lt
        refine W.skip ?_
        refine W.seq ?_
        refine W.block ?_
        refine W.reg ?_
        refine XOps.s rfl rfl rfl (Q.idx_sl sl46 (by decide) rfl rfl (by first | omega | (simp only [List.length_map]; omega)) (by exact map_at hx)) ?_
        refine XOps.s rfl rfl rfl (Q.ld_dp ag5 rfl rfl) ?_
        refine XOps.s rfl rfl rfl (Q.assign_d rfl) ?_
        refine XOps.nil ?_
        refine W.seq ?_
        refine W.reg ?_
        refine XOps.s rfl rfl rfl (Q.move_d rfl) ?_
        refine XOps.s rfl rfl rfl (Q.lss rfl rfl) ?_
        refine XOps.s rfl rfl rfl (Q.move_d rfl) ?_
        refine XOps.gs rfl rfl rfl rfl rfl rfl rfl (fun hg => Q.move_d rfl) ?_
        refine XOps.gs rfl rfl rfl rfl rfl rfl rfl (fun hg => Quiet.open 41 hg rfl (Q.gtr rfl rfl)) ?_
        refine XOps.s rfl rfl rfl (Q.pick_or rfl rfl rfl (fun h => by first | (rw [h]; rfl) | (rw [hg, h]; rfl) | (simp [h, hg]; done))) ?_
        refine XOps.nil ?_
        refine W.cond rfl (fun hc43 => ?_) (fun hc43 => ?_)
        · try simp only [Bool.or_eq_true, Bool.or_eq_false_iff, Bool.and_eq_true, Bool.and_eq_false_iff, decide_eq_true_eq, decide_eq_false_iff_not, Bool.not_eq_true', Bool.not_eq_false', Int.not_lt, Int.not_le, List.length_map] at hc43
          have hD : isD x = false := decide_eq_false (by omega)
          rw [hD, if_neg (by simp)] at hst
          rw [hst] at hI
          have hN : numV s c = none := by rw [hNV, ← hI]; rfl
          obtain ⟨n1, n2, n3⟩ := num_none hN
          rw [n1, n2, n3]
          refine W.reg ?_
          refine XOps.s rfl rfl rfl (Q.assign_d rfl) ?_
          refine XOps.s rfl rfl rfl (Q.assign_d rfl) ?_
          refine XOps.s rfl rfl rfl (Q.assign_d rfl) ?_
          refine XOps.nil ?_
          refine W.ret ?_
          refine ⟨_, hs, rfl, by repeat (first | exact HLe.refl _ | refine HLe.cons' (by first | rfl | (simp; done)) ?_ | refine HLe.pick 1 rfl (by first | rfl | (simp; done)) ?_ | refine HLe.pick 2 rfl (by first | rfl | (simp; done)) ?_ | refine HLe.pick 3 rfl (by first | rfl | (simp; done)) ?_ | refine HLe.pick 4 rfl (by first | rfl | (simp; done)) ?_ | refine HLe.pick 5 rfl (by first | rfl | (simp; done)) ?_ | refine HLe.skip _ ?_), ?_, rfl⟩
          rfl
        · try simp only [Bool.or_eq_true, Bool.or_eq_false_iff, Bool.and_eq_true, Bool.and_eq_false_iff, decide_eq_true_eq, decide_eq_false_iff_not, Bool.not_eq_true', Bool.not_eq_false', Int.not_lt, Int.not_le, List.length_map] at hc43
          have hD : isD x = true := decide_eq_true (by omega)
          rw [if_pos hD] at hst
          have hx9 : 48 ≤ x.toNat ∧ x.toNat ≤ 57 := by omega
          refine W.skip ?_
          refine W.region ?_
          refine XOps.s rfl rfl rfl (Q.move_d rfl) ?_
          refine XOps.s rfl rfl rfl (Q.mul rfl rfl (wi64 (by first | omega | (dsimp only; omega) | (simp only [List.length_map]; omega)) (by first | omega | (dsimp only; omega) | (simp only [List.length_map]; omega)))) ?_
          refine XOps.s rfl rfl rfl (Q.move_d rfl) ?_
          refine XOps.s rfl rfl rfl (Q.sub rfl rfl (by show _ = _; exact wrap_dig (by omega) (by omega))) ?_
          refine XOps.s rfl rfl rfl (Q.conv_int ik3 rfl (und_int ik5) (wi64 (by omega) (by omega))) ?_
          refine XOps.s rfl rfl rfl (Q.add rfl rfl (wi64 (by first | omega | (dsimp only; omega) | (simp only [List.length_map]; omega)) (by first | omega | (dsimp only; omega) | (simp only [List.length_map]; omega)))) ?_
          refine XOps.s rfl rfl rfl (Q.assign_d rfl) ?_
          refine XOps.nil ?_
          refine W.region ?_
          refine XOps.s rfl rfl rfl (Q.add rfl rfl (wi64 (by first | omega | (dsimp only; omega) | (simp only [List.length_map]; omega)) (by first | omega | (dsimp only; omega) | (simp only [List.length_map]; omega)))) ?_
          refine XOps.s rfl rfl rfl (Q.move_d rfl) ?_
          refine XOps.nil ?_
          refine ⟨(j + 1, 10 * q + (x.toNat - 48)), ?_, ?_, ?_, ?_⟩
          · exact ⟨by dsimp only; omega, by dsimp only; rw [← hst]; exact hI, by dsimp only; rw [Nat.pow_succ]; omega⟩
          · show m - (j + 1) < m - j; omega
          · exact ⟨by first | rfl | exact int_eq (by omega) | exact len_eq (by simp) | exact int_eq (by simp; done), by first | rfl | exact int_eq (by omega) | exact len_eq (by simp) | exact int_eq (by simp; done), by first | rfl | exact int_eq (by omega) | exact len_eq (by simp) | exact int_eq (by simp; done), by first | rfl | exact int_eq (by omega) | exact len_eq (by simp) | exact int_eq (by simp; done), by first | rfl | exact int_eq (by omega) | exact len_eq (by simp) | exact int_eq (by simp; done), by first | rfl | exact int_eq (by omega) | exact len_eq (by simp) | exact int_eq (by simp; done), by first | rfl | exact int_eq (by omega) | exact len_eq (by simp) | exact int_eq (by simp; done), trivial⟩
          · repeat (first | exact HLe.refl _ | refine HLe.cons' (by first | rfl | (simp; done)) ?_ | refine HLe.pick 1 rfl (by first | rfl | (simp; done)) ?_ | refine HLe.pick 2 rfl (by first | rfl | (simp; done)) ?_ | refine HLe.pick 3 rfl (by first | rfl | (simp; done)) ?_ | refine HLe.pick 4 rfl (by first | rfl | (simp; done)) ?_ | refine HLe.pick 5 rfl (by first | rfl | (simp; done)) ?_ | refine HLe.skip _ ?_)
      · try simp only [Bool.or_eq_true, Bool.or_eq_false_iff, Bool.and_eq_true, Bool.and_eq_false_iff, decide_eq_true_eq, decide_eq_false_iff_not, Bool.not_eq_true', Bool.not_eq_false', Int.not_lt, Int.not_le, List.length_map] at hc35
        have hjm : j = m := by omega
        subst hjm
        rw [List.drop_of_length_le (by rw [List.length_take]; omega)] at hI
        have hN : numV s c = some (q, s.extract (j + 1) s.size) := by rw [hNV, ← hI]; rfl
        obtain ⟨n1, n2, n3⟩ := num_some hN
        rw [n1, n2, n3]
        refine W.exit ?_
        refine W.drawreg 6 follows (by kernel_rfl) ?_
        refine Chain.cons _ (GQ.q rfl (Q.move_d rfl)) rfl ?_
        refine Chain.cons _ (GQ.q rfl (Q.move_d rfl)) rfl ?_
        refine Chain.cons _ (GQ.q rfl (Q.move_d rfl)) rfl ?_
        refine Chain.cons _ (GQ.q rfl (Q.add rfl rfl (wi64 (by first | omega | (dsimp only; omega) | (simp only [List.length_map]; omega)) (by first | omega | (dsimp only; omega) | (simp only [List.length_map]; omega))))) rfl ?_
        refine Chain.cons _ (GQ.q rfl (Q.cut_str ist9 rfl rfl rfl (by first | omega | (simp at hg; omega)) (by first | omega | (simp at hg; omega)) (by first | omega | (simp at hg; omega)))) rfl ?_
        refine Chain.cons _ (GQ.q rfl (Q.assign_d rfl)) rfl ?_
        refine Chain.nil ?_
        refine XOps.s rfl rfl rfl (Q.assign_d rfl) ?_
        refine XOps.s rfl rfl rfl (Q.assign_d rfl) ?_
        refine XOps.nil ?_
        refine W.ret ?_
        refine ⟨_, hs, rfl, by repeat (first | exact HLe.refl _ | refine HLe.cons' (by first | rfl | (simp; done)) ?_ | refine HLe.pick 1 rfl (by first | rfl | (simp; done)) ?_ | refine HLe.pick 2 rfl (by first | rfl | (simp; done)) ?_ | refine HLe.pick 3 rfl (by first | rfl | (simp; done)) ?_ | refine HLe.pick 4 rfl (by first | rfl | (simp; done)) ?_ | refine HLe.pick 5 rfl (by first | rfl | (simp; done)) ?_ | refine HLe.skip _ ?_), ?_, rfl⟩
        rfl
end Go.Proofs.YtldkkoecehdicaaDoorA
