/- Decode; the fact of package record. -/
import Derived.Test.YtodbcbojkfndiaaGreatDoorFrB
import Derived.Test.YtodbcbojkfndiaaGreatDoorRzA
set_option linter.unusedVariables false
set_option linter.unusedSimpArgs false
set_option linter.unnecessarySimpa false
namespace Go.Proofs.YtodbcbojkfndiaaGreatDoorA.FRzB
open Go
theorem ag3 : tAgg P 3 = some ((false, 1)) := by kernel_rfl
theorem ag38 : tAgg P 38 = some ((true, 4)) := by kernel_rfl
theorem ag9 : tAgg P 9 = some ((false, 1)) := by kernel_rfl
theorem fl38_0 : tFld P 38 0 = some (0) := by kernel_rfl
theorem fl38_1 : tFld P 38 1 = some (1) := by kernel_rfl
theorem fl38_2 : tFld P 38 2 = some (2) := by kernel_rfl
theorem fl38_3 : tFld P 38 3 = some (3) := by kernel_rfl
theorem go16 : callGo Go.Proofs.Tryz.f16 = true := by kernel_rfl
theorem go17 : callGo Go.Proofs.Tryz.f17 = true := by kernel_rfl
theorem go23 : callGo Go.Proofs.Tryz.f23 = true := by kernel_rfl
theorem go25 : callGo Go.Proofs.Tryz.f25 = true := by kernel_rfl
theorem go26 : callGo Go.Proofs.Tryz.f26 = true := by kernel_rfl
theorem go27 : callGo Go.Proofs.Tryz.f27 = true := by kernel_rfl
theorem go28 : callGo Go.Proofs.Tryz.f28 = true := by kernel_rfl
theorem ist9 : isStr P 9 = true := by kernel_rfl
theorem pl38 : tPl P 38 = some ([(0, 1), (1, 1), (2, 1), (3, 1)]) := by kernel_rfl
theorem tz38 : tZero P 38 = some ([.int .i64 0, .int .i64 0, .string ⟨#[]⟩, .string ⟨#[]⟩]) := by kernel_rfl
theorem tzd38 : cellsD [.int .i64 0, .int .i64 0, .string ⟨#[]⟩, .string ⟨#[]⟩] = some ([.int .i64 0, .int .i64 0, .str ⟨#[]⟩, .str ⟨#[]⟩]) := rfl
end Go.Proofs.YtodbcbojkfndiaaGreatDoorA.FRzB
namespace Go.Proofs.YtodbcbojkfndiaaGreatDoorA
open Go FRzB
attribute [local irreducible] XOps Quiet Loud W AC GQ DT
theorem cutR_sz (c : UInt8) (p : ByteArray) : (cutR c p).size ≤ p.size := by
  unfold cutR; split
  · rw [← bl_len, bl_extract]; simp [bl_len] <;> omega
  · exact Nat.zero_le _
theorem cutL_sz (c : UInt8) (p : ByteArray) : (cutL c p).size ≤ p.size := by
  unfold cutL; split
  · rw [← bl_len, bl_extract]; simp [bl_len] <;> omega
  · exact Nat.le_refl _
theorem num_sz {s r : ByteArray} {c : UInt8} {n : Nat} (h : numV s c = some (n, r)) : r.size < s.size := by
  have h1 := congrArg List.length (num_back h).1
  simp [bl_len] at h1; omega
theorem wsubN {a b : Nat} (h : b ≤ a) (h2 : a ≤ 9223372036854775807) : IntKind.i64.wrap ((a : Int) - (b : Nat)) = ((a - b : Nat) : Int) := by
  rw [show (a : Int) - (b : Nat) = ((a - b : Nat) : Int) by omega]
  exact wi64 (by omega) (by omega)
theorem dec_none {s : ByteArray} (h : dec1 s = none) : decE s = 5 := by unfold decE; rw [h]
theorem dec_some {s r : ByteArray} {e : EN} (h : dec1 s = some (e, r)) : decE s = (dec2 s e r).1 := by unfold decE; rw [h]
theorem dec_bad {s : ByteArray} (h : decE s ≠ 0) : decX s = EN.zero ∧ decN s = 0 := ⟨if_pos h, if_pos h⟩
theorem Q.cut_strN {P : Program} {N : Nm} {σ : Env} {hs : Hp} {d : Option Tmp} {ty : TypeId} {pos : String} {af : Array Edge} {g : Option (Nat × Bool)} {t : Nat} {b : ByteArray} {x : Operand} {lo hi : Option Operand} {i j : Nat} (ht : isStr P t = true) (hx : oev σ x = .d (.str b)) (hl : OI σ lo 0 (i : Nat)) (hh : OI σ hi b.size (j : Nat)) (h1 : i ≤ j) (h2 : j ≤ b.size) :
    Quiet P N σ hs ⟨d, .slice t x lo hi none, ty, pos, af, g⟩ (.d (.str (b.extract i j))) := by
  have h := Q.cut_str (P := P) (N := N) (hs := hs) (d := d) (ty := ty) (pos := pos) (af := af) (g := g) ht hx hl hh (by omega) (by omega) (by omega)
  rwa [Int.toNat_natCast, Int.toNat_natCast] at h

set_option maxHeartbeats 1000000 in
set_option maxRecDepth 100000 in
theorem no_c (v : Int) (hs : Hp) : AC P 26 [.d (.int .i64 v)] hs (fun r h => r = .tup [.d (.agg EN.zero.enc), .d (.int .i64 0), .d (.int .i64 v)] ∧ h = hs) := by
  refine AC.ofc 7 Tryz.func26 rfl rfl rfl ?_
  refine W.reg ?_
  (refine XOps.loud rfl (L.alloc tz38 rfl rfl) ?_; rintro _ _ ⟨b2, rfl, rfl⟩)
  refine XOps.s rfl rfl rfl (Q.assign_d rfl) ?_
  refine XOps.s rfl rfl rfl (Q.assign_d rfl) ?_
  refine XOps.nil ?_
  refine W.reg ?_
  refine XOps.s rfl rfl rfl (Q.build pl38 tz38 tzd38 rfl) ?_
  refine XOps.s rfl rfl rfl (Q.move_d rfl) ?_
  refine XOps.loud rfl (L.storen (k := 0) ag38 rfl rfl rfl rfl rfl) ?_
  rintro _ _ ⟨rfl, rfl⟩
  refine XOps.s rfl rfl rfl (Q.assign_d rfl) ?_
  refine XOps.s rfl rfl rfl (Q.assign_d rfl) ?_
  refine XOps.nil ?_
  refine W.ret ?_
  exact ⟨_, hs, (.cons (by first | exact .celln 0 ag38 rfl rfl rfl | exact .cell1 0 ag38 rfl rfl rfl | exact .celln 1 ag38 rfl rfl rfl | exact .cell1 1 ag38 rfl rfl rfl | exact .celln 2 ag38 rfl rfl rfl | exact .cell1 2 ag38 rfl rfl rfl | exact .celln 3 ag38 rfl rfl rfl | exact .cell1 3 ag38 rfl rfl rfl) (.cons (.tmp _) (.cons (.tmp _) .nil))), HLe.skip _ (HLe.refl _), rfl, rfl⟩

set_option maxHeartbeats 8000000 in
set_option maxRecDepth 100000 in
theorem decode_c (s : ByteArray) (hs : Hp) (hL : s.size ≤ 140737488355000) : AC P 17 [.d (.str s)] hs (fun r h => r = .tup [.d (.agg (decX s).enc), .d (.int .i64 (decN s : Nat)), .d (.int .i64 (decE s))] ∧ h = hs) := by
  refine AC.ofc 134 Tryz.func17 rfl rfl rfl ?_
  refine W.reg ?_
  (refine XOps.loud rfl (L.alloc tz38 rfl rfl) ?_; rintro _ _ ⟨b2, rfl, rfl⟩)
  refine XOps.s rfl rfl rfl (Q.assign_d rfl) ?_
  refine XOps.s rfl rfl rfl (Q.assign_d rfl) ?_
  refine XOps.nil ?_
  refine W.reg ?_
  refine XOps.s rfl rfl rfl (Q.assign_fn rfl) ?_
  refine XOps.nil ?_
  refine W.reg ?_
  (refine XOps.loud rfl (L.alloc tz38 rfl rfl) ?_; rintro _ _ ⟨b6, rfl, rfl⟩)
  refine XOps.nil ?_
  refine W.reg ?_
  refine XOps.s rfl rfl rfl (Q.assign_d rfl) ?_
  refine XOps.nil ?_
  refine W.reg ?_
  refine XOps.s rfl rfl rfl (Q.assign_d rfl) ?_
  refine XOps.s rfl rfl rfl (Q.assign_d rfl) ?_
  refine XOps.nil ?_
  refine W.reg ?_
  refine XOps.s rfl rfl rfl (Q.move_d rfl) ?_
  refine XOps.s rfl rfl rfl (Q.assign_d rfl) ?_
  refine XOps.nil ?_
  refine W.seq ?_
  refine W.reg ?_
  refine XOps.s rfl rfl rfl (Q.move_d rfl) ?_
  refine XOps.s rfl rfl rfl (Q.call rfl Tryz.func27 go27 rfl (number_c s 32 _ hL)) ?_
  refine XOps.s rfl rfl rfl (Q.move_tup rfl) ?_
  refine XOps.s rfl rfl rfl (Q.extract rfl rfl) ?_
  refine XOps.s rfl rfl rfl (Q.extract rfl rfl) ?_
  refine XOps.s rfl rfl rfl (Q.extract rfl rfl) ?_
  refine XOps.s rfl rfl rfl (Q.fld_ptr fl38_0 rfl) ?_
  refine XOps.loud rfl (L.store (k := 0) ag3 rfl rfl rfl rfl rfl) ?_
  rintro _ _ ⟨rfl, rfl⟩
  refine XOps.s rfl rfl rfl (Q.assign_d rfl) ?_
  refine XOps.s rfl rfl rfl (Q.assign_d rfl) ?_
  refine XOps.nil ?_
  refine W.reg ?_
  refine XOps.s rfl rfl rfl (Q.move_d rfl) ?_
  refine XOps.s rfl rfl rfl (Q.not rfl) ?_
  refine XOps.nil ?_
  refine W.cond rfl (fun hc22 => ?_) (fun hc22 => ?_)
  · try simp only [Bool.or_eq_true, Bool.or_eq_false_iff, Bool.and_eq_true, Bool.and_eq_false_iff, decide_eq_true_eq, decide_eq_false_iff_not, Bool.not_eq_true', Bool.not_eq_false', Int.not_lt, Int.not_le, List.length_map] at hc22
    have h22 : numB s 32 = false := by simpa using hc22
    have h1 : numV s 32 = none := by unfold numB at h22; simpa using h22
    have hE : decE s = 5 := dec_none (by unfold dec1; rw [h1])
    obtain ⟨hX, hN⟩ := dec_bad (s := s) (by omega)
    rw [hE, hX, hN]
    refine W.reg ?_
    refine XOps.s rfl rfl rfl (Q.move_fn rfl) ?_
    refine XOps.s rfl rfl rfl (Q.call rfl Tryz.func26 go26 rfl (no_c 5 _)) ?_
    refine XOps.s rfl rfl rfl (Q.extract rfl rfl) ?_
    refine XOps.s rfl rfl rfl (Q.extract rfl rfl) ?_
    refine XOps.s rfl rfl rfl (Q.extract rfl rfl) ?_
    refine XOps.loud rfl (L.storen (k := 1) ag38 rfl rfl rfl rfl rfl) ?_
    rintro _ _ ⟨rfl, rfl⟩
    refine XOps.s rfl rfl rfl (Q.assign_d rfl) ?_
    refine XOps.s rfl rfl rfl (Q.assign_d rfl) ?_
    refine XOps.nil ?_
    refine W.ret ?_
    refine ⟨_, hs, (.cons (by first | exact .celln 0 ag38 rfl rfl rfl | exact .cell1 0 ag38 rfl rfl rfl | exact .celln 1 ag38 rfl rfl rfl | exact .cell1 1 ag38 rfl rfl rfl | exact .celln 2 ag38 rfl rfl rfl | exact .cell1 2 ag38 rfl rfl rfl | exact .celln 3 ag38 rfl rfl rfl | exact .cell1 3 ag38 rfl rfl rfl) (.cons (.tmp _) (.cons (.tmp _) .nil))), HLe.skip _ (HLe.skip _ (HLe.refl _)), rfl, rfl⟩
  · try simp only [Bool.or_eq_true, Bool.or_eq_false_iff, Bool.and_eq_true, Bool.and_eq_false_iff, decide_eq_true_eq, decide_eq_false_iff_not, Bool.not_eq_true', Bool.not_eq_false', Int.not_lt, Int.not_le, List.length_map] at hc22
    have h22 : numB s 32 = true := by simpa using hc22
    obtain ⟨⟨a, r1⟩, h1⟩ := Option.isSome_iff_exists.1 h22
    obtain ⟨m1, m2, m3⟩ := num_some h1
    have z1 := num_sz h1
    rw [m1, m2]
    refine W.skip ?_
    refine W.seq ?_
    refine W.reg ?_
    refine XOps.s rfl rfl rfl (Q.move_d rfl) ?_
    refine XOps.s rfl rfl rfl (Q.call rfl Tryz.func27 go27 rfl (number_c r1 32 _ (by omega))) ?_
    refine XOps.s rfl rfl rfl (Q.move_tup rfl) ?_
    refine XOps.s rfl rfl rfl (Q.extract rfl rfl) ?_
    refine XOps.s rfl rfl rfl (Q.extract rfl rfl) ?_
    refine XOps.s rfl rfl rfl (Q.extract rfl rfl) ?_
    refine XOps.s rfl rfl rfl (Q.fld_ptr fl38_1 rfl) ?_
    refine XOps.loud rfl (L.store (k := 0) ag3 rfl rfl rfl rfl rfl) ?_
    rintro _ _ ⟨rfl, rfl⟩
    refine XOps.s rfl rfl rfl (Q.assign_d rfl) ?_
    refine XOps.s rfl rfl rfl (Q.assign_d rfl) ?_
    refine XOps.nil ?_
    refine W.reg ?_
    refine XOps.s rfl rfl rfl (Q.move_d rfl) ?_
    refine XOps.s rfl rfl rfl (Q.not rfl) ?_
    refine XOps.nil ?_
    refine W.cond rfl (fun hc36 => ?_) (fun hc36 => ?_)
    · try simp only [Bool.or_eq_true, Bool.or_eq_false_iff, Bool.and_eq_true, Bool.and_eq_false_iff, decide_eq_true_eq, decide_eq_false_iff_not, Bool.not_eq_true', Bool.not_eq_false', Int.not_lt, Int.not_le, List.length_map] at hc36
      have h36 : numB r1 32 = false := by simpa using hc36
      have h2 : numV r1 32 = none := by unfold numB at h36; simpa using h36
      have hE : decE s = 5 := dec_none (by unfold dec1; rw [h1]; dsimp only; rw [h2])
      obtain ⟨hX, hN⟩ := dec_bad (s := s) (by omega)
      rw [hE, hX, hN]
      refine W.reg ?_
      refine XOps.s rfl rfl rfl (Q.move_fn rfl) ?_
      refine XOps.s rfl rfl rfl (Q.call rfl Tryz.func26 go26 rfl (no_c 5 _)) ?_
      refine XOps.s rfl rfl rfl (Q.extract rfl rfl) ?_
      refine XOps.s rfl rfl rfl (Q.extract rfl rfl) ?_
      refine XOps.s rfl rfl rfl (Q.extract rfl rfl) ?_
      refine XOps.loud rfl (L.storen (k := 1) ag38 rfl rfl rfl rfl rfl) ?_
      rintro _ _ ⟨rfl, rfl⟩
      refine XOps.s rfl rfl rfl (Q.assign_d rfl) ?_
      refine XOps.s rfl rfl rfl (Q.assign_d rfl) ?_
      refine XOps.nil ?_
      refine W.ret ?_
      refine ⟨_, hs, (.cons (by first | exact .celln 0 ag38 rfl rfl rfl | exact .cell1 0 ag38 rfl rfl rfl | exact .celln 1 ag38 rfl rfl rfl | exact .cell1 1 ag38 rfl rfl rfl | exact .celln 2 ag38 rfl rfl rfl | exact .cell1 2 ag38 rfl rfl rfl | exact .celln 3 ag38 rfl rfl rfl | exact .cell1 3 ag38 rfl rfl rfl) (.cons (.tmp _) (.cons (.tmp _) .nil))), HLe.skip _ (HLe.skip _ (HLe.refl _)), rfl, rfl⟩
    · try simp only [Bool.or_eq_true, Bool.or_eq_false_iff, Bool.and_eq_true, Bool.and_eq_false_iff, decide_eq_true_eq, decide_eq_false_iff_not, Bool.not_eq_true', Bool.not_eq_false', Int.not_lt, Int.not_le, List.length_map] at hc36
      have h36 : numB r1 32 = true := by simpa using hc36
      obtain ⟨⟨t, r2⟩, h2⟩ := Option.isSome_iff_exists.1 h36
      obtain ⟨k1, k2, k3⟩ := num_some h2
      have z2 := num_sz h2
      have z3 := cutR_sz 32 r2
      have z30 := cutL_sz 32 r2
      rw [k1, k2]
      refine W.skip ?_
      refine W.reg ?_
      refine XOps.s rfl rfl rfl (Q.move_d rfl) ?_
      refine XOps.s rfl rfl rfl (Q.call rfl Tryz.func28 go28 rfl (cut_c1 r2 32 _ (by omega))) ?_
      refine XOps.s rfl rfl rfl (Q.move_tup rfl) ?_
      refine XOps.s rfl rfl rfl (Q.extract rfl rfl) ?_
      refine XOps.s rfl rfl rfl (Q.extract rfl rfl) ?_
      refine XOps.s rfl rfl rfl (Q.extract rfl rfl) ?_
      refine XOps.s rfl rfl rfl (Q.fld_ptr fl38_2 rfl) ?_
      refine XOps.loud rfl (L.store (k := 0) ag9 rfl rfl rfl rfl rfl) ?_
      rintro _ _ ⟨rfl, rfl⟩
      refine XOps.s rfl rfl rfl (Q.assign_d rfl) ?_
      refine XOps.s rfl rfl rfl (Q.assign_d rfl) ?_
      refine XOps.nil ?_
      refine W.seq ?_
      refine W.reg ?_
      refine XOps.s rfl rfl rfl (Q.move_d rfl) ?_
      refine XOps.s rfl rfl rfl (Q.call rfl Tryz.func27 go27 rfl (number_c (cutR 32 r2) 58 _ (by omega))) ?_
      refine XOps.s rfl rfl rfl (Q.move_tup rfl) ?_
      refine XOps.s rfl rfl rfl (Q.extract rfl rfl) ?_
      refine XOps.s rfl rfl rfl (Q.extract rfl rfl) ?_
      refine XOps.s rfl rfl rfl (Q.extract rfl rfl) ?_
      refine XOps.s rfl rfl rfl (Q.assign_d rfl) ?_
      refine XOps.s rfl rfl rfl (Q.assign_d rfl) ?_
      refine XOps.s rfl rfl rfl (Q.assign_d rfl) ?_
      refine XOps.nil ?_
      refine W.reg ?_
      refine XOps.s rfl rfl rfl (Q.move_d rfl) ?_
      refine XOps.s rfl rfl rfl (Q.not rfl) ?_
      refine XOps.s rfl rfl rfl (Q.move_d rfl) ?_
      refine XOps.gs rfl rfl rfl rfl rfl rfl rfl (fun hg => Q.move_d rfl) ?_
      refine XOps.gs rfl rfl rfl rfl rfl rfl rfl (fun hg => Quiet.open 58 hg rfl (Q.not rfl)) ?_
      refine XOps.s rfl rfl rfl (Q.pick_or rfl rfl rfl (fun h => by first | (rw [h]; rfl) | (rw [hg, h]; rfl) | (simp [h, hg]; done))) ?_
      refine XOps.s rfl rfl rfl (Q.move_d rfl) ?_
      refine XOps.gs rfl rfl rfl rfl rfl rfl rfl (fun hg => Q.move_d rfl) ?_
      refine XOps.gs rfl rfl rfl rfl rfl rfl rfl (fun hg => Q.move_d rfl) ?_
      refine XOps.gs rfl rfl rfl rfl rfl rfl rfl (fun hg => Quiet.open 63 hg rfl (Q.len_str ist9 rfl)) ?_
      refine XOps.gs rfl rfl rfl rfl rfl rfl rfl (fun hg => Quiet.open 62 hg rfl (Quiet.open 64 hg rfl (Q.gtr rfl rfl))) ?_
      refine XOps.s rfl rfl rfl (Q.pick_or rfl rfl rfl (fun h => by first | (rw [h]; rfl) | (rw [hg, h]; rfl) | (simp [h, hg]; done))) ?_
      refine XOps.nil ?_
      refine W.cond rfl (fun hc66 => ?_) (fun hc66 => ?_)
      · try simp only [Bool.or_eq_true, Bool.or_eq_false_iff, Bool.and_eq_true, Bool.and_eq_false_iff, decide_eq_true_eq, decide_eq_false_iff_not, Bool.not_eq_true', Bool.not_eq_false', Int.not_lt, Int.not_le, List.length_map] at hc66
        have hD : dec1 s = none := by
          unfold dec1; rw [h1]; dsimp only; rw [h2]; dsimp only
          split
          · rfl
          · rename_i hb
            cases h4 : numV (cutR 32 r2) 58 with
            | none => rfl
            | some p =>
              obtain ⟨z, r4⟩ := p
              obtain ⟨j1, j2, j3⟩ := num_some h4
              dsimp only
              rw [if_pos]
              rcases hc66 with (h | h) | h
              · exact absurd h hb
              · rw [j3] at h; cases h
              · rw [j1, j2] at h; omega
        have hE : decE s = 5 := dec_none hD
        obtain ⟨hX, hN⟩ := dec_bad (s := s) (by omega)
        rw [hE, hX, hN]
        refine W.reg ?_
        refine XOps.s rfl rfl rfl (Q.move_fn rfl) ?_
        refine XOps.s rfl rfl rfl (Q.call rfl Tryz.func26 go26 rfl (no_c 5 _)) ?_
        refine XOps.s rfl rfl rfl (Q.extract rfl rfl) ?_
        refine XOps.s rfl rfl rfl (Q.extract rfl rfl) ?_
        refine XOps.s rfl rfl rfl (Q.extract rfl rfl) ?_
        refine XOps.loud rfl (L.storen (k := 1) ag38 rfl rfl rfl rfl rfl) ?_
        rintro _ _ ⟨rfl, rfl⟩
        refine XOps.s rfl rfl rfl (Q.assign_d rfl) ?_
        refine XOps.s rfl rfl rfl (Q.assign_d rfl) ?_
        refine XOps.nil ?_
        refine W.ret ?_
        refine ⟨_, hs, (.cons (by first | exact .celln 0 ag38 rfl rfl rfl | exact .cell1 0 ag38 rfl rfl rfl | exact .celln 1 ag38 rfl rfl rfl | exact .cell1 1 ag38 rfl rfl rfl | exact .celln 2 ag38 rfl rfl rfl | exact .cell1 2 ag38 rfl rfl rfl | exact .celln 3 ag38 rfl rfl rfl | exact .cell1 3 ag38 rfl rfl rfl) (.cons (.tmp _) (.cons (.tmp _) .nil))), HLe.skip _ (HLe.skip _ (HLe.refl _)), rfl, rfl⟩
      · try simp only [Bool.or_eq_true, Bool.or_eq_false_iff, Bool.and_eq_true, Bool.and_eq_false_iff, decide_eq_true_eq, decide_eq_false_iff_not, Bool.not_eq_true', Bool.not_eq_false', Int.not_lt, Int.not_le, List.length_map] at hc66
        obtain ⟨⟨h66, h66b⟩, h66c⟩ := hc66
        obtain ⟨⟨z, r4⟩, h4⟩ := Option.isSome_iff_exists.1 h66b
        obtain ⟨j1, j2, j3⟩ := num_some h4
        have z4 := num_sz h4
        rw [j1, j2] at h66c
        rw [j1, j2]
        obtain ⟨_, z5, z6⟩ := ext_split r4 (z := z) (by omega)
        obtain ⟨r5, hr5⟩ : ∃ r5, r5 = r4.extract z r4.size := ⟨_, rfl⟩
        have z7 : r5.size = r4.size - z := by rw [hr5]; exact z6
        have hD : dec1 s = some (⟨a, t, cutL 32 r2, r4.extract 0 z⟩, r5) := by
          unfold dec1; rw [h1]; dsimp only; rw [h2]; dsimp only
          rw [if_neg (by rw [h66]; simp), h4]; dsimp only
          rw [if_neg (by omega), hr5]
        have hDE := dec_some hD
        refine W.skip ?_
        refine W.drawTreg 8 [7] follows (by kernel_rfl) (by decide) ?_
        apply DT.moreS [.new, .new, .new, .new, .new, .new, .new, .now] (by kernel_rfl)
        refine PC.new _ rfl (GQ.q rfl (Q.move_d rfl)) rfl ?_
        refine PC.new _ rfl (GQ.q rfl (Q.move_d rfl)) rfl ?_
        refine PC.new _ rfl (GQ.q rfl (Q.cut_strN (i := 0) (j := z) ist9 rfl rfl rfl (by omega) (by omega))) rfl ?_
        refine PC.new _ rfl (GQ.q rfl (Q.move_d rfl)) rfl ?_
        refine PC.new _ rfl (GQ.q rfl (Q.move_d rfl)) rfl ?_
        refine PC.new _ rfl (GQ.q rfl (Q.cut_strN (i := z) (j := r4.size) ist9 rfl rfl rfl (by omega) (by omega))) rfl ?_
        refine PC.new _ rfl (GQ.q rfl (Q.fld_ptr fl38_3 rfl)) rfl ?_
        refine PC.now rfl rfl (fun τ => Loud.to (L.store (k := 0) ag9 ((oev_app rfl).trans rfl) rfl rfl ((oev_app rfl).trans rfl) rfl) (fun _ _ h => ⟨.any, h.1, h.2⟩)) ?_
        refine PC.nil ?_
        rintro _ _ rfl
        refine DT.last [.did, .did, .did, .old, .old, .old, .did, .did] (by kernel_rfl) ?_
        refine PC.did rfl ?_
        refine PC.did rfl ?_
        refine PC.did rfl ?_
        refine PC.old rfl (GQ.q rfl (Q.move_d rfl)) rfl ?_
        refine PC.old rfl (GQ.q rfl (Q.move_d rfl)) rfl ?_
        refine PC.old rfl (GQ.q rfl (Q.cut_strN (i := z) (j := r4.size) ist9 rfl rfl rfl (by omega) (by omega))) rfl ?_
        refine PC.did rfl ?_
        refine PC.did rfl ?_
        refine PC.nil ?_
        refine XOps.s rfl rfl rfl (Q.assign_d rfl) ?_
        refine XOps.nil ?_
        rw [← hr5]
        refine W.reg ?_
        refine XOps.s rfl rfl rfl (Q.move_d rfl) ?_
        refine XOps.s rfl rfl rfl (Q.move_d rfl) ?_
        refine XOps.s rfl rfl rfl (Q.len_str ist9 rfl) ?_
        refine XOps.s rfl rfl rfl (Q.move_d rfl) ?_
        refine XOps.s rfl rfl rfl (Q.len_str ist9 rfl) ?_
        refine XOps.s rfl rfl rfl (Q.sub rfl rfl (wsubN (by omega) (by omega))) ?_
        refine XOps.s rfl rfl rfl (Q.cut_strN (i := 0) (j := s.size - r5.size) ist9 rfl rfl rfl (by omega) (by omega)) ?_
        refine XOps.s rfl rfl rfl (Q.assign_d rfl) ?_
        refine XOps.nil ?_
        refine W.seq ?_
        refine W.reg ?_
        refine XOps.s rfl rfl rfl (Q.ld_ptrn (k := 0) ag38 rfl rfl rfl) ?_
        refine XOps.s rfl rfl rfl (Q.call rfl Tryz.func23 go23 rfl (chk_c ⟨a, t, cutL 32 r2, r4.extract 0 z⟩ _ (by dsimp only; omega) (by dsimp only; omega))) ?_
        refine XOps.s rfl rfl rfl (Q.neq rfl rfl) ?_
        refine XOps.s rfl rfl rfl (Q.move_d rfl) ?_
        refine XOps.gs rfl rfl rfl rfl rfl rfl rfl (fun hg => Q.move_d rfl) ?_
        refine XOps.gs rfl rfl rfl rfl rfl rfl rfl (fun hg => Quiet.open 90 hg rfl (Q.eql_str rfl rfl)) ?_
        refine XOps.s rfl rfl rfl (Q.pick_or rfl rfl rfl (fun h => by first | (rw [h]; rfl) | (rw [hg, h]; rfl) | (simp [h, hg]; done))) ?_
        refine XOps.s rfl rfl rfl (Q.move_d rfl) ?_
        refine XOps.gs rfl rfl rfl rfl rfl rfl rfl (fun hg => Q.move_d rfl) ?_
        refine XOps.gs rfl rfl rfl rfl rfl rfl rfl (fun hg => Quiet.open 94 hg rfl (Q.idx_str ist9 rfl rfl (by omega) (by have h0 : r5.size ≠ 0 := (fun h0 => by (have h8 : r5 = ⟨#[]⟩ := bl_inj (List.eq_nil_of_length_eq_zero (by rw [bl_len]; exact h0)); rw [h8] at hg; simp at hg)); omega))) ?_
        refine XOps.gs rfl rfl rfl rfl rfl rfl rfl (fun hg => Quiet.open 95 hg rfl (Q.neq rfl rfl)) ?_
        refine XOps.s rfl rfl rfl (Q.pick_or rfl rfl rfl (fun h => by first | (rw [h]; rfl) | (rw [hg, h]; rfl) | (simp [h, hg]; done))) ?_
        refine XOps.nil ?_
        refine W.cond rfl (fun hc97 => ?_) (fun hc97 => ?_)
        · try simp only [Bool.or_eq_true, Bool.or_eq_false_iff, Bool.and_eq_true, Bool.and_eq_false_iff, decide_eq_true_eq, decide_eq_false_iff_not, Bool.not_eq_true', Bool.not_eq_false', Int.not_lt, Int.not_le, List.length_map] at hc97
          have hE : decE s = 5 := by
            rw [hDE]; unfold dec2
            rw [if_pos]
            rcases hc97 with (h | h) | h
            · exact .inl h
            · refine .inr (.inl ?_)
              have h8 : r5 = ⟨#[]⟩ := (seq_iff _ _).1 h
              rw [h8]; rfl
            · refine .inr (.inr fun h8 => h ?_)
              show (((bl r5).getD 0 0).toNat : Int) = 59
              rw [h8]; rfl
          obtain ⟨hX, hN⟩ := dec_bad (s := s) (by omega)
          rw [hE, hX, hN]
          refine W.reg ?_
          refine XOps.s rfl rfl rfl (Q.move_fn rfl) ?_
          refine XOps.s rfl rfl rfl (Q.call rfl Tryz.func26 go26 rfl (no_c 5 _)) ?_
          refine XOps.s rfl rfl rfl (Q.extract rfl rfl) ?_
          refine XOps.s rfl rfl rfl (Q.extract rfl rfl) ?_
          refine XOps.s rfl rfl rfl (Q.extract rfl rfl) ?_
          refine XOps.loud rfl (L.storen (k := 1) ag38 rfl rfl rfl rfl rfl) ?_
          rintro _ _ ⟨rfl, rfl⟩
          refine XOps.s rfl rfl rfl (Q.assign_d rfl) ?_
          refine XOps.s rfl rfl rfl (Q.assign_d rfl) ?_
          refine XOps.nil ?_
          refine W.ret ?_
          refine ⟨_, hs, (.cons (by first | exact .celln 0 ag38 rfl rfl rfl | exact .cell1 0 ag38 rfl rfl rfl | exact .celln 1 ag38 rfl rfl rfl | exact .cell1 1 ag38 rfl rfl rfl | exact .celln 2 ag38 rfl rfl rfl | exact .cell1 2 ag38 rfl rfl rfl | exact .celln 3 ag38 rfl rfl rfl | exact .cell1 3 ag38 rfl rfl rfl) (.cons (.tmp _) (.cons (.tmp _) .nil))), HLe.skip _ (HLe.skip _ (HLe.refl _)), rfl, rfl⟩
        · try simp only [Bool.or_eq_true, Bool.or_eq_false_iff, Bool.and_eq_true, Bool.and_eq_false_iff, decide_eq_true_eq, decide_eq_false_iff_not, Bool.not_eq_true', Bool.not_eq_false', Int.not_lt, Int.not_le, List.length_map] at hc97
          obtain ⟨⟨h97, h97b⟩, h97c⟩ := hc97
          have hne : r5.size ≠ 0 := fun h => by
            have h8 : r5 = ⟨#[]⟩ := bl_inj (List.eq_nil_of_length_eq_zero (by rw [bl_len]; exact h))
            have h9 : seq r5 ⟨#[]⟩ = false := h97b
            rw [h8, seq_refl] at h9; cases h9
          have hN59 : ¬ (checkN ⟨a, t, cutL 32 r2, r4.extract 0 z⟩ ≠ 0 ∨ r5.size = 0 ∨ (bl r5).getD 0 0 ≠ 59) := by
            rintro (h | h | h)
            · exact h h97
            · exact hne h
            · refine h (UInt8.toNat_inj.1 ?_)
              have h8 : (((bl r5).getD 0 0).toNat : Int) = 59 := h97c
              show ((bl r5).getD 0 0).toNat = 59
              omega
          unfold dec2 at hDE
          rw [if_neg hN59] at hDE
          have z8 := ext_len r5 (n := 1) (by omega)
          have z9 : (s.extract 0 (s.size - r5.size)).size = s.size - r5.size := (ext_split s (by omega)).2.1
          refine W.skip ?_
          refine W.reg ?_
          refine XOps.s rfl rfl rfl (Q.move_d rfl) ?_
          refine XOps.s rfl rfl rfl (Q.cut_strN (i := 1) (j := r5.size) ist9 rfl rfl rfl (by omega) (by omega)) ?_
          refine XOps.s rfl rfl rfl (Q.call rfl Tryz.func27 go27 rfl (number_c (r5.extract 1 r5.size) 10 _ (by omega))) ?_
          refine XOps.s rfl rfl rfl (Q.move_tup rfl) ?_
          refine XOps.s rfl rfl rfl (Q.extract rfl rfl) ?_
          refine XOps.s rfl rfl rfl (Q.extract rfl rfl) ?_
          refine XOps.s rfl rfl rfl (Q.extract rfl rfl) ?_
          refine XOps.s rfl rfl rfl (Q.assign_d rfl) ?_
          refine XOps.s rfl rfl rfl (Q.assign_d rfl) ?_
          refine XOps.s rfl rfl rfl (Q.assign_d rfl) ?_
          refine XOps.nil ?_
          refine W.seq ?_
          refine W.block ?_
          refine W.reg ?_
          refine XOps.s rfl rfl rfl (Q.move_d rfl) ?_
          refine XOps.s rfl rfl rfl (Q.not rfl) ?_
          refine XOps.s rfl rfl rfl (Q.assign_d rfl) ?_
          refine XOps.nil ?_
          refine W.cond rfl (fun hc110 => ?_) (fun hc110 => ?_)
          · try simp only [Bool.or_eq_true, Bool.or_eq_false_iff, Bool.and_eq_true, Bool.and_eq_false_iff, decide_eq_true_eq, decide_eq_false_iff_not, Bool.not_eq_true', Bool.not_eq_false', Int.not_lt, Int.not_le, List.length_map] at hc110
            have h110 : numB (r5.extract 1 r5.size) 10 = false := by simpa using hc110
            have h6 : numV (r5.extract 1 r5.size) 10 = none := by unfold numB at h110; simpa using h110
            rw [h6] at hDE
            have hE : decE s = 5 := hDE
            obtain ⟨hX, hN⟩ := dec_bad (s := s) (by omega)
            rw [hE, hX, hN]
            refine W.reg ?_
            refine XOps.s rfl rfl rfl (Q.move_fn rfl) ?_
            refine XOps.s rfl rfl rfl (Q.call rfl Tryz.func26 go26 rfl (no_c 5 _)) ?_
            refine XOps.s rfl rfl rfl (Q.extract rfl rfl) ?_
            refine XOps.s rfl rfl rfl (Q.extract rfl rfl) ?_
            refine XOps.s rfl rfl rfl (Q.extract rfl rfl) ?_
            refine XOps.loud rfl (L.storen (k := 1) ag38 rfl rfl rfl rfl rfl) ?_
            rintro _ _ ⟨rfl, rfl⟩
            refine XOps.s rfl rfl rfl (Q.assign_d rfl) ?_
            refine XOps.s rfl rfl rfl (Q.assign_d rfl) ?_
            refine XOps.nil ?_
            refine W.ret ?_
            refine ⟨_, hs, (.cons (by first | exact .celln 0 ag38 rfl rfl rfl | exact .cell1 0 ag38 rfl rfl rfl | exact .celln 1 ag38 rfl rfl rfl | exact .cell1 1 ag38 rfl rfl rfl | exact .celln 2 ag38 rfl rfl rfl | exact .cell1 2 ag38 rfl rfl rfl | exact .celln 3 ag38 rfl rfl rfl | exact .cell1 3 ag38 rfl rfl rfl) (.cons (.tmp _) (.cons (.tmp _) .nil))), HLe.skip _ (HLe.skip _ (HLe.refl _)), rfl, rfl⟩
          · try simp only [Bool.or_eq_true, Bool.or_eq_false_iff, Bool.and_eq_true, Bool.and_eq_false_iff, decide_eq_true_eq, decide_eq_false_iff_not, Bool.not_eq_true', Bool.not_eq_false', Int.not_lt, Int.not_le, List.length_map] at hc110
            have h110 : numB (r5.extract 1 r5.size) 10 = true := by simpa using hc110
            obtain ⟨⟨y, r6⟩, h6⟩ := Option.isSome_iff_exists.1 h110
            obtain ⟨i1, i2, i3⟩ := num_some h6
            have z10 := num_sz h6
            rw [i1, i2]
            rw [h6] at hDE
            dsimp only at hDE
            refine W.reg ?_
            refine XOps.s rfl rfl rfl (Q.move_d rfl) ?_
            refine XOps.s rfl rfl rfl (Q.move_d rfl) ?_
            refine XOps.s rfl rfl rfl (Q.call rfl Tryz.func25 go25 rfl (sum_c (s.extract 0 (s.size - r5.size)) _ (by omega))) ?_
            refine XOps.s rfl rfl rfl (Q.neq rfl rfl) ?_
            refine XOps.s rfl rfl rfl (Q.assign_d rfl) ?_
            refine XOps.nil ?_
            refine W.cond rfl (fun hc118 => ?_) (fun hc118 => ?_)
            · try simp only [Bool.or_eq_true, Bool.or_eq_false_iff, Bool.and_eq_true, Bool.and_eq_false_iff, decide_eq_true_eq, decide_eq_false_iff_not, Bool.not_eq_true', Bool.not_eq_false', Int.not_lt, Int.not_le, List.length_map] at hc118
              have h118 : y ≠ sumV (bl (s.extract 0 (s.size - r5.size))) := by intro h; rw [h] at hc118; first | exact hc118 rfl | simp at hc118
              rw [if_pos h118] at hDE
              have hE : decE s = 13 := hDE
              obtain ⟨hX, hN⟩ := dec_bad (s := s) (by omega)
              rw [hE, hX, hN]
              refine W.reg ?_
              refine XOps.s rfl rfl rfl (Q.move_fn rfl) ?_
              refine XOps.s rfl rfl rfl (Q.call rfl Tryz.func26 go26 rfl (no_c 13 _)) ?_
              refine XOps.s rfl rfl rfl (Q.extract rfl rfl) ?_
              refine XOps.s rfl rfl rfl (Q.extract rfl rfl) ?_
              refine XOps.s rfl rfl rfl (Q.extract rfl rfl) ?_
              refine XOps.loud rfl (L.storen (k := 1) ag38 rfl rfl rfl rfl rfl) ?_
              rintro _ _ ⟨rfl, rfl⟩
              refine XOps.s rfl rfl rfl (Q.assign_d rfl) ?_
              refine XOps.s rfl rfl rfl (Q.assign_d rfl) ?_
              refine XOps.nil ?_
              refine W.ret ?_
              refine ⟨_, hs, (.cons (by first | exact .celln 0 ag38 rfl rfl rfl | exact .cell1 0 ag38 rfl rfl rfl | exact .celln 1 ag38 rfl rfl rfl | exact .cell1 1 ag38 rfl rfl rfl | exact .celln 2 ag38 rfl rfl rfl | exact .cell1 2 ag38 rfl rfl rfl | exact .celln 3 ag38 rfl rfl rfl | exact .cell1 3 ag38 rfl rfl rfl) (.cons (.tmp _) (.cons (.tmp _) .nil))), HLe.skip _ (HLe.skip _ (HLe.refl _)), rfl, rfl⟩
            · try simp only [Bool.or_eq_true, Bool.or_eq_false_iff, Bool.and_eq_true, Bool.and_eq_false_iff, decide_eq_true_eq, decide_eq_false_iff_not, Bool.not_eq_true', Bool.not_eq_false', Int.not_lt, Int.not_le, List.length_map] at hc118
              have h118 : y = sumV (bl (s.extract 0 (s.size - r5.size))) := by omega
              rw [if_neg (by simpa using h118)] at hDE
              have hE : decE s = 0 := hDE
              have hX : decX s = ⟨a, t, cutL 32 r2, r4.extract 0 z⟩ := by unfold decX; rw [if_neg (by omega), hD]
              have hN : decN s = s.size - r6.size := by unfold decN; rw [if_neg (by omega), hD]; dsimp only; unfold dec2; rw [if_neg hN59, h6]; dsimp only; rw [if_neg (by simpa using h118)]
              rw [hE, hX, hN]
              refine W.skip ?_
              refine W.reg ?_
              refine XOps.s rfl rfl rfl (Q.ld_ptrn (k := 0) ag38 rfl rfl rfl) ?_
              refine XOps.s rfl rfl rfl (Q.move_d rfl) ?_
              refine XOps.s rfl rfl rfl (Q.len_str ist9 rfl) ?_
              refine XOps.s rfl rfl rfl (Q.move_d rfl) ?_
              refine XOps.s rfl rfl rfl (Q.len_str ist9 rfl) ?_
              refine XOps.s rfl rfl rfl (Q.sub rfl rfl (wsubN (by omega) (by omega))) ?_
              refine XOps.loud rfl (L.storen (k := 1) ag38 rfl rfl rfl rfl rfl) ?_
              rintro _ _ ⟨rfl, rfl⟩
              refine XOps.s rfl rfl rfl (Q.assign_d rfl) ?_
              refine XOps.s rfl rfl rfl (Q.assign_d rfl) ?_
              refine XOps.nil ?_
              refine W.ret ?_
              refine ⟨_, hs, (.cons (by first | exact .celln 0 ag38 rfl rfl rfl | exact .cell1 0 ag38 rfl rfl rfl | exact .celln 1 ag38 rfl rfl rfl | exact .cell1 1 ag38 rfl rfl rfl | exact .celln 2 ag38 rfl rfl rfl | exact .cell1 2 ag38 rfl rfl rfl | exact .celln 3 ag38 rfl rfl rfl | exact .cell1 3 ag38 rfl rfl rfl) (.cons (.tmp _) (.cons (.tmp _) .nil))), HLe.skip _ (HLe.skip _ (HLe.refl _)), rfl, rfl⟩

theorem e0_ok : checkN (⟨1, 5, ⟨#[115, 101, 116]⟩, ⟨#[97, 32, 98]⟩⟩ : EN) = 0 := by decide +kernel
theorem e0_dec : decE (encV (⟨1, 5, ⟨#[115, 101, 116]⟩, ⟨#[97, 32, 98]⟩⟩ : EN)) = 0 ∧ decX (encV (⟨1, 5, ⟨#[115, 101, 116]⟩, ⟨#[97, 32, 98]⟩⟩ : EN)) = (⟨1, 5, ⟨#[115, 101, 116]⟩, ⟨#[97, 32, 98]⟩⟩ : EN) ∧ decN (encV (⟨1, 5, ⟨#[115, 101, 116]⟩, ⟨#[97, 32, 98]⟩⟩ : EN)) = (encV (⟨1, 5, ⟨#[115, 101, 116]⟩, ⟨#[97, 32, 98]⟩⟩ : EN)).size ∧ 0 < (encV (⟨1, 5, ⟨#[115, 101, 116]⟩, ⟨#[97, 32, 98]⟩⟩ : EN)).size := by
  have ok := checkN_zero.1 e0_ok
  have hv : encV (⟨1, 5, ⟨#[115, 101, 116]⟩, ⟨#[97, 32, 98]⟩⟩ : EN) = bs (encB (⟨1, 5, ⟨#[115, 101, 116]⟩, ⟨#[97, 32, 98]⟩⟩ : EN)) := if_neg (by rw [e0_ok]; simp)
  obtain ⟨h1, h2, h3⟩ := dec_enc (s := encV (⟨1, 5, ⟨#[115, 101, 116]⟩, ⟨#[97, 32, 98]⟩⟩ : EN)) (t := ⟨#[]⟩) ok (by rw [hv, bl_bs]; exact (List.append_nil _).symm)
  have h4 := (enc_len ok).2
  exact ⟨h1, h2, by rw [h3, hv, bs_size], by rw [hv, bs_size]; exact h4⟩

set_option maxHeartbeats 1000000 in
set_option maxRecDepth 100000 in
theorem rfact_c (gd : Nat) (hs : Hp) : AC P 5 [] ((gd, p10G) :: hs) (fun r h => r = .d (.bool true) ∧ h = (gd, p10G) :: hs) := by
  obtain ⟨q1, q2, q3, q4⟩ := e0_dec
  refine AC.of 43 Tryz.func5 rfl rfl rfl ?_
  refine W.reg ?_
  refine XOps.s rfl rfl rfl (Q.assign_d rfl) ?_
  refine XOps.nil ?_
  refine W.reg ?_
  refine XOps.s rfl rfl rfl (Q.build pl38 tz38 tzd38 rfl) ?_
  refine XOps.s rfl rfl rfl (Q.call rfl Tryz.func16 go16 rfl (enc_c (⟨1, 5, ⟨#[115, 101, 116]⟩, ⟨#[97, 32, 98]⟩⟩ : EN) gd hs (by decide) (by decide))) ?_
  refine XOps.s rfl rfl rfl (Q.move_tup rfl) ?_
  refine XOps.s rfl rfl rfl (Q.extract rfl rfl) ?_
  refine XOps.s rfl rfl rfl (Q.extract rfl rfl) ?_
  refine XOps.s rfl rfl rfl (Q.assign_d rfl) ?_
  refine XOps.s rfl rfl rfl (Q.assign_d rfl) ?_
  refine XOps.nil ?_
  refine W.reg ?_
  refine XOps.s rfl rfl rfl (Q.move_d rfl) ?_
  refine XOps.s rfl rfl rfl (Q.call rfl Tryz.func17 go17 rfl (decode_c (encV (⟨1, 5, ⟨#[115, 101, 116]⟩, ⟨#[97, 32, 98]⟩⟩ : EN)) _ (by have : (encV (⟨1, 5, ⟨#[115, 101, 116]⟩, ⟨#[97, 32, 98]⟩⟩ : EN)).size ≤ 153 := (by rw [show encV (⟨1, 5, ⟨#[115, 101, 116]⟩, ⟨#[97, 32, 98]⟩⟩ : EN) = bs (encB (⟨1, 5, ⟨#[115, 101, 116]⟩, ⟨#[97, 32, 98]⟩⟩ : EN)) from if_neg (by rw [e0_ok]; simp), bs_size]; exact (enc_len (checkN_zero.1 e0_ok)).1); omega))) ?_
  refine XOps.s rfl rfl rfl (Q.move_tup rfl) ?_
  refine XOps.s rfl rfl rfl (Q.extract rfl rfl) ?_
  refine XOps.s rfl rfl rfl (Q.extract rfl rfl) ?_
  refine XOps.s rfl rfl rfl (Q.extract rfl rfl) ?_
  (refine XOps.loud rfl (L.alloc tz38 rfl rfl) ?_; rintro _ _ ⟨b3, rfl, rfl⟩)
  refine XOps.loud rfl (L.storen (k := 0) ag38 rfl rfl rfl rfl rfl) ?_
  rintro _ _ ⟨rfl, rfl⟩
  refine XOps.s rfl rfl rfl (Q.assign_d rfl) ?_
  refine XOps.s rfl rfl rfl (Q.assign_d rfl) ?_
  refine XOps.nil ?_
  rw [q1, q2, q3, e0_ok]
  refine W.reg ?_
  refine XOps.s rfl rfl rfl (Q.move_d rfl) ?_
  refine XOps.s rfl rfl rfl (Q.eql rfl rfl) ?_
  refine XOps.s rfl rfl rfl (Q.move_d rfl) ?_
  refine XOps.gs rfl rfl rfl rfl rfl rfl rfl (fun hg => Q.move_d rfl) ?_
  refine XOps.gs rfl rfl rfl rfl rfl rfl rfl (fun hg => Quiet.open 20 hg rfl (Q.eql rfl rfl)) ?_
  refine XOps.s rfl rfl rfl (Q.pick_and rfl rfl rfl (fun h => by first | (rw [h]; rfl) | (rw [hg, h]; rfl) | (simp [h, hg]; done))) ?_
  refine XOps.s rfl rfl rfl (Q.move_d rfl) ?_
  refine XOps.gs rfl rfl rfl rfl rfl rfl rfl (fun hg => Q.move_d rfl) ?_
  refine XOps.gs rfl rfl rfl rfl rfl rfl rfl (fun hg => Q.move_d rfl) ?_
  refine XOps.gs rfl rfl rfl rfl rfl rfl rfl (fun hg => Quiet.open 25 hg rfl (Q.len_str ist9 rfl)) ?_
  refine XOps.gs rfl rfl rfl rfl rfl rfl rfl (fun hg => Quiet.open 24 hg rfl (Quiet.open 26 hg rfl (Q.eql rfl rfl))) ?_
  refine XOps.s rfl rfl rfl (Q.pick_and rfl rfl rfl (fun h => by first | (rw [h]; rfl) | (rw [hg, h]; rfl) | (simp [h, hg]; done))) ?_
  refine XOps.s rfl rfl rfl (Q.move_d rfl) ?_
  refine XOps.gs rfl rfl rfl rfl rfl rfl rfl (fun hg => Q.move_d rfl) ?_
  refine XOps.gs rfl rfl rfl rfl rfl rfl rfl (fun hg => Quiet.open 30 hg rfl (Q.gtr rfl rfl)) ?_
  refine XOps.s rfl rfl rfl (Q.pick_and rfl rfl rfl (fun h => by first | (rw [h]; rfl) | (rw [hg, h]; rfl) | (simp [h, hg]; done))) ?_
  refine XOps.s rfl rfl rfl (Q.move_d rfl) ?_
  refine XOps.gs rfl rfl rfl rfl rfl rfl rfl (fun hg => Q.fld_ptr fl38_3 rfl) ?_
  refine XOps.gs rfl rfl rfl rfl rfl rfl rfl (fun hg => Quiet.open 34 hg rfl (Q.ld_ptr (k := 0) ag9 rfl rfl rfl)) ?_
  refine XOps.gs rfl rfl rfl rfl rfl rfl rfl (fun hg => Quiet.open 35 hg rfl (Q.eql_str rfl rfl)) ?_
  refine XOps.s rfl rfl rfl (Q.pick_and rfl rfl rfl (fun h => by first | (rw [h]; rfl) | (rw [hg, h]; rfl) | (simp [h, hg]; done))) ?_
  refine XOps.s rfl rfl rfl (Q.move_d rfl) ?_
  refine XOps.gs rfl rfl rfl rfl rfl rfl rfl (fun hg => Q.fld_ptr fl38_2 rfl) ?_
  refine XOps.gs rfl rfl rfl rfl rfl rfl rfl (fun hg => Quiet.open 39 hg rfl (Q.ld_ptr (k := 0) ag9 rfl rfl rfl)) ?_
  refine XOps.gs rfl rfl rfl rfl rfl rfl rfl (fun hg => Quiet.open 40 hg rfl (Q.eql_str rfl rfl)) ?_
  refine XOps.s rfl rfl rfl (Q.pick_and rfl rfl rfl (fun h => by first | (rw [h]; rfl) | (rw [hg, h]; rfl) | (simp [h, hg]; done))) ?_
  refine XOps.s rfl rfl rfl (Q.assign_d rfl) ?_
  refine XOps.nil ?_
  refine W.ret ?_
  refine ⟨_, (gd, p10G) :: hs, rfl, HLe.skip _ (HLe.refl _), ?_, rfl⟩
  show AV.d (.bool _) = _
  refine congrArg (fun b => AV.d (D.bool b)) ?_
  rw [decide_eq_true (show (((encV (⟨1, 5, ⟨#[115, 101, 116]⟩, ⟨#[97, 32, 98]⟩⟩ : EN)).size : Nat) : Int) = ((encV (⟨1, 5, ⟨#[115, 101, 116]⟩, ⟨#[97, 32, 98]⟩⟩ : EN)).size : Nat) from rfl), decide_eq_true (show (0 : Int) < ((encV (⟨1, 5, ⟨#[115, 101, 116]⟩, ⟨#[97, 32, 98]⟩⟩ : EN)).size : Nat) by omega)]
  decide +kernel
end Go.Proofs.YtodbcbojkfndiaaGreatDoorA
