/- The law RecordBack. -/
import Derived.Test.YtldkkoecehdicaaDoorBase
import Derived.Test.YtldkkoecehdicaaDoorRcD
set_option linter.unusedVariables false
set_option linter.unusedSimpArgs false
set_option linter.unnecessarySimpa false
namespace Go.Proofs.YtldkkoecehdicaaDoorA.FRcE
open Go
theorem ag23 : tAgg P 23 = some ((true, 4)) := by kernel_rfl
theorem eqt23 : tEq P 23 = some ([.int .i64, .int .i64, .str, .str]) := by kernel_rfl
theorem go10 : callGo Go.Proofs.Tryd.f10 = true := by kernel_rfl
theorem go11 : callGo Go.Proofs.Tryd.f11 = true := by kernel_rfl
theorem go13 : callGo Go.Proofs.Tryd.f13 = true := by kernel_rfl
theorem go26 : callGo Go.Proofs.Tryd.f26 = true := by kernel_rfl
theorem go9 : callGo Go.Proofs.Tryd.f9 = true := by kernel_rfl
theorem ist9 : isStr P 9 = true := by kernel_rfl
theorem pl23 : tPl P 23 = some ([(0, 1), (1, 1), (2, 1), (3, 1)]) := by kernel_rfl
theorem tz23 : tZero P 23 = some ([.int .i64 0, .int .i64 0, .string ⟨#[]⟩, .string ⟨#[]⟩]) := by kernel_rfl
theorem tzd23 : cellsD [.int .i64 0, .int .i64 0, .string ⟨#[]⟩, .string ⟨#[]⟩] = some ([.int .i64 0, .int .i64 0, .str ⟨#[]⟩, .str ⟨#[]⟩]) := rfl
end Go.Proofs.YtldkkoecehdicaaDoorA.FRcE
namespace Go.Proofs.YtldkkoecehdicaaDoorA
open Go FRcE
attribute [local irreducible] XOps Quiet Loud W AC GQ DT
def hasPB (s p : ByteArray) : Bool := decide ((p.size : Int) ≤ s.size) && seq (s.extract 0 p.size) p
theorem hasPB_of {s p t : ByteArray} (h : bl s = bl p ++ bl t) : hasPB s p = true := by
  have hsz : s.size = p.size + t.size := by rw [← bl_len, h]; simp [bl_len]
  unfold hasPB
  rw [decide_eq_true (by omega), (ext_of h).1, seq_refl]; rfl
theorem same_en (x y : EN) : allD (x.enc.take 4) (y.enc.take 4) = decide (x = y) := by
  show (decide (x.num = y.num) && (decide (x.tm = y.tm) && (x.kind.toList == y.kind.toList && (x.text.toList == y.text.toList && true)))) = _
  rw [Bool.and_true, Bool.eq_iff_iff, decide_eq_true_eq, Bool.and_eq_true, Bool.and_eq_true, Bool.and_eq_true, decide_eq_true_eq, decide_eq_true_eq]
  show _ ∧ _ ∧ seq x.kind y.kind = true ∧ seq x.text y.text = true ↔ _
  rw [seq_iff, seq_iff]
  exact ⟨fun h => EN.ext2 h.1 h.2.1 h.2.2.1 h.2.2.2, fun h => by subst h; exact ⟨rfl, rfl, rfl, rfl⟩⟩

set_option maxHeartbeats 1000000 in
set_option maxRecDepth 100000 in
theorem pre_c (s p : ByteArray) (hs : Hp) : AC P 26 [.d (.str s), .d (.str p)] hs (fun r h => r = .d (.bool (hasPB s p)) ∧ h = hs) := by
  refine AC.of 18 Tryd.func26 rfl rfl rfl ?_
  refine W.reg ?_
  refine XOps.s rfl rfl rfl (Q.assign_d rfl) ?_
  refine XOps.nil ?_
  refine W.reg ?_
  refine XOps.s rfl rfl rfl (Q.move_d rfl) ?_
  refine XOps.s rfl rfl rfl (Q.len_str ist9 rfl) ?_
  refine XOps.s rfl rfl rfl (Q.move_d rfl) ?_
  refine XOps.s rfl rfl rfl (Q.len_str ist9 rfl) ?_
  refine XOps.s rfl rfl rfl (Q.geq rfl rfl) ?_
  refine XOps.s rfl rfl rfl (Q.move_d rfl) ?_
  refine XOps.gs rfl rfl rfl rfl rfl rfl rfl (fun hg => Q.move_d rfl) ?_
  refine XOps.gs rfl rfl rfl rfl rfl rfl rfl (fun hg => Q.move_d rfl) ?_
  refine XOps.gs rfl rfl rfl rfl rfl rfl rfl (fun hg => Quiet.open 12 hg rfl (Q.len_str ist9 rfl)) ?_
  refine XOps.gs rfl rfl rfl rfl rfl rfl rfl (fun hg => Quiet.open 11 hg rfl (Quiet.open 13 hg rfl (Q.cut_strN (i := 0) (j := p.size) ist9 rfl rfl rfl (by omega) (by have h := hg; simp at h; omega)))) ?_
  refine XOps.gs rfl rfl rfl rfl rfl rfl rfl (fun hg => Q.move_d rfl) ?_
  refine XOps.gs rfl rfl rfl rfl rfl rfl rfl (fun hg => Quiet.open 14 hg rfl (Quiet.open 15 hg rfl (Q.eql_str rfl rfl))) ?_
  refine XOps.s rfl rfl rfl (Q.pick_and rfl rfl rfl (fun h => by first | (rw [h]; rfl) | (rw [hg, h]; rfl) | (simp [h, hg]; done))) ?_
  refine XOps.s rfl rfl rfl (Q.assign_d rfl) ?_
  refine XOps.nil ?_
  refine W.ret ?_
  refine ⟨_, hs, rfl, by repeat (first | exact HLe.refl _ | refine HLe.cons' (by first | rfl | (simp; done)) ?_ | refine HLe.pick 1 rfl (by first | rfl | (simp; done)) ?_ | refine HLe.pick 2 rfl (by first | rfl | (simp; done)) ?_ | refine HLe.pick 3 rfl (by first | rfl | (simp; done)) ?_ | refine HLe.pick 4 rfl (by first | rfl | (simp; done)) ?_ | refine HLe.pick 5 rfl (by first | rfl | (simp; done)) ?_ | refine HLe.skip _ ?_), ?_, rfl⟩
  rfl

set_option maxHeartbeats 1000000 in
set_option maxRecDepth 100000 in
theorem prefix_c (s p : ByteArray) (hs : Hp) : AC P 13 [.d (.str s), .d (.str p)] hs (fun r h => r = .d (.bool (hasPB s p)) ∧ h = hs) := by
  refine AC.of 8 Tryd.func13 rfl rfl rfl ?_
  refine W.reg ?_
  refine XOps.s rfl rfl rfl (Q.assign_d rfl) ?_
  refine XOps.nil ?_
  refine W.reg ?_
  refine XOps.s rfl rfl rfl (Q.move_d rfl) ?_
  refine XOps.s rfl rfl rfl (Q.move_d rfl) ?_
  refine XOps.s rfl rfl rfl (Q.call rfl Tryd.func26 go26 rfl (pre_c s p _)) ?_
  refine XOps.s rfl rfl rfl (Q.assign_d rfl) ?_
  refine XOps.nil ?_
  refine W.ret ?_
  refine ⟨_, hs, rfl, by repeat (first | exact HLe.refl _ | refine HLe.cons' (by first | rfl | (simp; done)) ?_ | refine HLe.pick 1 rfl (by first | rfl | (simp; done)) ?_ | refine HLe.pick 2 rfl (by first | rfl | (simp; done)) ?_ | refine HLe.pick 3 rfl (by first | rfl | (simp; done)) ?_ | refine HLe.pick 4 rfl (by first | rfl | (simp; done)) ?_ | refine HLe.pick 5 rfl (by first | rfl | (simp; done)) ?_ | refine HLe.skip _ ?_), ?_, rfl⟩
  rfl

set_option maxHeartbeats 8000000 in
set_option maxRecDepth 100000 in
theorem back_c (x : EN) (s : ByteArray) (gd : Nat) (hs : Hp) (h1 : x.kind.size ≤ 140737488351232) (h2 : x.text.size ≤ 140737488351232) (h3 : s.size ≤ 140737488351232) : AC P 4 [.d (.agg x.enc), .d (.str s)] ((gd, p10G) :: hs) (fun r h => r = .d (.bool true)) := by
  refine AC.of 78 Tryd.func4 rfl rfl rfl ?_
  refine W.reg ?_
  refine XOps.loud rfl (L.boxn rfl rfl) ?_
  rintro _ _ ⟨b2, rfl, rfl⟩
  refine XOps.s rfl rfl rfl (Q.assign_d rfl) ?_
  refine XOps.nil ?_
  refine W.seq ?_
  refine W.reg ?_
  (refine XOps.loud rfl (L.call rfl Tryd.func9 go9 rfl (AC.le (rfact_c gd ((b2, .cells (x.enc.map .d)) :: hs)) (HLe.pick 1 rfl rfl (HLe.refl _))) rfl) ?_; rintro _ _ ⟨_, rfl, rfl, rfl⟩)
  refine XOps.s rfl rfl rfl (Q.not rfl) ?_
  refine XOps.nil ?_
  refine W.cond rfl (fun hc16 => ?_) (fun hc16 => ?_)
  · try simp only [Bool.or_eq_true, Bool.or_eq_false_iff, Bool.and_eq_true, Bool.and_eq_false_iff, decide_eq_true_eq, decide_eq_false_iff_not, Bool.not_eq_true', Bool.not_eq_false', Int.not_lt, Int.not_le, List.length_map] at hc16
    exact absurd hc16 (by decide)
  · try simp only [Bool.or_eq_true, Bool.or_eq_false_iff, Bool.and_eq_true, Bool.and_eq_false_iff, decide_eq_true_eq, decide_eq_false_iff_not, Bool.not_eq_true', Bool.not_eq_false', Int.not_lt, Int.not_le, List.length_map] at hc16
    refine W.skip ?_
    refine W.seq ?_
    refine W.reg ?_
    refine XOps.s rfl rfl rfl (Q.ld_ptrn (k := 1) ag23 rfl rfl rfl) ?_
    (refine XOps.loud rfl (L.call rfl Tryd.func10 go10 rfl (enc_c x gd ((b2, .cells (x.enc.map .d)) :: hs) (by omega) (by omega)) rfl) ?_; rintro _ _ ⟨_, rfl, rfl, rfl⟩)
    refine XOps.s rfl rfl rfl (Q.move_tup rfl) ?_
    refine XOps.s rfl rfl rfl (Q.extract rfl rfl) ?_
    refine XOps.s rfl rfl rfl (Q.extract rfl rfl) ?_
    refine XOps.s rfl rfl rfl (Q.assign_d rfl) ?_
    refine XOps.s rfl rfl rfl (Q.assign_d rfl) ?_
    refine XOps.nil ?_
    refine W.reg ?_
    refine XOps.s rfl rfl rfl (Q.move_d rfl) ?_
    refine XOps.s rfl rfl rfl (Q.eql rfl rfl) ?_
    refine XOps.nil ?_
    refine W.cond rfl (fun hc23 => ?_) (fun hc23 => ?_)
    · try simp only [Bool.or_eq_true, Bool.or_eq_false_iff, Bool.and_eq_true, Bool.and_eq_false_iff, decide_eq_true_eq, decide_eq_false_iff_not, Bool.not_eq_true', Bool.not_eq_false', Int.not_lt, Int.not_le, List.length_map] at hc23
      have h23 : checkN x = 0 := by first | exact hc23 | (simpa using hc23)
      have ok := checkN_zero.1 h23
      have hv : encV x = bs (encB x) := if_neg (by omega)
      have hl := enc_len ok
      have hsz : (encV x).size = (encB x).length := by rw [hv, bs_size]
      obtain ⟨d1, d2, d3⟩ := dec_enc (s := encV x ++ s) (t := s) ok (by rw [bl_app, hv, bl_bs])
      refine W.reg ?_
      refine XOps.s rfl rfl rfl (Q.move_d rfl) ?_
      refine XOps.s rfl rfl rfl (Q.move_d rfl) ?_
      refine XOps.s rfl rfl rfl (Q.adds rfl rfl (by omega)) ?_
      refine XOps.s rfl rfl rfl (Q.call rfl Tryd.func11 go11 rfl (decode_c (encV x ++ s) _ (by rw [ByteArray.size_append]; omega))) ?_
      refine XOps.s rfl rfl rfl (Q.move_tup rfl) ?_
      refine XOps.s rfl rfl rfl (Q.extract rfl rfl) ?_
      refine XOps.s rfl rfl rfl (Q.extract rfl rfl) ?_
      refine XOps.s rfl rfl rfl (Q.extract rfl rfl) ?_
      (refine XOps.loud rfl (L.alloc tz23 rfl rfl) ?_; rintro _ _ ⟨b7, rfl, rfl⟩)
      refine XOps.loud rfl (L.storen (k := 0) ag23 rfl rfl rfl rfl rfl) ?_
      rintro _ _ ⟨rfl, rfl⟩
      refine XOps.s rfl rfl rfl (Q.assign_d rfl) ?_
      refine XOps.s rfl rfl rfl (Q.assign_d rfl) ?_
      refine XOps.nil ?_
      refine W.reg ?_
      refine XOps.s rfl rfl rfl (Q.move_d rfl) ?_
      refine XOps.s rfl rfl rfl (Q.neq rfl rfl) ?_
      refine XOps.s rfl rfl rfl (Q.move_d rfl) ?_
      refine XOps.gs rfl rfl rfl rfl rfl rfl rfl (fun hg => Q.ld_ptrn (k := 0) ag23 rfl rfl rfl) ?_
      refine XOps.gs rfl rfl rfl rfl rfl rfl rfl (fun hg => Q.ld_ptrn (k := 2) ag23 rfl rfl rfl) ?_
      refine XOps.gs rfl rfl rfl rfl rfl rfl rfl (fun hg => Quiet.open 35 hg rfl (Quiet.open 36 hg rfl (Q.neq_agg eqt23 rfl rfl rfl rfl rfl))) ?_
      refine XOps.s rfl rfl rfl (Q.pick_or rfl rfl rfl (fun h => by first | (rw [h]; rfl) | (rw [hg, h]; rfl) | (simp [h, hg]; done))) ?_
      refine XOps.s rfl rfl rfl (Q.move_d rfl) ?_
      refine XOps.gs rfl rfl rfl rfl rfl rfl rfl (fun hg => Q.move_d rfl) ?_
      refine XOps.gs rfl rfl rfl rfl rfl rfl rfl (fun hg => Q.move_d rfl) ?_
      refine XOps.gs rfl rfl rfl rfl rfl rfl rfl (fun hg => Quiet.open 41 hg rfl (Q.len_str ist9 rfl)) ?_
      refine XOps.gs rfl rfl rfl rfl rfl rfl rfl (fun hg => Quiet.open 40 hg rfl (Quiet.open 42 hg rfl (Q.neq rfl rfl))) ?_
      refine XOps.s rfl rfl rfl (Q.pick_or rfl rfl rfl (fun h => by first | (rw [h]; rfl) | (rw [hg, h]; rfl) | (simp [h, hg]; done))) ?_
      refine XOps.nil ?_
      refine W.cond rfl (fun hc44 => ?_) (fun hc44 => ?_)
      · try simp only [Bool.or_eq_true, Bool.or_eq_false_iff, Bool.and_eq_true, Bool.and_eq_false_iff, decide_eq_true_eq, decide_eq_false_iff_not, Bool.not_eq_true', Bool.not_eq_false', Int.not_lt, Int.not_le, List.length_map] at hc44
        exfalso
        rw [d1, d2, d3] at hc44
        have hq := same_en x x
        rw [decide_eq_true rfl] at hq
        change allD [.int .i64 x.num, .int .i64 x.tm, .str x.kind, .str x.text] [.int .i64 x.num, .int .i64 x.tm, .str x.kind, .str x.text] = true at hq
        rw [hq, hsz] at hc44
        simp at hc44 --done
      · try simp only [Bool.or_eq_true, Bool.or_eq_false_iff, Bool.and_eq_true, Bool.and_eq_false_iff, decide_eq_true_eq, decide_eq_false_iff_not, Bool.not_eq_true', Bool.not_eq_false', Int.not_lt, Int.not_le, List.length_map] at hc44
        refine W.skip ?_
        refine W.reg ?_
        refine XOps.s rfl rfl rfl (Q.move_d rfl) ?_
        refine XOps.s rfl rfl rfl (Q.call rfl Tryd.func11 go11 rfl (decode_c s _ (by omega))) ?_
        refine XOps.s rfl rfl rfl (Q.move_tup rfl) ?_
        refine XOps.s rfl rfl rfl (Q.extract rfl rfl) ?_
        refine XOps.s rfl rfl rfl (Q.extract rfl rfl) ?_
        refine XOps.s rfl rfl rfl (Q.extract rfl rfl) ?_
        (refine XOps.loud rfl (L.alloc tz23 rfl rfl) ?_; rintro _ _ ⟨b10, rfl, rfl⟩)
        refine XOps.loud rfl (L.storen (k := 0) ag23 rfl rfl rfl rfl rfl) ?_
        rintro _ _ ⟨rfl, rfl⟩
        refine XOps.s rfl rfl rfl (Q.assign_d rfl) ?_
        refine XOps.s rfl rfl rfl (Q.assign_d rfl) ?_
        refine XOps.nil ?_
        refine W.seq ?_
        refine W.reg ?_
        refine XOps.s rfl rfl rfl (Q.move_d rfl) ?_
        refine XOps.s rfl rfl rfl (Q.neq rfl rfl) ?_
        refine XOps.nil ?_
        refine W.cond rfl (fun hc52 => ?_) (fun hc52 => ?_)
        · try simp only [Bool.or_eq_true, Bool.or_eq_false_iff, Bool.and_eq_true, Bool.and_eq_false_iff, decide_eq_true_eq, decide_eq_false_iff_not, Bool.not_eq_true', Bool.not_eq_false', Int.not_lt, Int.not_le, List.length_map] at hc52
          have h52 : decE s ≠ 0 := by first | exact hc52 | (simpa using hc52)
          obtain ⟨hX, hN⟩ := dec_bad h52
          refine W.reg ?_
          refine XOps.s rfl rfl rfl (Q.move_d rfl) ?_
          refine XOps.s rfl rfl rfl (Q.eql rfl rfl) ?_
          refine XOps.s rfl rfl rfl (Q.move_d rfl) ?_
          refine XOps.gs rfl rfl rfl rfl rfl rfl rfl (fun hg => Q.ld_ptrn (k := 0) ag23 rfl rfl rfl) ?_
          refine XOps.gs rfl rfl rfl rfl rfl rfl rfl (fun hg => Q.build pl23 tz23 tzd23 rfl) ?_
          refine XOps.gs rfl rfl rfl rfl rfl rfl rfl (fun hg => Quiet.open 56 hg rfl (Quiet.open 57 hg rfl (Q.eql_agg eqt23 rfl rfl rfl rfl rfl))) ?_
          refine XOps.s rfl rfl rfl (Q.pick_and rfl rfl rfl (fun h => by first | (rw [h]; rfl) | (rw [hg, h]; rfl) | (simp [h, hg]; done))) ?_
          refine XOps.s rfl rfl rfl (Q.assign_d rfl) ?_
          refine XOps.nil ?_
          refine W.ret ?_
          (refine ⟨_, _, rfl, HLe.refl _, ?_⟩; show AV.d (.bool _) = _; refine congrArg (fun b => AV.d (D.bool b)) ?_; first | (rw [hX, hN]; decide +kernel) | (rw [h6, hpf, d4, hv2, bs_size]; simp))
        · try simp only [Bool.or_eq_true, Bool.or_eq_false_iff, Bool.and_eq_true, Bool.and_eq_false_iff, decide_eq_true_eq, decide_eq_false_iff_not, Bool.not_eq_true', Bool.not_eq_false', Int.not_lt, Int.not_le, List.length_map] at hc52
          have h52 : decE s = 0 := by first | exact hc52 | (simpa using hc52)
          obtain ⟨ok2, d4, t, d5⟩ := dec_ok h52
          have ok2k := ok2.kind
          have ok2t := ok2.text
          have h6 : checkN (decX s) = 0 := checkN_zero.2 ok2
          have hv2 : encV (decX s) = bs (encB (decX s)) := if_neg (by omega)
          have hpf := hasPB_of (s := s) (p := encV (decX s)) (t := t) (by rw [hv2, bl_bs]; exact d5)
          refine W.skip ?_
          refine W.reg ?_
          refine XOps.s rfl rfl rfl (Q.ld_ptrn (k := 0) ag23 rfl rfl rfl) ?_
          (refine XOps.loud rfl (L.call rfl Tryd.func10 go10 rfl (AC.le (enc_c (decX s) gd [] (by omega) (by omega)) (by first | exact HLe.skip _ (HLe.skip _ (HLe.cons _ (HLe.sub (List.nil_sublist _)))) | exact HLe.skip _ (HLe.cons _ (HLe.sub (List.nil_sublist _))))) rfl) ?_; rintro _ _ ⟨_, rfl, rfl, rfl⟩)
          refine XOps.s rfl rfl rfl (Q.move_tup rfl) ?_
          refine XOps.s rfl rfl rfl (Q.extract rfl rfl) ?_
          refine XOps.s rfl rfl rfl (Q.extract rfl rfl) ?_
          refine XOps.s rfl rfl rfl (Q.assign_d rfl) ?_
          refine XOps.s rfl rfl rfl (Q.assign_d rfl) ?_
          refine XOps.nil ?_
          refine W.reg ?_
          refine XOps.s rfl rfl rfl (Q.move_d rfl) ?_
          refine XOps.s rfl rfl rfl (Q.eql rfl rfl) ?_
          refine XOps.s rfl rfl rfl (Q.move_d rfl) ?_
          refine XOps.gs rfl rfl rfl rfl rfl rfl rfl (fun hg => Q.move_d rfl) ?_
          refine XOps.gs rfl rfl rfl rfl rfl rfl rfl (fun hg => Q.move_d rfl) ?_
          refine XOps.gs rfl rfl rfl rfl rfl rfl rfl (fun hg => Quiet.open 68 hg rfl (Quiet.open 69 hg rfl (Q.call rfl Tryd.func13 go13 rfl (prefix_c s (encV (decX s)) _)))) ?_
          refine XOps.s rfl rfl rfl (Q.pick_and rfl rfl rfl (fun h => by first | (rw [h]; rfl) | (rw [hg, h]; rfl) | (simp [h, hg]; done))) ?_
          refine XOps.s rfl rfl rfl (Q.move_d rfl) ?_
          refine XOps.gs rfl rfl rfl rfl rfl rfl rfl (fun hg => Q.move_d rfl) ?_
          refine XOps.gs rfl rfl rfl rfl rfl rfl rfl (fun hg => Q.move_d rfl) ?_
          refine XOps.gs rfl rfl rfl rfl rfl rfl rfl (fun hg => Quiet.open 74 hg rfl (Q.len_str ist9 rfl)) ?_
          refine XOps.gs rfl rfl rfl rfl rfl rfl rfl (fun hg => Quiet.open 73 hg rfl (Quiet.open 75 hg rfl (Q.eql rfl rfl))) ?_
          refine XOps.s rfl rfl rfl (Q.pick_and rfl rfl rfl (fun h => by first | (rw [h]; rfl) | (rw [hg, h]; rfl) | (simp [h, hg]; done))) ?_
          refine XOps.s rfl rfl rfl (Q.assign_d rfl) ?_
          refine XOps.nil ?_
          refine W.ret ?_
          (refine ⟨_, _, rfl, HLe.refl _, ?_⟩; show AV.d (.bool _) = _; refine congrArg (fun b => AV.d (D.bool b)) ?_; first | (rw [hX, hN]; decide +kernel) | (rw [h6, hpf, d4, hv2, bs_size]; simp))
    · try simp only [Bool.or_eq_true, Bool.or_eq_false_iff, Bool.and_eq_true, Bool.and_eq_false_iff, decide_eq_true_eq, decide_eq_false_iff_not, Bool.not_eq_true', Bool.not_eq_false', Int.not_lt, Int.not_le, List.length_map] at hc23
      refine W.skip ?_
      refine W.reg ?_
      refine XOps.s rfl rfl rfl (Q.move_d rfl) ?_
      refine XOps.s rfl rfl rfl (Q.call rfl Tryd.func11 go11 rfl (decode_c s _ (by omega))) ?_
      refine XOps.s rfl rfl rfl (Q.move_tup rfl) ?_
      refine XOps.s rfl rfl rfl (Q.extract rfl rfl) ?_
      refine XOps.s rfl rfl rfl (Q.extract rfl rfl) ?_
      refine XOps.s rfl rfl rfl (Q.extract rfl rfl) ?_
      (refine XOps.loud rfl (L.alloc tz23 rfl rfl) ?_; rintro _ _ ⟨b10, rfl, rfl⟩)
      refine XOps.loud rfl (L.storen (k := 0) ag23 rfl rfl rfl rfl rfl) ?_
      rintro _ _ ⟨rfl, rfl⟩
      refine XOps.s rfl rfl rfl (Q.assign_d rfl) ?_
      refine XOps.s rfl rfl rfl (Q.assign_d rfl) ?_
      refine XOps.nil ?_
      refine W.seq ?_
      refine W.reg ?_
      refine XOps.s rfl rfl rfl (Q.move_d rfl) ?_
      refine XOps.s rfl rfl rfl (Q.neq rfl rfl) ?_
      refine XOps.nil ?_
      refine W.cond rfl (fun hc52 => ?_) (fun hc52 => ?_)
      · try simp only [Bool.or_eq_true, Bool.or_eq_false_iff, Bool.and_eq_true, Bool.and_eq_false_iff, decide_eq_true_eq, decide_eq_false_iff_not, Bool.not_eq_true', Bool.not_eq_false', Int.not_lt, Int.not_le, List.length_map] at hc52
        have h52 : decE s ≠ 0 := by first | exact hc52 | (simpa using hc52)
        obtain ⟨hX, hN⟩ := dec_bad h52
        refine W.reg ?_
        refine XOps.s rfl rfl rfl (Q.move_d rfl) ?_
        refine XOps.s rfl rfl rfl (Q.eql rfl rfl) ?_
        refine XOps.s rfl rfl rfl (Q.move_d rfl) ?_
        refine XOps.gs rfl rfl rfl rfl rfl rfl rfl (fun hg => Q.ld_ptrn (k := 0) ag23 rfl rfl rfl) ?_
        refine XOps.gs rfl rfl rfl rfl rfl rfl rfl (fun hg => Q.build pl23 tz23 tzd23 rfl) ?_
        refine XOps.gs rfl rfl rfl rfl rfl rfl rfl (fun hg => Quiet.open 56 hg rfl (Quiet.open 57 hg rfl (Q.eql_agg eqt23 rfl rfl rfl rfl rfl))) ?_
        refine XOps.s rfl rfl rfl (Q.pick_and rfl rfl rfl (fun h => by first | (rw [h]; rfl) | (rw [hg, h]; rfl) | (simp [h, hg]; done))) ?_
        refine XOps.s rfl rfl rfl (Q.assign_d rfl) ?_
        refine XOps.nil ?_
        refine W.ret ?_
        (refine ⟨_, _, rfl, HLe.refl _, ?_⟩; show AV.d (.bool _) = _; refine congrArg (fun b => AV.d (D.bool b)) ?_; first | (rw [hX, hN]; decide +kernel) | (rw [h6, hpf, d4, hv2, bs_size]; simp))
      · try simp only [Bool.or_eq_true, Bool.or_eq_false_iff, Bool.and_eq_true, Bool.and_eq_false_iff, decide_eq_true_eq, decide_eq_false_iff_not, Bool.not_eq_true', Bool.not_eq_false', Int.not_lt, Int.not_le, List.length_map] at hc52
        have h52 : decE s = 0 := by first | exact hc52 | (simpa using hc52)
        obtain ⟨ok2, d4, t, d5⟩ := dec_ok h52
        have ok2k := ok2.kind
        have ok2t := ok2.text
        have h6 : checkN (decX s) = 0 := checkN_zero.2 ok2
        have hv2 : encV (decX s) = bs (encB (decX s)) := if_neg (by omega)
        have hpf := hasPB_of (s := s) (p := encV (decX s)) (t := t) (by rw [hv2, bl_bs]; exact d5)
        refine W.skip ?_
        refine W.reg ?_
        refine XOps.s rfl rfl rfl (Q.ld_ptrn (k := 0) ag23 rfl rfl rfl) ?_
        (refine XOps.loud rfl (L.call rfl Tryd.func10 go10 rfl (AC.le (enc_c (decX s) gd [] (by omega) (by omega)) (by first | exact HLe.skip _ (HLe.skip _ (HLe.cons _ (HLe.sub (List.nil_sublist _)))) | exact HLe.skip _ (HLe.cons _ (HLe.sub (List.nil_sublist _))))) rfl) ?_; rintro _ _ ⟨_, rfl, rfl, rfl⟩)
        refine XOps.s rfl rfl rfl (Q.move_tup rfl) ?_
        refine XOps.s rfl rfl rfl (Q.extract rfl rfl) ?_
        refine XOps.s rfl rfl rfl (Q.extract rfl rfl) ?_
        refine XOps.s rfl rfl rfl (Q.assign_d rfl) ?_
        refine XOps.s rfl rfl rfl (Q.assign_d rfl) ?_
        refine XOps.nil ?_
        refine W.reg ?_
        refine XOps.s rfl rfl rfl (Q.move_d rfl) ?_
        refine XOps.s rfl rfl rfl (Q.eql rfl rfl) ?_
        refine XOps.s rfl rfl rfl (Q.move_d rfl) ?_
        refine XOps.gs rfl rfl rfl rfl rfl rfl rfl (fun hg => Q.move_d rfl) ?_
        refine XOps.gs rfl rfl rfl rfl rfl rfl rfl (fun hg => Q.move_d rfl) ?_
        refine XOps.gs rfl rfl rfl rfl rfl rfl rfl (fun hg => Quiet.open 68 hg rfl (Quiet.open 69 hg rfl (Q.call rfl Tryd.func13 go13 rfl (prefix_c s (encV (decX s)) _)))) ?_
        refine XOps.s rfl rfl rfl (Q.pick_and rfl rfl rfl (fun h => by first | (rw [h]; rfl) | (rw [hg, h]; rfl) | (simp [h, hg]; done))) ?_
        refine XOps.s rfl rfl rfl (Q.move_d rfl) ?_
        refine XOps.gs rfl rfl rfl rfl rfl rfl rfl (fun hg => Q.move_d rfl) ?_
        refine XOps.gs rfl rfl rfl rfl rfl rfl rfl (fun hg => Q.move_d rfl) ?_
        refine XOps.gs rfl rfl rfl rfl rfl rfl rfl (fun hg => Quiet.open 74 hg rfl (Q.len_str ist9 rfl)) ?_
        refine XOps.gs rfl rfl rfl rfl rfl rfl rfl (fun hg => Quiet.open 73 hg rfl (Quiet.open 75 hg rfl (Q.eql rfl rfl))) ?_
        refine XOps.s rfl rfl rfl (Q.pick_and rfl rfl rfl (fun h => by first | (rw [h]; rfl) | (rw [hg, h]; rfl) | (simp [h, hg]; done))) ?_
        refine XOps.s rfl rfl rfl (Q.assign_d rfl) ?_
        refine XOps.nil ?_
        refine W.ret ?_
        (refine ⟨_, _, rfl, HLe.refl _, ?_⟩; show AV.d (.bool _) = _; refine congrArg (fun b => AV.d (D.bool b)) ?_; first | (rw [hX, hN]; decide +kernel) | (rw [h6, hpf, d4, hv2, bs_size]; simp))
end Go.Proofs.YtldkkoecehdicaaDoorA
