/- Tubes: Inside. -/
import Derived.Test.YtaegeaajhbfkgaaGreatDoorFrB
import Derived.Test.YtaegeaajhbfkgaaGreatDoorCeD
set_option linter.unusedVariables false
set_option linter.unusedSimpArgs false
set_option linter.unnecessarySimpa false
namespace Go.Proofs.YtaegeaajhbfkgaaGreatDoorA.FCeE
open Go
theorem ag3 : tAgg P 3 = some ((false, 1)) := by kernel_rfl
theorem ag33 : tAgg P 33 = some ((false, 1)) := by kernel_rfl
theorem ag36 : tAgg P 36 = some ((false, 1)) := by kernel_rfl
theorem ag4 : tAgg P 4 = some ((false, 1)) := by kernel_rfl
theorem ag43 : tAgg P 43 = some ((true, 2)) := by kernel_rfl
theorem ag47 : tAgg P 47 = some ((true, 6)) := by kernel_rfl
theorem fl45_0 : tFld P 45 0 = some (0) := by kernel_rfl
theorem fl45_1 : tFld P 45 1 = some (1) := by kernel_rfl
theorem fl45_2 : tFld P 45 2 = some (3) := by kernel_rfl
theorem fl47_0 : tFld P 47 0 = some (0) := by kernel_rfl
theorem fl47_1 : tFld P 47 1 = some (4) := by kernel_rfl
theorem fl47_2 : tFld P 47 2 = some (5) := by kernel_rfl
theorem go41 : callGo Go.Proofs.Tryz.f41 = true := by kernel_rfl
theorem go42 : callGo Go.Proofs.Tryz.f42 = true := by kernel_rfl
theorem go43 : callGo Go.Proofs.Tryz.f43 = true := by kernel_rfl
theorem go44 : callGo Go.Proofs.Tryz.f44 = true := by kernel_rfl
theorem go70 : callGo Go.Proofs.Tryz.f70 = true := by kernel_rfl
theorem isl33 : isSl P 33 = true := by kernel_rfl
theorem sl33 : tSl P 33 = some (6) := by kernel_rfl
theorem tz36 : tZero P 36 = some ([.int .i64 0]) := by kernel_rfl
theorem tz4 : tZero P 4 = some ([.bool false]) := by kernel_rfl
theorem tz47 : tZero P 47 = some ([.int .i64 0, .int .i64 0, .int .i64 0, .int .i64 0, .int .i64 0, .int .i64 0]) := by kernel_rfl
end Go.Proofs.YtaegeaajhbfkgaaGreatDoorA.FCeE
namespace Go.Proofs.YtaegeaajhbfkgaaGreatDoorA
open Go FCeE
attribute [local irreducible] XOps Quiet Loud W AC GQ DT
set_option maxHeartbeats 16000000 in
set_option maxRecDepth 100000 in
theorem inside_c (a b : List Nd) (hs : Hp) (ha : a.length ≤ 4611686018427387904) (hb : b.length ≤ 4611686018427387904) : AC P 17 [.d (tuD a), .d (tuD b)] hs (fun r h => r = .tup [.d (.bool (InB a b)), .d (.int .i64 (InE a b))] ∧ h = hs) := by
  refine AC.ofc 104 Tryz.func17 rfl rfl rfl ?_
  refine W.reg ?_
  refine XOps.loud rfl (L.box rfl rfl rfl) ?_
  rintro _ _ ⟨b3, rfl, rfl⟩
  (refine XOps.loud rfl (L.alloc tz4 rfl rfl) ?_; rintro _ _ ⟨b4, rfl, rfl⟩)
  (refine XOps.loud rfl (L.alloc tz36 rfl rfl) ?_; rintro _ _ ⟨b5, rfl, rfl⟩)
  refine XOps.nil ?_
  refine W.seq ?_
  refine W.reg ?_
  refine XOps.s rfl rfl rfl (Q.move_d rfl) ?_
  refine XOps.s rfl rfl rfl (Q.call rfl Tryz.func41 go41 rfl (tube_c a _ ha)) ?_
  refine XOps.s rfl rfl rfl (Q.assign_d rfl) ?_
  refine XOps.nil ?_
  refine W.reg ?_
  refine XOps.s rfl rfl rfl (Q.move_d rfl) ?_
  refine XOps.s rfl rfl rfl (Q.neq rfl rfl) ?_
  refine XOps.nil ?_
  refine W.cond rfl (fun hc16 => ?_) (fun hc16 => ?_)
  · try simp only [Bool.or_eq_true, Bool.or_eq_false_iff, Bool.and_eq_true, Bool.and_eq_false_iff, decide_eq_true_eq, decide_eq_false_iff_not, Bool.not_eq_true', Bool.not_eq_false', Int.not_lt, Int.not_le, List.length_map] at hc16
    have h16 : tubeC a ≠ 0 := by first | exact hc16 | (simpa using hc16)
    have hE : InE a b = tubeC a := if_pos h16
    have hB : InB a b = false := by unfold InB; rw [hE, decide_eq_false h16]; rfl
    rw [hE, hB]
    refine W.reg ?_
    refine XOps.s rfl rfl rfl (Q.move_d rfl) ?_
    refine XOps.loud rfl (L.store (k := 1) ag4 rfl rfl rfl rfl rfl) ?_
    rintro _ _ ⟨rfl, rfl⟩
    refine XOps.loud rfl (L.store (k := 0) ag36 rfl rfl rfl rfl rfl) ?_
    rintro _ _ ⟨rfl, rfl⟩
    refine XOps.nil ?_
    refine W.ret ?_
    exact ⟨_, hs, (.cons (by first | exact .celln 0 ag4 rfl rfl rfl | exact .cell1 0 ag4 rfl rfl rfl | exact .celln 1 ag4 rfl rfl rfl | exact .cell1 1 ag4 rfl rfl rfl | exact .celln 2 ag4 rfl rfl rfl | exact .cell1 2 ag4 rfl rfl rfl | exact .celln 3 ag4 rfl rfl rfl | exact .cell1 3 ag4 rfl rfl rfl | exact .celln 4 ag4 rfl rfl rfl | exact .cell1 4 ag4 rfl rfl rfl) (.cons (by first | exact .celln 0 ag36 rfl rfl rfl | exact .cell1 0 ag36 rfl rfl rfl | exact .celln 1 ag36 rfl rfl rfl | exact .cell1 1 ag36 rfl rfl rfl | exact .celln 2 ag36 rfl rfl rfl | exact .cell1 2 ag36 rfl rfl rfl | exact .celln 3 ag36 rfl rfl rfl | exact .cell1 3 ag36 rfl rfl rfl | exact .celln 4 ag36 rfl rfl rfl | exact .cell1 4 ag36 rfl rfl rfl) .nil)), HLe.skip _ (HLe.skip _ (HLe.skip _ (HLe.refl _))), rfl, rfl⟩
  · try simp only [Bool.or_eq_true, Bool.or_eq_false_iff, Bool.and_eq_true, Bool.and_eq_false_iff, decide_eq_true_eq, decide_eq_false_iff_not, Bool.not_eq_true', Bool.not_eq_false', Int.not_lt, Int.not_le, List.length_map] at hc16
    have h16 : tubeC a = 0 := by first | exact hc16 | (simpa using hc16)
    have oka := tubeC_zero.1 h16
    have hE0 : InE a b = tubeC b := if_neg (by omega)
    have p0 := hd_row oka.ne
    have pl := la_row oka.ne
    have hla := oka.len
    have hl0 : a.length ≠ 0 := fun e => oka.ne (List.eq_nil_of_length_eq_zero e)
    have hma : (a.map Nd.enc).length = a.length := List.length_map _
    refine W.skip ?_
    refine W.seq ?_
    refine W.reg ?_
    refine XOps.s rfl rfl rfl (Q.ld_ptr (k := 2) ag33 rfl rfl rfl) ?_
    refine XOps.s rfl rfl rfl (Q.call rfl Tryz.func41 go41 rfl (tube_c b _ hb)) ?_
    refine XOps.s rfl rfl rfl (Q.assign_d rfl) ?_
    refine XOps.nil ?_
    refine W.reg ?_
    refine XOps.s rfl rfl rfl (Q.move_d rfl) ?_
    refine XOps.s rfl rfl rfl (Q.neq rfl rfl) ?_
    refine XOps.nil ?_
    refine W.cond rfl (fun hc21 => ?_) (fun hc21 => ?_)
    · try simp only [Bool.or_eq_true, Bool.or_eq_false_iff, Bool.and_eq_true, Bool.and_eq_false_iff, decide_eq_true_eq, decide_eq_false_iff_not, Bool.not_eq_true', Bool.not_eq_false', Int.not_lt, Int.not_le, List.length_map] at hc21
      have h21 : tubeC b ≠ 0 := by first | exact hc21 | (simpa using hc21)
      have hB : InB a b = false := by unfold InB; rw [hE0, decide_eq_false h21]; rfl
      rw [hE0, hB]
      refine W.reg ?_
      refine XOps.s rfl rfl rfl (Q.move_d rfl) ?_
      refine XOps.loud rfl (L.store (k := 1) ag4 rfl rfl rfl rfl rfl) ?_
      rintro _ _ ⟨rfl, rfl⟩
      refine XOps.loud rfl (L.store (k := 0) ag36 rfl rfl rfl rfl rfl) ?_
      rintro _ _ ⟨rfl, rfl⟩
      refine XOps.nil ?_
      refine W.ret ?_
      exact ⟨_, hs, (.cons (by first | exact .celln 0 ag4 rfl rfl rfl | exact .cell1 0 ag4 rfl rfl rfl | exact .celln 1 ag4 rfl rfl rfl | exact .cell1 1 ag4 rfl rfl rfl | exact .celln 2 ag4 rfl rfl rfl | exact .cell1 2 ag4 rfl rfl rfl | exact .celln 3 ag4 rfl rfl rfl | exact .cell1 3 ag4 rfl rfl rfl | exact .celln 4 ag4 rfl rfl rfl | exact .cell1 4 ag4 rfl rfl rfl) (.cons (by first | exact .celln 0 ag36 rfl rfl rfl | exact .cell1 0 ag36 rfl rfl rfl | exact .celln 1 ag36 rfl rfl rfl | exact .cell1 1 ag36 rfl rfl rfl | exact .celln 2 ag36 rfl rfl rfl | exact .cell1 2 ag36 rfl rfl rfl | exact .celln 3 ag36 rfl rfl rfl | exact .cell1 3 ag36 rfl rfl rfl | exact .celln 4 ag36 rfl rfl rfl | exact .cell1 4 ag36 rfl rfl rfl) .nil)), HLe.skip _ (HLe.skip _ (HLe.skip _ (HLe.refl _))), rfl, rfl⟩
    · try simp only [Bool.or_eq_true, Bool.or_eq_false_iff, Bool.and_eq_true, Bool.and_eq_false_iff, decide_eq_true_eq, decide_eq_false_iff_not, Bool.not_eq_true', Bool.not_eq_false', Int.not_lt, Int.not_le, List.length_map] at hc21
      have h21 : tubeC b = 0 := by first | exact hc21 | (simpa using hc21)
      have okb := tubeC_zero.1 h21
      have q0 := hd_row okb.ne
      have ql := la_row okb.ne
      have hlb := okb.len
      have hl0b : b.length ≠ 0 := fun e => okb.ne (List.eq_nil_of_length_eq_zero e)
      have hmb : (b.map Nd.enc).length = b.length := List.length_map _
      have hE : InE a b = 0 := by rw [hE0]; exact h21
      refine W.skip ?_
      refine W.seq ?_
      refine W.drawreg 30 follows (by kernel_rfl) ?_
      refine Chain.cons _ (GQ.q rfl (Q.move_d rfl)) rfl ?_
      refine Chain.cons _ (GQ.q rfl (Q.idx_sl sl33 (by decide) rfl rfl (by first | omega | (simp only [List.length_map]; omega)) (by first | exact p0 | exact pl | exact q0 | exact ql))) rfl ?_
      refine Chain.cons _ (GQ.q rfl (Q.fld_dp fl47_0 rfl)) rfl ?_
      refine Chain.cons _ (GQ.q rfl (Q.fld_dp fl45_0 rfl)) rfl ?_
      refine Chain.cons _ (GQ.q rfl (Q.ld_dp ag3 rfl rfl)) rfl ?_
      refine Chain.cons _ (GQ.q rfl (Q.ld_ptr (k := 2) ag33 rfl rfl rfl)) rfl ?_
      refine Chain.cons _ (GQ.q rfl (Q.idx_sl sl33 (by decide) rfl rfl (by omega) q0)) rfl ?_
      refine Chain.cons _ (GQ.q rfl (Q.fld_dp fl47_0 rfl)) rfl ?_
      refine Chain.cons _ (GQ.q rfl (Q.fld_dp fl45_0 rfl)) rfl ?_
      refine Chain.cons _ (GQ.q rfl (Q.ld_dp ag3 rfl rfl)) rfl ?_
      refine Chain.cons _ (GQ.q rfl (Q.lss rfl rfl)) rfl ?_
      refine Chain.cons _ (GQ.q rfl (Q.move_d rfl)) rfl ?_
      refine Chain.cons _ (GQ.g rfl rfl rfl rfl rfl (fun hg => Q.move_d rfl)) rfl ?_
      refine Chain.cons _ (GQ.g rfl rfl rfl rfl rfl (fun hg => Q.move_d rfl)) rfl ?_
      refine Chain.cons _ (GQ.g rfl rfl rfl rfl rfl (fun hg => Quiet.open 36 hg rfl (Q.len_sl isl33 rfl))) rfl ?_
      refine Chain.cons _ (GQ.g rfl rfl rfl rfl rfl (fun hg => Quiet.open 37 hg rfl (Q.sub rfl rfl (wi64 (by first | omega | (dsimp only; omega) | (simp only [List.length_map]; omega)) (by first | omega | (dsimp only; omega) | (simp only [List.length_map]; omega)))))) rfl ?_
      refine Chain.cons _ (GQ.g rfl rfl rfl rfl rfl (fun hg => Quiet.open 35 hg rfl (Quiet.open 38 hg rfl (Q.idx_sl sl33 (by decide) rfl rfl (by first | omega | (simp only [List.length_map]; omega)) (by first | exact p0 | exact pl | exact q0 | exact ql))))) rfl ?_
      refine Chain.cons _ (GQ.g rfl rfl rfl rfl rfl (fun hg => Quiet.open 39 hg rfl (Q.fld_dp fl47_0 rfl))) rfl ?_
      refine Chain.cons _ (GQ.g rfl rfl rfl rfl rfl (fun hg => Quiet.open 40 hg rfl (Q.fld_dp fl45_0 rfl))) rfl ?_
      refine Chain.cons _ (GQ.g rfl rfl rfl rfl rfl (fun hg => Quiet.open 41 hg rfl (Q.ld_dp ag3 rfl rfl))) rfl ?_
      refine Chain.cons _ (GQ.g rfl rfl rfl rfl rfl (fun hg => Q.ld_ptr (k := 2) ag33 rfl rfl rfl)) rfl ?_
      refine Chain.cons _ (GQ.g rfl rfl rfl rfl rfl (fun hg => Q.ld_ptr (k := 2) ag33 rfl rfl rfl)) rfl ?_
      refine Chain.cons _ (GQ.g rfl rfl rfl rfl rfl (fun hg => Quiet.open 44 hg rfl (Q.len_sl isl33 rfl))) rfl ?_
      refine Chain.cons _ (GQ.g rfl rfl rfl rfl rfl (fun hg => Quiet.open 45 hg rfl (Q.sub rfl rfl (wi64 (by first | omega | (dsimp only; omega) | (simp only [List.length_map]; omega)) (by first | omega | (dsimp only; omega) | (simp only [List.length_map]; omega)))))) rfl ?_
      refine Chain.cons _ (GQ.g rfl rfl rfl rfl rfl (fun hg => Quiet.open 43 hg rfl (Quiet.open 46 hg rfl (Q.idx_sl sl33 (by decide) rfl rfl (by omega) ql)))) rfl ?_
      refine Chain.cons _ (GQ.g rfl rfl rfl rfl rfl (fun hg => Quiet.open 47 hg rfl (Q.fld_dp fl47_0 rfl))) rfl ?_
      refine Chain.cons _ (GQ.g rfl rfl rfl rfl rfl (fun hg => Quiet.open 48 hg rfl (Q.fld_dp fl45_0 rfl))) rfl ?_
      refine Chain.cons _ (GQ.g rfl rfl rfl rfl rfl (fun hg => Quiet.open 49 hg rfl (Q.ld_dp ag3 rfl rfl))) rfl ?_
      refine Chain.cons _ (GQ.g rfl rfl rfl rfl rfl (fun hg => Quiet.open 42 hg rfl (Quiet.open 50 hg rfl (Q.gtr rfl rfl)))) rfl ?_
      refine Chain.cons _ (GQ.q rfl (Q.pick_or rfl rfl rfl (fun h => by first | (rw [h]; rfl) | (rw [hg, h]; rfl) | (simp [h, hg]; done)))) rfl ?_
      refine Chain.nil ?_
      refine XOps.nil ?_
      refine W.cond rfl (fun hc52 => ?_) (fun hc52 => ?_)
      · try simp only [Bool.or_eq_true, Bool.or_eq_false_iff, Bool.and_eq_true, Bool.and_eq_false_iff, decide_eq_true_eq, decide_eq_false_iff_not, Bool.not_eq_true', Bool.not_eq_false', Int.not_lt, Int.not_le, List.length_map] at hc52
        have hB : InB a b = false := by unfold InB; rw [decide_eq_false (show ¬ (hdT b ≤ hdT a ∧ laT a ≤ laT b) by unfold hdT laT; omega), Bool.and_false]; rfl
        rw [hE, hB]
        refine W.reg ?_
        refine XOps.loud rfl (L.store (k := 1) ag4 rfl rfl rfl rfl rfl) ?_
        rintro _ _ ⟨rfl, rfl⟩
        refine XOps.loud rfl (L.store (k := 0) ag36 rfl rfl rfl rfl rfl) ?_
        rintro _ _ ⟨rfl, rfl⟩
        refine XOps.nil ?_
        refine W.ret ?_
        exact ⟨_, hs, (.cons (by first | exact .celln 0 ag4 rfl rfl rfl | exact .cell1 0 ag4 rfl rfl rfl | exact .celln 1 ag4 rfl rfl rfl | exact .cell1 1 ag4 rfl rfl rfl | exact .celln 2 ag4 rfl rfl rfl | exact .cell1 2 ag4 rfl rfl rfl | exact .celln 3 ag4 rfl rfl rfl | exact .cell1 3 ag4 rfl rfl rfl | exact .celln 4 ag4 rfl rfl rfl | exact .cell1 4 ag4 rfl rfl rfl) (.cons (by first | exact .celln 0 ag36 rfl rfl rfl | exact .cell1 0 ag36 rfl rfl rfl | exact .celln 1 ag36 rfl rfl rfl | exact .cell1 1 ag36 rfl rfl rfl | exact .celln 2 ag36 rfl rfl rfl | exact .cell1 2 ag36 rfl rfl rfl | exact .celln 3 ag36 rfl rfl rfl | exact .cell1 3 ag36 rfl rfl rfl | exact .celln 4 ag36 rfl rfl rfl | exact .cell1 4 ag36 rfl rfl rfl) .nil)), HLe.skip _ (HLe.skip _ (HLe.skip _ (HLe.refl _))), rfl, rfl⟩
      · try simp only [Bool.or_eq_true, Bool.or_eq_false_iff, Bool.and_eq_true, Bool.and_eq_false_iff, decide_eq_true_eq, decide_eq_false_iff_not, Bool.not_eq_true', Bool.not_eq_false', Int.not_lt, Int.not_le, List.length_map] at hc52
        have hrg : hdT b ≤ hdT a ∧ laT a ≤ laT b := by unfold hdT laT; omega
        have hcn : ((cntT a : Nat) : Int) = laT a - hdT a + 1 := by have := hd_le_la oka; unfold cntT; omega
        refine W.skip ?_
        refine W.seq ?_
        refine W.reg ?_
        refine XOps.s rfl rfl rfl (Q.move_d rfl) ?_
        (refine XOps.loud rfl (L.call rfl Tryz.func43 go43 rfl (all_c a _) rfl) ?_; rintro _ _ ⟨_, rfl, bb, rfl, rfl⟩)
        refine XOps.nil ?_
        refine W.block ?_
        refine W.range rfl Tryz.func70 go70 (fun id0 => ?_)
        refine ((allit_c a oka id0 bb _ (fun k H => H = (b5, .cells [.d (.int .i64 0)]) :: (b4, .cells [.d (.bool false)]) :: (b3, .cells [.d (tuD b)]) :: hs ∧ ∀ i, i < k → insK a b i = true) (fun H => H = (b5, .cells [.d (.int .i64 0)]) :: (b4, .cells [.d (.bool false)]) :: (b3, .cells [.d (tuD b)]) :: hs ∧ ∃ i, i < cntT a ∧ insK a b i = false) ((b5, .cells [.d (.int .i64 0)]) :: (b4, .cells [.d (.bool false)]) :: (b3, .cells [.d (tuD b)]) :: hs) ⟨rfl, fun i h => absurd h (Nat.not_lt_zero _)⟩ (fun k H priv hJ hk => ?_)).le (HLe.refl _)).mono ?_
        ·
          obtain ⟨rfl, hI⟩ := hJ
          have hn := atN_ok (t := hdT a + (k : Nat)) oka (atE_zero.2 ⟨by omega, by omega⟩)
          have hmt : atN b (hdT a + (k : Nat)) = atN b ((atN a (hdT a + (k : Nat))).t) := by rw [hn.2]
          have hm := atN_ok (t := (atN a (hdT a + (k : Nat))).t) okb (atE_zero.2 (by rw [hn.2]; exact ⟨by omega, by omega⟩))
          have r1 := hn.1.r0
          have r2 := hn.1.r1
          have r3 := hm.1.r0
          have r4 := hm.1.r1
          have r5 := hn.1.b0
          have r6 := hn.1.b1
          have r7 := hm.1.b0
          have r8 := hm.1.b1
          have r9 := hn.1.h0
          have ra := hn.1.h1
          have rb := hm.1.h0
          have rc := hm.1.h1
          obtain ⟨s0, s1⟩ := sqI_bd hn.1.p hm.1.p
          obtain ⟨t0, t1, t2⟩ := root_bd2 s0 s1
          have u1 : 0 ≤ upI (sqI (atN a (hdT a + (k : Nat))).x (atN a (hdT a + (k : Nat))).y (atN b ((atN a (hdT a + (k : Nat))).t)).x (atN b ((atN a (hdT a + (k : Nat))).t)).y) ∧ upI (sqI (atN a (hdT a + (k : Nat))).x (atN a (hdT a + (k : Nat))).y (atN b ((atN a (hdT a + (k : Nat))).t)).x (atN b ((atN a (hdT a + (k : Nat))).t)).y) ≤ 3000001 := by unfold upI; split <;> omega
          refine YC.of rfl rfl (fun B l0 => ?_)
          refine W.region ?_
          (refine XOps.loud rfl (L.alloc tz47 rfl rfl) ?_; rintro _ _ ⟨b8, rfl, rfl⟩)
          refine XOps.loud rfl (L.storen (k := 0) ag47 rfl rfl rfl rfl rfl) ?_
          rintro _ _ ⟨rfl, rfl⟩
          refine XOps.nil ?_
          refine ⟨(b8, .cells ((atN a (hdT a + (k : Nat))).enc.map .d)) :: (b5, .cells [.d (.int .i64 0)]) :: (b4, .cells [.d (.bool false)]) :: (b3, .cells [.d (tuD b)]) :: (hs ++ priv), HLe.pick 1 rfl rfl (HLe.refl _), ?_⟩
          refine W.block ?_
          refine W.reg ?_
          refine XOps.s rfl rfl rfl (Q.ld_ptr (k := 4) ag33 rfl rfl rfl) ?_
          refine XOps.s rfl rfl rfl (Q.fld_ptr fl47_0 rfl) ?_
          refine XOps.s rfl rfl rfl (Q.fld_ptr fl45_0 rfl) ?_
          refine XOps.s rfl rfl rfl (Q.ld_ptr (k := 1) ag3 rfl rfl rfl) ?_
          refine XOps.s rfl rfl rfl (Q.call rfl Tryz.func42 go42 rfl (at_c b (atN a (hdT a + (k : Nat))).t _ okb)) ?_
          refine XOps.s rfl rfl rfl (Q.move_tup rfl) ?_
          refine XOps.s rfl rfl rfl (Q.extract rfl rfl) ?_
          refine XOps.s rfl rfl rfl (Q.extract rfl rfl) ?_
          (refine XOps.loud rfl (L.alloc tz47 rfl rfl) ?_; rintro _ _ ⟨b9, rfl, rfl⟩)
          refine XOps.loud rfl (L.storen (k := 0) ag47 rfl rfl rfl rfl rfl) ?_
          rintro _ _ ⟨rfl, rfl⟩
          refine XOps.s rfl rfl rfl (Q.assign_d rfl) ?_
          refine XOps.nil ?_
          refine W.reg ?_
          refine XOps.s rfl rfl rfl (Q.fld_ptr fl47_0 rfl) ?_
          refine XOps.s rfl rfl rfl (Q.fld_ptr fl45_1 rfl) ?_
          refine XOps.s rfl rfl rfl (Q.ld_ptrn (k := 2) ag43 rfl rfl rfl) ?_
          refine XOps.s rfl rfl rfl (Q.fld_ptr fl47_0 rfl) ?_
          refine XOps.s rfl rfl rfl (Q.fld_ptr fl45_1 rfl) ?_
          refine XOps.s rfl rfl rfl (Q.ld_ptrn (k := 0) ag43 rfl rfl rfl) ?_
          refine XOps.s rfl rfl rfl (Q.call rfl Tryz.func44 go44 rfl (dist_c (atN a (hdT a + (k : Nat))).x (atN a (hdT a + (k : Nat))).y (atN b ((atN a (hdT a + (k : Nat))).t)).x (atN b ((atN a (hdT a + (k : Nat))).t)).y _ hn.1.p hm.1.p)) ?_
          refine XOps.s rfl rfl rfl (Q.move_tup rfl) ?_
          refine XOps.s rfl rfl rfl (Q.extract rfl rfl) ?_
          refine XOps.s rfl rfl rfl (Q.extract rfl rfl) ?_
          refine XOps.s rfl rfl rfl (Q.assign_d rfl) ?_
          refine XOps.s rfl rfl rfl (Q.assign_d rfl) ?_
          refine XOps.nil ?_
          refine W.reg ?_
          refine XOps.s rfl rfl rfl (Q.move_d rfl) ?_
          refine XOps.s rfl rfl rfl (Q.fld_ptr fl47_1 rfl) ?_
          refine XOps.s rfl rfl rfl (Q.ld_ptr (k := 2) ag3 rfl rfl rfl) ?_
          refine XOps.s rfl rfl rfl (Q.add rfl rfl (wi64 (by first | omega | (dsimp only; omega) | (simp only [List.length_map]; omega)) (by first | omega | (dsimp only; omega) | (simp only [List.length_map]; omega)))) ?_
          refine XOps.s rfl rfl rfl (Q.fld_ptr fl47_1 rfl) ?_
          refine XOps.s rfl rfl rfl (Q.ld_ptr (k := 0) ag3 rfl rfl rfl) ?_
          refine XOps.s rfl rfl rfl (Q.gtr rfl rfl) ?_
          refine XOps.s rfl rfl rfl (Q.move_d rfl) ?_
          refine XOps.gs rfl rfl rfl rfl rfl rfl rfl (fun hg => Q.fld_ptr fl47_0 rfl) ?_
          refine XOps.gs rfl rfl rfl rfl rfl rfl rfl (fun hg => Quiet.open 82 hg rfl (Q.fld_ptr fl45_2 rfl)) ?_
          refine XOps.gs rfl rfl rfl rfl rfl rfl rfl (fun hg => Quiet.open 83 hg rfl (Q.ld_ptr (k := 2) ag3 rfl rfl rfl)) ?_
          refine XOps.gs rfl rfl rfl rfl rfl rfl rfl (fun hg => Q.fld_ptr fl47_0 rfl) ?_
          refine XOps.gs rfl rfl rfl rfl rfl rfl rfl (fun hg => Quiet.open 85 hg rfl (Q.fld_ptr fl45_2 rfl)) ?_
          refine XOps.gs rfl rfl rfl rfl rfl rfl rfl (fun hg => Quiet.open 86 hg rfl (Q.ld_ptr (k := 0) ag3 rfl rfl rfl)) ?_
          refine XOps.gs rfl rfl rfl rfl rfl rfl rfl (fun hg => Quiet.open 84 hg rfl (Quiet.open 87 hg rfl (Q.sub rfl rfl (wi64 (by first | omega | (dsimp only; omega) | (simp only [List.length_map]; omega)) (by first | omega | (dsimp only; omega) | (simp only [List.length_map]; omega)))))) ?_
          refine XOps.gs rfl rfl rfl rfl rfl rfl rfl (fun hg => Q.fld_ptr fl47_0 rfl) ?_
          refine XOps.gs rfl rfl rfl rfl rfl rfl rfl (fun hg => Quiet.open 89 hg rfl (Q.fld_ptr fl45_2 rfl)) ?_
          refine XOps.gs rfl rfl rfl rfl rfl rfl rfl (fun hg => Quiet.open 90 hg rfl (Q.ld_ptr (k := 0) ag3 rfl rfl rfl)) ?_
          refine XOps.gs rfl rfl rfl rfl rfl rfl rfl (fun hg => Q.fld_ptr fl47_0 rfl) ?_
          refine XOps.gs rfl rfl rfl rfl rfl rfl rfl (fun hg => Quiet.open 92 hg rfl (Q.fld_ptr fl45_2 rfl)) ?_
          refine XOps.gs rfl rfl rfl rfl rfl rfl rfl (fun hg => Quiet.open 93 hg rfl (Q.ld_ptr (k := 2) ag3 rfl rfl rfl)) ?_
          refine XOps.gs rfl rfl rfl rfl rfl rfl rfl (fun hg => Quiet.open 91 hg rfl (Quiet.open 94 hg rfl (Q.sub rfl rfl (wi64 (by first | omega | (dsimp only; omega) | (simp only [List.length_map]; omega)) (by first | omega | (dsimp only; omega) | (simp only [List.length_map]; omega)))))) ?_
          refine XOps.gs rfl rfl rfl rfl rfl rfl rfl (fun hg => Quiet.open 88 hg rfl (Quiet.open 95 hg rfl (Q.maxi rfl rfl))) ?_
          refine XOps.gs rfl rfl rfl rfl rfl rfl rfl (fun hg => Q.fld_ptr fl47_2 rfl) ?_
          refine XOps.gs rfl rfl rfl rfl rfl rfl rfl (fun hg => Quiet.open 97 hg rfl (Q.ld_ptr (k := 2) ag3 rfl rfl rfl)) ?_
          refine XOps.gs rfl rfl rfl rfl rfl rfl rfl (fun hg => Quiet.open 96 hg rfl (Quiet.open 98 hg rfl (Q.add rfl rfl (wi64 (by first | omega | (dsimp only; omega) | (simp only [List.length_map]; omega)) (by first | omega | (dsimp only; omega) | (simp only [List.length_map]; omega)))))) ?_
          refine XOps.gs rfl rfl rfl rfl rfl rfl rfl (fun hg => Q.fld_ptr fl47_2 rfl) ?_
          refine XOps.gs rfl rfl rfl rfl rfl rfl rfl (fun hg => Quiet.open 100 hg rfl (Q.ld_ptr (k := 0) ag3 rfl rfl rfl)) ?_
          refine XOps.gs rfl rfl rfl rfl rfl rfl rfl (fun hg => Quiet.open 99 hg rfl (Quiet.open 101 hg rfl (Q.gtr rfl rfl))) ?_
          refine XOps.s rfl rfl rfl (Q.pick_or rfl rfl rfl (fun h => by first | (rw [h]; rfl) | (rw [hg, h]; rfl) | (simp [h, hg]; done))) ?_
          refine XOps.nil ?_
          refine W.cond rfl (fun hc103 => ?_) (fun hc103 => ?_)
          · try simp only [Bool.or_eq_true, Bool.or_eq_false_iff, Bool.and_eq_true, Bool.and_eq_false_iff, decide_eq_true_eq, decide_eq_false_iff_not, Bool.not_eq_true', Bool.not_eq_false', Int.not_lt, Int.not_le, List.length_map] at hc103
            have hkf : insK a b k = false := by
              unfold insK
              refine decide_eq_false ?_
              rw [hmt]
              unfold insD
              omega
            refine W.reg ?_
            refine XOps.loud rfl (L.store (k := 4) ag4 rfl rfl rfl rfl rfl) ?_
            rintro _ _ ⟨rfl, rfl⟩
            refine XOps.loud rfl (L.store (k := 3) ag36 rfl rfl rfl rfl rfl) ?_
            rintro _ _ ⟨rfl, rfl⟩
            refine XOps.nil ?_
            refine W.ret ?_
            exact ⟨(b5, .cells [.d (.int .i64 0)]) :: (b4, .cells [.d (.bool false)]) :: (b3, .cells [.d (tuD b)]) :: (hs ++ priv), HLe.pick 1 rfl rfl (HLe.skip _ (HLe.skip _ (HLe.refl _))), false, rfl, (b5, .cells [.d (.int .i64 0)]) :: (b4, .cells [.d (.bool false)]) :: (b3, .cells [.d (tuD b)]) :: hs, by rw [if_neg (by simp)]; exact ⟨rfl, k, hk, hkf⟩, rfl⟩
          · try simp only [Bool.or_eq_true, Bool.or_eq_false_iff, Bool.and_eq_true, Bool.and_eq_false_iff, decide_eq_true_eq, decide_eq_false_iff_not, Bool.not_eq_true', Bool.not_eq_false', Int.not_lt, Int.not_le, List.length_map] at hc103
            have hkt : insK a b k = true := by
              unfold insK
              refine decide_eq_true ?_
              rw [hmt]
              unfold insD
              omega
            refine W.skip ?_
            refine Post.block_n ?_
            refine roundQ.go ((b5, .cells [.d (.int .i64 0)]) :: (b4, .cells [.d (.bool false)]) :: (b3, .cells [.d (tuD b)]) :: (hs ++ priv)) (HLe.pick 1 rfl rfl (HLe.skip _ (HLe.skip _ (HLe.refl _)))) ?_
            exact ⟨true, rfl, (b5, .cells [.d (.int .i64 0)]) :: (b4, .cells [.d (.bool false)]) :: (b3, .cells [.d (tuD b)]) :: hs, by rw [if_pos rfl]; exact ⟨rfl, fun i hi => by
              rcases Nat.lt_or_ge i k with h | h
              · exact hI i h
              · rw [show i = k by omega]; exact hkt⟩, rfl⟩
        · rintro _ _ ⟨rfl, q, H2, hq, rfl⟩
          by_cases hqq : q = false
          · subst hqq
            rw [if_neg (by simp)] at hq
            obtain ⟨rfl, i, hi, hin⟩ := hq
            refine .inr (.inl ⟨(b5, .cells [.d (.int .i64 0)]) :: (b4, .cells [.d (.bool false)]) :: (b3, .cells [.d (tuD b)]) :: hs, HLe.refl _, ?_⟩)
            rw [hE, InB_no hi hin]
            exact ⟨_, hs, (.cons (by first | exact .celln 0 ag4 rfl rfl rfl | exact .cell1 0 ag4 rfl rfl rfl | exact .celln 1 ag4 rfl rfl rfl | exact .cell1 1 ag4 rfl rfl rfl | exact .celln 2 ag4 rfl rfl rfl | exact .cell1 2 ag4 rfl rfl rfl | exact .celln 3 ag4 rfl rfl rfl | exact .cell1 3 ag4 rfl rfl rfl | exact .celln 4 ag4 rfl rfl rfl | exact .cell1 4 ag4 rfl rfl rfl) (.cons (by first | exact .celln 0 ag36 rfl rfl rfl | exact .cell1 0 ag36 rfl rfl rfl | exact .celln 1 ag36 rfl rfl rfl | exact .cell1 1 ag36 rfl rfl rfl | exact .celln 2 ag36 rfl rfl rfl | exact .cell1 2 ag36 rfl rfl rfl | exact .celln 3 ag36 rfl rfl rfl | exact .cell1 3 ag36 rfl rfl rfl | exact .celln 4 ag36 rfl rfl rfl | exact .cell1 4 ag36 rfl rfl rfl) .nil)), HLe.skip _ (HLe.skip _ (HLe.skip _ (HLe.refl _))), rfl, rfl⟩
          have hqt : q = true := by cases q with | true => rfl | false => exact absurd rfl hqq
          subst hqt
          rw [if_pos rfl] at hq
          obtain ⟨rfl, hI⟩ := hq
          rw [hE, InB_yes hE hrg hI]
          refine rangeQ.go ((b5, .cells [.d (.int .i64 0)]) :: (b4, .cells [.d (.bool false)]) :: (b3, .cells [.d (tuD b)]) :: hs) (HLe.refl _) ?_
          refine W.reg ?_
          refine XOps.loud rfl (L.store (k := 1) ag4 rfl rfl rfl rfl rfl) ?_
          rintro _ _ ⟨rfl, rfl⟩
          refine XOps.loud rfl (L.store (k := 0) ag36 rfl rfl rfl rfl rfl) ?_
          rintro _ _ ⟨rfl, rfl⟩
          refine XOps.nil ?_
          refine W.ret ?_
          exact ⟨_, hs, (.cons (by first | exact .celln 0 ag4 rfl rfl rfl | exact .cell1 0 ag4 rfl rfl rfl | exact .celln 1 ag4 rfl rfl rfl | exact .cell1 1 ag4 rfl rfl rfl | exact .celln 2 ag4 rfl rfl rfl | exact .cell1 2 ag4 rfl rfl rfl | exact .celln 3 ag4 rfl rfl rfl | exact .cell1 3 ag4 rfl rfl rfl | exact .celln 4 ag4 rfl rfl rfl | exact .cell1 4 ag4 rfl rfl rfl) (.cons (by first | exact .celln 0 ag36 rfl rfl rfl | exact .cell1 0 ag36 rfl rfl rfl | exact .celln 1 ag36 rfl rfl rfl | exact .cell1 1 ag36 rfl rfl rfl | exact .celln 2 ag36 rfl rfl rfl | exact .cell1 2 ag36 rfl rfl rfl | exact .celln 3 ag36 rfl rfl rfl | exact .cell1 3 ag36 rfl rfl rfl | exact .celln 4 ag36 rfl rfl rfl | exact .cell1 4 ag36 rfl rfl rfl) .nil)), HLe.skip _ (HLe.skip _ (HLe.skip _ (HLe.refl _))), rfl, rfl⟩
end Go.Proofs.YtaegeaajhbfkgaaGreatDoorA

