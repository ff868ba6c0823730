/- The laws ReplayGrows and ReplayUndone. -/
import Derived.Test.YtodbcbojkfndiaaDoorFrB
import Derived.Test.YtodbcbojkfndiaaDoorRpD
set_option linter.unusedVariables false
set_option linter.unusedSimpArgs false
set_option linter.unnecessarySimpa false
namespace Go.Proofs.YtodbcbojkfndiaaDoorA.FRpE
open Go
theorem ag9 : tAgg P 9 = some ((false, 1)) := by kernel_rfl
theorem fl34_1 : tFld P 34 1 = some (1) := by kernel_rfl
theorem go10 : callGo Go.Proofs.Tryd.f10 = true := by kernel_rfl
theorem go11 : callGo Go.Proofs.Tryd.f11 = true := by kernel_rfl
theorem go12 : callGo Go.Proofs.Tryd.f12 = true := by kernel_rfl
theorem go13 : callGo Go.Proofs.Tryd.f13 = true := by kernel_rfl
theorem go14 : callGo Go.Proofs.Tryd.f14 = true := by kernel_rfl
theorem go8 : callGo Go.Proofs.Tryd.f8 = true := by kernel_rfl
theorem go9 : callGo Go.Proofs.Tryd.f9 = true := by kernel_rfl
theorem isl22 : isSl P 22 = true := by kernel_rfl
theorem pl34 : tPl P 34 = some ([(0, 1), (1, 1)]) := by kernel_rfl
theorem pl36 : tPl P 36 = some ([(0, 1), (1, 1), (2, 1), (3, 1)]) := by kernel_rfl
theorem sl22 : tSl P 22 = some (2) := by kernel_rfl
theorem sl23 : tSl P 23 = some (4) := by kernel_rfl
theorem tz34 : tZero P 34 = some ([.string ⟨#[]⟩, .string ⟨#[]⟩]) := by kernel_rfl
theorem tz36 : tZero P 36 = some ([.int .i64 0, .int .i64 0, .string ⟨#[]⟩, .string ⟨#[]⟩]) := by kernel_rfl
theorem tzd34 : cellsD [.string ⟨#[]⟩, .string ⟨#[]⟩] = some ([.str ⟨#[]⟩, .str ⟨#[]⟩]) := rfl
theorem tzd36 : cellsD [.int .i64 0, .int .i64 0, .string ⟨#[]⟩, .string ⟨#[]⟩] = some ([.int .i64 0, .int .i64 0, .str ⟨#[]⟩, .str ⟨#[]⟩]) := rfl
theorem zr22 : tZrow P 22 = some ([.string ⟨#[]⟩, .string ⟨#[]⟩]) := by kernel_rfl
theorem zr23 : tZrow P 23 = some ([.int .i64 0, .int .i64 0, .string ⟨#[]⟩, .string ⟨#[]⟩]) := by kernel_rfl
theorem zrd22 : cellsD [.string ⟨#[]⟩, .string ⟨#[]⟩] = some ([.str ⟨#[]⟩, .str ⟨#[]⟩]) := rfl
theorem zrd23 : cellsD [.int .i64 0, .int .i64 0, .string ⟨#[]⟩, .string ⟨#[]⟩] = some ([.int .i64 0, .int .i64 0, .str ⟨#[]⟩, .str ⟨#[]⟩]) := rfl
end Go.Proofs.YtodbcbojkfndiaaDoorA.FRpE
namespace Go.Proofs.YtodbcbojkfndiaaDoorA
open Go FRpE
attribute [local irreducible] XOps Quiet Loud W AC GQ DT
set_option maxHeartbeats 1000000 in
set_option maxRecDepth 100000 in
theorem text_c (n : Int) (hs : Hp) (h0 : -1000000 ≤ n) (h1 : n ≤ 1000000) : AC P 12 [.d (.int .i64 n)] hs (fun r h => r = .d (.str (bs (Lib.itoa n))) ∧ h = hs) := by
  refine AC.of 11 Tryd.func12 rfl rfl rfl ?_
  refine W.reg ?_
  refine XOps.s rfl rfl rfl (Q.assign_d rfl) ?_
  refine XOps.nil ?_
  refine W.seq ?_
  refine W.reg ?_
  refine XOps.s rfl rfl rfl (Q.move_d rfl) ?_
  refine XOps.s rfl rfl rfl (Q.lss rfl rfl) ?_
  refine XOps.nil ?_
  refine W.cond rfl (fun hc4 => ?_) (fun hc4 => ?_)
  · try simp only [Bool.or_eq_true, Bool.or_eq_false_iff, Bool.and_eq_true, Bool.and_eq_false_iff, decide_eq_true_eq, decide_eq_false_iff_not, Bool.not_eq_true', Bool.not_eq_false', Int.not_lt, Int.not_le, List.length_map] at hc4
    obtain ⟨k, rfl⟩ : ∃ k : Nat, n = -(k : Int) := ⟨n.natAbs, by omega⟩
    have he : ⟨#[45]⟩ ++ itoaS k = bs (Lib.itoa (-(k : Int))) := bl_inj (itoaS_neg (by omega))
    rw [← he]
    refine W.reg ?_
    refine XOps.s rfl rfl rfl (Q.move_d rfl) ?_
    refine XOps.s rfl rfl rfl (Q.neg (r := ((k : Nat) : Int)) rfl (by rw [Int.neg_neg]; exact wi64 (by omega) (by omega))) ?_
    refine XOps.s rfl rfl rfl (Q.call rfl Tryd.func13 go13 rfl (rit_c k _ (by omega) (by have := itoaS_size (n := k) (by omega); omega))) ?_
    refine XOps.s rfl rfl rfl (Q.adds rfl rfl (by have := itoaS_size (n := k) (by omega); have h2 : (⟨#[45]⟩ : ByteArray).size = 1 := rfl; omega)) ?_
    refine XOps.s rfl rfl rfl (Q.assign_d rfl) ?_
    refine XOps.nil ?_
    refine W.ret ?_
    exact ⟨_, hs, rfl, HLe.refl _, rfl, rfl⟩
  · try simp only [Bool.or_eq_true, Bool.or_eq_false_iff, Bool.and_eq_true, Bool.and_eq_false_iff, decide_eq_true_eq, decide_eq_false_iff_not, Bool.not_eq_true', Bool.not_eq_false', Int.not_lt, Int.not_le, List.length_map] at hc4
    obtain ⟨k, rfl⟩ : ∃ k : Nat, n = (k : Int) := ⟨n.toNat, by omega⟩
    rw [← itoaS_pos]
    refine W.skip ?_
    refine W.reg ?_
    refine XOps.s rfl rfl rfl (Q.move_d rfl) ?_
    refine XOps.s rfl rfl rfl (Q.call rfl Tryd.func13 go13 rfl (rit_c k _ (by omega) (by have := itoaS_size (n := k) (by omega); omega))) ?_
    refine XOps.s rfl rfl rfl (Q.assign_d rfl) ?_
    refine XOps.nil ?_
    refine W.ret ?_
    exact ⟨_, hs, rfl, HLe.refl _, rfl, rfl⟩

set_option maxHeartbeats 8000000 in
set_option maxRecDepth 100000 in
theorem grows_c (a b c : Int) (gd gs gr : Nat) (ves ver : Value) (o1 : okE ves) (o2 : okE ver) (hs : Hp) : AC P 4 [.d (.int .i64 a), .d (.int .i64 b), .d (.int .i64 c)] (gH gd gs gr ves ver hs) (fun r h => r = .d (.bool true)) := by
  refine AC.of 90 Tryd.func4 rfl rfl rfl ?_
  refine W.reg ?_
  refine XOps.s rfl rfl rfl (Q.assign_d rfl) ?_
  refine XOps.nil ?_
  refine W.reg ?_
  refine XOps.s rfl rfl rfl (Q.move_d rfl) ?_
  refine XOps.s rfl rfl rfl (Q.call rfl Tryd.func8 go8 rfl (rcut_c a (-1000) 1000 _ (by decide) (by decide) (by decide))) ?_
  refine XOps.s rfl rfl rfl (Q.move_d rfl) ?_
  refine XOps.s rfl rfl rfl (Q.call rfl Tryd.func8 go8 rfl (rcut_c b (-1000) 1000 _ (by decide) (by decide) (by decide))) ?_
  refine XOps.s rfl rfl rfl (Q.move_d rfl) ?_
  refine XOps.s rfl rfl rfl (Q.call rfl Tryd.func8 go8 rfl (rcut_c c (-1000) 1000 _ (by decide) (by decide) (by decide))) ?_
  refine XOps.s rfl rfl rfl (Q.assign_d rfl) ?_
  refine XOps.s rfl rfl rfl (Q.assign_d rfl) ?_
  refine XOps.s rfl rfl rfl (Q.assign_d rfl) ?_
  refine XOps.nil ?_
  have ba := cutI_bounds a (lo := -1000) (hi := 1000) (by decide)
  have bb := cutI_bounds b (lo := -1000) (hi := 1000) (by decide)
  have bc := cutI_bounds c (lo := -1000) (hi := 1000) (by decide)
  generalize cutI a (-1000) 1000 = x at ba ⊢
  generalize cutI b (-1000) 1000 = y at bb ⊢
  generalize cutI c (-1000) 1000 = z at bc ⊢
  obtain ⟨g1, g2⟩ := grows (K := ⟨#[107]⟩) (by decide +kernel) (a := x) (b := y) (c := z) ba bb bc (t1 := ⟨#[107, 32]⟩ ++ bs (Lib.itoa y)) (t2 := ⟨#[107, 32]⟩ ++ bs (Lib.itoa z)) (t3 := ⟨#[107, 32]⟩ ++ bs (Lib.itoa (y + z))) (by rw [bl_app]; rfl) (by rw [bl_app]; rfl) (by rw [bl_app]; rfl)
  refine W.reg ?_
  refine XOps.s rfl rfl rfl (Q.assign_fn rfl) ?_
  refine XOps.nil ?_
  refine W.reg ?_
  refine XOps.s rfl rfl rfl (Q.move_fn rfl) ?_
  refine XOps.s rfl rfl rfl (Q.move_d rfl) ?_
  refine XOps.s rfl rfl rfl (Q.call rfl Tryd.func12 go12 rfl (text_c (x) _ (by omega) (by omega))) ?_
  refine XOps.s rfl rfl rfl (Q.build pl34 tz34 tzd34 rfl) ?_
  refine XOps.s rfl rfl rfl (Q.bsl1n sl22 (by decide) zr22 rfl zrd22 rfl rfl (by decide)) ?_
  refine XOps.s rfl rfl rfl (Q.assign_d rfl) ?_
  refine XOps.nil ?_
  refine W.reg ?_
  refine XOps.s rfl rfl rfl (Q.move_d rfl) ?_
  refine XOps.s rfl rfl rfl (Q.move_fn rfl) ?_
  refine XOps.s rfl rfl rfl (Q.move_d rfl) ?_
  refine XOps.s rfl rfl rfl (Q.call rfl Tryd.func12 go12 rfl (text_c (y) _ (by omega) (by omega))) ?_
  refine XOps.s rfl rfl rfl (Q.adds rfl rfl (by have := itoa_size (n := y) (by omega) (by omega); have h2 : (⟨#[107, 32]⟩ : ByteArray).size = 2 := rfl; omega)) ?_
  refine XOps.s rfl rfl rfl (Q.build pl36 tz36 tzd36 rfl) ?_
  refine XOps.s rfl rfl rfl (Q.move_fn rfl) ?_
  refine XOps.s rfl rfl rfl (Q.move_d rfl) ?_
  refine XOps.s rfl rfl rfl (Q.call rfl Tryd.func12 go12 rfl (text_c (z) _ (by omega) (by omega))) ?_
  refine XOps.s rfl rfl rfl (Q.adds rfl rfl (by have := itoa_size (n := z) (by omega) (by omega); have h2 : (⟨#[107, 32]⟩ : ByteArray).size = 2 := rfl; omega)) ?_
  refine XOps.s rfl rfl rfl (Q.build pl36 tz36 tzd36 rfl) ?_
  refine XOps.s rfl rfl rfl (Q.bsl sl23 (by decide) zr23 rfl zrd23 (by decide) rfl rfl) ?_
  refine XOps.s rfl rfl rfl (Q.call rfl Tryd.func9 go9 rfl (run_c [(⟨⟨#[107]⟩, bs (Lib.itoa x)⟩ : SR)] [(⟨1, 0, growK, (⟨#[107, 32]⟩ : ByteArray) ++ bs (Lib.itoa (y))⟩ : EN), (⟨2, 0, growK, (⟨#[107, 32]⟩ : ByteArray) ++ bs (Lib.itoa (z))⟩ : EN)] gd gs gr ves ver o1 o2 hs (by simp) (fun r hr => by simp at hr; subst hr; exact ⟨by show 1 ≤ _; decide, by have := itoa_size (n := x) (by omega) (by omega); dsimp only; omega⟩) (by simp) (szE_two ⟨by show 4 ≤ _; decide, by dsimp only; rw [ByteArray.size_append]; have := itoa_size (n := y) (by omega) (by omega); have h2 : (⟨#[107, 32]⟩ : ByteArray).size = 2 := rfl; omega⟩ ⟨by show 4 ≤ _; decide, by dsimp only; rw [ByteArray.size_append]; have := itoa_size (n := z) (by omega) (by omega); have h2 : (⟨#[107, 32]⟩ : ByteArray).size = 2 := rfl; omega⟩))) ?_
  refine XOps.s rfl rfl rfl (Q.move_tup rfl) ?_
  refine XOps.s rfl rfl rfl (Q.extract rfl rfl) ?_
  refine XOps.s rfl rfl rfl (Q.extract rfl rfl) ?_
  refine XOps.s rfl rfl rfl (Q.extract rfl rfl) ?_
  refine XOps.s rfl rfl rfl (Q.assign_d rfl) ?_
  refine XOps.s rfl rfl rfl (Q.assign_d rfl) ?_
  refine XOps.s rfl rfl rfl (Q.assign_d rfl) ?_
  refine XOps.nil ?_
  rw [g1]
  refine W.reg ?_
  refine XOps.s rfl rfl rfl (Q.move_d rfl) ?_
  refine XOps.s rfl rfl rfl (Q.move_fn rfl) ?_
  refine XOps.s rfl rfl rfl (Q.move_d rfl) ?_
  refine XOps.s rfl rfl rfl (Q.move_d rfl) ?_
  refine XOps.s rfl rfl rfl (Q.add rfl rfl (wi64 (by first | omega | (dsimp only; omega) | (simp only [List.length_map]; omega)) (by first | omega | (dsimp only; omega) | (simp only [List.length_map]; omega)))) ?_
  refine XOps.s rfl rfl rfl (Q.call rfl Tryd.func12 go12 rfl (text_c (y + z) _ (by omega) (by omega))) ?_
  refine XOps.s rfl rfl rfl (Q.adds rfl rfl (by have := itoa_size (n := (y + z)) (by omega) (by omega); have h2 : (⟨#[107, 32]⟩ : ByteArray).size = 2 := rfl; omega)) ?_
  refine XOps.s rfl rfl rfl (Q.build pl36 tz36 tzd36 rfl) ?_
  refine XOps.s rfl rfl rfl (Q.bsl1n sl23 (by decide) zr23 rfl zrd23 rfl rfl (by decide)) ?_
  refine XOps.s rfl rfl rfl (Q.call rfl Tryd.func9 go9 rfl (run_c [(⟨⟨#[107]⟩, bs (Lib.itoa x)⟩ : SR)] [(⟨1, 0, growK, (⟨#[107, 32]⟩ : ByteArray) ++ bs (Lib.itoa (y + z))⟩ : EN)] gd gs gr ves ver o1 o2 hs (by simp) (fun r hr => by simp at hr; subst hr; exact ⟨by show 1 ≤ _; decide, by have := itoa_size (n := x) (by omega) (by omega); dsimp only; omega⟩) (by simp) (szE_one ⟨by show 4 ≤ _; decide, by dsimp only; rw [ByteArray.size_append]; have := itoa_size (n := (y + z)) (by omega) (by omega); have h2 : (⟨#[107, 32]⟩ : ByteArray).size = 2 := rfl; omega⟩))) ?_
  refine XOps.s rfl rfl rfl (Q.move_tup rfl) ?_
  refine XOps.s rfl rfl rfl (Q.extract rfl rfl) ?_
  refine XOps.s rfl rfl rfl (Q.extract rfl rfl) ?_
  refine XOps.s rfl rfl rfl (Q.extract rfl rfl) ?_
  refine XOps.s rfl rfl rfl (Q.assign_d rfl) ?_
  refine XOps.s rfl rfl rfl (Q.assign_d rfl) ?_
  refine XOps.s rfl rfl rfl (Q.assign_d rfl) ?_
  refine XOps.nil ?_
  rw [g2]
  refine W.drawreg 33 follows (by kernel_rfl) ?_
  refine Chain.cons _ (GQ.q rfl (Q.call rfl Tryd.func10 go10 rfl (pfact_c gd gs gr ves ver o1 o2 hs))) rfl ?_
  refine Chain.cons _ (GQ.q rfl (Q.move_d rfl)) rfl ?_
  refine Chain.cons _ (GQ.g rfl rfl rfl rfl rfl (fun hg => Q.move_d rfl)) rfl ?_
  refine Chain.cons _ (GQ.g rfl rfl rfl rfl rfl (fun hg => Quiet.open 59 hg rfl (Q.eql rfl rfl))) rfl ?_
  refine Chain.cons _ (GQ.q rfl (Q.pick_and rfl rfl rfl (fun h => by first | (rw [h]; rfl) | (rw [hg, h]; rfl) | (simp [h, hg]; done)))) rfl ?_
  refine Chain.cons _ (GQ.q rfl (Q.move_d rfl)) rfl ?_
  refine Chain.cons _ (GQ.g rfl rfl rfl rfl rfl (fun hg => Q.move_d rfl)) rfl ?_
  refine Chain.cons _ (GQ.g rfl rfl rfl rfl rfl (fun hg => Quiet.open 63 hg rfl (Q.eql rfl rfl))) rfl ?_
  refine Chain.cons _ (GQ.q rfl (Q.pick_and rfl rfl rfl (fun h => by first | (rw [h]; rfl) | (rw [hg, h]; rfl) | (simp [h, hg]; done)))) rfl ?_
  refine Chain.cons _ (GQ.q rfl (Q.move_d rfl)) rfl ?_
  refine Chain.cons _ (GQ.g rfl rfl rfl rfl rfl (fun hg => Q.move_d rfl)) rfl ?_
  refine Chain.cons _ (GQ.g rfl rfl rfl rfl rfl (fun hg => Q.move_d rfl)) rfl ?_
  refine Chain.cons _ (GQ.g rfl rfl rfl rfl rfl (fun hg => Quiet.open 67 hg rfl (Quiet.open 68 hg rfl (Q.call rfl Tryd.func11 go11 rfl (same_c [⟨⟨#[107]⟩, bs (Lib.itoa (x + y + z))⟩] [⟨⟨#[107]⟩, bs (Lib.itoa (x + y + z))⟩] _ (by simp)))))) rfl ?_
  refine Chain.cons _ (GQ.q rfl (Q.pick_and rfl rfl rfl (fun h => by first | (rw [h]; rfl) | (rw [hg, h]; rfl) | (simp [h, hg]; done)))) rfl ?_
  refine Chain.cons _ (GQ.q rfl (Q.move_d rfl)) rfl ?_
  refine Chain.cons _ (GQ.g rfl rfl rfl rfl rfl (fun hg => Q.move_d rfl)) rfl ?_
  refine Chain.cons _ (GQ.g rfl rfl rfl rfl rfl (fun hg => Quiet.open 72 hg rfl (Q.len_sl isl22 rfl))) rfl ?_
  refine Chain.cons _ (GQ.g rfl rfl rfl rfl rfl (fun hg => Quiet.open 73 hg rfl (Q.eql rfl rfl))) rfl ?_
  refine Chain.cons _ (GQ.q rfl (Q.pick_and rfl rfl rfl (fun h => by first | (rw [h]; rfl) | (rw [hg, h]; rfl) | (simp [h, hg]; done)))) rfl ?_
  refine Chain.cons _ (GQ.q rfl (Q.move_d rfl)) rfl ?_
  refine Chain.cons _ (GQ.g rfl rfl rfl rfl rfl (fun hg => Q.move_d rfl)) rfl ?_
  refine Chain.cons _ (GQ.g rfl rfl rfl rfl rfl (fun hg => Quiet.open 77 hg rfl (Q.idx_sl sl22 (by decide) rfl rfl (by first | omega | (simp only [List.length_map]; omega)) (by first | rfl | exact rfl)))) rfl ?_
  refine Chain.cons _ (GQ.g rfl rfl rfl rfl rfl (fun hg => Quiet.open 78 hg rfl (Q.fld_dp fl34_1 rfl))) rfl ?_
  refine Chain.cons _ (GQ.g rfl rfl rfl rfl rfl (fun hg => Quiet.open 79 hg rfl (Q.ld_dp ag9 rfl rfl))) rfl ?_
  refine Chain.cons _ (GQ.g rfl rfl rfl rfl rfl (fun hg => Q.move_fn rfl)) rfl ?_
  refine Chain.cons _ (GQ.g rfl rfl rfl rfl rfl (fun hg => Q.move_d rfl)) rfl ?_
  refine Chain.cons _ (GQ.g rfl rfl rfl rfl rfl (fun hg => Q.move_d rfl)) rfl ?_
  refine Chain.cons _ (GQ.g rfl rfl rfl rfl rfl (fun hg => Quiet.open 82 hg rfl (Quiet.open 83 hg rfl (Q.add rfl rfl (wi64 (by first | omega | (dsimp only; omega) | (simp only [List.length_map]; omega)) (by first | omega | (dsimp only; omega) | (simp only [List.length_map]; omega))))))) rfl ?_
  refine Chain.cons _ (GQ.g rfl rfl rfl rfl rfl (fun hg => Q.move_d rfl)) rfl ?_
  refine Chain.cons _ (GQ.g rfl rfl rfl rfl rfl (fun hg => Quiet.open 84 hg rfl (Quiet.open 85 hg rfl (Q.add rfl rfl (wi64 (by first | omega | (dsimp only; omega) | (simp only [List.length_map]; omega)) (by first | omega | (dsimp only; omega) | (simp only [List.length_map]; omega))))))) rfl ?_
  refine Chain.cons _ (GQ.g rfl rfl rfl rfl rfl (fun hg => Quiet.open 81 hg rfl (Quiet.open 86 hg rfl (Q.call rfl Tryd.func12 go12 rfl (text_c (x + y + z) _ (by omega) (by omega)))))) rfl ?_
  refine Chain.cons _ (GQ.g rfl rfl rfl rfl rfl (fun hg => Quiet.open 80 hg rfl (Quiet.open 87 hg rfl (Q.eql_str rfl rfl)))) rfl ?_
  refine Chain.cons _ (GQ.q rfl (Q.pick_and rfl rfl rfl (fun h => by first | (rw [h]; rfl) | (rw [hg, h]; rfl) | (simp [h, hg]; done)))) rfl ?_
  refine Chain.nil ?_
  refine XOps.s rfl rfl rfl (Q.assign_d rfl) ?_
  refine XOps.nil ?_
  refine W.ret ?_
  refine ⟨_, _, rfl, HLe.refl _, ?_⟩
  show AV.d (.bool _) = _
  refine congrArg (fun b => AV.d (D.bool b)) ?_
  simp

theorem undone_fin {l : List SR} {es : List EN} (h : (runV l es).2.2 = 0 → (runV l es).1 = l) : (true && (!decide ((runV l es).2.2 = 0) && decide (((((runV l es).1.map SR.enc).length : Nat) : Int) = 0) || decide ((runV l es).2.2 = 0) && decide (l = (runV l es).1))) = true := by
  by_cases h0 : (runV l es).2.2 = 0
  · rw [decide_eq_true h0, decide_eq_true (h h0).symm]; simp
  · rw [runV_err h0, decide_eq_false h0]; rfl

set_option maxHeartbeats 8000000 in
set_option maxRecDepth 100000 in
theorem undone_c (l : List SR) (key : ByteArray) (n : Int) (gd gs gr : Nat) (ves ver : Value) (o1 : okE ves) (o2 : okE ver) (hs : Hp) (hL : l.length ≤ 4398046511104) (hz : szR l) (hk : key.size ≤ 140737488355000 - 3000) : AC P 5 [.d (.sl 2 (l.map SR.enc)), .d (.str key), .d (.int .i64 n)] (gH gd gs gr ves ver hs) (fun r h => r = .d (.bool true)) := by
  refine AC.of 94 Tryd.func5 rfl rfl rfl ?_
  refine W.reg ?_
  refine XOps.s rfl rfl rfl (Q.assign_d rfl) ?_
  refine XOps.nil ?_
  refine W.seq ?_
  refine W.reg ?_
  refine XOps.s rfl rfl rfl (Q.move_d rfl) ?_
  refine XOps.s rfl rfl rfl (Q.move_d rfl) ?_
  refine XOps.s rfl rfl rfl (Q.call rfl Tryd.func14 go14 rfl (get_c l key _ (by omega) hz)) ?_
  refine XOps.s rfl rfl rfl (Q.move_tup rfl) ?_
  refine XOps.s rfl rfl rfl (Q.extract rfl rfl) ?_
  refine XOps.s rfl rfl rfl (Q.extract rfl rfl) ?_
  refine XOps.s rfl rfl rfl (Q.assign_d rfl) ?_
  refine XOps.s rfl rfl rfl (Q.assign_d rfl) ?_
  refine XOps.nil ?_
  refine W.reg ?_
  refine XOps.s rfl rfl rfl (Q.move_d rfl) ?_
  refine XOps.s rfl rfl rfl (Q.eql rfl rfl) ?_
  refine XOps.nil ?_
  refine W.cond rfl (fun hc22 => ?_) (fun hc22 => ?_)
  · try simp only [Bool.or_eq_true, Bool.or_eq_false_iff, Bool.and_eq_true, Bool.and_eq_false_iff, decide_eq_true_eq, decide_eq_false_iff_not, Bool.not_eq_true', Bool.not_eq_false', Int.not_lt, Int.not_le, List.length_map] at hc22
    have h22 : getE l key = 0 := by first | exact hc22 | (simpa using hc22)
    obtain ⟨q, hq, hq1⟩ : ∃ q : Nat, cutI n 1 99 = q ∧ 0 < q ∧ q < 100 := by
      have := cutI_bounds n (lo := 1) (hi := 99) (by decide)
      exact ⟨(cutI n 1 99).toNat, by omega, by omega⟩
    have hqs := itoaS_size (n := q) (by omega)
    have hu := undone1 (l := l) (K := key) (t1 := key ++ (⟨#[32]⟩ : ByteArray) ++ itoaS q) (t2 := key ++ (⟨#[32, 45]⟩ : ByteArray) ++ itoaS q) (n := (q : Int)) h22 (by omega) (by rw [← itoaS_pos, bl_app, bl_app]; simp [bl]) (by rw [← itoaS_neg (by omega), bl_app, bl_app, bl_app]; simp [bl])
    refine W.reg ?_
    refine XOps.s rfl rfl rfl (Q.move_d rfl) ?_
    refine XOps.s rfl rfl rfl (Q.call rfl Tryd.func8 go8 rfl (rcut_c n 1 99 _ (by decide) (by decide) (by decide))) ?_
    refine XOps.s rfl rfl rfl (Q.assign_d rfl) ?_
    refine XOps.nil ?_
    rw [hq]
    refine W.reg ?_
    refine XOps.s rfl rfl rfl (Q.move_d rfl) ?_
    refine XOps.s rfl rfl rfl (Q.move_d rfl) ?_
    refine XOps.s rfl rfl rfl (Q.adds rfl rfl (by have h2 : (⟨#[32]⟩ : ByteArray).size = 1 := rfl; have h3 : (⟨#[32, 45]⟩ : ByteArray).size = 2 := rfl; have h4 : (⟨#[32, 120]⟩ : ByteArray).size = 2 := rfl; first | omega | (simp only [ByteArray.size_append]; omega))) ?_
    refine XOps.s rfl rfl rfl (Q.move_d rfl) ?_
    refine XOps.s rfl rfl rfl (Q.call rfl Tryd.func13 go13 rfl (rit_c q _ (by omega) (by omega))) ?_
    refine XOps.s rfl rfl rfl (Q.adds rfl rfl (by have h2 : (⟨#[32]⟩ : ByteArray).size = 1 := rfl; have h3 : (⟨#[32, 45]⟩ : ByteArray).size = 2 := rfl; have h4 : (⟨#[32, 120]⟩ : ByteArray).size = 2 := rfl; first | omega | (simp only [ByteArray.size_append]; omega))) ?_
    refine XOps.s rfl rfl rfl (Q.build pl36 tz36 tzd36 rfl) ?_
    refine XOps.s rfl rfl rfl (Q.move_d rfl) ?_
    refine XOps.s rfl rfl rfl (Q.adds rfl rfl (by have h2 : (⟨#[32]⟩ : ByteArray).size = 1 := rfl; have h3 : (⟨#[32, 45]⟩ : ByteArray).size = 2 := rfl; have h4 : (⟨#[32, 120]⟩ : ByteArray).size = 2 := rfl; first | omega | (simp only [ByteArray.size_append]; omega))) ?_
    refine XOps.s rfl rfl rfl (Q.move_d rfl) ?_
    refine XOps.s rfl rfl rfl (Q.call rfl Tryd.func13 go13 rfl (rit_c q _ (by omega) (by omega))) ?_
    refine XOps.s rfl rfl rfl (Q.adds rfl rfl (by have h2 : (⟨#[32]⟩ : ByteArray).size = 1 := rfl; have h3 : (⟨#[32, 45]⟩ : ByteArray).size = 2 := rfl; have h4 : (⟨#[32, 120]⟩ : ByteArray).size = 2 := rfl; first | omega | (simp only [ByteArray.size_append]; omega))) ?_
    refine XOps.s rfl rfl rfl (Q.build pl36 tz36 tzd36 rfl) ?_
    refine XOps.s rfl rfl rfl (Q.bsl sl23 (by decide) zr23 rfl zrd23 (by decide) rfl rfl) ?_
    refine XOps.s rfl rfl rfl (Q.call rfl Tryd.func9 go9 rfl (run_c l ([(⟨1, 0, growK, key ++ (⟨#[32]⟩ : ByteArray) ++ itoaS q⟩ : EN), ⟨2, 0, growK, key ++ (⟨#[32, 45]⟩ : ByteArray) ++ itoaS q⟩]) gd gs gr ves ver o1 o2 hs hL hz (by simp) (szE_two ⟨by show 4 ≤ _; decide, by dsimp only; have h2 : (⟨#[32]⟩ : ByteArray).size = 1 := rfl; have h3 : (⟨#[32, 45]⟩ : ByteArray).size = 2 := rfl; have h4 : (⟨#[32, 120]⟩ : ByteArray).size = 2 := rfl; first | omega | (simp only [ByteArray.size_append]; omega)⟩ ⟨by show 4 ≤ _; decide, by dsimp only; have h2 : (⟨#[32]⟩ : ByteArray).size = 1 := rfl; have h3 : (⟨#[32, 45]⟩ : ByteArray).size = 2 := rfl; have h4 : (⟨#[32, 120]⟩ : ByteArray).size = 2 := rfl; first | omega | (simp only [ByteArray.size_append]; omega)⟩))) ?_
    refine XOps.s rfl rfl rfl (Q.move_tup rfl) ?_
    refine XOps.s rfl rfl rfl (Q.extract rfl rfl) ?_
    refine XOps.s rfl rfl rfl (Q.extract rfl rfl) ?_
    refine XOps.s rfl rfl rfl (Q.extract rfl rfl) ?_
    refine XOps.s rfl rfl rfl (Q.assign_d rfl) ?_
    refine XOps.s rfl rfl rfl (Q.assign_d rfl) ?_
    refine XOps.s rfl rfl rfl (Q.assign_d rfl) ?_
    refine XOps.nil ?_
    refine W.reg ?_
    refine XOps.s rfl rfl rfl (Q.call rfl Tryd.func10 go10 rfl (pfact_c gd gs gr ves ver o1 o2 hs)) ?_
    refine XOps.s rfl rfl rfl (Q.move_d rfl) ?_
    refine XOps.gs rfl rfl rfl rfl rfl rfl rfl (fun hg => Q.move_d rfl) ?_
    refine XOps.gs rfl rfl rfl rfl rfl rfl rfl (fun hg => Quiet.open 46 hg rfl (Q.neq rfl rfl)) ?_
    refine XOps.gs rfl rfl rfl rfl rfl rfl rfl (fun hg => Quiet.open 47 hg rfl (Q.move_d rfl)) ?_
    refine XOps.gsw rfl rfl rfl rfl rfl rfl rfl (fun hg => Q.move_d rfl) ?_
    refine XOps.gsw rfl rfl rfl rfl rfl rfl rfl (fun hg => Quiet.open 49 hg rfl (Q.len_sl isl22 rfl)) ?_
    refine XOps.gsw rfl rfl rfl rfl rfl rfl rfl (fun hg => Quiet.open 50 hg rfl (Q.eql rfl rfl)) ?_
    refine XOps.gs rfl rfl rfl rfl rfl rfl rfl (fun hg => Quiet.open 48 hg rfl (Q.pick_and rfl rfl rfl (fun h => by first | (rw [h]; rfl) | (rw [hg, h]; rfl) | (simp [h, hg]; done)))) ?_
    refine XOps.gs rfl rfl rfl rfl rfl rfl rfl (fun hg => Quiet.open 52 hg rfl (Q.move_d rfl)) ?_
    refine XOps.gsw rfl rfl rfl rfl rfl rfl rfl (fun hg => Q.move_d rfl) ?_
    refine XOps.gsw rfl rfl rfl rfl rfl rfl rfl (fun hg => Quiet.open 54 hg rfl (Q.eql rfl rfl)) ?_
    refine XOps.gsw rfl rfl rfl rfl rfl rfl rfl (fun hg => Quiet.open 55 hg rfl (Q.move_d rfl)) ?_
    refine XOps.gsw rfl rfl rfl rfl rfl rfl rfl (fun hg => Q.move_d rfl) ?_
    refine XOps.gsw rfl rfl rfl rfl rfl rfl rfl (fun hg => Q.move_d rfl) ?_
    refine XOps.gsw rfl rfl rfl rfl rfl rfl rfl (fun hg => Quiet.open 57 hg rfl (Quiet.open 58 hg rfl (Q.call rfl Tryd.func11 go11 rfl (same_c l (runV l ([(⟨1, 0, growK, key ++ (⟨#[32]⟩ : ByteArray) ++ itoaS q⟩ : EN), ⟨2, 0, growK, key ++ (⟨#[32, 45]⟩ : ByteArray) ++ itoaS q⟩])).1 _ (by omega))))) ?_
    refine XOps.gsw rfl rfl rfl rfl rfl rfl rfl (fun hg => Quiet.open 56 hg rfl (Q.pick_and rfl rfl rfl (fun h => by first | (rw [h]; rfl) | (rw [hg, h]; rfl) | (simp [h, hg]; done)))) ?_
    refine XOps.gs rfl rfl rfl rfl rfl rfl rfl (fun hg => Quiet.open 53 hg rfl (Q.pick_or rfl rfl rfl (fun h => by first | (rw [h]; rfl) | (rw [hg, h]; rfl) | (simp [h, hg]; done)))) ?_
    refine XOps.s rfl rfl rfl (Q.pick_and rfl rfl rfl (fun h => by first | (rw [h]; rfl) | (rw [hg, h]; rfl) | (simp [h, hg]; done))) ?_
    refine XOps.s rfl rfl rfl (Q.assign_d rfl) ?_
    refine XOps.nil ?_
    refine W.ret ?_
    refine ⟨_, _, rfl, HLe.refl _, ?_⟩
    show AV.d (.bool _) = _
    refine congrArg (fun b => AV.d (D.bool b)) ?_
    exact undone_fin hu
  · try simp only [Bool.or_eq_true, Bool.or_eq_false_iff, Bool.and_eq_true, Bool.and_eq_false_iff, decide_eq_true_eq, decide_eq_false_iff_not, Bool.not_eq_true', Bool.not_eq_false', Int.not_lt, Int.not_le, List.length_map] at hc22
    have h22 : getE l key ≠ 0 := by first | exact hc22 | (simpa using hc22)
    have hu := undone2 (l := l) (K := key) (t1 := key ++ (⟨#[32, 120]⟩ : ByteArray)) h22 (by rw [bl_app]; rfl)
    refine W.skip ?_
    refine W.reg ?_
    refine XOps.s rfl rfl rfl (Q.move_d rfl) ?_
    refine XOps.s rfl rfl rfl (Q.move_d rfl) ?_
    refine XOps.s rfl rfl rfl (Q.adds rfl rfl (by have h2 : (⟨#[32]⟩ : ByteArray).size = 1 := rfl; have h3 : (⟨#[32, 45]⟩ : ByteArray).size = 2 := rfl; have h4 : (⟨#[32, 120]⟩ : ByteArray).size = 2 := rfl; first | omega | (simp only [ByteArray.size_append]; omega))) ?_
    refine XOps.s rfl rfl rfl (Q.build pl36 tz36 tzd36 rfl) ?_
    refine XOps.s rfl rfl rfl (Q.move_d rfl) ?_
    refine XOps.s rfl rfl rfl (Q.build pl36 tz36 tzd36 rfl) ?_
    refine XOps.s rfl rfl rfl (Q.bsl sl23 (by decide) zr23 rfl zrd23 (by decide) rfl rfl) ?_
    refine XOps.s rfl rfl rfl (Q.call rfl Tryd.func9 go9 rfl (run_c l ([(⟨7, 0, setK, key ++ (⟨#[32, 120]⟩ : ByteArray)⟩ : EN), ⟨8, 0, cutK, key⟩]) gd gs gr ves ver o1 o2 hs hL hz (by simp) (szE_two ⟨by show 3 ≤ _; decide, by dsimp only; have h2 : (⟨#[32]⟩ : ByteArray).size = 1 := rfl; have h3 : (⟨#[32, 45]⟩ : ByteArray).size = 2 := rfl; have h4 : (⟨#[32, 120]⟩ : ByteArray).size = 2 := rfl; first | omega | (simp only [ByteArray.size_append]; omega)⟩ ⟨by show 3 ≤ _; decide, by dsimp only; have h2 : (⟨#[32]⟩ : ByteArray).size = 1 := rfl; have h3 : (⟨#[32, 45]⟩ : ByteArray).size = 2 := rfl; have h4 : (⟨#[32, 120]⟩ : ByteArray).size = 2 := rfl; first | omega | (simp only [ByteArray.size_append]; omega)⟩))) ?_
    refine XOps.s rfl rfl rfl (Q.move_tup rfl) ?_
    refine XOps.s rfl rfl rfl (Q.extract rfl rfl) ?_
    refine XOps.s rfl rfl rfl (Q.extract rfl rfl) ?_
    refine XOps.s rfl rfl rfl (Q.extract rfl rfl) ?_
    refine XOps.s rfl rfl rfl (Q.assign_d rfl) ?_
    refine XOps.s rfl rfl rfl (Q.assign_d rfl) ?_
    refine XOps.s rfl rfl rfl (Q.assign_d rfl) ?_
    refine XOps.nil ?_
    refine W.reg ?_
    refine XOps.s rfl rfl rfl (Q.call rfl Tryd.func10 go10 rfl (pfact_c gd gs gr ves ver o1 o2 hs)) ?_
    refine XOps.s rfl rfl rfl (Q.move_d rfl) ?_
    refine XOps.gs rfl rfl rfl rfl rfl rfl rfl (fun hg => Q.move_d rfl) ?_
    refine XOps.gs rfl rfl rfl rfl rfl rfl rfl (fun hg => Quiet.open 77 hg rfl (Q.neq rfl rfl)) ?_
    refine XOps.gs rfl rfl rfl rfl rfl rfl rfl (fun hg => Quiet.open 78 hg rfl (Q.move_d rfl)) ?_
    refine XOps.gsw rfl rfl rfl rfl rfl rfl rfl (fun hg => Q.move_d rfl) ?_
    refine XOps.gsw rfl rfl rfl rfl rfl rfl rfl (fun hg => Quiet.open 80 hg rfl (Q.len_sl isl22 rfl)) ?_
    refine XOps.gsw rfl rfl rfl rfl rfl rfl rfl (fun hg => Quiet.open 81 hg rfl (Q.eql rfl rfl)) ?_
    refine XOps.gs rfl rfl rfl rfl rfl rfl rfl (fun hg => Quiet.open 79 hg rfl (Q.pick_and rfl rfl rfl (fun h => by first | (rw [h]; rfl) | (rw [hg, h]; rfl) | (simp [h, hg]; done)))) ?_
    refine XOps.gs rfl rfl rfl rfl rfl rfl rfl (fun hg => Quiet.open 83 hg rfl (Q.move_d rfl)) ?_
    refine XOps.gsw rfl rfl rfl rfl rfl rfl rfl (fun hg => Q.move_d rfl) ?_
    refine XOps.gsw rfl rfl rfl rfl rfl rfl rfl (fun hg => Quiet.open 85 hg rfl (Q.eql rfl rfl)) ?_
    refine XOps.gsw rfl rfl rfl rfl rfl rfl rfl (fun hg => Quiet.open 86 hg rfl (Q.move_d rfl)) ?_
    refine XOps.gsw rfl rfl rfl rfl rfl rfl rfl (fun hg => Q.move_d rfl) ?_
    refine XOps.gsw rfl rfl rfl rfl rfl rfl rfl (fun hg => Q.move_d rfl) ?_
    refine XOps.gsw rfl rfl rfl rfl rfl rfl rfl (fun hg => Quiet.open 88 hg rfl (Quiet.open 89 hg rfl (Q.call rfl Tryd.func11 go11 rfl (same_c l (runV l ([(⟨7, 0, setK, key ++ (⟨#[32, 120]⟩ : ByteArray)⟩ : EN), ⟨8, 0, cutK, key⟩])).1 _ (by omega))))) ?_
    refine XOps.gsw rfl rfl rfl rfl rfl rfl rfl (fun hg => Quiet.open 87 hg rfl (Q.pick_and rfl rfl rfl (fun h => by first | (rw [h]; rfl) | (rw [hg, h]; rfl) | (simp [h, hg]; done)))) ?_
    refine XOps.gs rfl rfl rfl rfl rfl rfl rfl (fun hg => Quiet.open 84 hg rfl (Q.pick_or rfl rfl rfl (fun h => by first | (rw [h]; rfl) | (rw [hg, h]; rfl) | (simp [h, hg]; done)))) ?_
    refine XOps.s rfl rfl rfl (Q.pick_and rfl rfl rfl (fun h => by first | (rw [h]; rfl) | (rw [hg, h]; rfl) | (simp [h, hg]; done))) ?_
    refine XOps.s rfl rfl rfl (Q.assign_d rfl) ?_
    refine XOps.nil ?_
    refine W.ret ?_
    refine ⟨_, _, rfl, HLe.refl _, ?_⟩
    show AV.d (.bool _) = _
    refine congrArg (fun b => AV.d (D.bool b)) ?_
    exact undone_fin hu
end Go.Proofs.YtodbcbojkfndiaaDoorA
