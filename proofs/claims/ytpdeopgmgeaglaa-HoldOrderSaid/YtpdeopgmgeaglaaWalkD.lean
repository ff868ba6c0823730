/- The laws HoldWaits, HoldApart and HoldDown, walked. -/
import Derived.Test.YtpdeopgmgeaglaaBase
import Derived.Test.YtpdeopgmgeaglaaWalkC
set_option linter.unusedVariables false
set_option linter.unusedSimpArgs false
set_option linter.unnecessarySimpa false
namespace Go.Proofs.YtpdeopgmgeaglaaA.FWalkD
open Go
theorem ag3 : tAgg P 3 = some ((false, 1)) := by kernel_rfl
theorem ag39 : tAgg P 39 = some ((true, 3)) := by kernel_rfl
theorem fl39_1 : tFld P 39 1 = some (1) := by kernel_rfl
theorem go10 : callGo Go.Proofs.Try.f10 = true := by kernel_rfl
theorem go11 : callGo Go.Proofs.Try.f11 = true := by kernel_rfl
theorem go12 : callGo Go.Proofs.Try.f12 = true := by kernel_rfl
theorem go13 : callGo Go.Proofs.Try.f13 = true := by kernel_rfl
theorem go7 : callGo Go.Proofs.Try.f7 = true := by kernel_rfl
theorem go8 : callGo Go.Proofs.Try.f8 = true := by kernel_rfl
theorem go9 : callGo Go.Proofs.Try.f9 = true := by kernel_rfl
theorem ipt23 : isPtr P 23 = true := by kernel_rfl
theorem isl36 : isSl P 36 = true := by kernel_rfl
theorem pl28 : tPl P 28 = some ([(0, 1), (1, 1), (2, 1)]) := by kernel_rfl
theorem sl32 : tSl P 32 = some (1) := by kernel_rfl
theorem sl36 : tSl P 36 = some (3) := by kernel_rfl
theorem tz28 : tZero P 28 = some ([.int .i64 0, .int .i64 0, .int .i64 0]) := by kernel_rfl
theorem tz39 : tZero P 39 = some ([.string ⟨#[]⟩, .int .i64 0, .int .i64 0]) := by kernel_rfl
theorem tzd28 : cellsD [.int .i64 0, .int .i64 0, .int .i64 0] = some ([.int .i64 0, .int .i64 0, .int .i64 0]) := rfl
theorem zr32 : tZrow P 32 = some ([.int .i64 0]) := by kernel_rfl
theorem zrd32 : cellsD [.int .i64 0] = some ([.int .i64 0]) := rfl
end Go.Proofs.YtpdeopgmgeaglaaA.FWalkD
namespace Go.Proofs.YtpdeopgmgeaglaaA
open Go FWalkD
theorem list_f (b id : Nat) (s : HSt) (hs : Hp) (hl : s.l.length ≤ 1000) : AC P 12 [.ptr b 0] (stH b s id hs) (fun r h => r = .d (.sl 3 (s.l.map Lv.enc)) ∧ h = stH b s id hs) :=
  AC.frz ((list_c b id s hs hl).mono fun r h ⟨v, h1, h2⟩ => ⟨v, h2, h1 ▸ .vs (by simp)⟩)

set_option maxHeartbeats 1000000 in
set_option maxRecDepth 100000 in
theorem waits_c (low enter leave : Int) (hs : Hp) : AC P 3 [.d (.int .i64 low), .d (.int .i64 enter), .d (.int .i64 leave)] hs (fun r _ => r = .d (.bool true)) := by
  have ha := cutI_bounds low (show (0 : Int) ≤ 9000 by decide)
  have ht := cutI_bounds enter (show (0 : Int) ≤ 1000 by decide)
  have hd := cutI_bounds leave (show (0 : Int) ≤ 1000 by decide)
  obtain ⟨e1, v1, e2, v2, e3, v3⟩ := waits (cutI low 0 9000) (cutI enter 0 1000) (cutI leave 0 1000) ha ht hd
  have ok0 : HSt.ok ⟨(cutI low 0 9000), (cutI low 0 9000) + 1000, 500, [], 0⟩ := ⟨by dsimp only; omega, by dsimp only; omega, by dsimp only; omega, by dsimp only; omega, by simp, by simp⟩
  have ok1 : HSt.ok ⟨(cutI low 0 9000), (cutI low 0 9000) + 1000, 500, [⟨nmA, (cutI low 0 9000), (cutI enter 0 1000)⟩], (cutI enter 0 1000)⟩ := ⟨by dsimp only; omega, by dsimp only; omega, by dsimp only; omega, by dsimp only; omega, by simp, by simp; omega⟩
  have ok2 : HSt.ok ⟨(cutI low 0 9000), (cutI low 0 9000) + 1000, 500, [⟨nmA, (cutI low 0 9000), (cutI enter 0 1000)⟩, ⟨nmB, (cutI low 0 9000) + 500, (cutI enter 0 1000)⟩], (cutI enter 0 1000)⟩ := ⟨by dsimp only; omega, by dsimp only; omega, by dsimp only; omega, by dsimp only; omega, by simp, by simp; omega⟩
  have t1 : HSt.enter ⟨(cutI low 0 9000), (cutI low 0 9000) + 1000, 500, [], 0⟩ nmA (cutI enter 0 1000) = ⟨(cutI low 0 9000), (cutI low 0 9000) + 1000, 500, [⟨nmA, (cutI low 0 9000), (cutI enter 0 1000)⟩], (cutI enter 0 1000)⟩ := by unfold HSt.enter; rw [if_pos e1]; rfl
  have t2 : HSt.enter ⟨(cutI low 0 9000), (cutI low 0 9000) + 1000, 500, [⟨nmA, (cutI low 0 9000), (cutI enter 0 1000)⟩], (cutI enter 0 1000)⟩ nmB (cutI enter 0 1000) = ⟨(cutI low 0 9000), (cutI low 0 9000) + 1000, 500, [⟨nmA, (cutI low 0 9000), (cutI enter 0 1000)⟩, ⟨nmB, (cutI low 0 9000) + 500, (cutI enter 0 1000)⟩], (cutI enter 0 1000)⟩ := by unfold HSt.enter; rw [if_pos e2]; rfl
  refine AC.of 83 Try.func3 rfl rfl rfl ?_
  refine W.reg ?_
  refine XOps.s rfl rfl rfl (Q.assign_d rfl) ?_
  refine XOps.nil ?_
  refine W.reg ?_
  refine XOps.s rfl rfl rfl (Q.move_d rfl) ?_
  refine XOps.s rfl rfl rfl (Q.call rfl Try.func7 go7 rfl (cut_c low 0 9000 _ (by decide) (by decide) (by decide))) ?_
  refine XOps.s rfl rfl rfl (Q.move_d rfl) ?_
  refine XOps.s rfl rfl rfl (Q.call rfl Try.func7 go7 rfl (cut_c enter 0 1000 _ (by decide) (by decide) (by decide))) ?_
  refine XOps.s rfl rfl rfl (Q.assign_d rfl) ?_
  refine XOps.s rfl rfl rfl (Q.assign_d rfl) ?_
  refine XOps.nil ?_
  refine W.reg ?_
  refine XOps.s rfl rfl rfl (Q.move_d rfl) ?_
  refine XOps.s rfl rfl rfl (Q.move_d rfl) ?_
  refine XOps.s rfl rfl rfl (Q.call rfl Try.func7 go7 rfl (cut_c leave 0 1000 _ (by decide) (by decide) (by decide))) ?_
  refine XOps.s rfl rfl rfl (Q.add rfl rfl (wi64 (by first | omega | (dsimp only; omega) | (simp only [List.length_map]; omega)) (by first | omega | (dsimp only; omega) | (simp only [List.length_map]; omega)))) ?_
  refine XOps.s rfl rfl rfl (Q.assign_d rfl) ?_
  refine XOps.nil ?_
  refine W.reg ?_
  refine XOps.s rfl rfl rfl (Q.move_d rfl) ?_
  refine XOps.s rfl rfl rfl (Q.move_d rfl) ?_
  refine XOps.s rfl rfl rfl (Q.add rfl rfl (wi64 (by first | omega | (dsimp only; omega) | (simp only [List.length_map]; omega)) (by first | omega | (dsimp only; omega) | (simp only [List.length_map]; omega)))) ?_
  refine XOps.s rfl rfl rfl (Q.build pl28 tz28 tzd28 rfl) ?_
  (refine XOps.loud rfl (L.call rfl Try.func8 go8 rfl (new_c (cutI low 0 9000) ((cutI low 0 9000) + 1000) 500 hs (by omega) (by decide) (by omega)) rfl) ?_; rintro _ _ ⟨_, rfl, b, id0, rfl, rfl⟩)
  refine XOps.s rfl rfl rfl (Q.move_tup rfl) ?_
  refine XOps.s rfl rfl rfl (Q.extract rfl rfl) ?_
  refine XOps.s rfl rfl rfl (Q.extract rfl rfl) ?_
  refine XOps.s rfl rfl rfl (Q.assign_ptr rfl) ?_
  refine XOps.s rfl rfl rfl (Q.assign_d rfl) ?_
  refine XOps.nil ?_
  refine W.seq ?_
  refine W.reg ?_
  refine XOps.s rfl rfl rfl (Q.move_d rfl) ?_
  refine XOps.s rfl rfl rfl (Q.neq rfl rfl) ?_
  refine XOps.s rfl rfl rfl (Q.move_d rfl) ?_
  refine XOps.gs rfl rfl rfl rfl rfl rfl rfl (fun hg => Q.move_ptr rfl) ?_
  refine XOps.gs rfl rfl rfl rfl rfl rfl rfl (fun hg => Quiet.open 34 hg rfl (Q.eql_ptr ipt23 rfl rfl)) ?_
  refine XOps.s rfl rfl rfl (Q.pick_or rfl rfl rfl (fun h => by first | (rw [h]; rfl) | (rw [hg, h]; rfl) | (simp [h, hg]; done))) ?_
  refine XOps.nil ?_
  refine W.cond rfl (fun hc36 => ?_) (fun hc36 => ?_)
  · try simp only [Bool.or_eq_true, Bool.or_eq_false_iff, Bool.and_eq_true, Bool.and_eq_false_iff, decide_eq_true_eq, decide_eq_false_iff_not, Bool.not_eq_true', Bool.not_eq_false', Int.not_lt, Int.not_le, List.length_map] at hc36
    exact absurd hc36 (by simp)
  · try simp only [Bool.or_eq_true, Bool.or_eq_false_iff, Bool.and_eq_true, Bool.and_eq_false_iff, decide_eq_true_eq, decide_eq_false_iff_not, Bool.not_eq_true', Bool.not_eq_false', Int.not_lt, Int.not_le, List.length_map] at hc36
    refine W.skip ?_
    refine W.reg ?_
    refine XOps.s rfl rfl rfl (Q.move_ptr rfl) ?_
    refine XOps.s rfl rfl rfl (Q.move_d rfl) ?_
    refine XOps.loud rfl (L.call rfl Try.func9 go9 rfl (enter_c b id0 ⟨(cutI low 0 9000), (cutI low 0 9000) + 1000, 500, [], 0⟩ nmA (cutI enter 0 1000) _ ok0 (by decide)) rfl) ?_
    rintro _ _ ⟨_, rfl, id1, rfl, rfl⟩
    refine XOps.s rfl rfl rfl (Q.move_tup rfl) ?_
    refine XOps.s rfl rfl rfl (Q.extract rfl rfl) ?_
    refine XOps.s rfl rfl rfl (Q.extract rfl rfl) ?_
    refine XOps.s rfl rfl rfl (Q.assign_d rfl) ?_
    refine XOps.s rfl rfl rfl (Q.assign_d rfl) ?_
    refine XOps.nil ?_
    rw [t1, e1, v1]
    refine W.reg ?_
    refine XOps.s rfl rfl rfl (Q.move_ptr rfl) ?_
    refine XOps.s rfl rfl rfl (Q.move_d rfl) ?_
    refine XOps.loud rfl (L.call rfl Try.func9 go9 rfl (enter_c b id1 ⟨(cutI low 0 9000), (cutI low 0 9000) + 1000, 500, [⟨nmA, (cutI low 0 9000), (cutI enter 0 1000)⟩], (cutI enter 0 1000)⟩ nmB (cutI enter 0 1000) _ ok1 (by decide)) rfl) ?_
    rintro _ _ ⟨_, rfl, id2, rfl, rfl⟩
    refine XOps.s rfl rfl rfl (Q.move_tup rfl) ?_
    refine XOps.s rfl rfl rfl (Q.extract rfl rfl) ?_
    refine XOps.s rfl rfl rfl (Q.extract rfl rfl) ?_
    refine XOps.s rfl rfl rfl (Q.assign_d rfl) ?_
    refine XOps.s rfl rfl rfl (Q.assign_d rfl) ?_
    refine XOps.nil ?_
    rw [t2, e2, v2]
    refine W.reg ?_
    refine XOps.s rfl rfl rfl (Q.move_ptr rfl) ?_
    refine XOps.s rfl rfl rfl (Q.move_d rfl) ?_
    (refine XOps.loud rfl (L.call rfl Try.func10 go10 rfl (leave_c b id2 ⟨(cutI low 0 9000), (cutI low 0 9000) + 1000, 500, [⟨nmA, (cutI low 0 9000), (cutI enter 0 1000)⟩, ⟨nmB, (cutI low 0 9000) + 500, (cutI enter 0 1000)⟩], (cutI enter 0 1000)⟩ nmA ((cutI enter 0 1000) + (cutI leave 0 1000)) _ ok2) rfl) ?_; rintro _ _ ⟨_, rfl, id3, rfl, rfl⟩)
    refine XOps.s rfl rfl rfl (Q.move_tup rfl) ?_
    refine XOps.s rfl rfl rfl (Q.extract rfl rfl) ?_
    refine XOps.s rfl rfl rfl (Q.extract rfl rfl) ?_
    refine XOps.s rfl rfl rfl (Q.assign_d rfl) ?_
    refine XOps.s rfl rfl rfl (Q.assign_d rfl) ?_
    refine XOps.nil ?_
    rw [e3, v3]
    refine W.reg ?_
    refine XOps.s rfl rfl rfl (Q.move_d rfl) ?_
    refine XOps.s rfl rfl rfl (Q.eql rfl rfl) ?_
    refine XOps.s rfl rfl rfl (Q.move_d rfl) ?_
    refine XOps.gs rfl rfl rfl rfl rfl rfl rfl (fun hg => Q.move_d rfl) ?_
    refine XOps.gs rfl rfl rfl rfl rfl rfl rfl (fun hg => Quiet.open 58 hg rfl (Q.eql rfl rfl)) ?_
    refine XOps.s rfl rfl rfl (Q.pick_and rfl rfl rfl (fun h => by first | (rw [h]; rfl) | (rw [hg, h]; rfl) | (simp [h, hg]; done))) ?_
    refine XOps.s rfl rfl rfl (Q.move_d rfl) ?_
    refine XOps.gs rfl rfl rfl rfl rfl rfl rfl (fun hg => Q.move_d rfl) ?_
    refine XOps.gs rfl rfl rfl rfl rfl rfl rfl (fun hg => Quiet.open 62 hg rfl (Q.eql rfl rfl)) ?_
    refine XOps.s rfl rfl rfl (Q.pick_and rfl rfl rfl (fun h => by first | (rw [h]; rfl) | (rw [hg, h]; rfl) | (simp [h, hg]; done))) ?_
    refine XOps.s rfl rfl rfl (Q.move_d rfl) ?_
    refine XOps.gs rfl rfl rfl rfl rfl rfl rfl (fun hg => Q.move_d rfl) ?_
    refine XOps.gs rfl rfl rfl rfl rfl rfl rfl (fun hg => Q.move_d rfl) ?_
    refine XOps.gs rfl rfl rfl rfl rfl rfl rfl (fun hg => Quiet.open 66 hg rfl (Quiet.open 67 hg rfl (Q.eql rfl rfl))) ?_
    refine XOps.s rfl rfl rfl (Q.pick_and rfl rfl rfl (fun h => by first | (rw [h]; rfl) | (rw [hg, h]; rfl) | (simp [h, hg]; done))) ?_
    refine XOps.s rfl rfl rfl (Q.move_d rfl) ?_
    refine XOps.gs rfl rfl rfl rfl rfl rfl rfl (fun hg => Q.move_d rfl) ?_
    refine XOps.gs rfl rfl rfl rfl rfl rfl rfl (fun hg => Q.move_d rfl) ?_
    refine XOps.gs rfl rfl rfl rfl rfl rfl rfl (fun hg => Quiet.open 72 hg rfl (Q.add rfl rfl (wi64 (by first | omega | (dsimp only; omega) | (simp only [List.length_map]; omega)) (by first | omega | (dsimp only; omega) | (simp only [List.length_map]; omega))))) ?_
    refine XOps.gs rfl rfl rfl rfl rfl rfl rfl (fun hg => Quiet.open 71 hg rfl (Quiet.open 73 hg rfl (Q.eql rfl rfl))) ?_
    refine XOps.s rfl rfl rfl (Q.pick_and rfl rfl rfl (fun h => by first | (rw [h]; rfl) | (rw [hg, h]; rfl) | (simp [h, hg]; done))) ?_
    refine XOps.s rfl rfl rfl (Q.move_d rfl) ?_
    refine XOps.gs rfl rfl rfl rfl rfl rfl rfl (fun hg => Q.move_d rfl) ?_
    refine XOps.gs rfl rfl rfl rfl rfl rfl rfl (fun hg => Q.move_d rfl) ?_
    refine XOps.gs rfl rfl rfl rfl rfl rfl rfl (fun hg => Q.move_d rfl) ?_
    refine XOps.gs rfl rfl rfl rfl rfl rfl rfl (fun hg => Quiet.open 78 hg rfl (Quiet.open 79 hg rfl (Q.sub rfl rfl (wi64 (by first | omega | (dsimp only; omega) | (simp only [List.length_map]; omega)) (by first | omega | (dsimp only; omega) | (simp only [List.length_map]; omega)))))) ?_
    refine XOps.gs rfl rfl rfl rfl rfl rfl rfl (fun hg => Quiet.open 77 hg rfl (Quiet.open 80 hg rfl (Q.eql rfl rfl))) ?_
    refine XOps.s rfl rfl rfl (Q.pick_and rfl rfl rfl (fun h => by first | (rw [h]; rfl) | (rw [hg, h]; rfl) | (simp [h, hg]; done))) ?_
    refine XOps.s rfl rfl rfl (Q.assign_d rfl) ?_
    refine XOps.nil ?_
    refine W.ret ?_
    refine ⟨_, _, rfl, HLe.refl _, ?_⟩
    simp
    try rfl

set_option maxHeartbeats 1000000 in
set_option maxRecDepth 100000 in
theorem apart_c (l : List Int) (hs : Hp) (hL : l.length ≤ 140737488351232) : AC P 4 [.d (slN l)] hs (fun r _ => r = .d (.bool true)) := by
  refine AC.of 70 Try.func4 rfl rfl rfl ?_
  refine W.reg ?_
  refine XOps.s rfl rfl rfl (Q.assign_d rfl) ?_
  refine XOps.nil ?_
  refine W.reg ?_
  refine XOps.s rfl rfl rfl (Q.move_d rfl) ?_
  refine XOps.loud rfl (L.call rfl Try.func11 go11 rfl (stack_c l hs hL) rfl) ?_
  rintro _ _ ⟨_, rfl, b, id, i, o, rfl, rfl⟩
  refine XOps.s rfl rfl rfl (Q.move_tup rfl) ?_
  refine XOps.s rfl rfl rfl (Q.extract rfl rfl) ?_
  refine XOps.s rfl rfl rfl (Q.extract rfl rfl) ?_
  refine XOps.s rfl rfl rfl (Q.extract rfl rfl) ?_
  refine XOps.s rfl rfl rfl (Q.assign_ptr rfl) ?_
  refine XOps.s rfl rfl rfl (Q.assign_vs rfl) ?_
  refine XOps.s rfl rfl rfl (Q.assign_vs rfl) ?_
  refine XOps.nil ?_
  refine W.seq ?_
  refine W.reg ?_
  refine XOps.s rfl rfl rfl (Q.bsl1 sl32 zr32 rfl zrd32 rfl rfl) ?_
  refine XOps.loud rfl (L.call rfl Try.func11 go11 rfl (stack_c [0] _ (by decide)) rfl) ?_
  rintro _ _ ⟨_, rfl, b2, id2, i2, o2, rfl, rfl⟩
  refine XOps.s rfl rfl rfl (Q.move_tup rfl) ?_
  refine XOps.s rfl rfl rfl (Q.extract rfl rfl) ?_
  refine XOps.s rfl rfl rfl (Q.extract rfl rfl) ?_
  refine XOps.s rfl rfl rfl (Q.extract rfl rfl) ?_
  refine XOps.s rfl rfl rfl (Q.assign_ptr rfl) ?_
  refine XOps.s rfl rfl rfl (Q.assign_vs rfl) ?_
  refine XOps.s rfl rfl rfl (Q.assign_vs rfl) ?_
  refine XOps.nil ?_
  have hsk := stK_ok l (min l.length 30) (by omega)
  have hok := hsk.ok (by omega)
  have htl : (stK [0] (min ([0] : List Int).length 30)).1.l = [⟨fName 0, 3000, 0⟩] := st_fact
  have htk : (stK [0] (min ([0] : List Int).length 30)).1.ok := (stK_ok [0] (min ([0] : List Int).length 30) (by decide)).ok (by decide)
  generalize (stK [0] (min ([0] : List Int).length 30)) = T at *
  generalize (stK l (min l.length 30)) = S at *
  have hT1 : (T.1.l.map Lv.enc).length = 1 := by rw [htl]; rfl
  have hT0 : T.1.l.length = 1 := by rw [htl]; rfl
  have hlS := hok.len
  have hrowT : (T.1.l.map Lv.enc)[0 + (0 : Int).toNat]? = some (⟨fName 0, 3000, 0⟩ : Lv).enc := by rw [htl]; rfl
  have hrowT2 : (T.1.l.map Lv.enc)[(0 : Int).toNat]? = some (⟨fName 0, 3000, 0⟩ : Lv).enc := by rw [htl]; rfl
  refine W.reg ?_
  refine XOps.s rfl rfl rfl (Q.move_ptr rfl) ?_
  refine XOps.s rfl rfl rfl (Q.eql_ptr ipt23 rfl rfl) ?_
  refine XOps.s rfl rfl rfl (Q.move_d rfl) ?_
  refine XOps.gs rfl rfl rfl rfl rfl rfl rfl (fun hg => Q.move_ptr rfl) ?_
  refine XOps.gs rfl rfl rfl rfl rfl rfl rfl (fun hg => Quiet.open 27 hg rfl (Q.eql_ptr ipt23 rfl rfl)) ?_
  refine XOps.s rfl rfl rfl (Q.pick_or rfl rfl rfl (fun h => by first | (rw [h]; rfl) | (rw [hg, h]; rfl) | (simp [h, hg]; done))) ?_
  refine XOps.s rfl rfl rfl (Q.move_d rfl) ?_
  refine XOps.gs rfl rfl rfl rfl rfl rfl rfl (fun hg => Q.move_ptr rfl) ?_
  refine XOps.gs rfl rfl rfl rfl rfl rfl rfl (fun hg => Quiet.open 31 hg rfl (Q.call rfl Try.func12 go12 rfl (list_f b2 id2 T.1 _ htk.len))) ?_
  refine XOps.gs rfl rfl rfl rfl rfl rfl rfl (fun hg => Quiet.open 32 hg rfl (Q.len_sl isl36 rfl)) ?_
  refine XOps.gs rfl rfl rfl rfl rfl rfl rfl (fun hg => Quiet.open 33 hg rfl (Q.neq rfl rfl)) ?_
  refine XOps.s rfl rfl rfl (Q.pick_or rfl rfl rfl (fun h => by first | (rw [h]; rfl) | (rw [hg, h]; rfl) | (simp [h, hg]; done))) ?_
  refine XOps.s rfl rfl rfl (Q.move_d rfl) ?_
  refine XOps.gs rfl rfl rfl rfl rfl rfl rfl (fun hg => Q.move_ptr rfl) ?_
  refine XOps.gs rfl rfl rfl rfl rfl rfl rfl (fun hg => Quiet.open 37 hg rfl (Q.call rfl Try.func12 go12 rfl (list_f b2 id2 T.1 _ htk.len))) ?_
  refine XOps.gs rfl rfl rfl rfl rfl rfl rfl (fun hg => Quiet.open 38 hg rfl (Q.idx_sl sl36 (by decide) rfl rfl (by first | omega | (simp only [List.length_map]; omega)) (by first | exact hrowT | exact hrowT2 | exact map_at hx))) ?_
  refine XOps.gs rfl rfl rfl rfl rfl rfl rfl (fun hg => Quiet.open 39 hg rfl (Q.fld_dp fl39_1 rfl)) ?_
  refine XOps.gs rfl rfl rfl rfl rfl rfl rfl (fun hg => Quiet.open 40 hg rfl (Q.ld_dp ag3 rfl rfl)) ?_
  refine XOps.gs rfl rfl rfl rfl rfl rfl rfl (fun hg => Quiet.open 41 hg rfl (Q.neq rfl rfl)) ?_
  refine XOps.s rfl rfl rfl (Q.pick_or rfl rfl rfl (fun h => by first | (rw [h]; rfl) | (rw [hg, h]; rfl) | (simp [h, hg]; done))) ?_
  refine XOps.nil ?_
  refine W.cond rfl (fun hc43 => ?_) (fun hc43 => ?_)
  · try simp only [Bool.or_eq_true, Bool.or_eq_false_iff, Bool.and_eq_true, Bool.and_eq_false_iff, decide_eq_true_eq, decide_eq_false_iff_not, Bool.not_eq_true', Bool.not_eq_false', Int.not_lt, Int.not_le, List.length_map] at hc43
    exact absurd hc43 (by simp [hT0])
  · try simp only [Bool.or_eq_true, Bool.or_eq_false_iff, Bool.and_eq_true, Bool.and_eq_false_iff, decide_eq_true_eq, decide_eq_false_iff_not, Bool.not_eq_true', Bool.not_eq_false', Int.not_lt, Int.not_le, List.length_map] at hc43
    refine W.skip ?_
    refine W.reg ?_
    refine XOps.s rfl rfl rfl (Q.assign_d rfl) ?_
    refine XOps.nil ?_
    refine W.seq ?_
    refine W.heap (stH b S.1 id ((i, .lst 1 (S.2.1.map sE)) :: (o, .lst 1 (S.2.2.map sE)) :: hs)) (HLe.skip _ (HLe.skip _ (HLe.skip _ (HLe.skip _ (HLe.refl _))))) ?_
    refine W.reg ?_
    refine XOps.s rfl rfl rfl (Q.move_ptr rfl) ?_
    refine XOps.s rfl rfl rfl (Q.call rfl Try.func12 go12 rfl (list_f b id S.1 _ hok.len)) ?_
    refine XOps.s rfl rfl rfl (Q.len_sl isl36 rfl) ?_
    refine XOps.s rfl rfl rfl (Q.move_d rfl) ?_
    refine XOps.nil ?_
    refine W.block ?_
    refine W.loop (ι := Nat × Int) (fun p => [(9, .d (.int .i64 p.2)), (45, .d (.sl 3 (S.1.l.map Lv.enc))), (46, .d (.int .i64 S.1.l.length)), (47, .d (.int .i64 p.1))]) (fun p => hs) (fun p => p.1 ≤ S.1.l.length ∧ (0 ≤ p.2 ∧ p.2 ≤ 100000) ∧ chainL (p.2 + 1000) (S.1.l.drop p.1)) (fun p => S.1.l.length - p.1) (0, 2000) ?_ ?_ ?_ ?_
    · exact ⟨Nat.zero_le _, by decide, hsk.ch⟩
    · exact ⟨by first | rfl | exact int_eq (by omega) | exact len_eq (by simp) | exact int_eq (by simp; done), by first | rfl | exact int_eq (by omega) | exact len_eq (by simp) | exact int_eq (by simp; done), by first | rfl | exact int_eq (by omega) | exact len_eq (by simp) | exact int_eq (by simp; done), by first | rfl | exact int_eq (by omega) | exact len_eq (by simp) | exact int_eq (by simp; done), trivial⟩
    · repeat (first | exact HLe.refl _ | refine HLe.cons' (by first | rfl | (simp; done)) ?_ | refine HLe.pick 1 rfl (by first | rfl | (simp; done)) ?_ | refine HLe.pick 2 rfl (by first | rfl | (simp; done)) ?_ | refine HLe.pick 3 rfl (by first | rfl | (simp; done)) ?_ | refine HLe.pick 4 rfl (by first | rfl | (simp; done)) ?_ | refine HLe.pick 5 rfl (by first | rfl | (simp; done)) ?_ | refine HLe.skip _ ?_)
    · rintro ⟨k, last⟩ ⟨hk, hlb, hI0⟩
      try dsimp only at hk hlb hI0 ⊢
      have hI : True ∧ _ := ⟨trivial, hI0⟩
      refine W.reg ?_
      refine XOps.s rfl rfl rfl (Q.lss rfl rfl) ?_
      refine XOps.nil ?_
      refine W.seq ?_
      refine W.cond rfl (fun hc48 => ?_) (fun hc48 => ?_)
      · try simp only [Bool.or_eq_true, Bool.or_eq_false_iff, Bool.and_eq_true, Bool.and_eq_false_iff, decide_eq_true_eq, decide_eq_false_iff_not, Bool.not_eq_true', Bool.not_eq_false', Int.not_lt, Int.not_le, List.length_map] at hc48
        obtain ⟨x, hx⟩ : ∃ x, S.1.l[k]? = some x := ⟨_, List.getElem?_eq_getElem (by omega)⟩
        have hdr : S.1.l.drop k = x :: S.1.l.drop (k + 1) := by
          obtain ⟨hlt, he⟩ := List.getElem?_eq_some_iff.1 hx
          rw [List.drop_eq_getElem_cons hlt, he]
        have hch := hI.2
        rw [hdr] at hch
        obtain ⟨g1, g2, g3, g4, g5⟩ := hch
        have hlast := hI.2
        refine W.skip ?_
        refine W.seq ?_
        refine W.block ?_
        refine W.reg ?_
        refine XOps.s rfl rfl rfl (Q.idx_sl sl36 (by decide) rfl rfl (by first | omega | (simp only [List.length_map]; omega)) (by first | exact hrowT | exact hrowT2 | exact map_at hx)) ?_
        refine XOps.s rfl rfl rfl (Q.ld_dpn ag39 rfl rfl) ?_
        (refine XOps.loud rfl (L.alloc tz39 rfl rfl) ?_; rintro _ _ ⟨b11, rfl, rfl⟩)
        refine XOps.loud rfl (L.storen (k := 0) ag39 rfl rfl rfl rfl rfl) ?_
        rintro _ _ ⟨rfl, rfl⟩
        refine XOps.nil ?_
        refine W.seq ?_
        refine W.reg ?_
        refine XOps.s rfl rfl rfl (Q.fld_ptr fl39_1 rfl) ?_
        refine XOps.s rfl rfl rfl (Q.ld_ptr (k := 0) ag3 rfl rfl rfl) ?_
        refine XOps.s rfl rfl rfl (Q.move_d rfl) ?_
        refine XOps.s rfl rfl rfl (Q.add rfl rfl (wi64 (by first | omega | (dsimp only; omega) | (simp only [List.length_map]; omega)) (by first | omega | (dsimp only; omega) | (simp only [List.length_map]; omega)))) ?_
        refine XOps.s rfl rfl rfl (Q.lss rfl rfl) ?_
        refine XOps.s rfl rfl rfl (Q.move_d rfl) ?_
        refine XOps.gs rfl rfl rfl rfl rfl rfl rfl (fun hg => Q.fld_ptr fl39_1 rfl) ?_
        refine XOps.gs rfl rfl rfl rfl rfl rfl rfl (fun hg => Quiet.open 57 hg rfl (Q.ld_ptr (k := 0) ag3 rfl rfl rfl)) ?_
        refine XOps.gs rfl rfl rfl rfl rfl rfl rfl (fun hg => Quiet.open 58 hg rfl (Q.gtr rfl rfl)) ?_
        refine XOps.s rfl rfl rfl (Q.pick_or rfl rfl rfl (fun h => by first | (rw [h]; rfl) | (rw [hg, h]; rfl) | (simp [h, hg]; done))) ?_
        refine XOps.s rfl rfl rfl (Q.move_d rfl) ?_
        refine XOps.gs rfl rfl rfl rfl rfl rfl rfl (fun hg => Q.fld_ptr fl39_1 rfl) ?_
        refine XOps.gs rfl rfl rfl rfl rfl rfl rfl (fun hg => Quiet.open 62 hg rfl (Q.ld_ptr (k := 0) ag3 rfl rfl rfl)) ?_
        refine XOps.gs rfl rfl rfl rfl rfl rfl rfl (fun hg => Quiet.open 63 hg rfl (Q.rem rfl rfl (by decide) (wrem (by omega)))) ?_
        refine XOps.gs rfl rfl rfl rfl rfl rfl rfl (fun hg => Quiet.open 64 hg rfl (Q.neq rfl rfl)) ?_
        refine XOps.s rfl rfl rfl (Q.pick_or rfl rfl rfl (fun h => by first | (rw [h]; rfl) | (rw [hg, h]; rfl) | (simp [h, hg]; done))) ?_
        refine XOps.nil ?_
        refine W.cond rfl (fun hc66 => ?_) (fun hc66 => ?_)
        · try simp only [Bool.or_eq_true, Bool.or_eq_false_iff, Bool.and_eq_true, Bool.and_eq_false_iff, decide_eq_true_eq, decide_eq_false_iff_not, Bool.not_eq_true', Bool.not_eq_false', Int.not_lt, Int.not_le, List.length_map] at hc66
          exact absurd hc66 (by omega)
        · try simp only [Bool.or_eq_true, Bool.or_eq_false_iff, Bool.and_eq_true, Bool.and_eq_false_iff, decide_eq_true_eq, decide_eq_false_iff_not, Bool.not_eq_true', Bool.not_eq_false', Int.not_lt, Int.not_le, List.length_map] at hc66
          refine W.skip ?_
          refine W.region ?_
          refine XOps.s rfl rfl rfl (Q.fld_ptr fl39_1 rfl) ?_
          refine XOps.s rfl rfl rfl (Q.ld_ptr (k := 0) ag3 rfl rfl rfl) ?_
          refine XOps.s rfl rfl rfl (Q.assign_d rfl) ?_
          refine XOps.nil ?_
          refine W.region ?_
          refine XOps.s rfl rfl rfl (Q.add rfl rfl (wi64 (by first | omega | (dsimp only; omega) | (simp only [List.length_map]; omega)) (by first | omega | (dsimp only; omega) | (simp only [List.length_map]; omega)))) ?_
          refine XOps.s rfl rfl rfl (Q.move_d rfl) ?_
          refine XOps.nil ?_
          refine ⟨(k + 1, x.h), ?_, ?_, ?_, ?_⟩
          · exact ⟨by dsimp only; omega, ⟨by dsimp only; omega, by dsimp only; omega⟩, g5⟩
          · dsimp only; omega
          · exact ⟨by first | rfl | exact int_eq (by omega) | exact len_eq (by simp) | exact int_eq (by simp; done), by first | rfl | exact int_eq (by omega) | exact len_eq (by simp) | exact int_eq (by simp; done), by first | rfl | exact int_eq (by omega) | exact len_eq (by simp) | exact int_eq (by simp; done), by first | rfl | exact int_eq (by omega) | exact len_eq (by simp) | exact int_eq (by simp; done), trivial⟩
          · repeat (first | exact HLe.refl _ | refine HLe.cons' (by first | rfl | (simp; done)) ?_ | refine HLe.pick 1 rfl (by first | rfl | (simp; done)) ?_ | refine HLe.pick 2 rfl (by first | rfl | (simp; done)) ?_ | refine HLe.pick 3 rfl (by first | rfl | (simp; done)) ?_ | refine HLe.pick 4 rfl (by first | rfl | (simp; done)) ?_ | refine HLe.pick 5 rfl (by first | rfl | (simp; done)) ?_ | refine HLe.skip _ ?_)
      · try simp only [Bool.or_eq_true, Bool.or_eq_false_iff, Bool.and_eq_true, Bool.and_eq_false_iff, decide_eq_true_eq, decide_eq_false_iff_not, Bool.not_eq_true', Bool.not_eq_false', Int.not_lt, Int.not_le, List.length_map] at hc48
        refine W.exit ?_
        refine W.reg ?_
        refine XOps.s rfl rfl rfl (Q.assign_d rfl) ?_
        refine XOps.nil ?_
        refine W.ret ?_
        exact ⟨_, _, rfl, HLe.refl _, rfl⟩

set_option maxHeartbeats 1000000 in
set_option maxRecDepth 100000 in
theorem downs_c (l : List Int) (hs : Hp) (hL : l.length ≤ 140737488351232) : AC P 5 [.d (slN l)] hs (fun r _ => r = .d (.bool true)) := by
  refine AC.of 75 Try.func5 rfl rfl rfl ?_
  refine W.reg ?_
  refine XOps.s rfl rfl rfl (Q.assign_d rfl) ?_
  refine XOps.nil ?_
  refine W.reg ?_
  refine XOps.s rfl rfl rfl (Q.move_d rfl) ?_
  refine XOps.loud rfl (L.call rfl Try.func11 go11 rfl (stack_c l hs hL) rfl) ?_
  rintro _ _ ⟨_, rfl, b, id, i, o, rfl, rfl⟩
  refine XOps.s rfl rfl rfl (Q.move_tup rfl) ?_
  refine XOps.s rfl rfl rfl (Q.extract rfl rfl) ?_
  refine XOps.s rfl rfl rfl (Q.extract rfl rfl) ?_
  refine XOps.s rfl rfl rfl (Q.extract rfl rfl) ?_
  refine XOps.s rfl rfl rfl (Q.assign_ptr rfl) ?_
  refine XOps.s rfl rfl rfl (Q.assign_vs rfl) ?_
  refine XOps.s rfl rfl rfl (Q.assign_vs rfl) ?_
  refine XOps.nil ?_
  refine W.seq ?_
  refine W.reg ?_
  refine XOps.s rfl rfl rfl (Q.bsl1 sl32 zr32 rfl zrd32 rfl rfl) ?_
  refine XOps.loud rfl (L.call rfl Try.func11 go11 rfl (stack_c [0] _ (by decide)) rfl) ?_
  rintro _ _ ⟨_, rfl, b2, id2, i2, o2, rfl, rfl⟩
  refine XOps.s rfl rfl rfl (Q.move_tup rfl) ?_
  refine XOps.s rfl rfl rfl (Q.extract rfl rfl) ?_
  refine XOps.s rfl rfl rfl (Q.extract rfl rfl) ?_
  refine XOps.s rfl rfl rfl (Q.extract rfl rfl) ?_
  refine XOps.s rfl rfl rfl (Q.assign_ptr rfl) ?_
  refine XOps.s rfl rfl rfl (Q.assign_vs rfl) ?_
  refine XOps.s rfl rfl rfl (Q.assign_vs rfl) ?_
  refine XOps.nil ?_
  have hsk := stK_ok l (min l.length 30) (by omega)
  have hok := hsk.ok (by omega)
  have htl : (stK [0] (min ([0] : List Int).length 30)).1.l = [⟨fName 0, 3000, 0⟩] := st_fact
  have htk : (stK [0] (min ([0] : List Int).length 30)).1.ok := (stK_ok [0] (min ([0] : List Int).length 30) (by decide)).ok (by decide)
  generalize (stK [0] (min ([0] : List Int).length 30)) = T at *
  generalize (stK l (min l.length 30)) = S at *
  have hT1 : (T.1.l.map Lv.enc).length = 1 := by rw [htl]; rfl
  have hT0 : T.1.l.length = 1 := by rw [htl]; rfl
  have hlS := hok.len
  have hrowT : (T.1.l.map Lv.enc)[0 + (0 : Int).toNat]? = some (⟨fName 0, 3000, 0⟩ : Lv).enc := by rw [htl]; rfl
  have hrowT2 : (T.1.l.map Lv.enc)[(0 : Int).toNat]? = some (⟨fName 0, 3000, 0⟩ : Lv).enc := by rw [htl]; rfl
  refine W.reg ?_
  refine XOps.s rfl rfl rfl (Q.move_ptr rfl) ?_
  refine XOps.s rfl rfl rfl (Q.eql_ptr ipt23 rfl rfl) ?_
  refine XOps.s rfl rfl rfl (Q.move_d rfl) ?_
  refine XOps.gs rfl rfl rfl rfl rfl rfl rfl (fun hg => Q.move_ptr rfl) ?_
  refine XOps.gs rfl rfl rfl rfl rfl rfl rfl (fun hg => Quiet.open 30 hg rfl (Q.eql_ptr ipt23 rfl rfl)) ?_
  refine XOps.s rfl rfl rfl (Q.pick_or rfl rfl rfl (fun h => by first | (rw [h]; rfl) | (rw [hg, h]; rfl) | (simp [h, hg]; done))) ?_
  refine XOps.s rfl rfl rfl (Q.move_d rfl) ?_
  refine XOps.gs rfl rfl rfl rfl rfl rfl rfl (fun hg => Q.move_ptr rfl) ?_
  refine XOps.gs rfl rfl rfl rfl rfl rfl rfl (fun hg => Quiet.open 34 hg rfl (Q.call rfl Try.func12 go12 rfl (list_f b2 id2 T.1 _ htk.len))) ?_
  refine XOps.gs rfl rfl rfl rfl rfl rfl rfl (fun hg => Quiet.open 35 hg rfl (Q.len_sl isl36 rfl)) ?_
  refine XOps.gs rfl rfl rfl rfl rfl rfl rfl (fun hg => Quiet.open 36 hg rfl (Q.neq rfl rfl)) ?_
  refine XOps.s rfl rfl rfl (Q.pick_or rfl rfl rfl (fun h => by first | (rw [h]; rfl) | (rw [hg, h]; rfl) | (simp [h, hg]; done))) ?_
  refine XOps.nil ?_
  refine W.cond rfl (fun hc38 => ?_) (fun hc38 => ?_)
  · try simp only [Bool.or_eq_true, Bool.or_eq_false_iff, Bool.and_eq_true, Bool.and_eq_false_iff, decide_eq_true_eq, decide_eq_false_iff_not, Bool.not_eq_true', Bool.not_eq_false', Int.not_lt, Int.not_le, List.length_map] at hc38
    exact absurd hc38 (by simp [hT0])
  · try simp only [Bool.or_eq_true, Bool.or_eq_false_iff, Bool.and_eq_true, Bool.and_eq_false_iff, decide_eq_true_eq, decide_eq_false_iff_not, Bool.not_eq_true', Bool.not_eq_false', Int.not_lt, Int.not_le, List.length_map] at hc38
    refine W.skip ?_
    refine W.seq ?_
    refine W.heap (stH b S.1 id ((i, .lst 1 (S.2.1.map sE)) :: (o, .lst 1 (S.2.2.map sE)) :: hs)) (HLe.skip _ (HLe.skip _ (HLe.skip _ (HLe.skip _ (HLe.refl _))))) ?_
    refine W.reg ?_
    refine XOps.s rfl rfl rfl (Q.move_d rfl) ?_
    refine XOps.nil ?_
    refine W.block ?_
    refine W.loop (ι := Nat) (fun j => [(3, .ptr b 0), (39, .d (.int .i64 (j : Nat)))]) (fun j => stH b (dwn S.1 j) id ((i, .lst 1 (S.2.1.map sE)) :: (o, .lst 1 (S.2.2.map sE)) :: hs)) (fun j => j ≤ 6) (fun j => 6 - j) 0 ?_ ?_ ?_ ?_
    · exact Nat.zero_le _
    · exact ⟨by first | rfl | exact int_eq (by omega) | exact len_eq (by simp) | exact int_eq (by simp; done), by first | rfl | exact int_eq (by omega) | exact len_eq (by simp) | exact int_eq (by simp; done), trivial⟩
    · exact HLe.refl _
    · rintro j hj
      try dsimp only
      refine W.reg ?_
      refine XOps.s rfl rfl rfl (Q.lss rfl rfl) ?_
      refine XOps.nil ?_
      refine W.seq ?_
      refine W.cond rfl (fun hc40 => ?_) (fun hc40 => ?_)
      · try simp only [Bool.or_eq_true, Bool.or_eq_false_iff, Bool.and_eq_true, Bool.and_eq_false_iff, decide_eq_true_eq, decide_eq_false_iff_not, Bool.not_eq_true', Bool.not_eq_false', Int.not_lt, Int.not_le, List.length_map] at hc40
        refine W.skip ?_
        refine W.seq ?_
        refine W.block ?_
        refine W.reg ?_
        refine XOps.s rfl rfl rfl (Q.move_ptr rfl) ?_
        refine XOps.loud rfl (L.call rfl Try.func13 go13 rfl (down_c b id (dwn S.1 j) 1000 _ (dwn_ok hsk (by omega) j).ok) rfl) ?_
        rintro _ _ ⟨_, rfl, rfl, rfl⟩
        refine XOps.s rfl rfl rfl (Q.move_tup rfl) ?_
        refine XOps.s rfl rfl rfl (Q.extract rfl rfl) ?_
        refine XOps.s rfl rfl rfl (Q.extract rfl rfl) ?_
        refine XOps.s rfl rfl rfl (Q.assign_d rfl) ?_
        refine XOps.s rfl rfl rfl (Q.assign_d rfl) ?_
        refine XOps.nil ?_
        have hE : (dwn S.1 j).downE 1000 = 0 := by unfold HSt.downE; rw [if_neg (dwn_ok hsk (by omega) j).at]
        rw [hE]
        refine W.reg ?_
        refine XOps.s rfl rfl rfl (Q.move_d rfl) ?_
        refine XOps.s rfl rfl rfl (Q.neq rfl rfl) ?_
        refine XOps.nil ?_
        refine W.cond rfl (fun hc47 => ?_) (fun hc47 => ?_)
        · try simp only [Bool.or_eq_true, Bool.or_eq_false_iff, Bool.and_eq_true, Bool.and_eq_false_iff, decide_eq_true_eq, decide_eq_false_iff_not, Bool.not_eq_true', Bool.not_eq_false', Int.not_lt, Int.not_le, List.length_map] at hc47
          exact absurd hc47 (by simp)
        · try simp only [Bool.or_eq_true, Bool.or_eq_false_iff, Bool.and_eq_true, Bool.and_eq_false_iff, decide_eq_true_eq, decide_eq_false_iff_not, Bool.not_eq_true', Bool.not_eq_false', Int.not_lt, Int.not_le, List.length_map] at hc47
          refine W.skip ?_
          refine W.region ?_
          refine XOps.s rfl rfl rfl (Q.add rfl rfl (wi64 (by first | omega | (dsimp only; omega) | (simp only [List.length_map]; omega)) (by first | omega | (dsimp only; omega) | (simp only [List.length_map]; omega)))) ?_
          refine XOps.s rfl rfl rfl (Q.move_d rfl) ?_
          refine XOps.nil ?_
          refine ⟨j + 1, ?_, ?_, ?_, ?_⟩
          · omega
          · omega
          · exact ⟨by first | rfl | exact int_eq (by omega) | exact len_eq (by simp) | exact int_eq (by simp; done), by first | rfl | exact int_eq (by omega) | exact len_eq (by simp) | exact int_eq (by simp; done), trivial⟩
          · exact HLe.refl _
      · try simp only [Bool.or_eq_true, Bool.or_eq_false_iff, Bool.and_eq_true, Bool.and_eq_false_iff, decide_eq_true_eq, decide_eq_false_iff_not, Bool.not_eq_true', Bool.not_eq_false', Int.not_lt, Int.not_le, List.length_map] at hc40
        refine W.exit ?_
        refine W.seq ?_
        obtain rfl : j = 6 := by omega
        have hend := (dwn_ok hsk (by omega) 6).ok
        have hfin := dwn_end hsk (by omega)
        have hlen6 := hend.len
        refine W.reg ?_
        refine XOps.s rfl rfl rfl (Q.move_ptr rfl) ?_
        refine XOps.s rfl rfl rfl (Q.call rfl Try.func12 go12 rfl (list_f b id (dwn S.1 6) _ hend.len)) ?_
        refine XOps.s rfl rfl rfl (Q.len_sl isl36 rfl) ?_
        refine XOps.s rfl rfl rfl (Q.move_d rfl) ?_
        refine XOps.nil ?_
        refine W.block ?_
        refine W.loop (ι := Nat) (fun k => [(3, .ptr b 0), (50, .d (.sl 3 ((dwn S.1 6).l.map Lv.enc))), (51, .d (.int .i64 (dwn S.1 6).l.length)), (52, .d (.int .i64 (k : Nat)))]) (fun k => stH b (dwn S.1 6) id ((i, .lst 1 (S.2.1.map sE)) :: (o, .lst 1 (S.2.2.map sE)) :: hs)) (fun k => k ≤ (dwn S.1 6).l.length) (fun k => (dwn S.1 6).l.length - k) 0 ?_ ?_ ?_ ?_
        · exact Nat.zero_le _
        · exact ⟨by first | rfl | exact int_eq (by omega) | exact len_eq (by simp) | exact int_eq (by simp; done), by first | rfl | exact int_eq (by omega) | exact len_eq (by simp) | exact int_eq (by simp; done), by first | rfl | exact int_eq (by omega) | exact len_eq (by simp) | exact int_eq (by simp; done), by first | rfl | exact int_eq (by omega) | exact len_eq (by simp) | exact int_eq (by simp; done), trivial⟩
        · exact HLe.refl _
        · rintro k hk
          try dsimp only
          refine W.reg ?_
          refine XOps.s rfl rfl rfl (Q.lss rfl rfl) ?_
          refine XOps.nil ?_
          refine W.seq ?_
          refine W.cond rfl (fun hc53 => ?_) (fun hc53 => ?_)
          · try simp only [Bool.or_eq_true, Bool.or_eq_false_iff, Bool.and_eq_true, Bool.and_eq_false_iff, decide_eq_true_eq, decide_eq_false_iff_not, Bool.not_eq_true', Bool.not_eq_false', Int.not_lt, Int.not_le, List.length_map] at hc53
            obtain ⟨x, hx⟩ : ∃ x, (dwn S.1 6).l[k]? = some x := ⟨_, List.getElem?_eq_getElem (by omega)⟩
            have hxh := hfin.1 k x hx
            refine W.skip ?_
            refine W.seq ?_
            refine W.block ?_
            refine W.reg ?_
            refine XOps.s rfl rfl rfl (Q.move_d rfl) ?_
            refine XOps.s rfl rfl rfl (Q.idx_sl sl36 (by decide) rfl rfl (by first | omega | (simp only [List.length_map]; omega)) (by first | exact hrowT | exact hrowT2 | exact map_at hx)) ?_
            refine XOps.s rfl rfl rfl (Q.ld_dpn ag39 rfl rfl) ?_
            (refine XOps.loud rfl (L.alloc tz39 rfl rfl) ?_; rintro _ _ ⟨b12, rfl, rfl⟩)
            refine XOps.s rfl rfl rfl (Q.assign_d rfl) ?_
            refine XOps.loud rfl (L.storen (k := 0) ag39 rfl rfl rfl rfl rfl) ?_
            rintro _ _ ⟨rfl, rfl⟩
            refine XOps.nil ?_
            refine W.reg ?_
            refine XOps.s rfl rfl rfl (Q.fld_ptr fl39_1 rfl) ?_
            refine XOps.s rfl rfl rfl (Q.ld_ptr (k := 0) ag3 rfl rfl rfl) ?_
            refine XOps.s rfl rfl rfl (Q.move_d rfl) ?_
            refine XOps.s rfl rfl rfl (Q.mul rfl rfl (wi64 (by first | omega | (dsimp only; omega) | (simp only [List.length_map]; omega)) (by first | omega | (dsimp only; omega) | (simp only [List.length_map]; omega)))) ?_
            refine XOps.s rfl rfl rfl (Q.add rfl rfl (wi64 (by first | omega | (dsimp only; omega) | (simp only [List.length_map]; omega)) (by first | omega | (dsimp only; omega) | (simp only [List.length_map]; omega)))) ?_
            refine XOps.s rfl rfl rfl (Q.neq rfl rfl) ?_
            refine XOps.nil ?_
            refine W.cond rfl (fun hc62 => ?_) (fun hc62 => ?_)
            · try simp only [Bool.or_eq_true, Bool.or_eq_false_iff, Bool.and_eq_true, Bool.and_eq_false_iff, decide_eq_true_eq, decide_eq_false_iff_not, Bool.not_eq_true', Bool.not_eq_false', Int.not_lt, Int.not_le, List.length_map] at hc62
              exact absurd hc62 (by omega)
            · try simp only [Bool.or_eq_true, Bool.or_eq_false_iff, Bool.and_eq_true, Bool.and_eq_false_iff, decide_eq_true_eq, decide_eq_false_iff_not, Bool.not_eq_true', Bool.not_eq_false', Int.not_lt, Int.not_le, List.length_map] at hc62
              refine W.skip ?_
              refine W.region ?_
              refine XOps.s rfl rfl rfl (Q.add rfl rfl (wi64 (by first | omega | (dsimp only; omega) | (simp only [List.length_map]; omega)) (by first | omega | (dsimp only; omega) | (simp only [List.length_map]; omega)))) ?_
              refine XOps.s rfl rfl rfl (Q.move_d rfl) ?_
              refine XOps.nil ?_
              refine ⟨k + 1, ?_, ?_, ?_, ?_⟩
              · omega
              · omega
              · exact ⟨by first | rfl | exact int_eq (by omega) | exact len_eq (by simp) | exact int_eq (by simp; done), by first | rfl | exact int_eq (by omega) | exact len_eq (by simp) | exact int_eq (by simp; done), by first | rfl | exact int_eq (by omega) | exact len_eq (by simp) | exact int_eq (by simp; done), by first | rfl | exact int_eq (by omega) | exact len_eq (by simp) | exact int_eq (by simp; done), trivial⟩
              · exact HLe.skip _ (HLe.refl _)
          · try simp only [Bool.or_eq_true, Bool.or_eq_false_iff, Bool.and_eq_true, Bool.and_eq_false_iff, decide_eq_true_eq, decide_eq_false_iff_not, Bool.not_eq_true', Bool.not_eq_false', Int.not_lt, Int.not_le, List.length_map] at hc53
            refine W.exit ?_
            refine W.reg ?_
            refine XOps.s rfl rfl rfl (Q.move_ptr rfl) ?_
            refine XOps.loud rfl (L.call rfl Try.func13 go13 rfl (down_c b id (dwn S.1 6) 1000 _ hend) rfl) ?_
            rintro _ _ ⟨_, rfl, rfl, rfl⟩
            refine XOps.s rfl rfl rfl (Q.move_tup rfl) ?_
            refine XOps.s rfl rfl rfl (Q.extract rfl rfl) ?_
            refine XOps.s rfl rfl rfl (Q.extract rfl rfl) ?_
            refine XOps.s rfl rfl rfl (Q.assign_d rfl) ?_
            refine XOps.s rfl rfl rfl (Q.assign_d rfl) ?_
            refine XOps.nil ?_
            rw [hfin.2.1, hfin.2.2]
            refine W.reg ?_
            refine XOps.s rfl rfl rfl (Q.move_d rfl) ?_
            refine XOps.s rfl rfl rfl (Q.eql rfl rfl) ?_
            refine XOps.s rfl rfl rfl (Q.move_d rfl) ?_
            refine XOps.gs rfl rfl rfl rfl rfl rfl rfl (fun hg => Q.move_d rfl) ?_
            refine XOps.gs rfl rfl rfl rfl rfl rfl rfl (fun hg => Quiet.open 72 hg rfl (Q.eql rfl rfl)) ?_
            refine XOps.s rfl rfl rfl (Q.pick_and rfl rfl rfl (fun h => by first | (rw [h]; rfl) | (rw [hg, h]; rfl) | (simp [h, hg]; done))) ?_
            refine XOps.s rfl rfl rfl (Q.assign_d rfl) ?_
            refine XOps.nil ?_
            refine W.ret ?_
            exact ⟨_, _, rfl, HLe.refl _, rfl⟩
end Go.Proofs.YtpdeopgmgeaglaaA
