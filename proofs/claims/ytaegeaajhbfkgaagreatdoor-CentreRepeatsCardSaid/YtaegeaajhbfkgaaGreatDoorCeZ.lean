/- The law of repeated inputs. -/
import Derived.Test.YtaegeaajhbfkgaaGreatDoorFrB
import Derived.Test.YtaegeaajhbfkgaaGreatDoorCeX
import Derived.Test.YtaegeaajhbfkgaaGreatDoorCen9
set_option linter.unusedVariables false
set_option linter.unusedSimpArgs false
set_option linter.unnecessarySimpa false
namespace Go.Proofs.YtaegeaajhbfkgaaGreatDoorA.FCeZ
open Go
theorem ag27 : tAgg P 27 = some ((true, 18)) := by kernel_rfl
theorem ag28 : tAgg P 28 = some ((false, 1)) := by kernel_rfl
theorem ag3 : tAgg P 3 = some ((false, 1)) := by kernel_rfl
theorem ag35 : tAgg P 35 = some ((true, 9)) := by kernel_rfl
theorem ag37 : tAgg P 37 = some ((false, 1)) := by kernel_rfl
theorem ag55 : tAgg P 55 = some ((false, 1)) := by kernel_rfl
theorem ap28 : tApp P 28 = some ((9, 112)) := by kernel_rfl
theorem go11 : callGo Go.Proofs.Tryz.f11 = true := by kernel_rfl
theorem go12 : callGo Go.Proofs.Tryz.f12 = true := by kernel_rfl
theorem go14 : callGo Go.Proofs.Tryz.f14 = true := by kernel_rfl
theorem go20 : callGo Go.Proofs.Tryz.f20 = true := by kernel_rfl
theorem go26 : callGo Go.Proofs.Tryz.f26 = true := by kernel_rfl
theorem go27 : callGo Go.Proofs.Tryz.f27 = true := by kernel_rfl
theorem go28 : callGo Go.Proofs.Tryz.f28 = true := by kernel_rfl
theorem go29 : callGo Go.Proofs.Tryz.f29 = true := by kernel_rfl
theorem isl28 : isSl P 28 = true := by kernel_rfl
theorem sl28 : tSl P 28 = some (9) := by kernel_rfl
theorem tz28 : tZero P 28 = some ([.slice none 0 0]) := by kernel_rfl
theorem tz3 : tZero P 3 = some ([.int .i64 0]) := by kernel_rfl
theorem tz37 : tZero P 37 = some ([.slice none 0 0]) := by kernel_rfl
theorem tz55 : tZero P 55 = some ([.slice none 0 0]) := by kernel_rfl
theorem zr28 : tZrow P 28 = some ([.int .i64 0, .int .i64 0, .string ⟨#[]⟩, .string ⟨#[]⟩, .string ⟨#[]⟩, .slice none 0 0, .int .i64 0, .int .i64 0, .bool false]) := by kernel_rfl
theorem zrd28 : cellsD [.int .i64 0, .int .i64 0, .string ⟨#[]⟩, .string ⟨#[]⟩, .string ⟨#[]⟩, .slice none 0 0, .int .i64 0, .int .i64 0, .bool false] = some ([.int .i64 0, .int .i64 0, .str ⟨#[]⟩, .str ⟨#[]⟩, .str ⟨#[]⟩, .sl 0 [], .int .i64 0, .int .i64 0, .bool false]) := rfl
end Go.Proofs.YtaegeaajhbfkgaaGreatDoorA.FCeZ
namespace Go.Proofs.YtaegeaajhbfkgaaGreatDoorA
open Go FCeZ
attribute [local irreducible] XOps Quiet Loud W AC GQ DT
theorem Quiet.no {P : Program} {N : Nm} {σ : Env} {hs : Hp} {o : Oper} (v : AV) (h : False) : Quiet P N σ hs o v := h.elim
def rpH (acc : List CI) (s : Stt) (v i5 i6 i7 : Nat) (hs : Hp) : Hp := (i5, .cells [.vs v 0 acc.length 9]) :: (v, .lst 9 (acc.map CI.enc)) :: (i6, .cells [.d (.sl 8 (s.fl.map Fl.enc))]) :: (i7, .cells [.d (.sl 3 (s.ow.map OE.enc))]) :: hs
def rqH (k : Nat) (acc : List CI) (s : Stt) (i8 i5 i6 i7 : Nat) (hs : Hp) : Hp := (i8, .cells [.d (.int .i64 (k : Nat))]) :: (i5, .cells [.d (.sl 9 (acc.map CI.enc))]) :: (i6, .cells [.d (.sl 8 (s.fl.map Fl.enc))]) :: (i7, .cells [.d (.sl 3 (s.ow.map OE.enc))]) :: hs
set_option maxHeartbeats 8000000 in
set_option maxRecDepth 100000 in
theorem rep1f_c (su : Su) (s : Stt) (x : CI) (acc : List CI) (b lb f gk gd v i5 i6 i7 : Nat) (hs : Hp) (o : StOk su s) (ha : acc.length ≤ 100) : AC P 26 [.ptr b 0, .d (.agg x.enc), .d (.int .i64 (stepE su s x)), .ptr i5 0, .ptr i6 0, .ptr i7 0] (ceH su (stepS su s x) b lb f gk gd (rpH acc s v i5 i6 i7 hs)) (fun r h => r = .d (.bool (true)) ∧ ∃ v2, h = ceH su (stepS su s x) b lb f gk gd (rpH (acc ++ (if stepE su s x = 0 then [x] else [])) (stepS su s x) v2 i5 i6 i7 hs)) := by
  have o2 := step_keep (x := x) o
  refine AC.of 20 Tryz.func26 rfl rfl rfl ?_
  refine W.reg ?_
  refine XOps.loud rfl (L.boxn rfl rfl) ?_
  rintro _ _ ⟨b7, rfl, rfl⟩
  refine XOps.s rfl rfl rfl (Q.assign_d rfl) ?_
  refine XOps.nil ?_
  refine W.seq ?_
  refine W.reg ?_
  refine XOps.s rfl rfl rfl (Q.move_d rfl) ?_
  refine XOps.s rfl rfl rfl (Q.eql rfl rfl) ?_
  refine XOps.nil ?_
  refine W.cond rfl (fun hc11 => ?_) (fun hc11 => ?_)
  · try simp only [Bool.or_eq_true, Bool.or_eq_false_iff, Bool.and_eq_true, Bool.and_eq_false_iff, decide_eq_true_eq, decide_eq_false_iff_not, Bool.not_eq_true', Bool.not_eq_false', Int.not_lt, Int.not_le, List.length_map] at hc11
    have h11 : stepE su s x = 0 := by first | exact hc11 | (simpa using hc11)
    rw [if_pos h11]
    refine W.region ?_
    refine XOps.s rfl rfl rfl (Q.ld_ptr (k := 6) ag28 rfl rfl rfl) ?_
    refine XOps.s rfl rfl rfl (Q.ld_ptrn (k := 0) ag35 rfl rfl rfl) ?_
    refine XOps.s rfl rfl rfl (Q.bsl1n sl28 (by decide) zr28 rfl zrd28 rfl rfl (by decide)) ?_
    (refine XOps.loud rfl (L.app (k := 7) ap28 rfl rfl (by simp) rfl (by simp; omega) rfl) ?_; rintro _ _ ⟨v15, rfl, rfl⟩)
    refine XOps.s rfl rfl rfl (Q.move_ptr rfl) ?_
    refine XOps.s rfl rfl rfl (Q.call rfl Tryz.func14 go14 rfl (flights_c su (stepS su s x).tm (stepS su s x).fl (stepS su s x).ow lb b 2 _ rfl o2.fw.all (by have := o2.fw.len; omega))) ?_
    refine XOps.s rfl rfl rfl (Q.move_ptr rfl) ?_
    refine XOps.s rfl rfl rfl (Q.call rfl Tryz.func20 go20 rfl (owners_c su (stepS su s x).tm (stepS su s x).fl (stepS su s x).ow lb b 2 _ rfl (by have := o2.fw.owk.len; omega))) ?_
    (refine XOps.loud rfl (L.store (k := 7) ag28 rfl rfl rfl rfl rfl) ?_; rintro _ _ ⟨rfl, rfl⟩)
    (refine XOps.loud rfl (L.store (k := 8) ag37 rfl rfl rfl rfl rfl) ?_; rintro _ _ ⟨rfl, rfl⟩)
    (refine XOps.loud rfl (L.store (k := 9) ag55 rfl rfl rfl rfl rfl) ?_; rintro _ _ ⟨rfl, rfl⟩)
    refine XOps.nil ?_
    refine W.reg ?_
    refine XOps.s rfl rfl rfl (Q.assign_d rfl) ?_
    refine XOps.nil ?_
    refine W.ret ?_
    exact ⟨_, ceH su (stepS su s x) b lb f gk gd (rpH (acc ++ [x]) (stepS su s x) v15 i5 i6 i7 hs), rfl, HLe.pick 2 rfl rfl (HLe.pick 2 rfl rfl (HLe.pick 2 rfl rfl (HLe.pick 2 rfl rfl (HLe.pick 2 rfl rfl (HLe.pick 2 rfl (by simp; rfl) (HLe.pick 0 rfl (by simp; rfl) (HLe.pick 1 rfl rfl (HLe.pick 1 rfl rfl (HLe.skip _ (HLe.refl _)))))))))), rfl, v15, rfl⟩
  · try simp only [Bool.or_eq_true, Bool.or_eq_false_iff, Bool.and_eq_true, Bool.and_eq_false_iff, decide_eq_true_eq, decide_eq_false_iff_not, Bool.not_eq_true', Bool.not_eq_false', Int.not_lt, Int.not_le, List.length_map] at hc11
    have h11 : ¬ stepE su s x = 0 := by first | exact hc11 | (simpa using hc11)
    have hS := stepS_no h11
    rw [if_neg h11, List.append_nil]
    have hR : rpH acc s v i5 i6 i7 hs = rpH acc (stepS su s x) v i5 i6 i7 hs := by rw [hS]
    rw [hR]
    refine W.skip ?_
    refine W.reg ?_
    refine XOps.s rfl rfl rfl (Q.assign_d rfl) ?_
    refine XOps.nil ?_
    refine W.ret ?_
    exact ⟨_, ceH su (stepS su s x) b lb f gk gd (rpH acc (stepS su s x) v i5 i6 i7 hs), rfl, HLe.skip _ (HLe.refl _), rfl, v, rfl⟩
set_option maxHeartbeats 8000000 in
set_option maxRecDepth 100000 in
theorem rep2a_c (su : Su) (s S : Stt) (x : CI) (acc : List CI) (k b lb f gk gd i8 i5 i6 i7 : Nat) (hs : Hp) (o : StOk su s) (ha : acc.length ≤ 100) (h0 : stepE su s x = 0) (hk : k + 1 = acc.length) (hS : S = stepS su s x) : AC P 27 [.ptr b 0, .d (.agg x.enc), .d (.int .i64 (stepE su s x)), .ptr i8 0, .ptr i5 0, .ptr i6 0, .ptr i7 0] (ceH su (stepS su s x) b lb f gk gd (rqH k acc S i8 i5 i6 i7 hs)) (fun r h => r = .d (.bool (true)) ∧ h = ceH su (stepS su s x) b lb f gk gd (rqH (k + 1) acc S i8 i5 i6 i7 hs)) := by
  have o2 := step_keep (x := x) o
  rw [h0]
  subst hS
  refine AC.of 33 Tryz.func27 rfl rfl rfl ?_
  refine W.reg ?_
  refine XOps.loud rfl (L.boxn rfl rfl) ?_
  rintro _ _ ⟨b8, rfl, rfl⟩
  refine XOps.s rfl rfl rfl (Q.assign_d rfl) ?_
  refine XOps.nil ?_
  refine W.reg ?_
  refine XOps.s rfl rfl rfl (Q.ld_ptr (k := 6) ag3 rfl rfl rfl) ?_
  refine XOps.s rfl rfl rfl (Q.add rfl rfl (wi64 (by first | omega | (dsimp only; omega) | (simp only [List.length_map]; omega)) (by first | omega | (dsimp only; omega) | (simp only [List.length_map]; omega)))) ?_
  (refine XOps.loud rfl (L.store (k := 6) ag3 rfl rfl rfl rfl rfl) ?_; rintro _ _ ⟨rfl, rfl⟩)
  refine XOps.nil ?_
  refine W.drawreg 20 follows (by kernel_rfl) ?_
  refine Chain.cons _ (GQ.q rfl (Q.move_d rfl)) rfl ?_
  refine Chain.cons _ (GQ.q rfl (Q.eql rfl rfl)) rfl ?_
  refine Chain.cons _ (GQ.q rfl (Q.move_d rfl)) rfl ?_
  refine Chain.cons _ (GQ.g rfl rfl rfl rfl rfl (fun hg => Q.ld_ptr (k := 6) ag3 rfl rfl rfl)) rfl ?_
  refine Chain.cons _ (GQ.g rfl rfl rfl rfl rfl (fun hg => Q.ld_ptr (k := 7) ag28 rfl rfl rfl)) rfl ?_
  refine Chain.cons _ (GQ.g rfl rfl rfl rfl rfl (fun hg => Quiet.open 17 hg rfl (Q.len_sl isl28 rfl))) rfl ?_
  refine Chain.cons _ (GQ.g rfl rfl rfl rfl rfl (fun hg => Quiet.open 16 hg rfl (Quiet.open 18 hg rfl (Q.lss rfl rfl)))) rfl ?_
  refine Chain.cons _ (GQ.g rfl rfl rfl rfl rfl (fun hg => Quiet.open 19 hg rfl (Q.move_d rfl))) rfl ?_
  refine Chain.cons _ (GQ.gw rfl rfl rfl rfl rfl (fun hg => Q.ld_ptr (k := 8) ag37 rfl rfl rfl)) rfl ?_
  refine Chain.cons _ (GQ.gw rfl rfl rfl rfl rfl (fun hg => Q.move_ptr rfl)) rfl ?_
  refine Chain.cons _ (GQ.gw rfl rfl rfl rfl rfl (fun hg => Quiet.open 22 hg rfl (Q.call rfl Tryz.func14 go14 rfl (flights_c su (stepS su s x).tm (stepS su s x).fl (stepS su s x).ow lb b 1 _ rfl o2.fw.all (by have := o2.fw.len; omega))))) rfl ?_
  refine Chain.cons _ (GQ.gw rfl rfl rfl rfl rfl (fun hg => Quiet.open 21 hg rfl (Quiet.open 23 hg rfl (Q.call rfl Tryz.func28 go28 rfl (same_c (stepS su s x).fl _ (by have := o2.fw.len; omega) o2.fw.all))))) rfl ?_
  refine Chain.cons _ (GQ.gw rfl rfl rfl rfl rfl (fun hg => Quiet.open 24 hg rfl (Q.move_d rfl))) rfl ?_
  refine Chain.cons _ (GQ.gw rfl rfl rfl rfl rfl (fun hg => Q.ld_ptr (k := 9) ag55 rfl rfl rfl)) rfl ?_
  refine Chain.cons _ (GQ.gw rfl rfl rfl rfl rfl (fun hg => Q.move_ptr rfl)) rfl ?_
  refine Chain.cons _ (GQ.gw rfl rfl rfl rfl rfl (fun hg => Quiet.open 27 hg rfl (Q.call rfl Tryz.func20 go20 rfl (owners_c su (stepS su s x).tm (stepS su s x).fl (stepS su s x).ow lb b 1 _ rfl (by have := o2.fw.owk.len; omega))))) rfl ?_
  refine Chain.cons _ (GQ.gw rfl rfl rfl rfl rfl (fun hg => Quiet.open 26 hg rfl (Quiet.open 28 hg rfl (Q.call rfl Tryz.func29 go29 rfl (eqO_c (stepS su s x).ow _ (by have := o2.fw.owk.len; omega)))))) rfl ?_
  refine Chain.cons _ (GQ.gw rfl rfl rfl rfl rfl (fun hg => Quiet.open 25 hg rfl (Q.pick_and rfl rfl rfl (fun h => by first | (rw [h]; rfl) | (rw [hg, h]; rfl) | (simp [h, hg]; done))))) rfl ?_
  refine Chain.cons _ (GQ.g rfl rfl rfl rfl rfl (fun hg => Quiet.open 20 hg rfl (Q.pick_or rfl rfl rfl (fun h => by first | (rw [h]; rfl) | (rw [hg, h]; rfl) | (simp [h, hg]; done))))) rfl ?_
  refine Chain.cons _ (GQ.q rfl (Q.pick_and rfl rfl rfl (fun h => by first | (rw [h]; rfl) | (rw [hg, h]; rfl) | (simp [h, hg]; done)))) rfl ?_
  refine Chain.nil ?_
  refine XOps.s rfl rfl rfl (Q.assign_d rfl) ?_
  refine XOps.nil ?_
  refine W.ret ?_
  refine ⟨_, ceH su (stepS su s x) b lb f gk gd (rqH (k + 1) acc (stepS su s x) i8 i5 i6 i7 hs), rfl, HLe.skip _ (HLe.cons _ (HLe.cons _ (HLe.cons _ (HLe.cons _ (HLe.cons _ (HLe.cons' (congrArg (fun z => HO.cells [AV.d (.int .i64 z)]) (show (((k + 1 : Nat) : Int)) = (k : Int) + 1 by omega)) (HLe.refl _))))))), ?_, rfl⟩
  show AV.d (.bool _) = _
  exact congrArg (fun b => AV.d (D.bool b)) (by simp)
set_option maxHeartbeats 8000000 in
set_option maxRecDepth 100000 in
theorem rep2b_c (su : Su) (s S : Stt) (x : CI) (acc : List CI) (k b lb f gk gd i8 i5 i6 i7 : Nat) (hs : Hp) (o : StOk su s) (ha : acc.length ≤ 100) (h0 : stepE su s x = 0) (hk : k + 1 < acc.length) : AC P 27 [.ptr b 0, .d (.agg x.enc), .d (.int .i64 (stepE su s x)), .ptr i8 0, .ptr i5 0, .ptr i6 0, .ptr i7 0] (ceH su (stepS su s x) b lb f gk gd (rqH k acc S i8 i5 i6 i7 hs)) (fun r h => r = .d (.bool (true)) ∧ h = ceH su (stepS su s x) b lb f gk gd (rqH (k + 1) acc S i8 i5 i6 i7 hs)) := by
  have o2 := step_keep (x := x) o
  rw [h0]
  refine AC.of 33 Tryz.func27 rfl rfl rfl ?_
  refine W.reg ?_
  refine XOps.loud rfl (L.boxn rfl rfl) ?_
  rintro _ _ ⟨b8, rfl, rfl⟩
  refine XOps.s rfl rfl rfl (Q.assign_d rfl) ?_
  refine XOps.nil ?_
  refine W.reg ?_
  refine XOps.s rfl rfl rfl (Q.ld_ptr (k := 6) ag3 rfl rfl rfl) ?_
  refine XOps.s rfl rfl rfl (Q.add rfl rfl (wi64 (by first | omega | (dsimp only; omega) | (simp only [List.length_map]; omega)) (by first | omega | (dsimp only; omega) | (simp only [List.length_map]; omega)))) ?_
  (refine XOps.loud rfl (L.store (k := 6) ag3 rfl rfl rfl rfl rfl) ?_; rintro _ _ ⟨rfl, rfl⟩)
  refine XOps.nil ?_
  refine W.drawreg 20 follows (by kernel_rfl) ?_
  refine Chain.cons _ (GQ.q rfl (Q.move_d rfl)) rfl ?_
  refine Chain.cons _ (GQ.q rfl (Q.eql rfl rfl)) rfl ?_
  refine Chain.cons _ (GQ.q rfl (Q.move_d rfl)) rfl ?_
  refine Chain.cons _ (GQ.g rfl rfl rfl rfl rfl (fun hg => Q.ld_ptr (k := 6) ag3 rfl rfl rfl)) rfl ?_
  refine Chain.cons _ (GQ.g rfl rfl rfl rfl rfl (fun hg => Q.ld_ptr (k := 7) ag28 rfl rfl rfl)) rfl ?_
  refine Chain.cons _ (GQ.g rfl rfl rfl rfl rfl (fun hg => Quiet.open 17 hg rfl (Q.len_sl isl28 rfl))) rfl ?_
  refine Chain.cons _ (GQ.g rfl rfl rfl rfl rfl (fun hg => Quiet.open 16 hg rfl (Quiet.open 18 hg rfl (Q.lss rfl rfl)))) rfl ?_
  refine Chain.cons _ (GQ.g rfl rfl rfl rfl rfl (fun hg => Quiet.open 19 hg rfl (Q.move_d rfl))) rfl ?_
  refine Chain.cons _ (GQ.gw rfl rfl rfl rfl rfl (fun hg => Q.ld_ptr (k := 8) ag37 rfl rfl rfl)) rfl ?_
  refine Chain.cons _ (GQ.gw rfl rfl rfl rfl rfl (fun hg => Q.move_ptr rfl)) rfl ?_
  refine Chain.cons _ (GQ.gw rfl rfl rfl rfl rfl (fun hg => Quiet.open 22 hg rfl (Q.call rfl Tryz.func14 go14 rfl (flights_c su (stepS su s x).tm (stepS su s x).fl (stepS su s x).ow lb b 1 _ rfl o2.fw.all (by have := o2.fw.len; omega))))) rfl ?_
  refine Chain.cons _ (GQ.gw rfl rfl rfl rfl rfl (fun hg => Quiet.open 21 hg rfl (Quiet.open 23 hg rfl (Quiet.no (.d (.bool true)) (by first | (simp at hg; done) | (simp at hg; omega)))))) rfl ?_
  refine Chain.cons _ (GQ.gw rfl rfl rfl rfl rfl (fun hg => Quiet.open 24 hg rfl (Q.move_d rfl))) rfl ?_
  refine Chain.cons _ (GQ.gw rfl rfl rfl rfl rfl (fun hg => Q.ld_ptr (k := 9) ag55 rfl rfl rfl)) rfl ?_
  refine Chain.cons _ (GQ.gw rfl rfl rfl rfl rfl (fun hg => Q.move_ptr rfl)) rfl ?_
  refine Chain.cons _ (GQ.gw rfl rfl rfl rfl rfl (fun hg => Quiet.open 27 hg rfl (Q.call rfl Tryz.func20 go20 rfl (owners_c su (stepS su s x).tm (stepS su s x).fl (stepS su s x).ow lb b 1 _ rfl (by have := o2.fw.owk.len; omega))))) rfl ?_
  refine Chain.cons _ (GQ.gw rfl rfl rfl rfl rfl (fun hg => Quiet.open 26 hg rfl (Quiet.open 28 hg rfl (Quiet.no (.d (.bool true)) (by first | (simp at hg; done) | (simp at hg; omega)))))) rfl ?_
  refine Chain.cons _ (GQ.gw rfl rfl rfl rfl rfl (fun hg => Quiet.open 25 hg rfl (Q.pick_and rfl rfl rfl (fun h => by first | (rw [h]; rfl) | (rw [hg, h]; rfl) | (simp [h, hg]; done))))) rfl ?_
  refine Chain.cons _ (GQ.g rfl rfl rfl rfl rfl (fun hg => Quiet.open 20 hg rfl (Q.pick_or rfl rfl rfl (fun h => by first | (rw [h]; rfl) | (rw [hg, h]; rfl) | (simp [h, hg]; done))))) rfl ?_
  refine Chain.cons _ (GQ.q rfl (Q.pick_and rfl rfl rfl (fun h => by first | (rw [h]; rfl) | (rw [hg, h]; rfl) | (simp [h, hg]; done)))) rfl ?_
  refine Chain.nil ?_
  refine XOps.s rfl rfl rfl (Q.assign_d rfl) ?_
  refine XOps.nil ?_
  refine W.ret ?_
  refine ⟨_, ceH su (stepS su s x) b lb f gk gd (rqH (k + 1) acc S i8 i5 i6 i7 hs), rfl, HLe.skip _ (HLe.cons _ (HLe.cons _ (HLe.cons _ (HLe.cons _ (HLe.cons _ (HLe.cons' (congrArg (fun z => HO.cells [AV.d (.int .i64 z)]) (show (((k + 1 : Nat) : Int)) = (k : Int) + 1 by omega)) (HLe.refl _))))))), ?_, rfl⟩
  show AV.d (.bool _) = _
  exact congrArg (fun b => AV.d (D.bool b)) (by first | (simp; done) | (simp; omega))
theorem rep2f_c (su : Su) (s S : Stt) (x : CI) (acc : List CI) (k b lb f gk gd i8 i5 i6 i7 : Nat) (hs : Hp) (o : StOk su s) (ha : acc.length ≤ 100) (h0 : stepE su s x = 0) (hk : k < acc.length) (hS : k + 1 = acc.length → S = stepS su s x) : AC P 27 [.ptr b 0, .d (.agg x.enc), .d (.int .i64 (stepE su s x)), .ptr i8 0, .ptr i5 0, .ptr i6 0, .ptr i7 0] (ceH su (stepS su s x) b lb f gk gd (rqH k acc S i8 i5 i6 i7 hs)) (fun r h => r = .d (.bool (true)) ∧ h = ceH su (stepS su s x) b lb f gk gd (rqH (k + 1) acc S i8 i5 i6 i7 hs)) := by
  by_cases h : k + 1 = acc.length
  · exact rep2a_c su s S x acc k b lb f gk gd i8 i5 i6 i7 hs o ha h0 h (hS h)
  · exact rep2b_c su s S x acc k b lb f gk gd i8 i5 i6 i7 hs o ha h0 (by omega)
theorem atS_acc (su : Su) (xs : List CI) (m : Nat) : atS su (accK su xs m) (accK su xs m).length = atS su xs m := by
  unfold atS; rw [List.take_length]; exact accS_run su _ _
theorem accK_ok (su : Su) (xs : List CI) (m k : Nat) (x : CI) (h : (accK su xs m)[k]? = some x) : stepE su (atS su (accK su xs m) k) x = 0 := accS_ok su _ _ k x h
theorem accK_mem (su : Su) (xs : List CI) (m : Nat) (x : CI) (h : x ∈ accK su xs m) : x ∈ xs := List.mem_of_mem_take (accS_mem su _ _ h)
set_option maxHeartbeats 8000000 in
set_option maxRecDepth 100000 in
theorem repeats1 (su : Su) (xs : List CI) (gk gd : Nat) (hs : Hp) (hx : ∀ x ∈ xs, CiS x) (hlen : xs.length ≤ 4611686018427387904) (h0 : suC su = 0) : AC P 7 [.d (.agg su.enc), .d (.sl 9 (xs.map CI.enc))] ((gk, kiG) :: (gd, p10G) :: hs) (fun r h => r = .d (.bool (true))) := by
  have hac := accK_len su xs (min xs.length 14)
  refine AC.of 25 Tryz.func7 rfl rfl rfl ?_
  refine W.reg ?_
  refine XOps.loud rfl (L.boxn rfl rfl) ?_
  rintro _ _ ⟨b2, rfl, rfl⟩
  refine XOps.s rfl rfl rfl (Q.assign_d rfl) ?_
  refine XOps.nil ?_
  refine W.reg ?_
  (refine XOps.loud rfl (L.alloc tz28 rfl rfl) ?_; rintro _ _ ⟨b5, rfl, rfl⟩)
  refine XOps.nil ?_
  refine W.ghostc 0 0 9 (by decide) rfl rfl (fun v5 => ?_)
  refine W.reg ?_
  (refine XOps.loud rfl (L.alloc tz37 rfl rfl) ?_; rintro _ _ ⟨b6, rfl, rfl⟩)
  refine XOps.nil ?_
  refine W.ghostc 0 0 8 (by decide) rfl rfl (fun v6 => ?_)
  refine W.freezec 0 rfl rfl ?_
  refine W.reg ?_
  (refine XOps.loud rfl (L.alloc tz55 rfl rfl) ?_; rintro _ _ ⟨b7, rfl, rfl⟩)
  refine XOps.nil ?_
  refine W.ghostc 0 0 3 (by decide) rfl rfl (fun v7 => ?_)
  refine W.freezec 0 rfl rfl ?_
  refine W.seq ?_
  refine W.reg ?_
  (refine XOps.loud rfl (L.call rfl Tryz.func11 go11 rfl (AC.le (fact_c gk gd ((b7, .cells [.d (.sl 3 [])]) :: (b6, .cells [.d (.sl 8 [])]) :: (v5, .lst 9 []) :: (b5, .cells [.vs v5 0 0 9]) :: (b2, .cells (su.enc.map .d)) :: hs)) (HLe.pick 5 rfl rfl (HLe.pick 5 rfl rfl (HLe.refl _)))) rfl) ?_; rintro _ _ ⟨_, rfl, rfl, rfl⟩)
  refine XOps.s rfl rfl rfl (Q.not rfl) ?_
  refine XOps.s rfl rfl rfl (Q.move_d rfl) ?_
  refine XOps.gs rfl rfl rfl rfl rfl rfl rfl (fun hg => Q.ld_ptrn (k := 6) ag27 rfl rfl rfl) ?_
  refine XOps.gs rfl rfl rfl rfl rfl rfl rfl (fun hg => Q.move_d rfl) ?_
  refine XOps.gs rfl rfl rfl rfl rfl rfl rfl (fun hg => Q.mkfn rfl) ?_
  refine XOps.gl (.d (.bool false)) rfl rfl rfl rfl rfl rfl (fun hg => Loud.open 12 hg rfl (Loud.open 13 hg rfl (Loud.open 14 hg rfl (L.call rfl Tryz.func12 go12 rfl (AC.le (run_c su xs 26 _ Tryz.func26 go26 [.ptr b5 0, .ptr b6 0, .ptr b7 0] (fun k H => ∃ v, H = rpH (accK su xs k) (atS su xs k) v b5 b6 b7 ((b2, .cells (su.enc.map .d)) :: hs)) gk gd (rpH [] Stt.zero v5 b5 b6 b7 ((b2, .cells (su.enc.map .d)) :: hs)) h0 hx hlen ⟨v5, by rw [atS_zero]; rfl⟩ (fun k x b lb f H hk hxk ⟨v, hJ⟩ => by subst hJ; rw [atS_succ su hxk]; exact (rep1f_c su (atS su xs k) x (accK su xs k) b lb f gk gd v b5 b6 b7 ((b2, .cells (su.enc.map .d)) :: hs) (atS_ok h0 xs k) (by have := accK_len su xs k; omega)).mono fun r h ⟨h1, v2, h2⟩ => ⟨h1, _, ⟨v2, by rw [accK_succ su hxk]⟩, h2⟩)) (HLe.cons _ (HLe.cons _ (HLe.pick 3 rfl rfl (HLe.pick 2 rfl rfl (HLe.pick 1 rfl rfl (HLe.pick 0 rfl rfl (HLe.refl _)))))))) rfl)))) (fun hg => ?_) (fun hg => ?_)
  · rintro _ _ ⟨rfl, H2, ⟨v, rfl⟩, rfl⟩
    have hgt : _ = true := hg
    refine XOps.gs rfl rfl rfl rfl rfl rfl rfl (fun hg => Quiet.open 15 hg rfl (Q.not rfl)) ?_
    refine XOps.s rfl rfl rfl (Q.pick_or rfl rfl rfl (fun h => by first | (rw [h]; rfl) | (rw [hg, h]; rfl) | (simp [h, hg]; done))) ?_
    refine XOps.nil ?_
    refine W.cond rfl (fun hc17 => ?_) (fun hc17 => ?_)
    · try simp only [Bool.or_eq_true, Bool.or_eq_false_iff, Bool.and_eq_true, Bool.and_eq_false_iff, decide_eq_true_eq, decide_eq_false_iff_not, Bool.not_eq_true', Bool.not_eq_false', Int.not_lt, Int.not_le, List.length_map] at hc17
      exact absurd hc17 (by decide)
    · try simp only [Bool.or_eq_true, Bool.or_eq_false_iff, Bool.and_eq_true, Bool.and_eq_false_iff, decide_eq_true_eq, decide_eq_false_iff_not, Bool.not_eq_true', Bool.not_eq_false', Int.not_lt, Int.not_le, List.length_map] at hc17
      refine W.skip ?_
      refine W.seq ?_
      refine W.reg ?_
      refine XOps.s rfl rfl rfl (Q.ld_ptr (k := 2) ag28 rfl rfl rfl) ?_
      refine XOps.s rfl rfl rfl (Q.len_vs isl28 rfl) ?_
      refine XOps.s rfl rfl rfl (Q.eql rfl rfl) ?_
      refine XOps.nil ?_
      refine W.cond rfl (fun hc20 => ?_) (fun hc20 => ?_)
      · try simp only [Bool.or_eq_true, Bool.or_eq_false_iff, Bool.and_eq_true, Bool.and_eq_false_iff, decide_eq_true_eq, decide_eq_false_iff_not, Bool.not_eq_true', Bool.not_eq_false', Int.not_lt, Int.not_le, List.length_map] at hc20
        refine W.reg ?_
        refine XOps.s rfl rfl rfl (Q.assign_d rfl) ?_
        refine XOps.nil ?_
        refine W.ret ?_
        exact ⟨_, _, rfl, HLe.refl _, rfl⟩
      · try simp only [Bool.or_eq_true, Bool.or_eq_false_iff, Bool.and_eq_true, Bool.and_eq_false_iff, decide_eq_true_eq, decide_eq_false_iff_not, Bool.not_eq_true', Bool.not_eq_false', Int.not_lt, Int.not_le, List.length_map] at hc20
        refine W.skip ?_
        refine W.reg ?_
        (refine XOps.loud rfl (L.alloc tz3 rfl rfl) ?_; rintro _ _ ⟨b8, rfl, rfl⟩)
        refine XOps.loud rfl (L.store (k := 0) ag3 rfl rfl rfl rfl rfl) ?_
        rintro _ _ ⟨rfl, rfl⟩
        refine XOps.nil ?_
        refine W.heap ((v, .lst 9 ((accK su xs (min xs.length 14)).map CI.enc)) :: (b5, .cells [.vs v 0 (accK su xs (min xs.length 14)).length 9]) :: (b8, .cells [.d (.int .i64 (0 : Int))]) :: (gk, kiG) :: (gd, p10G) :: (b6, .cells [.d (.sl 8 ((atS su xs (min xs.length 14)).fl.map Fl.enc))]) :: (b7, .cells [.d (.sl 3 ((atS su xs (min xs.length 14)).ow.map OE.enc))]) :: (b2, .cells (su.enc.map .d)) :: hs) (HLe.pick 4 rfl rfl (HLe.pick 3 rfl rfl (HLe.refl _))) ?_
        refine W.freezec 0 rfl (by simp) ?_
        refine W.reg ?_
        refine XOps.s rfl rfl rfl (Q.ld_ptrn (k := 6) ag27 rfl rfl rfl) ?_
        refine XOps.s rfl rfl rfl (Q.ld_ptr (k := 0) ag28 rfl rfl rfl) ?_
        refine XOps.s rfl rfl rfl (Q.mkfn rfl) ?_
        (refine XOps.loud rfl (L.call rfl Tryz.func12 go12 rfl (AC.le (run_c su (accK su xs (min xs.length 14)) 27 _ Tryz.func27 go27 [.ptr b8 0, .ptr b5 0, .ptr b6 0, .ptr b7 0] (fun k H => H = rqH k (accK su xs (min xs.length 14)) (atS su xs (min xs.length 14)) b8 b5 b6 b7 ((b2, .cells (su.enc.map .d)) :: hs)) gk gd (rqH 0 (accK su xs (min xs.length 14)) (atS su xs (min xs.length 14)) b8 b5 b6 b7 ((b2, .cells (su.enc.map .d)) :: hs)) h0 (fun x h => hx x (accK_mem su xs _ x h)) (by omega) rfl (fun k x b lb f H hk hxk hJ => by subst hJ; rw [atS_succ su hxk]; exact (rep2f_c su (atS su (accK su xs (min xs.length 14)) k) (atS su xs (min xs.length 14)) x (accK su xs (min xs.length 14)) k b lb f gk gd b8 b5 b6 b7 ((b2, .cells (su.enc.map .d)) :: hs) (atS_ok h0 _ k) (by omega) (accK_ok su xs _ k x hxk) (List.getElem?_eq_some_iff.1 hxk).1 (fun hk2 => by rw [← atS_acc, ← hk2, atS_succ su hxk])).mono fun r h ⟨h1, h2⟩ => ⟨h1, _, rfl, h2⟩)) (HLe.pick 2 rfl rfl (HLe.pick 2 rfl rfl (HLe.pick 1 rfl rfl (HLe.pick 0 rfl rfl (HLe.refl _)))))) rfl) ?_; rintro _ _ ⟨_, rfl, rfl, H3, hJ3, rfl⟩)
        refine XOps.s rfl rfl rfl (Q.assign_d rfl) ?_
        refine XOps.nil ?_
        refine W.ret ?_
        exact ⟨_, _, rfl, HLe.refl _, rfl⟩
  · have hgf : _ = false := hg
    exact absurd hgf (by decide) --done
set_option maxHeartbeats 8000000 in
set_option maxRecDepth 100000 in
theorem repeats2 (su : Su) (xs : List CI) (gk gd : Nat) (hs : Hp) (hx : ∀ x ∈ xs, CiS x) (hlen : xs.length ≤ 4611686018427387904) (h0 : suC su ≠ 0) : AC P 7 [.d (.agg su.enc), .d (.sl 9 (xs.map CI.enc))] ((gk, kiG) :: (gd, p10G) :: hs) (fun r h => r = .d (.bool (true))) := by
  refine AC.of 25 Tryz.func7 rfl rfl rfl ?_
  refine W.reg ?_
  refine XOps.loud rfl (L.boxn rfl rfl) ?_
  rintro _ _ ⟨b2, rfl, rfl⟩
  refine XOps.s rfl rfl rfl (Q.assign_d rfl) ?_
  refine XOps.nil ?_
  refine W.reg ?_
  (refine XOps.loud rfl (L.alloc tz28 rfl rfl) ?_; rintro _ _ ⟨b5, rfl, rfl⟩)
  refine XOps.nil ?_
  refine W.ghostc 0 0 9 (by decide) rfl rfl (fun v5 => ?_)
  refine W.reg ?_
  (refine XOps.loud rfl (L.alloc tz37 rfl rfl) ?_; rintro _ _ ⟨b6, rfl, rfl⟩)
  refine XOps.nil ?_
  refine W.ghostc 0 0 8 (by decide) rfl rfl (fun v6 => ?_)
  refine W.freezec 0 rfl rfl ?_
  refine W.reg ?_
  (refine XOps.loud rfl (L.alloc tz55 rfl rfl) ?_; rintro _ _ ⟨b7, rfl, rfl⟩)
  refine XOps.nil ?_
  refine W.ghostc 0 0 3 (by decide) rfl rfl (fun v7 => ?_)
  refine W.freezec 0 rfl rfl ?_
  refine W.seq ?_
  refine W.reg ?_
  (refine XOps.loud rfl (L.call rfl Tryz.func11 go11 rfl (AC.le (fact_c gk gd ((b7, .cells [.d (.sl 3 [])]) :: (b6, .cells [.d (.sl 8 [])]) :: (v5, .lst 9 []) :: (b5, .cells [.vs v5 0 0 9]) :: (b2, .cells (su.enc.map .d)) :: hs)) (HLe.pick 5 rfl rfl (HLe.pick 5 rfl rfl (HLe.refl _)))) rfl) ?_; rintro _ _ ⟨_, rfl, rfl, rfl⟩)
  refine XOps.s rfl rfl rfl (Q.not rfl) ?_
  refine XOps.s rfl rfl rfl (Q.move_d rfl) ?_
  refine XOps.gs rfl rfl rfl rfl rfl rfl rfl (fun hg => Q.ld_ptrn (k := 6) ag27 rfl rfl rfl) ?_
  refine XOps.gs rfl rfl rfl rfl rfl rfl rfl (fun hg => Q.move_d rfl) ?_
  refine XOps.gs rfl rfl rfl rfl rfl rfl rfl (fun hg => Q.mkfn rfl) ?_
  refine XOps.gl (.d (.bool false)) rfl rfl rfl rfl rfl rfl (fun hg => Loud.open 12 hg rfl (Loud.open 13 hg rfl (Loud.open 14 hg rfl (L.call rfl Tryz.func12 go12 rfl (runx_c su xs _ _ h0) rfl)))) (fun hg => ?_) (fun hg => ?_)
  · rintro _ _ ⟨rfl, rfl⟩
    have hgt : _ = true := hg
    refine XOps.gs rfl rfl rfl rfl rfl rfl rfl (fun hg => Quiet.open 15 hg rfl (Q.not rfl)) ?_
    refine XOps.s rfl rfl rfl (Q.pick_or rfl rfl rfl (fun h => by first | (rw [h]; rfl) | (rw [hg, h]; rfl) | (simp [h, hg]; done))) ?_
    refine XOps.nil ?_
    refine W.cond rfl (fun hc17 => ?_) (fun hc17 => ?_)
    · try simp only [Bool.or_eq_true, Bool.or_eq_false_iff, Bool.and_eq_true, Bool.and_eq_false_iff, decide_eq_true_eq, decide_eq_false_iff_not, Bool.not_eq_true', Bool.not_eq_false', Int.not_lt, Int.not_le, List.length_map] at hc17
      exact absurd hc17 (by decide)
    · try simp only [Bool.or_eq_true, Bool.or_eq_false_iff, Bool.and_eq_true, Bool.and_eq_false_iff, decide_eq_true_eq, decide_eq_false_iff_not, Bool.not_eq_true', Bool.not_eq_false', Int.not_lt, Int.not_le, List.length_map] at hc17
      refine W.skip ?_
      refine W.seq ?_
      refine W.reg ?_
      refine XOps.s rfl rfl rfl (Q.ld_ptr (k := 5) ag28 rfl rfl rfl) ?_
      refine XOps.s rfl rfl rfl (Q.len_vs isl28 rfl) ?_
      refine XOps.s rfl rfl rfl (Q.eql rfl rfl) ?_
      refine XOps.nil ?_
      refine W.cond rfl (fun hc20 => ?_) (fun hc20 => ?_)
      · try simp only [Bool.or_eq_true, Bool.or_eq_false_iff, Bool.and_eq_true, Bool.and_eq_false_iff, decide_eq_true_eq, decide_eq_false_iff_not, Bool.not_eq_true', Bool.not_eq_false', Int.not_lt, Int.not_le, List.length_map] at hc20
        refine W.reg ?_
        refine XOps.s rfl rfl rfl (Q.assign_d rfl) ?_
        refine XOps.nil ?_
        refine W.ret ?_
        exact ⟨_, _, rfl, HLe.refl _, rfl⟩
      · try simp only [Bool.or_eq_true, Bool.or_eq_false_iff, Bool.and_eq_true, Bool.and_eq_false_iff, decide_eq_true_eq, decide_eq_false_iff_not, Bool.not_eq_true', Bool.not_eq_false', Int.not_lt, Int.not_le, List.length_map] at hc20
        exact absurd hc20 (by simp)
  · have hgf : _ = false := hg
    exact absurd hgf (by decide) --done
theorem repeats_c (su : Su) (xs : List CI) (gk gd : Nat) (hs : Hp) (hx : ∀ x ∈ xs, CiS x) (hlen : xs.length ≤ 4611686018427387904) : AC P 7 [.d (.agg su.enc), .d (.sl 9 (xs.map CI.enc))] ((gk, kiG) :: (gd, p10G) :: hs) (fun r h => r = .d (.bool (true))) := by
  by_cases h : suC su = 0
  · exact repeats1 su xs gk gd hs hx hlen h
  · exact repeats2 su xs gk gd hs hx hlen h
end Go.Proofs.YtaegeaajhbfkgaaGreatDoorA

