/- The law of refused inputs. -/
import Derived.Test.YtaegeaajhbfkgaaGreatDoorFrB
import Derived.Test.YtaegeaajhbfkgaaGreatDoorCeX
set_option linter.unusedVariables false
set_option linter.unusedSimpArgs false
set_option linter.unnecessarySimpa false
namespace Go.Proofs.YtaegeaajhbfkgaaGreatDoorA.FCeY
open Go
theorem ag27 : tAgg P 27 = some ((true, 18)) := by kernel_rfl
theorem ag3 : tAgg P 3 = some ((false, 1)) := by kernel_rfl
theorem ag37 : tAgg P 37 = some ((false, 1)) := by kernel_rfl
theorem ag55 : tAgg P 55 = some ((false, 1)) := by kernel_rfl
theorem ag9 : tAgg P 9 = some ((false, 1)) := by kernel_rfl
theorem fl35_1 : tFld P 35 1 = some (1) := by kernel_rfl
theorem fl35_2 : tFld P 35 2 = some (2) := by kernel_rfl
theorem fl69_1 : tFld P 69 1 = some (1) := by kernel_rfl
theorem fl69_3 : tFld P 69 3 = some (3) := by kernel_rfl
theorem go11 : callGo Go.Proofs.Tryz.f11 = true := by kernel_rfl
theorem go12 : callGo Go.Proofs.Tryz.f12 = true := by kernel_rfl
theorem go14 : callGo Go.Proofs.Tryz.f14 = true := by kernel_rfl
theorem go20 : callGo Go.Proofs.Tryz.f20 = true := by kernel_rfl
theorem go23 : callGo Go.Proofs.Tryz.f23 = true := by kernel_rfl
theorem go28 : callGo Go.Proofs.Tryz.f28 = true := by kernel_rfl
theorem go29 : callGo Go.Proofs.Tryz.f29 = true := by kernel_rfl
theorem go30 : callGo Go.Proofs.Tryz.f30 = true := by kernel_rfl
theorem go31 : callGo Go.Proofs.Tryz.f31 = true := by kernel_rfl
theorem isl66 : isSl P 66 = true := by kernel_rfl
theorem sl66 : tSl P 66 = some (4) := by kernel_rfl
theorem tz3 : tZero P 3 = some ([.int .i64 0]) := by kernel_rfl
theorem tz37 : tZero P 37 = some ([.slice none 0 0]) := by kernel_rfl
theorem tz55 : tZero P 55 = some ([.slice none 0 0]) := by kernel_rfl
end Go.Proofs.YtaegeaajhbfkgaaGreatDoorA.FCeY
namespace Go.Proofs.YtaegeaajhbfkgaaGreatDoorA
open Go FCeY
attribute [local irreducible] XOps Quiet Loud W AC GQ DT
def rfH (s : Stt) (i5 i6 i7 i8 : Nat) (hs : Hp) : Hp := (i5, .cells [.d (.sl 8 (s.fl.map Fl.enc))]) :: (i6, .cells [.d (.sl 3 (s.ow.map OE.enc))]) :: (i7, .cells [.d (.int .i64 s.tm)]) :: (i8, .cells [.d (.int .i64 s.lg.length)]) :: hs
theorem new_row (l : List EN) (x : EN) {i : Int} (h : i = l.length) : ((fromL (l ++ [x]) 1).map EN.enc)[i.toNat]? = some x.enc := by
  rw [fromL_one, h, Int.toNat_natCast, List.getElem?_map, List.getElem?_append_right (Nat.le_refl _)]; simp
set_option maxHeartbeats 8000000 in
set_option maxRecDepth 100000 in
theorem refusesf_c (su : Su) (s : Stt) (x : CI) (b lb f gk gd i5 i6 i7 i8 : Nat) (hs : Hp) (o : StOk su s) : AC P 30 [.ptr b 0, .d (.agg x.enc), .d (.int .i64 (stepE su s x)), .ptr i5 0, .ptr i6 0, .ptr i7 0, .ptr i8 0] (ceH su (stepS su s x) b lb f gk gd (rfH s i5 i6 i7 i8 hs)) (fun r h => r = .d (.bool (true)) ∧ h = ceH su (stepS su s x) b lb f gk gd (rfH (stepS su s x) i5 i6 i7 i8 hs)) := by
  have o2 := step_keep (x := x) o
  have hln := o.ln
  refine AC.of 78 Tryz.func30 rfl rfl rfl ?_
  refine W.reg ?_
  refine XOps.loud rfl (L.boxn rfl rfl) ?_
  rintro _ _ ⟨b8, rfl, rfl⟩
  refine XOps.s rfl rfl rfl (Q.assign_d rfl) ?_
  refine XOps.nil ?_
  refine W.reg ?_
  refine XOps.s rfl rfl rfl (Q.move_ptr rfl) ?_
  refine XOps.s rfl rfl rfl (Q.call rfl Tryz.func31 go31 rfl (log_c su (stepS su s x).tm (stepS su s x).fl (stepS su s x).ow lb b 1 _ rfl (stepS su s x).lg f 4 5 rfl rfl (by have := o2.ln; omega))) ?_
  refine XOps.s rfl rfl rfl (Q.assign_d rfl) ?_
  refine XOps.nil ?_
  refine W.seq ?_
  refine W.reg ?_
  refine XOps.s rfl rfl rfl (Q.move_d rfl) ?_
  refine XOps.s rfl rfl rfl (Q.neq rfl rfl) ?_
  refine XOps.nil ?_
  refine W.cond rfl (fun hc15 => ?_) (fun hc15 => ?_)
  · try simp only [Bool.or_eq_true, Bool.or_eq_false_iff, Bool.and_eq_true, Bool.and_eq_false_iff, decide_eq_true_eq, decide_eq_false_iff_not, Bool.not_eq_true', Bool.not_eq_false', Int.not_lt, Int.not_le, List.length_map] at hc15
    have h15 : stepE su s x ≠ 0 := by first | exact hc15 | (simpa using hc15)
    have hS := stepS_no h15
    have hR : rfH s i5 i6 i7 i8 hs = rfH (stepS su s x) i5 i6 i7 i8 hs := by rw [hS]
    rw [hR]
    refine W.drawreg 22 follows (by kernel_rfl) ?_
    refine Chain.cons _ (GQ.q rfl (Q.ld_ptr (k := 6) ag37 rfl rfl rfl)) rfl ?_
    refine Chain.cons _ (GQ.q rfl (Q.move_ptr rfl)) rfl ?_
    refine Chain.cons _ (GQ.q rfl (Q.call rfl Tryz.func14 go14 rfl (flights_c su (stepS su s x).tm (stepS su s x).fl (stepS su s x).ow lb b 1 _ rfl o2.fw.all (by have := o2.fw.len; omega)))) rfl ?_
    refine Chain.cons _ (GQ.q rfl (Q.call rfl Tryz.func28 go28 rfl (same_c (stepS su s x).fl _ (by have := o2.fw.len; omega) o2.fw.all))) rfl ?_
    refine Chain.cons _ (GQ.q rfl (Q.move_d rfl)) rfl ?_
    refine Chain.cons _ (GQ.g rfl rfl rfl rfl rfl (fun hg => Q.ld_ptr (k := 7) ag55 rfl rfl rfl)) rfl ?_
    refine Chain.cons _ (GQ.g rfl rfl rfl rfl rfl (fun hg => Q.move_ptr rfl)) rfl ?_
    refine Chain.cons _ (GQ.g rfl rfl rfl rfl rfl (fun hg => Quiet.open 22 hg rfl (Q.call rfl Tryz.func20 go20 rfl (owners_c su (stepS su s x).tm (stepS su s x).fl (stepS su s x).ow lb b 1 _ rfl (by have := o2.fw.owk.len; omega))))) rfl ?_
    refine Chain.cons _ (GQ.g rfl rfl rfl rfl rfl (fun hg => Quiet.open 21 hg rfl (Quiet.open 23 hg rfl (Q.call rfl Tryz.func29 go29 rfl (eqO_c (stepS su s x).ow _ (by have := o2.fw.owk.len; omega)))))) rfl ?_
    refine Chain.cons _ (GQ.q rfl (Q.pick_and rfl rfl rfl (fun h => by first | (rw [h]; rfl) | (rw [hg, h]; rfl) | (simp [h, hg]; done)))) rfl ?_
    refine Chain.cons _ (GQ.q rfl (Q.move_d rfl)) rfl ?_
    refine Chain.cons _ (GQ.g rfl rfl rfl rfl rfl (fun hg => Q.move_ptr rfl)) rfl ?_
    refine Chain.cons _ (GQ.g rfl rfl rfl rfl rfl (fun hg => Quiet.open 27 hg rfl (Q.call rfl Tryz.func23 go23 rfl (time_c su (stepS su s x).tm (stepS su s x).fl (stepS su s x).ow lb b 1 _ rfl)))) rfl ?_
    refine Chain.cons _ (GQ.g rfl rfl rfl rfl rfl (fun hg => Q.ld_ptr (k := 8) ag3 rfl rfl rfl)) rfl ?_
    refine Chain.cons _ (GQ.g rfl rfl rfl rfl rfl (fun hg => Quiet.open 28 hg rfl (Quiet.open 29 hg rfl (Q.eql rfl rfl)))) rfl ?_
    refine Chain.cons _ (GQ.q rfl (Q.pick_and rfl rfl rfl (fun h => by first | (rw [h]; rfl) | (rw [hg, h]; rfl) | (simp [h, hg]; done)))) rfl ?_
    refine Chain.cons _ (GQ.q rfl (Q.move_d rfl)) rfl ?_
    refine Chain.cons _ (GQ.g rfl rfl rfl rfl rfl (fun hg => Q.move_d rfl)) rfl ?_
    refine Chain.cons _ (GQ.g rfl rfl rfl rfl rfl (fun hg => Quiet.open 33 hg rfl (Q.len_sl isl66 rfl))) rfl ?_
    refine Chain.cons _ (GQ.g rfl rfl rfl rfl rfl (fun hg => Q.ld_ptr (k := 9) ag3 rfl rfl rfl)) rfl ?_
    refine Chain.cons _ (GQ.g rfl rfl rfl rfl rfl (fun hg => Quiet.open 34 hg rfl (Quiet.open 35 hg rfl (Q.eql rfl rfl)))) rfl ?_
    refine Chain.cons _ (GQ.q rfl (Q.pick_and rfl rfl rfl (fun h => by first | (rw [h]; rfl) | (rw [hg, h]; rfl) | (simp [h, hg]; done)))) rfl ?_
    refine Chain.nil ?_
    refine XOps.s rfl rfl rfl (Q.assign_d rfl) ?_
    refine XOps.nil ?_
    refine W.ret ?_
    (refine ⟨_, ceH su (stepS su s x) b lb f gk gd (rfH (stepS su s x) i5 i6 i7 i8 hs), rfl, HLe.skip _ (HLe.refl _), ?_, rfl⟩; show AV.d (.bool _) = _; exact congrArg (fun b => AV.d (D.bool b)) (by simp [fromL_one]))
  · try simp only [Bool.or_eq_true, Bool.or_eq_false_iff, Bool.and_eq_true, Bool.and_eq_false_iff, decide_eq_true_eq, decide_eq_false_iff_not, Bool.not_eq_true', Bool.not_eq_false', Int.not_lt, Int.not_le, List.length_map] at hc15
    have h15 : stepE su s x = 0 := by first | exact hc15 | (simpa using hc15)
    have hS := stepS_yes o h15
    have hlg : (stepS su s x).lg = s.lg ++ [newE s.lg x.time (kindS x.kind) x.call] := by rw [hS]
    have htm : (stepS su s x).tm = x.time := by rw [hS]
    have hrow : ((fromL (stepS su s x).lg 1).map EN.enc)[((s.lg.length : Int) + 1 - 1).toNat]? = some (newE s.lg x.time (kindS x.kind) x.call).enc := by rw [hlg]; exact new_row _ _ (by omega)
    have hfl : ((fromL (stepS su s x).lg 1).map EN.enc).length = s.lg.length + 1 := by rw [fromL_one, hlg]; simp
    refine W.skip ?_
    refine W.reg ?_
    refine XOps.s rfl rfl rfl (Q.ld_ptr (k := 9) ag3 rfl rfl rfl) ?_
    refine XOps.s rfl rfl rfl (Q.add rfl rfl (wi64 (by first | omega | (dsimp only; omega) | (simp only [List.length_map]; omega)) (by first | omega | (dsimp only; omega) | (simp only [List.length_map]; omega)))) ?_
    (refine XOps.loud rfl (L.store (k := 9) ag3 rfl rfl rfl rfl rfl) ?_; rintro _ _ ⟨rfl, rfl⟩)
    refine XOps.nil ?_
    refine W.reg ?_
    refine XOps.s rfl rfl rfl (Q.move_ptr rfl) ?_
    refine XOps.s rfl rfl rfl (Q.call rfl Tryz.func14 go14 rfl (flights_c su (stepS su s x).tm (stepS su s x).fl (stepS su s x).ow lb b 1 _ rfl o2.fw.all (by have := o2.fw.len; omega))) ?_
    refine XOps.s rfl rfl rfl (Q.move_ptr rfl) ?_
    refine XOps.s rfl rfl rfl (Q.call rfl Tryz.func20 go20 rfl (owners_c su (stepS su s x).tm (stepS su s x).fl (stepS su s x).ow lb b 1 _ rfl (by have := o2.fw.owk.len; omega))) ?_
    refine XOps.s rfl rfl rfl (Q.move_ptr rfl) ?_
    refine XOps.s rfl rfl rfl (Q.call rfl Tryz.func23 go23 rfl (time_c su (stepS su s x).tm (stepS su s x).fl (stepS su s x).ow lb b 1 _ rfl)) ?_
    (refine XOps.loud rfl (L.store (k := 6) ag37 rfl rfl rfl rfl rfl) ?_; rintro _ _ ⟨rfl, rfl⟩)
    (refine XOps.loud rfl (L.store (k := 7) ag55 rfl rfl rfl rfl rfl) ?_; rintro _ _ ⟨rfl, rfl⟩)
    (refine XOps.loud rfl (L.store (k := 8) ag3 rfl rfl rfl rfl rfl) ?_; rintro _ _ ⟨rfl, rfl⟩)
    refine XOps.nil ?_
    refine W.drawreg 32 follows (by kernel_rfl) ?_
    refine Chain.cons _ (GQ.q rfl (Q.move_d rfl)) rfl ?_
    refine Chain.cons _ (GQ.q rfl (Q.len_sl isl66 rfl)) rfl ?_
    refine Chain.cons _ (GQ.q rfl (Q.ld_ptr (k := 9) ag3 rfl rfl rfl)) rfl ?_
    refine Chain.cons _ (GQ.q rfl (Q.eql rfl rfl)) rfl ?_
    refine Chain.cons _ (GQ.q rfl (Q.move_d rfl)) rfl ?_
    refine Chain.cons _ (GQ.g rfl rfl rfl rfl rfl (fun hg => Q.move_d rfl)) rfl ?_
    refine Chain.cons _ (GQ.g rfl rfl rfl rfl rfl (fun hg => Q.ld_ptr (k := 9) ag3 rfl rfl rfl)) rfl ?_
    refine Chain.cons _ (GQ.g rfl rfl rfl rfl rfl (fun hg => Quiet.open 52 hg rfl (Q.sub rfl rfl (wi64 (by first | omega | (dsimp only; omega) | (simp only [List.length_map]; omega)) (by first | omega | (dsimp only; omega) | (simp only [List.length_map]; omega)))))) rfl ?_
    refine Chain.cons _ (GQ.g rfl rfl rfl rfl rfl (fun hg => Quiet.open 51 hg rfl (Quiet.open 53 hg rfl (Q.idx_sl sl66 (by decide) rfl rfl (by omega) hrow)))) rfl ?_
    refine Chain.cons _ (GQ.g rfl rfl rfl rfl rfl (fun hg => Quiet.open 54 hg rfl (Q.fld_dp fl69_1 rfl))) rfl ?_
    refine Chain.cons _ (GQ.g rfl rfl rfl rfl rfl (fun hg => Quiet.open 55 hg rfl (Q.ld_dp ag3 rfl rfl))) rfl ?_
    refine Chain.cons _ (GQ.g rfl rfl rfl rfl rfl (fun hg => Q.fld_ptr fl35_1 rfl)) rfl ?_
    refine Chain.cons _ (GQ.g rfl rfl rfl rfl rfl (fun hg => Quiet.open 57 hg rfl (Q.ld_ptr (k := 0) ag3 rfl rfl rfl))) rfl ?_
    refine Chain.cons _ (GQ.g rfl rfl rfl rfl rfl (fun hg => Quiet.open 56 hg rfl (Quiet.open 58 hg rfl (Q.eql rfl rfl)))) rfl ?_
    refine Chain.cons _ (GQ.q rfl (Q.pick_and rfl rfl rfl (fun h => by first | (rw [h]; rfl) | (rw [hg, h]; rfl) | (simp [h, hg]; done)))) rfl ?_
    refine Chain.cons _ (GQ.q rfl (Q.move_d rfl)) rfl ?_
    refine Chain.cons _ (GQ.g rfl rfl rfl rfl rfl (fun hg => Q.move_d rfl)) rfl ?_
    refine Chain.cons _ (GQ.g rfl rfl rfl rfl rfl (fun hg => Q.ld_ptr (k := 9) ag3 rfl rfl rfl)) rfl ?_
    refine Chain.cons _ (GQ.g rfl rfl rfl rfl rfl (fun hg => Quiet.open 63 hg rfl (Q.sub rfl rfl (wi64 (by first | omega | (dsimp only; omega) | (simp only [List.length_map]; omega)) (by first | omega | (dsimp only; omega) | (simp only [List.length_map]; omega)))))) rfl ?_
    refine Chain.cons _ (GQ.g rfl rfl rfl rfl rfl (fun hg => Quiet.open 62 hg rfl (Quiet.open 64 hg rfl (Q.idx_sl sl66 (by decide) rfl rfl (by omega) hrow)))) rfl ?_
    refine Chain.cons _ (GQ.g rfl rfl rfl rfl rfl (fun hg => Quiet.open 65 hg rfl (Q.fld_dp fl69_3 rfl))) rfl ?_
    refine Chain.cons _ (GQ.g rfl rfl rfl rfl rfl (fun hg => Quiet.open 66 hg rfl (Q.ld_dp ag9 rfl rfl))) rfl ?_
    refine Chain.cons _ (GQ.g rfl rfl rfl rfl rfl (fun hg => Q.fld_ptr fl35_2 rfl)) rfl ?_
    refine Chain.cons _ (GQ.g rfl rfl rfl rfl rfl (fun hg => Quiet.open 68 hg rfl (Q.ld_ptr (k := 0) ag9 rfl rfl rfl))) rfl ?_
    refine Chain.cons _ (GQ.g rfl rfl rfl rfl rfl (fun hg => Quiet.open 67 hg rfl (Quiet.open 69 hg rfl (Q.eql_str rfl rfl)))) rfl ?_
    refine Chain.cons _ (GQ.q rfl (Q.pick_and rfl rfl rfl (fun h => by first | (rw [h]; rfl) | (rw [hg, h]; rfl) | (simp [h, hg]; done)))) rfl ?_
    refine Chain.cons _ (GQ.q rfl (Q.move_d rfl)) rfl ?_
    refine Chain.cons _ (GQ.g rfl rfl rfl rfl rfl (fun hg => Q.ld_ptr (k := 8) ag3 rfl rfl rfl)) rfl ?_
    refine Chain.cons _ (GQ.g rfl rfl rfl rfl rfl (fun hg => Q.fld_ptr fl35_1 rfl)) rfl ?_
    refine Chain.cons _ (GQ.g rfl rfl rfl rfl rfl (fun hg => Quiet.open 74 hg rfl (Q.ld_ptr (k := 0) ag3 rfl rfl rfl))) rfl ?_
    refine Chain.cons _ (GQ.g rfl rfl rfl rfl rfl (fun hg => Quiet.open 73 hg rfl (Quiet.open 75 hg rfl (Q.eql rfl rfl)))) rfl ?_
    refine Chain.cons _ (GQ.q rfl (Q.pick_and rfl rfl rfl (fun h => by first | (rw [h]; rfl) | (rw [hg, h]; rfl) | (simp [h, hg]; done)))) rfl ?_
    refine Chain.nil ?_
    refine XOps.s rfl rfl rfl (Q.assign_d rfl) ?_
    refine XOps.nil ?_
    refine W.ret ?_
    (refine ⟨_, ceH su (stepS su s x) b lb f gk gd (rfH (stepS su s x) i5 i6 i7 i8 hs), rfl, HLe.skip _ (HLe.cons _ (HLe.cons _ (HLe.cons _ (HLe.cons _ (HLe.cons _ (HLe.cons _ (HLe.cons _ (HLe.cons _ (HLe.cons' (congrArg (fun z => HO.cells [AV.d (.int .i64 z)]) (show ((stepS su s x).lg.length : Int) = (s.lg.length : Int) + 1 by rw [hlg, List.length_append]; rfl)) (HLe.refl _)))))))))), ?_, rfl⟩; show AV.d (.bool _) = _; exact congrArg (fun b => AV.d (D.bool b)) (by simp [hfl, htm, newE]))
set_option maxHeartbeats 4000000 in
set_option maxRecDepth 100000 in
theorem refuses1 (su : Su) (xs : List CI) (gk gd : Nat) (hs : Hp) (hx : ∀ x ∈ xs, CiS x) (hlen : xs.length ≤ 4611686018427387904) (h0 : suC su = 0) : AC P 8 [.d (.agg su.enc), .d (.sl 9 (xs.map CI.enc))] ((gk, kiG) :: (gd, p10G) :: hs) (fun r h => r = .d (.bool (true))) := by
  refine AC.of 16 Tryz.func8 rfl rfl rfl ?_
  refine W.reg ?_
  refine XOps.loud rfl (L.boxn rfl rfl) ?_
  rintro _ _ ⟨b2, rfl, rfl⟩
  refine XOps.s rfl rfl rfl (Q.assign_d rfl) ?_
  refine XOps.nil ?_
  refine W.reg ?_
  (refine XOps.loud rfl (L.alloc tz37 rfl rfl) ?_; rintro _ _ ⟨b5, rfl, rfl⟩)
  refine XOps.nil ?_
  refine W.ghostc 0 0 8 (by decide) rfl rfl (fun v5 => ?_)
  refine W.freezec 0 rfl rfl ?_
  refine W.reg ?_
  (refine XOps.loud rfl (L.alloc tz55 rfl rfl) ?_; rintro _ _ ⟨b6, rfl, rfl⟩)
  refine XOps.nil ?_
  refine W.ghostc 0 0 3 (by decide) rfl rfl (fun v6 => ?_)
  refine W.freezec 0 rfl rfl ?_
  refine W.reg ?_
  (refine XOps.loud rfl (L.alloc tz3 rfl rfl) ?_; rintro _ _ ⟨b7, rfl, rfl⟩)
  (refine XOps.loud rfl (L.alloc tz3 rfl rfl) ?_; rintro _ _ ⟨b8, rfl, rfl⟩)
  refine XOps.loud rfl (L.store (k := 1) ag3 rfl rfl rfl rfl rfl) ?_
  rintro _ _ ⟨rfl, rfl⟩
  refine XOps.loud rfl (L.store (k := 0) ag3 rfl rfl rfl rfl rfl) ?_
  rintro _ _ ⟨rfl, rfl⟩
  refine XOps.nil ?_
  refine W.reg ?_
  (refine XOps.loud rfl (L.call rfl Tryz.func11 go11 rfl (AC.le (fact_c gk gd _) (HLe.pick 5 rfl rfl (HLe.pick 5 rfl rfl (HLe.refl _)))) rfl) ?_; rintro _ _ ⟨_, rfl, rfl, rfl⟩)
  refine XOps.s rfl rfl rfl (Q.move_d rfl) ?_
  refine XOps.gs rfl rfl rfl rfl rfl rfl rfl (fun hg => Q.ld_ptrn (k := 6) ag27 rfl rfl rfl) ?_
  refine XOps.gs rfl rfl rfl rfl rfl rfl rfl (fun hg => Q.move_d rfl) ?_
  refine XOps.gs rfl rfl rfl rfl rfl rfl rfl (fun hg => Q.mkfn rfl) ?_
  refine XOps.gl (.d (.bool false)) rfl rfl rfl rfl rfl rfl (fun hg => Loud.open 11 hg rfl (Loud.open 12 hg rfl (Loud.open 13 hg rfl (L.call rfl Tryz.func12 go12 rfl (AC.le (run_c su xs 30 _ Tryz.func30 go30 [.ptr b5 0, .ptr b6 0, .ptr b7 0, .ptr b8 0] (fun k H => H = rfH (atS su xs k) b5 b6 b7 b8 hs) gk gd (rfH Stt.zero b5 b6 b7 b8 hs) h0 hx hlen (by rw [atS_zero]) (fun k x b lb f H hk hxk hJ => by subst hJ; rw [atS_succ su hxk]; exact (refusesf_c su (atS su xs k) x b lb f gk gd b5 b6 b7 b8 hs (atS_ok h0 xs k)).mono fun r h ⟨h1, h2⟩ => ⟨h1, rfH (stepS su (atS su xs k) x) b5 b6 b7 b8 hs, rfl, h2⟩)) (HLe.cons _ (HLe.cons _ (HLe.pick 3 rfl rfl (HLe.pick 2 rfl rfl (HLe.pick 1 rfl rfl (HLe.pick 0 rfl rfl (HLe.skip _ (HLe.refl _))))))))) rfl)))) (fun hg => ?_) (fun hg => ?_)
  · rintro _ _ ⟨rfl, H2, hJ, rfl⟩
    have hgt : _ = true := hg
    refine XOps.s rfl rfl rfl (Q.pick_and rfl rfl rfl (fun h => by first | (rw [h]; rfl) | (rw [hg, h]; rfl) | (simp [h, hg]; done))) ?_
    refine XOps.s rfl rfl rfl (Q.assign_d rfl) ?_
    refine XOps.nil ?_
    refine W.ret ?_
    exact ⟨_, _, rfl, HLe.refl _, rfl⟩
  · have hgf : _ = false := hg
    exact absurd hgf (by decide) --done
set_option maxHeartbeats 4000000 in
set_option maxRecDepth 100000 in
theorem refuses2 (su : Su) (xs : List CI) (gk gd : Nat) (hs : Hp) (hx : ∀ x ∈ xs, CiS x) (hlen : xs.length ≤ 4611686018427387904) (h0 : suC su ≠ 0) : AC P 8 [.d (.agg su.enc), .d (.sl 9 (xs.map CI.enc))] ((gk, kiG) :: (gd, p10G) :: hs) (fun r h => r = .d (.bool (true))) := by
  refine AC.of 16 Tryz.func8 rfl rfl rfl ?_
  refine W.reg ?_
  refine XOps.loud rfl (L.boxn rfl rfl) ?_
  rintro _ _ ⟨b2, rfl, rfl⟩
  refine XOps.s rfl rfl rfl (Q.assign_d rfl) ?_
  refine XOps.nil ?_
  refine W.reg ?_
  (refine XOps.loud rfl (L.alloc tz37 rfl rfl) ?_; rintro _ _ ⟨b5, rfl, rfl⟩)
  refine XOps.nil ?_
  refine W.ghostc 0 0 8 (by decide) rfl rfl (fun v5 => ?_)
  refine W.freezec 0 rfl rfl ?_
  refine W.reg ?_
  (refine XOps.loud rfl (L.alloc tz55 rfl rfl) ?_; rintro _ _ ⟨b6, rfl, rfl⟩)
  refine XOps.nil ?_
  refine W.ghostc 0 0 3 (by decide) rfl rfl (fun v6 => ?_)
  refine W.freezec 0 rfl rfl ?_
  refine W.reg ?_
  (refine XOps.loud rfl (L.alloc tz3 rfl rfl) ?_; rintro _ _ ⟨b7, rfl, rfl⟩)
  (refine XOps.loud rfl (L.alloc tz3 rfl rfl) ?_; rintro _ _ ⟨b8, rfl, rfl⟩)
  refine XOps.loud rfl (L.store (k := 1) ag3 rfl rfl rfl rfl rfl) ?_
  rintro _ _ ⟨rfl, rfl⟩
  refine XOps.loud rfl (L.store (k := 0) ag3 rfl rfl rfl rfl rfl) ?_
  rintro _ _ ⟨rfl, rfl⟩
  refine XOps.nil ?_
  refine W.reg ?_
  (refine XOps.loud rfl (L.call rfl Tryz.func11 go11 rfl (AC.le (fact_c gk gd _) (HLe.pick 5 rfl rfl (HLe.pick 5 rfl rfl (HLe.refl _)))) rfl) ?_; rintro _ _ ⟨_, rfl, rfl, rfl⟩)
  refine XOps.s rfl rfl rfl (Q.move_d rfl) ?_
  refine XOps.gs rfl rfl rfl rfl rfl rfl rfl (fun hg => Q.ld_ptrn (k := 6) ag27 rfl rfl rfl) ?_
  refine XOps.gs rfl rfl rfl rfl rfl rfl rfl (fun hg => Q.move_d rfl) ?_
  refine XOps.gs rfl rfl rfl rfl rfl rfl rfl (fun hg => Q.mkfn rfl) ?_
  refine XOps.gl (.d (.bool false)) rfl rfl rfl rfl rfl rfl (fun hg => Loud.open 11 hg rfl (Loud.open 12 hg rfl (Loud.open 13 hg rfl (L.call rfl Tryz.func12 go12 rfl (runx_c su xs _ _ h0) rfl)))) (fun hg => ?_) (fun hg => ?_)
  · rintro _ _ ⟨rfl, rfl⟩
    have hgt : _ = true := hg
    refine XOps.s rfl rfl rfl (Q.pick_and rfl rfl rfl (fun h => by first | (rw [h]; rfl) | (rw [hg, h]; rfl) | (simp [h, hg]; done))) ?_
    refine XOps.s rfl rfl rfl (Q.assign_d rfl) ?_
    refine XOps.nil ?_
    refine W.ret ?_
    exact ⟨_, _, rfl, HLe.refl _, rfl⟩
  · have hgf : _ = false := hg
    exact absurd hgf (by decide) --done
theorem refuses_c (su : Su) (xs : List CI) (gk gd : Nat) (hs : Hp) (hx : ∀ x ∈ xs, CiS x) (hlen : xs.length ≤ 4611686018427387904) : AC P 8 [.d (.agg su.enc), .d (.sl 9 (xs.map CI.enc))] ((gk, kiG) :: (gd, p10G) :: hs) (fun r h => r = .d (.bool (true))) := by
  by_cases h : suC su = 0
  · exact refuses1 su xs gk gd hs hx hlen h
  · exact refuses2 su xs gk gd hs hx hlen h
end Go.Proofs.YtaegeaajhbfkgaaGreatDoorA

