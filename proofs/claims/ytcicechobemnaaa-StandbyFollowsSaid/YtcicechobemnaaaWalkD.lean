/- The laws StandbyKeeps and StandbyFollows, walked. -/
import Derived.Test.YtcicechobemnaaaBase
import Derived.Test.YtcicechobemnaaaWalkC
set_option linter.unusedVariables false
set_option linter.unusedSimpArgs false
set_option linter.unnecessarySimpa false
namespace Go.Proofs.YtcicechobemnaaaA.FWalkD
open Go
theorem ag23 : tAgg P 23 = some ((false, 1)) := by kernel_rfl
theorem ag26 : tAgg P 26 = some ((false, 1)) := by kernel_rfl
theorem go10 : callGo Go.Proofs.Try.f10 = true := by kernel_rfl
theorem go11 : callGo Go.Proofs.Try.f11 = true := by kernel_rfl
theorem go12 : callGo Go.Proofs.Try.f12 = true := by kernel_rfl
theorem go13 : callGo Go.Proofs.Try.f13 = true := by kernel_rfl
theorem go14 : callGo Go.Proofs.Try.f14 = true := by kernel_rfl
theorem go15 : callGo Go.Proofs.Try.f15 = true := by kernel_rfl
theorem go16 : callGo Go.Proofs.Try.f16 = true := by kernel_rfl
theorem go17 : callGo Go.Proofs.Try.f17 = true := by kernel_rfl
theorem go7 : callGo Go.Proofs.Try.f7 = true := by kernel_rfl
theorem go8 : callGo Go.Proofs.Try.f8 = true := by kernel_rfl
theorem go9 : callGo Go.Proofs.Try.f9 = true := by kernel_rfl
theorem ipt23 : isPtr P 23 = true := by kernel_rfl
theorem isl26 : isSl P 26 = true := by kernel_rfl
theorem sl26 : tSl P 26 = some (1) := by kernel_rfl
theorem tz23 : tZero P 23 = some ([.pointer none]) := by kernel_rfl
theorem tz26 : tZero P 26 = some ([.slice none 0 0]) := by kernel_rfl
end Go.Proofs.YtcicechobemnaaaA.FWalkD
namespace Go.Proofs.YtcicechobemnaaaA
open Go FWalkD
set_option maxHeartbeats 1000000 in
set_option maxRecDepth 100000 in
theorem fol_cb (b f s w c : Nat) (p : PS) (hs : Hp) (hok : p.ok 100) : AC P 16 [.ptr c 0] (prH b p f s w ((c, HO.cells [.ptr b 0]) :: hs)) (fun r h => r = .d (.bool true) ∧ h = prH b p f s w ((c, HO.cells [.ptr b 0]) :: hs)) := by
  have hle := hok.le
  have hln := hok.len
  have hdn := hok.done
  have hpre := hok.pre
  refine AC.of 28 Try.func16 rfl rfl rfl ?_
  refine W.reg ?_
  refine XOps.s rfl rfl rfl (Q.assign_d rfl) ?_
  refine XOps.nil ?_
  refine W.drawreg 5 follows (by kernel_rfl) ?_
  refine Chain.cons _ (GQ.q rfl (Q.ld_ptr (k := 4) ag23 rfl rfl rfl)) rfl ?_
  refine Chain.cons _ (GQ.q rfl (Q.call rfl Try.func11 go11 rfl (primary_c b p f s w _ (by omega)))) rfl ?_
  refine Chain.cons _ (GQ.q rfl (Q.ld_ptr (k := 4) ag23 rfl rfl rfl)) rfl ?_
  refine Chain.cons _ (GQ.q rfl (Q.call rfl Try.func17 go17 rfl (standby_c b p f s w _ (by omega)))) rfl ?_
  refine Chain.cons _ (GQ.q rfl (Q.assign_d rfl)) rfl ?_
  refine Chain.nil ?_
  refine XOps.s rfl rfl rfl (Q.assign_d rfl) ?_
  refine XOps.nil ?_
  refine W.reg ?_
  refine XOps.s rfl rfl rfl (Q.move_d rfl) ?_
  refine XOps.s rfl rfl rfl (Q.len_sl isl26 rfl) ?_
  refine XOps.s rfl rfl rfl (Q.move_d rfl) ?_
  refine XOps.s rfl rfl rfl (Q.len_sl isl26 rfl) ?_
  refine XOps.s rfl rfl rfl (Q.leq rfl rfl) ?_
  refine XOps.s rfl rfl rfl (Q.move_d rfl) ?_
  refine XOps.gs rfl rfl rfl rfl rfl rfl rfl (fun hg => Q.move_d rfl) ?_
  refine XOps.gs rfl rfl rfl rfl rfl rfl rfl (fun hg => Q.move_d rfl) ?_
  refine XOps.gs rfl rfl rfl rfl rfl rfl rfl (fun hg => Q.move_d rfl) ?_
  refine XOps.gs rfl rfl rfl rfl rfl rfl rfl (fun hg => Quiet.open 16 hg rfl (Q.len_sl isl26 rfl)) ?_
  refine XOps.gs rfl rfl rfl rfl rfl rfl rfl (fun hg => Quiet.open 15 hg rfl (Quiet.open 17 hg rfl (Q.cut_slm sl26 rfl rfl rfl (by first | omega | (simp only [List.length_map]; omega)) (by first | omega | (simp only [List.length_map]; omega)) (by first | omega | (simp only [List.length_map]; omega))))) ?_
  refine XOps.gs rfl rfl rfl rfl rfl rfl rfl (fun hg => Quiet.open 14 hg rfl (Quiet.open 18 hg rfl (Q.call rfl Try.func13 go13 rfl (equalS_c p.second _ _ (by omega))))) ?_
  refine XOps.s rfl rfl rfl (Q.pick_and rfl rfl rfl (fun h => by first | (rw [h]; rfl) | (rw [hg, h]; rfl) | (simp [h, hg]; done))) ?_
  refine XOps.s rfl rfl rfl (Q.move_d rfl) ?_
  refine XOps.gs rfl rfl rfl rfl rfl rfl rfl (fun hg => Q.ld_ptr (k := 4) ag23 rfl rfl rfl) ?_
  refine XOps.gs rfl rfl rfl rfl rfl rfl rfl (fun hg => Quiet.open 22 hg rfl (Q.call rfl Try.func14 go14 rfl (done_c b p f s w _))) ?_
  refine XOps.gs rfl rfl rfl rfl rfl rfl rfl (fun hg => Q.move_d rfl) ?_
  refine XOps.gs rfl rfl rfl rfl rfl rfl rfl (fun hg => Quiet.open 24 hg rfl (Q.len_sl isl26 rfl)) ?_
  refine XOps.gs rfl rfl rfl rfl rfl rfl rfl (fun hg => Quiet.open 23 hg rfl (Quiet.open 25 hg rfl (Q.leq rfl rfl))) ?_
  refine XOps.s rfl rfl rfl (Q.pick_and rfl rfl rfl (fun h => by first | (rw [h]; rfl) | (rw [hg, h]; rfl) | (simp [h, hg]; done))) ?_
  refine XOps.s rfl rfl rfl (Q.assign_d rfl) ?_
  refine XOps.nil ?_
  refine W.ret ?_
  refine ⟨_, prH b p f s w ((c, HO.cells [.ptr b 0]) :: hs), rfl, HLe.refl _, ?_, rfl⟩
  refine bt ?_
  simp only [Bool.and_eq_true, decide_eq_true_eq, List.length_map, Int.toNat_natCast, Int.toNat_zero, List.drop_zero]
  exact ⟨⟨by omega, hpre⟩, by omega⟩

set_option maxHeartbeats 1000000 in
set_option maxRecDepth 100000 in
theorem follows_c (l : List Int) (hs : Hp) (hL : l.length ≤ 140737488351232) : AC P 4 [.d (slN l)] hs (fun r _ => r = .d (.bool true)) := by
  refine AC.of 15 Try.func4 rfl rfl rfl ?_
  refine W.reg ?_
  refine XOps.s rfl rfl rfl (Q.assign_d rfl) ?_
  refine XOps.nil ?_
  refine W.reg ?_
  (refine XOps.loud rfl (L.call rfl Try.func7 go7 rfl (new_c hs) rfl) ?_; rintro _ _ ⟨_, rfl, b, f, s, w, rfl, rfl⟩)
  (refine XOps.loud rfl (L.alloc tz23 rfl rfl) ?_; rintro _ _ ⟨b3, rfl, rfl⟩)
  refine XOps.loud rfl (L.store (k := 0) ag23 rfl rfl rfl rfl rfl) ?_
  rintro _ _ ⟨rfl, rfl⟩
  refine XOps.nil ?_
  refine W.seq ?_
  refine W.heap (prH b ps0 f s w ((b3, .cells [.ptr b 0]) :: hs)) (HLe.pick 1 rfl rfl (HLe.pick 1 rfl rfl (HLe.pick 1 rfl rfl (HLe.pick 1 rfl rfl (HLe.pick 0 rfl rfl (HLe.refl _)))))) ?_
  refine W.reg ?_
  refine XOps.s rfl rfl rfl (Q.ld_ptr (k := 4) ag23 rfl rfl rfl) ?_
  refine XOps.s rfl rfl rfl (Q.eql_ptr ipt23 rfl rfl) ?_
  refine XOps.s rfl rfl rfl (Q.move_d rfl) ?_
  refine XOps.gs rfl rfl rfl rfl rfl rfl rfl (fun hg => Q.call rfl Try.func8 go8 rfl (fact_c _)) ?_
  refine XOps.gs rfl rfl rfl rfl rfl rfl rfl (fun hg => Quiet.open 8 hg rfl (Q.not rfl)) ?_
  refine XOps.s rfl rfl rfl (Q.pick_or rfl rfl rfl (fun h => by first | (rw [h]; rfl) | (rw [hg, h]; rfl) | (simp [h, hg]; done))) ?_
  refine XOps.nil ?_
  refine W.cond rfl (fun hc10 => ?_) (fun hc10 => ?_)
  · try simp only [Bool.or_eq_true, Bool.or_eq_false_iff, Bool.and_eq_true, Bool.and_eq_false_iff, decide_eq_true_eq, decide_eq_false_iff_not, Bool.not_eq_true', Bool.not_eq_false', Int.not_lt, Int.not_le, List.length_map] at hc10
    exact absurd hc10 (by simp)
  · try simp only [Bool.or_eq_true, Bool.or_eq_false_iff, Bool.and_eq_true, Bool.and_eq_false_iff, decide_eq_true_eq, decide_eq_false_iff_not, Bool.not_eq_true', Bool.not_eq_false', Int.not_lt, Int.not_le, List.length_map] at hc10
    refine W.skip ?_
    refine W.reg ?_
    refine XOps.s rfl rfl rfl (Q.ld_ptr (k := 4) ag23 rfl rfl rfl) ?_
    refine XOps.s rfl rfl rfl (Q.move_d rfl) ?_
    refine XOps.s rfl rfl rfl (Q.mkfn rfl) ?_
    (refine XOps.loud rfl (L.call rfl Try.func9 go9 rfl (play_c (fun _ : Unit => (b3, HO.cells [.ptr b 0]) :: hs) (fun _ _ _ => True) (fun _ _ _ => True) 16 [.ptr b3 0] b f s w l () hL Try.func16 go16 (fun n p f s w g hok _ => (fol_cb b f s w b3 p hs hok).mono fun r h hr => ⟨hr.1, (), trivial, hr.2⟩) (fun _ _ _ _ _ _ => trivial) trivial) rfl) ?_; rintro _ _ ⟨_, rfl, rfl, f2, s2, w2, g2, hk2, rfl⟩)
    refine XOps.s rfl rfl rfl (Q.assign_d rfl) ?_
    refine XOps.nil ?_
    refine W.ret ?_
    exact ⟨_, _, rfl, HLe.refl _, rfl⟩

set_option maxHeartbeats 1000000 in
set_option maxRecDepth 100000 in
theorem keep_cb (b f s w c c4 kv : Nat) (kn : List ByteArray) (p : PS) (hs : Hp) (hok : p.ok 100) (hkp : Keep p kn) : AC P 10 [.ptr c 0, .ptr c4 0] (prH b p f s w ((c, HO.cells [.ptr b 0]) :: (c4, HO.cells [.vs kv 0 kn.length 1]) :: (kv, HO.lst 1 (kn.map sE)) :: hs)) (fun r h => r = .d (.bool true) ∧ ∃ v37, h = prH b p f s w ((c, HO.cells [.ptr b 0]) :: (c4, HO.cells [.vs v37 0 (p.first.take p.ans.toNat).length 1]) :: (v37, HO.lst 1 ((p.first.take p.ans.toNat).map sE)) :: hs)) := by
  have hle := hok.le
  have hln := hok.len
  have hdn := hok.done
  have han := hok.ans
  have hkl := hkp.len
  have hkq := hkp.pre
  refine AC.of 38 Try.func10 rfl rfl rfl ?_
  refine W.reg ?_
  refine XOps.s rfl rfl rfl (Q.assign_d rfl) ?_
  refine XOps.nil ?_
  refine W.drawreg 5 follows (by kernel_rfl) ?_
  refine Chain.cons _ (GQ.q rfl (Q.ld_ptr (k := 4) ag23 rfl rfl rfl)) rfl ?_
  refine Chain.cons _ (GQ.q rfl (Q.call rfl Try.func11 go11 rfl (primary_c b p f s w _ (by omega)))) rfl ?_
  refine Chain.cons _ (GQ.q rfl (Q.ld_ptr (k := 4) ag23 rfl rfl rfl)) rfl ?_
  refine Chain.cons _ (GQ.q rfl (Q.call rfl Try.func12 go12 rfl (ans_c b p f s w _))) rfl ?_
  refine Chain.cons _ (GQ.q rfl (Q.assign_d rfl)) rfl ?_
  refine Chain.nil ?_
  refine XOps.s rfl rfl rfl (Q.assign_d rfl) ?_
  refine XOps.nil ?_
  refine W.seq ?_
  refine W.drawreg 25 follows (by kernel_rfl) ?_
  refine Chain.cons _ (GQ.q rfl (Q.move_d rfl)) rfl ?_
  refine Chain.cons _ (GQ.q rfl (Q.ld_ptr (k := 5) ag26 rfl rfl rfl)) rfl ?_
  refine Chain.cons _ (GQ.q rfl (Q.len_vs isl26 rfl)) rfl ?_
  refine Chain.cons _ (GQ.q rfl (Q.lss rfl rfl)) rfl ?_
  refine Chain.cons _ (GQ.q rfl (Q.move_d rfl)) rfl ?_
  refine Chain.cons _ (GQ.g rfl rfl rfl rfl rfl (fun hg => Q.move_d rfl)) rfl ?_
  refine Chain.cons _ (GQ.g rfl rfl rfl rfl rfl (fun hg => Q.move_d rfl)) rfl ?_
  refine Chain.cons _ (GQ.g rfl rfl rfl rfl rfl (fun hg => Quiet.open 15 hg rfl (Q.len_sl isl26 rfl))) rfl ?_
  refine Chain.cons _ (GQ.g rfl rfl rfl rfl rfl (fun hg => Quiet.open 14 hg rfl (Quiet.open 16 hg rfl (Q.gtr rfl rfl)))) rfl ?_
  refine Chain.cons _ (GQ.q rfl (Q.pick_or rfl rfl rfl (fun h => by first | (rw [h]; rfl) | (rw [hg, h]; rfl) | (simp [h, hg]; done)))) rfl ?_
  refine Chain.cons _ (GQ.q rfl (Q.move_d rfl)) rfl ?_
  refine Chain.cons _ (GQ.g rfl rfl rfl rfl rfl (fun hg => Q.move_d rfl)) rfl ?_
  refine Chain.cons _ (GQ.g rfl rfl rfl rfl rfl (fun hg => Q.ld_ptr (k := 5) ag26 rfl rfl rfl)) rfl ?_
  refine Chain.cons _ (GQ.g rfl rfl rfl rfl rfl (fun hg => Quiet.open 21 hg rfl (Q.len_vs isl26 rfl))) rfl ?_
  refine Chain.cons _ (GQ.g rfl rfl rfl rfl rfl (fun hg => Quiet.open 20 hg rfl (Quiet.open 22 hg rfl (Q.cut_slm sl26 rfl rfl rfl (by first | omega | (simp only [List.length_map]; omega)) (by first | omega | (simp only [List.length_map]; omega)) (by first | omega | (simp only [List.length_map]; omega)))))) rfl ?_
  refine Chain.cons _ (GQ.g rfl rfl rfl rfl rfl (fun hg => Q.ld_ptr (k := 5) ag26 rfl rfl rfl)) rfl ?_
  refine Chain.cons _ (GQ.g rfl rfl rfl rfl rfl (fun hg => Quiet.open 23 hg rfl (Quiet.open 24 hg rfl (Q.bcall rfl Try.func13 go13 rfl (.cons (.b1 (.b0 (.d _))) (.cons (.b1 (.b0 (.vs 6 rfl (by simp)))) .nil)) (equalS_c _ kn [] (by simp; omega)) (by simp [OkR, Ok1, D.flat]))))) rfl ?_
  refine Chain.cons _ (GQ.g rfl rfl rfl rfl rfl (fun hg => Quiet.open 25 hg rfl (Q.not rfl))) rfl ?_
  refine Chain.cons _ (GQ.q rfl (Q.pick_or rfl rfl rfl (fun h => by first | (rw [h]; rfl) | (rw [hg, h]; rfl) | (simp [h, hg]; done)))) rfl ?_
  refine Chain.cons _ (GQ.q rfl (Q.move_d rfl)) rfl ?_
  refine Chain.cons _ (GQ.g rfl rfl rfl rfl rfl (fun hg => Q.ld_ptr (k := 4) ag23 rfl rfl rfl)) rfl ?_
  refine Chain.cons _ (GQ.g rfl rfl rfl rfl rfl (fun hg => Quiet.open 29 hg rfl (Q.call rfl Try.func14 go14 rfl (done_c b p f s w _)))) rfl ?_
  refine Chain.cons _ (GQ.g rfl rfl rfl rfl rfl (fun hg => Q.move_d rfl)) rfl ?_
  refine Chain.cons _ (GQ.g rfl rfl rfl rfl rfl (fun hg => Quiet.open 30 hg rfl (Quiet.open 31 hg rfl (Q.gtr rfl rfl)))) rfl ?_
  refine Chain.cons _ (GQ.q rfl (Q.pick_or rfl rfl rfl (fun h => by first | (rw [h]; rfl) | (rw [hg, h]; rfl) | (simp [h, hg]; done)))) rfl ?_
  refine Chain.nil ?_
  refine XOps.nil ?_
  refine W.cond rfl (fun hc33 => ?_) (fun hc33 => ?_)
  · try simp only [Bool.or_eq_true, Bool.or_eq_false_iff, Bool.and_eq_true, Bool.and_eq_false_iff, decide_eq_true_eq, decide_eq_false_iff_not, Bool.not_eq_true', Bool.not_eq_false', Int.not_lt, Int.not_le, List.length_map] at hc33
    exfalso
    rcases hc33 with ((h | h) | h) | h
    · omega
    · omega
    · simp at h; exact h hkq
    · omega
    --done
  · try simp only [Bool.or_eq_true, Bool.or_eq_false_iff, Bool.and_eq_true, Bool.and_eq_false_iff, decide_eq_true_eq, decide_eq_false_iff_not, Bool.not_eq_true', Bool.not_eq_false', Int.not_lt, Int.not_le, List.length_map] at hc33
    refine W.skip ?_
    refine W.reg ?_
    refine XOps.s rfl rfl rfl (Q.move_d rfl) ?_
    refine XOps.s rfl rfl rfl (Q.move_d rfl) ?_
    refine XOps.s rfl rfl rfl (Q.cut_slm sl26 rfl rfl rfl (by first | omega | (simp only [List.length_map]; omega)) (by first | omega | (simp only [List.length_map]; omega)) (by first | omega | (simp only [List.length_map]; omega))) ?_
    (refine XOps.loud rfl (L.call rfl Try.func15 go15 rfl (cloneS_c (p.first.take p.ans.toNat) _ (by simp; omega)) rfl) ?_; rintro _ _ ⟨_, rfl, v37, rfl, rfl⟩)
    refine XOps.loud rfl (L.store (k := 6) ag26 rfl rfl rfl rfl rfl) ?_
    rintro _ _ ⟨rfl, rfl⟩
    refine XOps.nil ?_
    refine W.reg ?_
    refine XOps.s rfl rfl rfl (Q.assign_d rfl) ?_
    refine XOps.nil ?_
    refine W.ret ?_
    exact ⟨_, prH b p f s w ((c, HO.cells [.ptr b 0]) :: (c4, HO.cells [.vs v37 0 (p.first.take p.ans.toNat).length 1]) :: (v37, HO.lst 1 ((p.first.take p.ans.toNat).map sE)) :: hs), rfl, HLe.pick 1 rfl rfl (HLe.pick 1 rfl rfl (HLe.pick 1 rfl rfl (HLe.pick 1 rfl rfl (HLe.pick 1 rfl rfl (HLe.pick 1 rfl rfl (HLe.pick 0 rfl rfl (HLe.skip _ (HLe.refl _)))))))), rfl, v37, rfl⟩

set_option maxHeartbeats 1000000 in
set_option maxRecDepth 100000 in
theorem keeps_c (l : List Int) (hs : Hp) (hL : l.length ≤ 140737488351232) : AC P 3 [.d (slN l)] hs (fun r _ => r = .d (.bool true)) := by
  refine AC.of 16 Try.func3 rfl rfl rfl ?_
  refine W.reg ?_
  refine XOps.s rfl rfl rfl (Q.assign_d rfl) ?_
  refine XOps.nil ?_
  refine W.reg ?_
  (refine XOps.loud rfl (L.call rfl Try.func7 go7 rfl (new_c hs) rfl) ?_; rintro _ _ ⟨_, rfl, b, f, s, w, rfl, rfl⟩)
  (refine XOps.loud rfl (L.alloc tz23 rfl rfl) ?_; rintro _ _ ⟨b3, rfl, rfl⟩)
  refine XOps.loud rfl (L.store (k := 0) ag23 rfl rfl rfl rfl rfl) ?_
  rintro _ _ ⟨rfl, rfl⟩
  refine XOps.nil ?_
  refine W.seq ?_
  refine W.reg ?_
  refine XOps.s rfl rfl rfl (Q.ld_ptr (k := 0) ag23 rfl rfl rfl) ?_
  refine XOps.s rfl rfl rfl (Q.eql_ptr ipt23 rfl rfl) ?_
  refine XOps.s rfl rfl rfl (Q.move_d rfl) ?_
  refine XOps.gs rfl rfl rfl rfl rfl rfl rfl (fun hg => Q.call rfl Try.func8 go8 rfl (fact_c _)) ?_
  refine XOps.gs rfl rfl rfl rfl rfl rfl rfl (fun hg => Quiet.open 9 hg rfl (Q.not rfl)) ?_
  refine XOps.s rfl rfl rfl (Q.pick_or rfl rfl rfl (fun h => by first | (rw [h]; rfl) | (rw [hg, h]; rfl) | (simp [h, hg]; done))) ?_
  refine XOps.nil ?_
  refine W.cond rfl (fun hc11 => ?_) (fun hc11 => ?_)
  · try simp only [Bool.or_eq_true, Bool.or_eq_false_iff, Bool.and_eq_true, Bool.and_eq_false_iff, decide_eq_true_eq, decide_eq_false_iff_not, Bool.not_eq_true', Bool.not_eq_false', Int.not_lt, Int.not_le, List.length_map] at hc11
    exact absurd hc11 (by simp)
  · try simp only [Bool.or_eq_true, Bool.or_eq_false_iff, Bool.and_eq_true, Bool.and_eq_false_iff, decide_eq_true_eq, decide_eq_false_iff_not, Bool.not_eq_true', Bool.not_eq_false', Int.not_lt, Int.not_le, List.length_map] at hc11
    refine W.skip ?_
    refine W.reg ?_
    (refine XOps.loud rfl (L.alloc tz26 rfl rfl) ?_; rintro _ _ ⟨b4, rfl, rfl⟩)
    refine XOps.nil ?_
    refine W.ghostc 0 0 1 (by decide) rfl rfl (fun v0 => ?_)
    refine W.heap (prH b ps0 f s w ((b3, .cells [.ptr b 0]) :: (b4, .cells [.vs v0 0 0 1]) :: (v0, .lst 1 []) :: hs)) (HLe.pick 3 rfl rfl (HLe.pick 3 rfl rfl (HLe.pick 3 rfl rfl (HLe.pick 3 rfl rfl (HLe.pick 2 rfl rfl (HLe.pick 1 rfl rfl (HLe.pick 0 rfl rfl (HLe.refl _)))))))) ?_
    refine W.reg ?_
    refine XOps.s rfl rfl rfl (Q.ld_ptr (k := 4) ag23 rfl rfl rfl) ?_
    refine XOps.s rfl rfl rfl (Q.move_d rfl) ?_
    refine XOps.s rfl rfl rfl (Q.mkfn rfl) ?_
    (refine XOps.loud rfl (L.call rfl Try.func9 go9 rfl (play_c (fun g : Nat × List ByteArray => (b3, HO.cells [.ptr b 0]) :: (b4, HO.cells [.vs g.1 0 g.2.length 1]) :: (g.1, HO.lst 1 (g.2.map sE)) :: hs) (fun _ p g => Keep p g.2) (fun _ p g => g.2 = p.first.take p.ans.toNat) 10 [.ptr b3 0, .ptr b4 0] b f s w l (v0, []) hL Try.func10 go10 (fun n p f s w g hok hJ => (keep_cb b f s w b3 b4 g.1 g.2 p hs hok hJ).mono fun r h ⟨h1, v, h2⟩ => ⟨h1, (v, p.first.take p.ans.toNat), rfl, h2⟩) (fun n p c g hok hK => hK ▸ keep_step hok c) rfl) rfl) ?_; rintro _ _ ⟨_, rfl, rfl, f2, s2, w2, g2, hk2, rfl⟩)
    refine XOps.s rfl rfl rfl (Q.assign_d rfl) ?_
    refine XOps.nil ?_
    refine W.ret ?_
    exact ⟨_, _, rfl, HLe.refl _, rfl⟩
end Go.Proofs.YtcicechobemnaaaA
