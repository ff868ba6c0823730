/- The laws StandbySettles and StandbyOld, walked. -/
import Derived.Test.YtcicechobemnaaaBase
import Derived.Test.YtcicechobemnaaaWalkC
import Derived.Test.YtcicechobemnaaaAbs20
set_option linter.unusedVariables false
set_option linter.unusedSimpArgs false
set_option linter.unnecessarySimpa false
namespace Go.Proofs.YtcicechobemnaaaA.FWalkE
open Go
theorem go11 : callGo Go.Proofs.Try.f11 = true := by kernel_rfl
theorem go12 : callGo Go.Proofs.Try.f12 = true := by kernel_rfl
theorem go13 : callGo Go.Proofs.Try.f13 = true := by kernel_rfl
theorem go14 : callGo Go.Proofs.Try.f14 = true := by kernel_rfl
theorem go17 : callGo Go.Proofs.Try.f17 = true := by kernel_rfl
theorem go18 : callGo Go.Proofs.Try.f18 = true := by kernel_rfl
theorem go19 : callGo Go.Proofs.Try.f19 = true := by kernel_rfl
theorem go20 : callGo Go.Proofs.Try.f20 = true := by kernel_rfl
theorem go21 : callGo Go.Proofs.Try.f21 = true := by kernel_rfl
theorem go22 : callGo Go.Proofs.Try.f22 = true := by kernel_rfl
theorem go23 : callGo Go.Proofs.Try.f23 = true := by kernel_rfl
theorem go24 : callGo Go.Proofs.Try.f24 = true := by kernel_rfl
theorem go25 : callGo Go.Proofs.Try.f25 = true := by kernel_rfl
theorem go7 : callGo Go.Proofs.Try.f7 = true := by kernel_rfl
theorem go8 : callGo Go.Proofs.Try.f8 = true := by kernel_rfl
theorem go9 : callGo Go.Proofs.Try.f9 = true := by kernel_rfl
theorem ipt23 : isPtr P 23 = true := by kernel_rfl
theorem isl22 : isSl P 22 = true := by kernel_rfl
theorem isl26 : isSl P 26 = true := by kernel_rfl
theorem isl33 : isSl P 33 = true := by kernel_rfl
theorem sl22 : tSl P 22 = some (1) := by kernel_rfl
end Go.Proofs.YtcicechobemnaaaA.FWalkE
namespace Go.Proofs.YtcicechobemnaaaA
open Go FWalkE
set_option maxHeartbeats 1000000 in
set_option maxRecDepth 100000 in
theorem set_cb (hs : Hp) : AC P 18 [] hs (fun r h => r = .d (.bool true) ∧ h = hs) := by
  refine AC.of 1 Try.func18 rfl rfl rfl ?_
  refine W.reg ?_
  refine XOps.s rfl rfl rfl (Q.assign_d rfl) ?_
  refine XOps.nil ?_
  refine W.reg ?_
  refine XOps.s rfl rfl rfl (Q.assign_d rfl) ?_
  refine XOps.nil ?_
  refine W.ret ?_
  exact ⟨_, hs, rfl, HLe.refl _, rfl, rfl⟩

set_option maxHeartbeats 1000000 in
set_option maxRecDepth 100000 in
theorem old_cb (hs : Hp) : AC P 23 [] hs (fun r h => r = .d (.bool true) ∧ h = hs) := by
  refine AC.of 1 Try.func23 rfl rfl rfl ?_
  refine W.reg ?_
  refine XOps.s rfl rfl rfl (Q.assign_d rfl) ?_
  refine XOps.nil ?_
  refine W.reg ?_
  refine XOps.s rfl rfl rfl (Q.assign_d rfl) ?_
  refine XOps.nil ?_
  refine W.ret ?_
  exact ⟨_, hs, rfl, HLe.refl _, rfl, rfl⟩

set_option maxHeartbeats 1000000 in
set_option maxRecDepth 100000 in
theorem old_c (l : List Int) (hs : Hp) (hL : l.length ≤ 140737488351232) : AC P 6 [.d (slN l)] hs (fun r _ => r = .d (.bool true)) := by
  refine AC.of 94 Try.func6 rfl rfl rfl ?_
  refine W.reg ?_
  refine XOps.s rfl rfl rfl (Q.assign_d rfl) ?_
  refine XOps.nil ?_
  refine W.reg ?_
  (refine XOps.loud rfl (L.call rfl Try.func7 go7 rfl (new_c hs) rfl) ?_; rintro _ _ ⟨_, rfl, b, f, s, w, rfl, rfl⟩)
  refine XOps.s rfl rfl rfl (Q.assign_ptr rfl) ?_
  refine XOps.nil ?_
  refine W.seq ?_
  refine W.reg ?_
  refine XOps.s rfl rfl rfl (Q.move_ptr rfl) ?_
  refine XOps.s rfl rfl rfl (Q.eql_ptr ipt23 rfl rfl) ?_
  refine XOps.s rfl rfl rfl (Q.move_d rfl) ?_
  refine XOps.gs rfl rfl rfl rfl rfl rfl rfl (fun hg => Q.call rfl Try.func8 go8 rfl (fact_c _)) ?_
  refine XOps.gs rfl rfl rfl rfl rfl rfl rfl (fun hg => Quiet.open 12 hg rfl (Q.not rfl)) ?_
  refine XOps.s rfl rfl rfl (Q.pick_or rfl rfl rfl (fun h => by first | (rw [h]; rfl) | (rw [hg, h]; rfl) | (simp [h, hg]; done))) ?_
  refine XOps.nil ?_
  refine W.cond rfl (fun hc14 => ?_) (fun hc14 => ?_)
  · try simp only [Bool.or_eq_true, Bool.or_eq_false_iff, Bool.and_eq_true, Bool.and_eq_false_iff, decide_eq_true_eq, decide_eq_false_iff_not, Bool.not_eq_true', Bool.not_eq_false', Int.not_lt, Int.not_le, List.length_map] at hc14
    exact absurd hc14 (by simp)
  · try simp only [Bool.or_eq_true, Bool.or_eq_false_iff, Bool.and_eq_true, Bool.and_eq_false_iff, decide_eq_true_eq, decide_eq_false_iff_not, Bool.not_eq_true', Bool.not_eq_false', Int.not_lt, Int.not_le, List.length_map] at hc14
    refine W.skip ?_
    refine W.reg ?_
    refine XOps.s rfl rfl rfl (Q.move_ptr rfl) ?_
    refine XOps.s rfl rfl rfl (Q.move_d rfl) ?_
    refine XOps.s rfl rfl rfl (Q.move_d rfl) ?_
    refine XOps.s rfl rfl rfl (Q.len_sl isl22 rfl) ?_
    refine XOps.s rfl rfl rfl (Q.mini rfl rfl) ?_
    refine XOps.s rfl rfl rfl (Q.cut_slm sl22 rfl rfl rfl (by omega) (by omega) (by simp; omega)) ?_
    (refine XOps.loud rfl (L.call rfl Try.func9 go9 rfl (play_c (fun _ : Unit => hs) (fun _ _ _ => True) (fun _ _ _ => True) 23 [] b f s w ((l.take (min (((l.map nE).length : Nat) : Int) 20).toNat).drop (0 : Int).toNat) () (by simp; omega) Try.func23 go23 (fun n p f s w g hok _ => (old_cb (prH b p f s w hs)).mono fun r h hr => ⟨hr.1, (), trivial, hr.2⟩) (fun _ _ _ _ _ _ => trivial) trivial) rfl) ?_; rintro _ _ ⟨_, rfl, rfl, f2, s2, w2, g2, hk2, rfl⟩)
    refine XOps.nil ?_
    have hok := plN_ok ((l.take (min (((l.map nE).length : Nat) : Int) 20).toNat).drop (0 : Int).toNat) (min ((l.take (min (((l.map nE).length : Nat) : Int) 20).toNat).drop (0 : Int).toNat).length 40)
    generalize (plN ((l.take (min (((l.map nE).length : Nat) : Int) 20).toNat).drop (0 : Int).toNat) (min ((l.take (min (((l.map nE).length : Nat) : Int) 20).toNat).drop (0 : Int).toNat).length 40)) = S at *
    have hsl := hok.le
    have hfl := hok.len
    refine W.reg ?_
    refine XOps.s rfl rfl rfl (Q.move_ptr rfl) ?_
    refine XOps.s rfl rfl rfl (Q.call rfl Try.func24 go24 rfl (term_c b S f2 s2 w2 hs)) ?_
    refine XOps.s rfl rfl rfl (Q.assign_d rfl) ?_
    refine XOps.nil ?_
    refine W.seq ?_
    refine W.reg ?_
    refine XOps.s rfl rfl rfl (Q.move_ptr rfl) ?_
    (refine XOps.loud rfl (L.call rfl Try.func25 go25 rfl (take_c b S f2 s2 w2 hs (hok.mono (by omega))) rfl) ?_; rintro _ _ ⟨_, rfl, f3, s3, rfl, rfl⟩)
    refine XOps.s rfl rfl rfl (Q.assign_d rfl) ?_
    refine XOps.nil ?_
    refine W.reg ?_
    refine XOps.s rfl rfl rfl (Q.move_d rfl) ?_
    refine XOps.s rfl rfl rfl (Q.neq rfl rfl) ?_
    refine XOps.nil ?_
    refine W.cond rfl (fun hc27 => ?_) (fun hc27 => ?_)
    · try simp only [Bool.or_eq_true, Bool.or_eq_false_iff, Bool.and_eq_true, Bool.and_eq_false_iff, decide_eq_true_eq, decide_eq_false_iff_not, Bool.not_eq_true', Bool.not_eq_false', Int.not_lt, Int.not_le, List.length_map] at hc27
      have hlt : (S.second.length : Int) < S.ans := by
        unfold PS.takeE at hc27
        split at hc27
        · assumption
        · exact absurd rfl hc27
      have hE : S.takeE = 21 := by unfold PS.takeE; rw [if_pos hlt]
      have hS : S.take = S := by unfold PS.take; rw [if_pos hlt]
      rw [hE, hS]
      refine W.reg ?_
      refine XOps.s rfl rfl rfl (Q.move_d rfl) ?_
      refine XOps.s rfl rfl rfl (Q.eql rfl rfl) ?_
      refine XOps.s rfl rfl rfl (Q.move_d rfl) ?_
      refine XOps.gs rfl rfl rfl rfl rfl rfl rfl (fun hg => Q.move_ptr rfl) ?_
      refine XOps.gs rfl rfl rfl rfl rfl rfl rfl (fun hg => Quiet.open 31 hg rfl (Q.call rfl Try.func24 go24 rfl (term_c b S _ _ w2 hs))) ?_
      refine XOps.gs rfl rfl rfl rfl rfl rfl rfl (fun hg => Q.move_d rfl) ?_
      refine XOps.gs rfl rfl rfl rfl rfl rfl rfl (fun hg => Quiet.open 32 hg rfl (Quiet.open 33 hg rfl (Q.eql rfl rfl))) ?_
      refine XOps.s rfl rfl rfl (Q.pick_and rfl rfl rfl (fun h => by first | (rw [h]; rfl) | (rw [hg, h]; rfl) | (simp [h, hg]; done))) ?_
      refine XOps.s rfl rfl rfl (Q.move_d rfl) ?_
      refine XOps.gs rfl rfl rfl rfl rfl rfl rfl (fun hg => Q.move_ptr rfl) ?_
      refine XOps.gs rfl rfl rfl rfl rfl rfl rfl (fun hg => Quiet.open 37 hg rfl (Q.call rfl Try.func17 go17 rfl (standby_c b S _ _ w2 hs (by omega)))) ?_
      refine XOps.gs rfl rfl rfl rfl rfl rfl rfl (fun hg => Quiet.open 38 hg rfl (Q.len_sl isl26 rfl)) ?_
      refine XOps.gs rfl rfl rfl rfl rfl rfl rfl (fun hg => Q.move_ptr rfl) ?_
      refine XOps.gs rfl rfl rfl rfl rfl rfl rfl (fun hg => Quiet.open 40 hg rfl (Q.call rfl Try.func12 go12 rfl (ans_c b S _ _ w2 hs))) ?_
      refine XOps.gs rfl rfl rfl rfl rfl rfl rfl (fun hg => Quiet.open 39 hg rfl (Quiet.open 41 hg rfl (Q.lss rfl rfl))) ?_
      refine XOps.s rfl rfl rfl (Q.pick_and rfl rfl rfl (fun h => by first | (rw [h]; rfl) | (rw [hg, h]; rfl) | (simp [h, hg]; done))) ?_
      refine XOps.s rfl rfl rfl (Q.assign_d rfl) ?_
      refine XOps.nil ?_
      refine W.ret ?_
      (refine ⟨_, _, rfl, HLe.refl _, bt ?_⟩; simp [hlt]; done)
    · try simp only [Bool.or_eq_true, Bool.or_eq_false_iff, Bool.and_eq_true, Bool.and_eq_false_iff, decide_eq_true_eq, decide_eq_false_iff_not, Bool.not_eq_true', Bool.not_eq_false', Int.not_lt, Int.not_le, List.length_map] at hc27
      have hlt : ¬ (S.second.length : Int) < S.ans := by
        intro h
        unfold PS.takeE at hc27
        rw [if_pos h] at hc27
        omega
      have hTo := take_old hok hlt
      have hTt : S.take.term = S.term + 1 := by unfold PS.take; rw [if_neg hlt]
      have hTs : S.take.second = [] := by unfold PS.take; rw [if_neg hlt]
      have hTd : S.take.done = 0 := by unfold PS.take; rw [if_neg hlt]
      have hTa : S.take.ans = S.ans := by unfold PS.take; rw [if_neg hlt]
      have hT := hok.take
      have htm := hok.term
      generalize S.take = T at *
      have hTe : T.second.length = 0 := by rw [hTs]; rfl
      refine W.skip ?_
      refine W.reg ?_
      refine XOps.s rfl rfl rfl (Q.move_ptr rfl) ?_
      refine XOps.s rfl rfl rfl (Q.call rfl Try.func11 go11 rfl (primary_c b T f3 s3 w2 hs (by have := hT.len; omega))) ?_
      refine XOps.s rfl rfl rfl (Q.move_ptr rfl) ?_
      refine XOps.s rfl rfl rfl (Q.call rfl Try.func12 go12 rfl (ans_c b T f3 s3 w2 hs)) ?_
      refine XOps.s rfl rfl rfl (Q.assign_d rfl) ?_
      refine XOps.s rfl rfl rfl (Q.assign_d rfl) ?_
      refine XOps.nil ?_
      refine W.seq ?_
      refine W.reg ?_
      refine XOps.s rfl rfl rfl (Q.move_d rfl) ?_
      refine XOps.nil ?_
      refine W.block ?_
      refine W.loop (ι := Nat × Nat × Nat) (fun q => [(3, .ptr b 0), (4, .d (.int .i64 S.term)), (6, .d (.sl 1 (T.first.map sE))), (7, .d (.int .i64 T.ans)), (48, .d (.int .i64 (q.1 : Nat)))]) (fun q => prH b (T.wr (T.wire.drop q.1)) f3 q.2.1 q.2.2 hs) (fun q => q.1 ≤ 64) (fun q => 64 - q.1) (0, s3, w2) ?_ ?_ ?_ ?_
      · exact Nat.zero_le _
      · exact ⟨by first | rfl | exact int_eq (by omega) | exact len_eq (by simp) | exact int_eq (by simp; done), by first | rfl | exact int_eq (by omega) | exact len_eq (by simp) | exact int_eq (by simp; done), by first | rfl | exact int_eq (by omega) | exact len_eq (by simp) | exact int_eq (by simp; done), by first | rfl | exact int_eq (by omega) | exact len_eq (by simp) | exact int_eq (by simp; done), by first | rfl | exact int_eq (by omega) | exact len_eq (by simp) | exact int_eq (by simp; done), trivial⟩
      · exact HLe.refl _
      · rintro ⟨j, s4, w4⟩ hj
        try dsimp only at hj ⊢
        refine W.reg ?_
        refine XOps.s rfl rfl rfl (Q.lss rfl rfl) ?_
        refine XOps.nil ?_
        refine W.seq ?_
        refine W.cond rfl (fun hc49 => ?_) (fun hc49 => ?_)
        · try simp only [Bool.or_eq_true, Bool.or_eq_false_iff, Bool.and_eq_true, Bool.and_eq_false_iff, decide_eq_true_eq, decide_eq_false_iff_not, Bool.not_eq_true', Bool.not_eq_false', Int.not_lt, Int.not_le, List.length_map] at hc49
          have hTj : PS.ok (T.wr (T.wire.drop j)) 100 := (hT.wr (fun x hx => List.mem_of_mem_drop hx) (by have := hT.wl; simp; omega)).mono (by omega)
          refine W.skip ?_
          refine W.seq ?_
          refine W.block ?_
          refine W.reg ?_
          refine XOps.s rfl rfl rfl (Q.move_ptr rfl) ?_
          refine XOps.s rfl rfl rfl (Q.call rfl Try.func19 go19 rfl (wire_c b (T.wr (T.wire.drop j)) f3 s4 w4 hs (by unfold PS.wr; simp; have := hT.wl; omega))) ?_
          refine XOps.s rfl rfl rfl (Q.len_sl isl33 rfl) ?_
          refine XOps.s rfl rfl rfl (Q.gtr rfl rfl) ?_
          refine XOps.s rfl rfl rfl (Q.move_d rfl) ?_
          refine XOps.gs rfl rfl rfl rfl rfl rfl rfl (fun hg => Q.move_ptr rfl) ?_
          refine XOps.gl (.d (.int .i64 0)) rfl rfl rfl rfl rfl rfl (fun hg => Loud.open 55 hg rfl (L.call rfl Try.func22 go22 rfl (deliver_c b (T.wr (T.wire.drop j)) f3 s4 w4 0 hs hTj) rfl)) (fun hg => ?_) (fun hg => ?_)
          · rintro _ _ ⟨s5, w5, rfl, rfl⟩
            have hgt : _ = true := hg
            have hjw : j < T.wire.length := by have h := hgt; simp [PS.wr] at h; omega
            rw [(old_step hTo hjw).1]
            refine XOps.gs rfl rfl rfl rfl rfl rfl rfl (fun hg => Quiet.open 56 hg rfl (Q.neq rfl rfl)) ?_
            refine XOps.s rfl rfl rfl (Q.pick_and rfl rfl rfl (fun h => by first | (rw [h]; rfl) | (rw [hg, h]; rfl) | (simp [h, hg]; done))) ?_
            refine XOps.nil ?_
            refine W.cond rfl (fun hc58 => ?_) (fun hc58 => ?_)
            · try simp only [Bool.or_eq_true, Bool.or_eq_false_iff, Bool.and_eq_true, Bool.and_eq_false_iff, decide_eq_true_eq, decide_eq_false_iff_not, Bool.not_eq_true', Bool.not_eq_false', Int.not_lt, Int.not_le, List.length_map] at hc58
              exfalso
              rcases hc58 with ⟨h1, h2⟩
              exact h2 (old_step hTo hjw).2
              --done
            · try simp only [Bool.or_eq_true, Bool.or_eq_false_iff, Bool.and_eq_true, Bool.and_eq_false_iff, decide_eq_true_eq, decide_eq_false_iff_not, Bool.not_eq_true', Bool.not_eq_false', Int.not_lt, Int.not_le, List.length_map] at hc58
              refine W.skip ?_
              refine W.region ?_
              refine XOps.s rfl rfl rfl (Q.add rfl rfl (wi64 (by first | omega | (dsimp only; omega) | (simp only [List.length_map]; omega)) (by first | omega | (dsimp only; omega) | (simp only [List.length_map]; omega)))) ?_
              refine XOps.s rfl rfl rfl (Q.move_d rfl) ?_
              refine XOps.nil ?_
              refine ⟨(j + 1, s5, w5), ?_, ?_, ?_, ?_⟩
              · dsimp only; omega
              · dsimp only; omega
              · exact ⟨by first | rfl | exact int_eq (by omega) | exact len_eq (by simp) | exact int_eq (by simp; done), by first | rfl | exact int_eq (by omega) | exact len_eq (by simp) | exact int_eq (by simp; done), by first | rfl | exact int_eq (by omega) | exact len_eq (by simp) | exact int_eq (by simp; done), by first | rfl | exact int_eq (by omega) | exact len_eq (by simp) | exact int_eq (by simp; done), by first | rfl | exact int_eq (by omega) | exact len_eq (by simp) | exact int_eq (by simp; done), trivial⟩
              · exact HLe.refl _
          · have hgf : _ = false := hg
            have hjw : T.wire.length ≤ j := by have h := hgf; simp [PS.wr] at h; omega
            refine XOps.gs rfl rfl rfl rfl rfl rfl rfl (fun hg => Quiet.open 56 hg rfl (Q.neq rfl rfl)) ?_
            refine XOps.s rfl rfl rfl (Q.pick_and rfl rfl rfl (fun h => by first | (rw [h]; rfl) | (rw [hg, h]; rfl) | (simp [h, hg]; done))) ?_
            refine XOps.nil ?_
            refine W.cond rfl (fun hc58 => ?_) (fun hc58 => ?_)
            · try simp only [Bool.or_eq_true, Bool.or_eq_false_iff, Bool.and_eq_true, Bool.and_eq_false_iff, decide_eq_true_eq, decide_eq_false_iff_not, Bool.not_eq_true', Bool.not_eq_false', Int.not_lt, Int.not_le, List.length_map] at hc58
              exfalso
              rcases hc58 with ⟨h1, h2⟩
              (simp [PS.wr] at h1; omega)
              --done
            · try simp only [Bool.or_eq_true, Bool.or_eq_false_iff, Bool.and_eq_true, Bool.and_eq_false_iff, decide_eq_true_eq, decide_eq_false_iff_not, Bool.not_eq_true', Bool.not_eq_false', Int.not_lt, Int.not_le, List.length_map] at hc58
              refine W.skip ?_
              refine W.region ?_
              refine XOps.s rfl rfl rfl (Q.add rfl rfl (wi64 (by first | omega | (dsimp only; omega) | (simp only [List.length_map]; omega)) (by first | omega | (dsimp only; omega) | (simp only [List.length_map]; omega)))) ?_
              refine XOps.s rfl rfl rfl (Q.move_d rfl) ?_
              refine XOps.nil ?_
              refine ⟨(j + 1, s4, w4), ?_, ?_, ?_, ?_⟩
              · dsimp only; omega
              · dsimp only; omega
              · exact ⟨by first | rfl | exact int_eq (by omega) | exact len_eq (by simp) | exact int_eq (by simp; done), by first | rfl | exact int_eq (by omega) | exact len_eq (by simp) | exact int_eq (by simp; done), by first | rfl | exact int_eq (by omega) | exact len_eq (by simp) | exact int_eq (by simp; done), by first | rfl | exact int_eq (by omega) | exact len_eq (by simp) | exact int_eq (by simp; done), by first | rfl | exact int_eq (by omega) | exact len_eq (by simp) | exact int_eq (by simp; done), trivial⟩
              · (dsimp only; rw [List.drop_eq_nil_of_le (show T.wire.length ≤ j + 1 by omega)]; rw [List.drop_eq_nil_of_le hjw]; exact HLe.refl _)
        · try simp only [Bool.or_eq_true, Bool.or_eq_false_iff, Bool.and_eq_true, Bool.and_eq_false_iff, decide_eq_true_eq, decide_eq_false_iff_not, Bool.not_eq_true', Bool.not_eq_false', Int.not_lt, Int.not_le, List.length_map] at hc49
          refine W.exit ?_
          obtain rfl : j = 64 := by omega
          have hnil : T.wire.drop 64 = [] := List.drop_eq_nil_of_le (by have := hT.wl; omega)
          rw [hnil]
          refine W.reg ?_
          refine XOps.s rfl rfl rfl (Q.move_ptr rfl) ?_
          refine XOps.s rfl rfl rfl (Q.call rfl Try.func24 go24 rfl (term_c b (T.wr []) f3 s4 w4 hs)) ?_
          refine XOps.s rfl rfl rfl (Q.move_d rfl) ?_
          refine XOps.s rfl rfl rfl (Q.add rfl rfl (wi64 (by first | omega | (dsimp only; omega) | (simp only [List.length_map]; omega)) (by first | omega | (dsimp only; omega) | (simp only [List.length_map]; omega)))) ?_
          refine XOps.s rfl rfl rfl (Q.eql rfl rfl) ?_
          refine XOps.s rfl rfl rfl (Q.move_d rfl) ?_
          refine XOps.gs rfl rfl rfl rfl rfl rfl rfl (fun hg => Q.move_ptr rfl) ?_
          refine XOps.gs rfl rfl rfl rfl rfl rfl rfl (fun hg => Quiet.open 66 hg rfl (Q.call rfl Try.func19 go19 rfl (wire_c b (T.wr []) f3 s4 w4 hs (by unfold PS.wr; simp)))) ?_
          refine XOps.gs rfl rfl rfl rfl rfl rfl rfl (fun hg => Quiet.open 67 hg rfl (Q.len_sl isl33 rfl)) ?_
          refine XOps.gs rfl rfl rfl rfl rfl rfl rfl (fun hg => Quiet.open 68 hg rfl (Q.eql rfl rfl)) ?_
          refine XOps.s rfl rfl rfl (Q.pick_and rfl rfl rfl (fun h => by first | (rw [h]; rfl) | (rw [hg, h]; rfl) | (simp [h, hg]; done))) ?_
          refine XOps.s rfl rfl rfl (Q.move_d rfl) ?_
          refine XOps.gs rfl rfl rfl rfl rfl rfl rfl (fun hg => Q.move_ptr rfl) ?_
          refine XOps.gs rfl rfl rfl rfl rfl rfl rfl (fun hg => Quiet.open 72 hg rfl (Q.call rfl Try.func17 go17 rfl (standby_c b (T.wr []) f3 s4 w4 hs (by have := hTe; have := hT.le; have := hT.len; unfold PS.wr; dsimp only; omega)))) ?_
          refine XOps.gs rfl rfl rfl rfl rfl rfl rfl (fun hg => Quiet.open 73 hg rfl (Q.len_sl isl26 rfl)) ?_
          refine XOps.gs rfl rfl rfl rfl rfl rfl rfl (fun hg => Quiet.open 74 hg rfl (Q.eql rfl rfl)) ?_
          refine XOps.s rfl rfl rfl (Q.pick_and rfl rfl rfl (fun h => by first | (rw [h]; rfl) | (rw [hg, h]; rfl) | (simp [h, hg]; done))) ?_
          refine XOps.s rfl rfl rfl (Q.move_d rfl) ?_
          refine XOps.gs rfl rfl rfl rfl rfl rfl rfl (fun hg => Q.move_ptr rfl) ?_
          refine XOps.gs rfl rfl rfl rfl rfl rfl rfl (fun hg => Quiet.open 78 hg rfl (Q.call rfl Try.func14 go14 rfl (done_c b (T.wr []) f3 s4 w4 hs))) ?_
          refine XOps.gs rfl rfl rfl rfl rfl rfl rfl (fun hg => Quiet.open 79 hg rfl (Q.eql rfl rfl)) ?_
          refine XOps.s rfl rfl rfl (Q.pick_and rfl rfl rfl (fun h => by first | (rw [h]; rfl) | (rw [hg, h]; rfl) | (simp [h, hg]; done))) ?_
          refine XOps.s rfl rfl rfl (Q.move_d rfl) ?_
          refine XOps.gs rfl rfl rfl rfl rfl rfl rfl (fun hg => Q.move_ptr rfl) ?_
          refine XOps.gs rfl rfl rfl rfl rfl rfl rfl (fun hg => Quiet.open 83 hg rfl (Q.call rfl Try.func12 go12 rfl (ans_c b (T.wr []) f3 s4 w4 hs))) ?_
          refine XOps.gs rfl rfl rfl rfl rfl rfl rfl (fun hg => Q.move_d rfl) ?_
          refine XOps.gs rfl rfl rfl rfl rfl rfl rfl (fun hg => Quiet.open 84 hg rfl (Quiet.open 85 hg rfl (Q.eql rfl rfl))) ?_
          refine XOps.s rfl rfl rfl (Q.pick_and rfl rfl rfl (fun h => by first | (rw [h]; rfl) | (rw [hg, h]; rfl) | (simp [h, hg]; done))) ?_
          refine XOps.s rfl rfl rfl (Q.move_d rfl) ?_
          refine XOps.gs rfl rfl rfl rfl rfl rfl rfl (fun hg => Q.move_ptr rfl) ?_
          refine XOps.gs rfl rfl rfl rfl rfl rfl rfl (fun hg => Quiet.open 89 hg rfl (Q.call rfl Try.func11 go11 rfl (primary_c b (T.wr []) f3 s4 w4 hs (by have := hT.len; unfold PS.wr; dsimp only; omega)))) ?_
          refine XOps.gs rfl rfl rfl rfl rfl rfl rfl (fun hg => Q.move_d rfl) ?_
          refine XOps.gs rfl rfl rfl rfl rfl rfl rfl (fun hg => Quiet.open 90 hg rfl (Quiet.open 91 hg rfl (Q.call rfl Try.func13 go13 rfl (equalS_c T.first T.first _ (by have := hT.len; omega))))) ?_
          refine XOps.s rfl rfl rfl (Q.pick_and rfl rfl rfl (fun h => by first | (rw [h]; rfl) | (rw [hg, h]; rfl) | (simp [h, hg]; done))) ?_
          refine XOps.s rfl rfl rfl (Q.assign_d rfl) ?_
          refine XOps.nil ?_
          refine W.ret ?_
          (refine ⟨_, _, rfl, HLe.refl _, bt ?_⟩; simp [PS.wr, hTt, hTs, hTd]; done)

set_option maxHeartbeats 1000000 in
set_option maxRecDepth 100000 in
theorem settles_c (l : List Int) (hs : Hp) (hL : l.length ≤ 140737488351232) : AC P 5 [.d (slN l)] hs (fun r _ => r = .d (.bool true)) := by
  refine AC.of 65 Try.func5 rfl rfl rfl ?_
  refine W.reg ?_
  refine XOps.s rfl rfl rfl (Q.assign_d rfl) ?_
  refine XOps.nil ?_
  refine W.reg ?_
  (refine XOps.loud rfl (L.call rfl Try.func7 go7 rfl (new_c hs) rfl) ?_; rintro _ _ ⟨_, rfl, b, f, s, w, rfl, rfl⟩)
  refine XOps.s rfl rfl rfl (Q.assign_ptr rfl) ?_
  refine XOps.nil ?_
  refine W.seq ?_
  refine W.reg ?_
  refine XOps.s rfl rfl rfl (Q.move_ptr rfl) ?_
  refine XOps.s rfl rfl rfl (Q.eql_ptr ipt23 rfl rfl) ?_
  refine XOps.s rfl rfl rfl (Q.move_d rfl) ?_
  refine XOps.gs rfl rfl rfl rfl rfl rfl rfl (fun hg => Q.call rfl Try.func8 go8 rfl (fact_c _)) ?_
  refine XOps.gs rfl rfl rfl rfl rfl rfl rfl (fun hg => Quiet.open 9 hg rfl (Q.not rfl)) ?_
  refine XOps.s rfl rfl rfl (Q.pick_or rfl rfl rfl (fun h => by first | (rw [h]; rfl) | (rw [hg, h]; rfl) | (simp [h, hg]; done))) ?_
  refine XOps.nil ?_
  refine W.cond rfl (fun hc11 => ?_) (fun hc11 => ?_)
  · try simp only [Bool.or_eq_true, Bool.or_eq_false_iff, Bool.and_eq_true, Bool.and_eq_false_iff, decide_eq_true_eq, decide_eq_false_iff_not, Bool.not_eq_true', Bool.not_eq_false', Int.not_lt, Int.not_le, List.length_map] at hc11
    exact absurd hc11 (by simp)
  · try simp only [Bool.or_eq_true, Bool.or_eq_false_iff, Bool.and_eq_true, Bool.and_eq_false_iff, decide_eq_true_eq, decide_eq_false_iff_not, Bool.not_eq_true', Bool.not_eq_false', Int.not_lt, Int.not_le, List.length_map] at hc11
    refine W.skip ?_
    refine W.reg ?_
    refine XOps.s rfl rfl rfl (Q.move_ptr rfl) ?_
    refine XOps.s rfl rfl rfl (Q.move_d rfl) ?_
    refine XOps.s rfl rfl rfl (Q.move_d rfl) ?_
    refine XOps.s rfl rfl rfl (Q.len_sl isl22 rfl) ?_
    refine XOps.s rfl rfl rfl (Q.mini rfl rfl) ?_
    refine XOps.s rfl rfl rfl (Q.cut_slm sl22 rfl rfl rfl (by omega) (by omega) (by simp; omega)) ?_
    (refine XOps.loud rfl (L.call rfl Try.func9 go9 rfl (play_c (fun _ : Unit => hs) (fun _ _ _ => True) (fun _ _ _ => True) 18 [] b f s w ((l.take (min (((l.map nE).length : Nat) : Int) 15).toNat).drop (0 : Int).toNat) () (by simp; omega) Try.func18 go18 (fun n p f s w g hok _ => (set_cb (prH b p f s w hs)).mono fun r h hr => ⟨hr.1, (), trivial, hr.2⟩) (fun _ _ _ _ _ _ => trivial) trivial) rfl) ?_; rintro _ _ ⟨_, rfl, rfl, f2, s2, w2, g2, hk2, rfl⟩)
    refine XOps.nil ?_
    have hok := plN_ok ((l.take (min (((l.map nE).length : Nat) : Int) 15).toNat).drop (0 : Int).toNat) (min ((l.take (min (((l.map nE).length : Nat) : Int) 15).toNat).drop (0 : Int).toNat).length 40)
    generalize (plN ((l.take (min (((l.map nE).length : Nat) : Int) 15).toNat).drop (0 : Int).toNat) (min ((l.take (min (((l.map nE).length : Nat) : Int) 15).toNat).drop (0 : Int).toNat).length 40)) = S at *
    have hsl := hok.le
    have hfl := hok.len
    refine W.seq ?_
    refine W.block ?_
    refine W.loop (ι := Nat) (fun j => [(3, .ptr b 0)]) (fun j => prH b (S.wr (S.wire.drop j)) f2 s2 w2 hs) (fun j => j ≤ S.wire.length) (fun j => S.wire.length - j) 0 ?_ ?_ ?_ ?_
    · exact Nat.zero_le _
    · exact ⟨by first | rfl | exact int_eq (by omega) | exact len_eq (by simp) | exact int_eq (by simp; done), trivial⟩
    · exact HLe.refl _
    · rintro j hj
      try dsimp only
      refine W.seq ?_
      refine W.reg ?_
      refine XOps.s rfl rfl rfl (Q.move_ptr rfl) ?_
      refine XOps.s rfl rfl rfl (Q.call rfl Try.func19 go19 rfl (wire_c b (S.wr (S.wire.drop j)) f2 s2 w2 hs (by unfold PS.wr; simp; have := hok.wl; omega))) ?_
      refine XOps.s rfl rfl rfl (Q.len_sl isl33 rfl) ?_
      refine XOps.s rfl rfl rfl (Q.gtr rfl rfl) ?_
      refine XOps.nil ?_
      refine W.cond rfl (fun hc22 => ?_) (fun hc22 => ?_)
      · try simp only [Bool.or_eq_true, Bool.or_eq_false_iff, Bool.and_eq_true, Bool.and_eq_false_iff, decide_eq_true_eq, decide_eq_false_iff_not, Bool.not_eq_true', Bool.not_eq_false', Int.not_lt, Int.not_le, List.length_map] at hc22
        have hjw : j < S.wire.length := by simp [PS.wr] at hc22; omega
        have hSj : PS.ok (S.wr (S.wire.drop j)) 100 := (hok.wr (fun x hx => List.mem_of_mem_drop hx) (by have := hok.wl; simp; omega)).mono (by omega)
        refine W.skip ?_
        refine W.block ?_
        refine W.reg ?_
        refine XOps.s rfl rfl rfl (Q.move_ptr rfl) ?_
        (refine XOps.loud rfl (L.call rfl Try.func20 go20 rfl (drop_c b (S.wr (S.wire.drop j)) f2 s2 w2 0 hs hSj) rfl) ?_; rintro _ _ ⟨_, rfl, rfl, rfl⟩)
        refine XOps.s rfl rfl rfl (Q.neq rfl rfl) ?_
        refine XOps.nil ?_
        refine W.cond rfl (fun hc25 => ?_) (fun hc25 => ?_)
        · try simp only [Bool.or_eq_true, Bool.or_eq_false_iff, Bool.and_eq_true, Bool.and_eq_false_iff, decide_eq_true_eq, decide_eq_false_iff_not, Bool.not_eq_true', Bool.not_eq_false', Int.not_lt, Int.not_le, List.length_map] at hc25
          exact absurd (drop_step hjw).2 (by simpa using hc25)
        · try simp only [Bool.or_eq_true, Bool.or_eq_false_iff, Bool.and_eq_true, Bool.and_eq_false_iff, decide_eq_true_eq, decide_eq_false_iff_not, Bool.not_eq_true', Bool.not_eq_false', Int.not_lt, Int.not_le, List.length_map] at hc25
          refine W.skip ?_
          refine ⟨j + 1, ?_, ?_, ?_, ?_⟩
          · omega
          · omega
          · exact ⟨by first | rfl | exact int_eq (by omega) | exact len_eq (by simp) | exact int_eq (by simp; done), trivial⟩
          · (rw [(drop_step hjw).1]; exact HLe.refl _)
      · try simp only [Bool.or_eq_true, Bool.or_eq_false_iff, Bool.and_eq_true, Bool.and_eq_false_iff, decide_eq_true_eq, decide_eq_false_iff_not, Bool.not_eq_true', Bool.not_eq_false', Int.not_lt, Int.not_le, List.length_map] at hc22
        have hjw : S.wire.length ≤ j := by simp [PS.wr] at hc22; omega
        have hSw : S.wr (S.wire.drop j) = S.wr [] := by rw [List.drop_eq_nil_of_le hjw]
        rw [hSw]
        have hU : PS.ok (S.wr []) 100 := (hok.wr (by simp) (by simp)).mono (by omega)
        have hUw : (S.wr []).wire = [] := rfl
        generalize S.wr [] = U at *
        obtain ⟨hr1, hr2⟩ := resend_ph hU hUw
        have hU0 : (phC U 0).ok 100 := by rw [← hr1]; exact hU.resend
        have hUk := phC_ok hU hU0
        have hUf := hU.len
        have hUd := hU.done
        refine W.exit ?_
        refine W.seq ?_
        refine W.reg ?_
        refine XOps.s rfl rfl rfl (Q.move_ptr rfl) ?_
        (refine XOps.loud rfl (L.call rfl Try.func21 go21 rfl (resend_c b U f2 s2 w2 hs hU) rfl) ?_; rintro _ _ ⟨_, rfl, w3, rfl, rfl⟩)
        refine XOps.s rfl rfl rfl (Q.neq rfl rfl) ?_
        refine XOps.nil ?_
        rw [hr1]
        refine W.cond rfl (fun hc28 => ?_) (fun hc28 => ?_)
        · try simp only [Bool.or_eq_true, Bool.or_eq_false_iff, Bool.and_eq_true, Bool.and_eq_false_iff, decide_eq_true_eq, decide_eq_false_iff_not, Bool.not_eq_true', Bool.not_eq_false', Int.not_lt, Int.not_le, List.length_map] at hc28
          exact absurd hr2 (by simpa using hc28)
        · try simp only [Bool.or_eq_true, Bool.or_eq_false_iff, Bool.and_eq_true, Bool.and_eq_false_iff, decide_eq_true_eq, decide_eq_false_iff_not, Bool.not_eq_true', Bool.not_eq_false', Int.not_lt, Int.not_le, List.length_map] at hc28
          refine W.skip ?_
          refine W.seq ?_
          refine W.reg ?_
          refine XOps.s rfl rfl rfl (Q.move_d rfl) ?_
          refine XOps.nil ?_
          refine W.block ?_
          refine W.loop (ι := Nat × Nat × Nat) (fun q => [(3, .ptr b 0), (29, .d (.int .i64 (q.1 : Nat)))]) (fun q => prH b (phC U q.1) f2 q.2.1 q.2.2 hs) (fun q => q.1 ≤ 2 * (U.first.length - U.done.toNat)) (fun q => 2 * (U.first.length - U.done.toNat) - q.1) (0, s2, w3) ?_ ?_ ?_ ?_
          · exact Nat.zero_le _
          · exact ⟨by first | rfl | exact int_eq (by omega) | exact len_eq (by simp) | exact int_eq (by simp; done), by first | rfl | exact int_eq (by omega) | exact len_eq (by simp) | exact int_eq (by simp; done), trivial⟩
          · exact HLe.refl _
          · rintro ⟨n, s4, w4⟩ hn
            try dsimp only at hn ⊢
            refine W.reg ?_
            refine XOps.s rfl rfl rfl (Q.lss rfl rfl) ?_
            refine XOps.nil ?_
            refine W.seq ?_
            refine W.cond rfl (fun hc30 => ?_) (fun hc30 => ?_)
            · try simp only [Bool.or_eq_true, Bool.or_eq_false_iff, Bool.and_eq_true, Bool.and_eq_false_iff, decide_eq_true_eq, decide_eq_false_iff_not, Bool.not_eq_true', Bool.not_eq_false', Int.not_lt, Int.not_le, List.length_map] at hc30
              refine W.skip ?_
              refine W.seq ?_
              refine W.block ?_
              refine W.seq ?_
              refine W.reg ?_
              refine XOps.s rfl rfl rfl (Q.move_ptr rfl) ?_
              refine XOps.s rfl rfl rfl (Q.call rfl Try.func19 go19 rfl (wire_c b (phC U n) f2 s4 w4 hs (by have := (hUk n hn).wl; omega))) ?_
              refine XOps.s rfl rfl rfl (Q.len_sl isl33 rfl) ?_
              refine XOps.s rfl rfl rfl (Q.eql rfl rfl) ?_
              refine XOps.nil ?_
              refine W.cond rfl (fun hc34 => ?_) (fun hc34 => ?_)
              · try simp only [Bool.or_eq_true, Bool.or_eq_false_iff, Bool.and_eq_true, Bool.and_eq_false_iff, decide_eq_true_eq, decide_eq_false_iff_not, Bool.not_eq_true', Bool.not_eq_false', Int.not_lt, Int.not_le, List.length_map] at hc34
                have hn2 : n = 2 * (U.first.length - U.done.toNat) := by
                  rcases Nat.lt_or_ge n (2 * (U.first.length - U.done.toNat)) with h | h
                  · have := phC_wire h; simp at hc34; rw [hc34] at this; simp at this
                  · omega
                subst hn2
                have hUe := hUk _ (Nat.le_refl _)
                obtain ⟨g1, g2, g3, g4, g5⟩ := phC_end hU
                refine W.exit ?_
                refine W.reg ?_
                refine XOps.s rfl rfl rfl (Q.move_ptr rfl) ?_
                refine XOps.s rfl rfl rfl (Q.call rfl Try.func11 go11 rfl (primary_c b (phC U (2 * (U.first.length - U.done.toNat))) f2 s4 w4 hs (by have := hUe.len; omega))) ?_
                refine XOps.s rfl rfl rfl (Q.assign_d rfl) ?_
                refine XOps.nil ?_
                refine W.reg ?_
                refine XOps.s rfl rfl rfl (Q.move_ptr rfl) ?_
                refine XOps.s rfl rfl rfl (Q.call rfl Try.func19 go19 rfl (wire_c b (phC U (2 * (U.first.length - U.done.toNat))) f2 s4 w4 hs (by have := hUe.wl; omega))) ?_
                refine XOps.s rfl rfl rfl (Q.len_sl isl33 rfl) ?_
                refine XOps.s rfl rfl rfl (Q.eql rfl rfl) ?_
                refine XOps.s rfl rfl rfl (Q.move_d rfl) ?_
                refine XOps.gs rfl rfl rfl rfl rfl rfl rfl (fun hg => Q.move_ptr rfl) ?_
                refine XOps.gs rfl rfl rfl rfl rfl rfl rfl (fun hg => Quiet.open 46 hg rfl (Q.call rfl Try.func17 go17 rfl (standby_c b (phC U (2 * (U.first.length - U.done.toNat))) f2 s4 w4 hs (by have := hUe.le; have := hUe.len; omega)))) ?_
                refine XOps.gs rfl rfl rfl rfl rfl rfl rfl (fun hg => Q.move_d rfl) ?_
                refine XOps.gs rfl rfl rfl rfl rfl rfl rfl (fun hg => Quiet.open 47 hg rfl (Quiet.open 48 hg rfl (Q.call rfl Try.func13 go13 rfl (equalS_c (phC U (2 * (U.first.length - U.done.toNat))).second (phC U (2 * (U.first.length - U.done.toNat))).first _ (by have := hUe.le; have := hUe.len; omega))))) ?_
                refine XOps.s rfl rfl rfl (Q.pick_and rfl rfl rfl (fun h => by first | (rw [h]; rfl) | (rw [hg, h]; rfl) | (simp [h, hg]; done))) ?_
                refine XOps.s rfl rfl rfl (Q.move_d rfl) ?_
                refine XOps.gs rfl rfl rfl rfl rfl rfl rfl (fun hg => Q.move_ptr rfl) ?_
                refine XOps.gs rfl rfl rfl rfl rfl rfl rfl (fun hg => Quiet.open 52 hg rfl (Q.call rfl Try.func14 go14 rfl (done_c b (phC U (2 * (U.first.length - U.done.toNat))) f2 s4 w4 hs))) ?_
                refine XOps.gs rfl rfl rfl rfl rfl rfl rfl (fun hg => Q.move_d rfl) ?_
                refine XOps.gs rfl rfl rfl rfl rfl rfl rfl (fun hg => Quiet.open 54 hg rfl (Q.len_sl isl26 rfl)) ?_
                refine XOps.gs rfl rfl rfl rfl rfl rfl rfl (fun hg => Quiet.open 53 hg rfl (Quiet.open 55 hg rfl (Q.eql rfl rfl))) ?_
                refine XOps.s rfl rfl rfl (Q.pick_and rfl rfl rfl (fun h => by first | (rw [h]; rfl) | (rw [hg, h]; rfl) | (simp [h, hg]; done))) ?_
                refine XOps.s rfl rfl rfl (Q.move_d rfl) ?_
                refine XOps.gs rfl rfl rfl rfl rfl rfl rfl (fun hg => Q.move_ptr rfl) ?_
                refine XOps.gs rfl rfl rfl rfl rfl rfl rfl (fun hg => Quiet.open 59 hg rfl (Q.call rfl Try.func12 go12 rfl (ans_c b (phC U (2 * (U.first.length - U.done.toNat))) f2 s4 w4 hs))) ?_
                refine XOps.gs rfl rfl rfl rfl rfl rfl rfl (fun hg => Q.move_d rfl) ?_
                refine XOps.gs rfl rfl rfl rfl rfl rfl rfl (fun hg => Quiet.open 61 hg rfl (Q.len_sl isl26 rfl)) ?_
                refine XOps.gs rfl rfl rfl rfl rfl rfl rfl (fun hg => Quiet.open 60 hg rfl (Quiet.open 62 hg rfl (Q.eql rfl rfl))) ?_
                refine XOps.s rfl rfl rfl (Q.pick_and rfl rfl rfl (fun h => by first | (rw [h]; rfl) | (rw [hg, h]; rfl) | (simp [h, hg]; done))) ?_
                refine XOps.s rfl rfl rfl (Q.assign_d rfl) ?_
                refine XOps.nil ?_
                refine W.ret ?_
                refine ⟨_, _, rfl, HLe.refl _, bt ?_⟩
                rw [g1, g2, g3, g4, g5]
                simp
              · try simp only [Bool.or_eq_true, Bool.or_eq_false_iff, Bool.and_eq_true, Bool.and_eq_false_iff, decide_eq_true_eq, decide_eq_false_iff_not, Bool.not_eq_true', Bool.not_eq_false', Int.not_lt, Int.not_le, List.length_map] at hc34
                have hn2 : n < 2 * (U.first.length - U.done.toNat) := by
                  rcases Nat.lt_or_ge n (2 * (U.first.length - U.done.toNat)) with h | h
                  · exact h
                  · have he : n = 2 * (U.first.length - U.done.toNat) := by omega
                    have := (phC_end hU).1
                    rw [← he] at this
                    rw [this] at hc34
                    simp at hc34
                refine W.skip ?_
                refine W.reg ?_
                refine XOps.s rfl rfl rfl (Q.move_ptr rfl) ?_
                (refine XOps.loud rfl (L.call rfl Try.func22 go22 rfl (deliver_c b (phC U n) f2 s4 w4 0 hs (hUk n hn)) rfl) ?_; rintro _ _ ⟨_, rfl, s5, w5, rfl, rfl⟩)
                refine XOps.s rfl rfl rfl (Q.neq rfl rfl) ?_
                refine XOps.nil ?_
                refine W.cond rfl (fun hc37 => ?_) (fun hc37 => ?_)
                · try simp only [Bool.or_eq_true, Bool.or_eq_false_iff, Bool.and_eq_true, Bool.and_eq_false_iff, decide_eq_true_eq, decide_eq_false_iff_not, Bool.not_eq_true', Bool.not_eq_false', Int.not_lt, Int.not_le, List.length_map] at hc37
                  exact absurd (phC_step hU hn2).2 (by simpa using hc37)
                · try simp only [Bool.or_eq_true, Bool.or_eq_false_iff, Bool.and_eq_true, Bool.and_eq_false_iff, decide_eq_true_eq, decide_eq_false_iff_not, Bool.not_eq_true', Bool.not_eq_false', Int.not_lt, Int.not_le, List.length_map] at hc37
                  refine W.skip ?_
                  refine W.region ?_
                  refine XOps.s rfl rfl rfl (Q.add rfl rfl (wi64 (by first | omega | (dsimp only; omega) | (simp only [List.length_map]; omega)) (by first | omega | (dsimp only; omega) | (simp only [List.length_map]; omega)))) ?_
                  refine XOps.s rfl rfl rfl (Q.move_d rfl) ?_
                  refine XOps.nil ?_
                  refine ⟨(n + 1, s5, w5), ?_, ?_, ?_, ?_⟩
                  · dsimp only; omega
                  · dsimp only; omega
                  · exact ⟨by first | rfl | exact int_eq (by omega) | exact len_eq (by simp) | exact int_eq (by simp; done), by first | rfl | exact int_eq (by omega) | exact len_eq (by simp) | exact int_eq (by simp; done), trivial⟩
                  · (dsimp only; rw [← (phC_step hU hn2).1]; exact HLe.refl _)
            · try simp only [Bool.or_eq_true, Bool.or_eq_false_iff, Bool.and_eq_true, Bool.and_eq_false_iff, decide_eq_true_eq, decide_eq_false_iff_not, Bool.not_eq_true', Bool.not_eq_false', Int.not_lt, Int.not_le, List.length_map] at hc30
              exact absurd hc30 (by omega)
end Go.Proofs.YtcicechobemnaaaA
