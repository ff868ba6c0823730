/- Repeat, Resend, Deliver and Takeover of package standby; skywaykeep4.play. -/
import Derived.Test.YtcicechobemnaaaBase
import Derived.Test.YtcicechobemnaaaWalkA
set_option linter.unusedVariables false
set_option linter.unusedSimpArgs false
set_option linter.unnecessarySimpa false
namespace Go.Proofs.YtcicechobemnaaaA.FWalkB
open Go
theorem ag26 : tAgg P 26 = some ((false, 1)) := by kernel_rfl
theorem ag3 : tAgg P 3 = some ((false, 1)) := by kernel_rfl
theorem ag33 : tAgg P 33 = some ((false, 1)) := by kernel_rfl
theorem ag4 : tAgg P 4 = some ((false, 1)) := by kernel_rfl
theorem ag46 : tAgg P 46 = some ((true, 4)) := by kernel_rfl
theorem ag9 : tAgg P 9 = some ((false, 1)) := by kernel_rfl
theorem ap26 : tApp P 26 = some ((1, 16)) := by kernel_rfl
theorem ap33 : tApp P 33 = some ((4, 40)) := by kernel_rfl
theorem fl39_0 : tFld P 39 0 = some (0) := by kernel_rfl
theorem fl39_1 : tFld P 39 1 = some (1) := by kernel_rfl
theorem fl39_2 : tFld P 39 2 = some (2) := by kernel_rfl
theorem fl39_3 : tFld P 39 3 = some (3) := by kernel_rfl
theorem fl39_4 : tFld P 39 4 = some (4) := by kernel_rfl
theorem fl39_5 : tFld P 39 5 = some (5) := by kernel_rfl
theorem fl46_0 : tFld P 46 0 = some (0) := by kernel_rfl
theorem fl46_1 : tFld P 46 1 = some (1) := by kernel_rfl
theorem fl46_2 : tFld P 46 2 = some (2) := by kernel_rfl
theorem fl46_3 : tFld P 46 3 = some (3) := by kernel_rfl
theorem go31 : callGo Go.Proofs.Try.f31 = true := by kernel_rfl
theorem go32 : callGo Go.Proofs.Try.f32 = true := by kernel_rfl
theorem isl26 : isSl P 26 = true := by kernel_rfl
theorem isl33 : isSl P 33 = true := by kernel_rfl
theorem pl46 : tPl P 46 = some ([(0, 1), (1, 1), (2, 1), (3, 1)]) := by kernel_rfl
theorem sl26 : tSl P 26 = some (1) := by kernel_rfl
theorem sl33 : tSl P 33 = some (4) := by kernel_rfl
theorem tz46 : tZero P 46 = some ([.int .i64 0, .int .i64 0, .bool false, .string ⟨#[]⟩]) := by kernel_rfl
theorem tzd46 : cellsD [.int .i64 0, .int .i64 0, .bool false, .string ⟨#[]⟩] = some ([.int .i64 0, .int .i64 0, .bool false, .str ⟨#[]⟩]) := rfl
theorem zr26 : tZrow P 26 = some ([.string ⟨#[]⟩]) := by kernel_rfl
theorem zr33 : tZrow P 33 = some ([.int .i64 0, .int .i64 0, .bool false, .string ⟨#[]⟩]) := by kernel_rfl
theorem zrd26 : cellsD [.string ⟨#[]⟩] = some ([.str ⟨#[]⟩]) := rfl
theorem zrd33 : cellsD [.int .i64 0, .int .i64 0, .bool false, .string ⟨#[]⟩] = some ([.int .i64 0, .int .i64 0, .bool false, .str ⟨#[]⟩]) := rfl
end Go.Proofs.YtcicechobemnaaaA.FWalkB
namespace Go.Proofs.YtcicechobemnaaaA
open Go FWalkB
set_option maxHeartbeats 1000000 in
set_option maxRecDepth 100000 in
theorem repeat_c (b : Nat) (p : PS) (f s w : Nat) (k : Int) (hs : Hp) (hok : p.ok 100) : AC P 29 [.ptr b 0, .d (.int .i64 k)] (prH b p f s w hs) (fun r h => ∃ w2, r = .d (.int .i64 (p.repeatE k)) ∧ h = prH b (p.repeat k) f s w2 hs) := by
  have hwl := hok.wl
  refine AC.of 26 Try.func29 rfl rfl rfl ?_
  refine W.reg ?_
  refine XOps.s rfl rfl rfl (Q.assign_d rfl) ?_
  refine XOps.nil ?_
  refine W.seq ?_
  refine W.reg ?_
  refine XOps.s rfl rfl rfl (Q.move_d rfl) ?_
  refine XOps.s rfl rfl rfl (Q.lss rfl rfl) ?_
  refine XOps.s rfl rfl rfl (Q.move_d rfl) ?_
  refine XOps.gs rfl rfl rfl rfl rfl rfl rfl (fun hg => Q.move_d rfl) ?_
  refine XOps.gs rfl rfl rfl rfl rfl rfl rfl (fun hg => Q.move_ptr rfl) ?_
  refine XOps.gs rfl rfl rfl rfl rfl rfl rfl (fun hg => Quiet.open 9 hg rfl (Q.nil_ptr rfl)) ?_
  refine XOps.gs rfl rfl rfl rfl rfl rfl rfl (fun hg => Quiet.open 10 hg rfl (Q.fld_ptr fl39_5 rfl)) ?_
  refine XOps.gs rfl rfl rfl rfl rfl rfl rfl (fun hg => Quiet.open 11 hg rfl (Q.ld_ptr (k := 0) ag33 rfl rfl rfl)) ?_
  refine XOps.gs rfl rfl rfl rfl rfl rfl rfl (fun hg => Quiet.open 12 hg rfl (Q.len_vs isl33 rfl)) ?_
  refine XOps.gs rfl rfl rfl rfl rfl rfl rfl (fun hg => Quiet.open 8 hg rfl (Quiet.open 13 hg rfl (Q.geq rfl rfl))) ?_
  refine XOps.s rfl rfl rfl (Q.pick_or rfl rfl rfl (fun h => by first | (rw [h]; rfl) | (rw [hg, h]; rfl) | (simp [h, hg]; done))) ?_
  refine XOps.nil ?_
  refine W.cond rfl (fun hc15 => ?_) (fun hc15 => ?_)
  · try simp only [Bool.or_eq_true, Bool.or_eq_false_iff, Bool.and_eq_true, Bool.and_eq_false_iff, decide_eq_true_eq, decide_eq_false_iff_not, Bool.not_eq_true', Bool.not_eq_false', Int.not_lt, Int.not_le, List.length_map] at hc15
    have hin : ¬ p.inW k := by unfold PS.inW; omega
    have hE : p.repeatE k = 8 := by unfold PS.repeatE; rw [if_neg hin]
    have hS : p.repeat k = p := by unfold PS.repeat; rw [if_neg hin]
    rw [hE, hS]
    refine W.reg ?_
    refine XOps.s rfl rfl rfl (Q.assign_d rfl) ?_
    refine XOps.nil ?_
    refine W.ret ?_
    exact ⟨_, prH b p f s w hs, rfl, HLe.refl _, w, rfl, rfl⟩
  · try simp only [Bool.or_eq_true, Bool.or_eq_false_iff, Bool.and_eq_true, Bool.and_eq_false_iff, decide_eq_true_eq, decide_eq_false_iff_not, Bool.not_eq_true', Bool.not_eq_false', Int.not_lt, Int.not_le, List.length_map] at hc15
    obtain ⟨i, rfl⟩ : ∃ i : Nat, k = i := ⟨k.toNat, by omega⟩
    have hin : p.inW i := by unfold PS.inW; omega
    obtain ⟨x, hx⟩ : ∃ x, p.wire[i]? = some x := ⟨_, List.getElem?_eq_getElem (by omega)⟩
    have hgd : p.wire.getD ((i : Nat) : Int).toNat m0 = x := by rw [Int.toNat_natCast, List.getD_eq_getElem?_getD, hx]; rfl
    have hE : p.repeatE i = p.sendE [x] := by unfold PS.repeatE; rw [if_pos hin, hgd]
    have hS : p.repeat i = p.send [x] := by unfold PS.repeat; rw [if_pos hin, hgd]
    rw [hE, hS]
    refine W.skip ?_
    refine W.reg ?_
    refine XOps.s rfl rfl rfl (Q.move_ptr rfl) ?_
    refine XOps.s rfl rfl rfl (Q.move_ptr rfl) ?_
    refine XOps.s rfl rfl rfl (Q.nil_ptr rfl) ?_
    refine XOps.s rfl rfl rfl (Q.fld_ptr fl39_5 rfl) ?_
    refine XOps.s rfl rfl rfl (Q.ld_ptr (k := 0) ag33 rfl rfl rfl) ?_
    refine XOps.s rfl rfl rfl (Q.move_d rfl) ?_
    refine XOps.s rfl rfl rfl (Q.idx_vs (kk := 3) sl33 rfl rfl rfl (by omega) (by first | omega | (dsimp only; omega))) ?_
    refine XOps.s rfl rfl rfl (Q.ld_epn (k := 3) ag46 rfl rfl (by exact map_at0 hx) rfl) ?_
    refine XOps.s rfl rfl rfl (Q.bsl1n sl33 (by decide) zr33 rfl zrd33 rfl rfl (by decide)) ?_
    (refine XOps.loud rfl (L.call rfl Try.func32 go32 rfl (send_c b p f s w [x] hs hwl (by simp)) rfl) ?_; rintro _ _ ⟨_, rfl, w2, rfl, rfl⟩)
    refine XOps.s rfl rfl rfl (Q.assign_d rfl) ?_
    refine XOps.nil ?_
    refine W.ret ?_
    exact ⟨_, prH b (p.send [x]) f s w2 hs, rfl, HLe.refl _, w2, rfl, rfl⟩

set_option maxHeartbeats 1000000 in
set_option maxRecDepth 100000 in
theorem resend_c (b : Nat) (p : PS) (f s w : Nat) (hs : Hp) (hok : p.ok 100) : AC P 21 [.ptr b 0] (prH b p f s w hs) (fun r h => ∃ w2, r = .d (.int .i64 p.resendE) ∧ h = prH b p.resend f s w2 hs) := by
  have hwl := hok.wl
  have hln := hok.len
  have hdn := hok.done
  have hle := hok.le
  have htm := hok.term
  refine AC.of 38 Try.func21 rfl rfl rfl ?_
  refine W.reg ?_
  refine XOps.s rfl rfl rfl (Q.assign_d rfl) ?_
  refine XOps.nil ?_
  refine W.reg ?_
  refine XOps.s rfl rfl rfl (Q.assign_nilsl rfl) ?_
  refine XOps.nil ?_
  refine W.seq ?_
  refine W.ghost 3 4 (by decide) rfl (by decide) (fun v3 => ?_)
  refine W.reg ?_
  refine XOps.s rfl rfl rfl (Q.move_ptr rfl) ?_
  refine XOps.s rfl rfl rfl (Q.nil_ptr rfl) ?_
  refine XOps.s rfl rfl rfl (Q.fld_ptr fl39_3 rfl) ?_
  refine XOps.s rfl rfl rfl (Q.ld_ptr (k := 1) ag3 rfl rfl rfl) ?_
  refine XOps.s rfl rfl rfl (Q.assign_d rfl) ?_
  refine XOps.nil ?_
  refine W.block ?_
  refine W.loop (ι := Nat × Nat) (fun q => [(0, .ptr b 0), (3, .vs q.2 0 (resL p q.1).length 4), (4, .d (.int .i64 (q.1 : Nat)))]) (fun q => (q.2, .lst 4 ((resL p q.1).map Msg.enc)) :: prH b p f s w hs) (fun q => p.done.toNat ≤ q.1 ∧ q.1 ≤ p.first.length) (fun q => p.first.length - q.1) (p.done.toNat, v3) ?_ ?_ ?_ ?_
  · exact ⟨Nat.le_refl _, by dsimp only; omega⟩
  · exact ⟨by first | rfl | exact int_eq (by omega) | exact len_eq (by simp) | exact int_eq (by simp; done), by exact vs_eq (by rw [resL_len]; omega), by exact int_eq (by dsimp only; omega), trivial⟩
  · exact HLe.cons' (by rw [show resL p p.done.toNat = [] from List.eq_nil_of_length_eq_zero (by rw [resL_len]; omega)]; rfl) (HLe.refl _)
  · rintro ⟨k, v⟩ hI
    try dsimp only at hI ⊢
    refine W.seq ?_
    refine W.reg ?_
    refine XOps.s rfl rfl rfl (Q.move_d rfl) ?_
    refine XOps.s rfl rfl rfl (Q.move_ptr rfl) ?_
    refine XOps.s rfl rfl rfl (Q.nil_ptr rfl) ?_
    refine XOps.s rfl rfl rfl (Q.fld_ptr fl39_1 rfl) ?_
    refine XOps.s rfl rfl rfl (Q.ld_ptr (k := 1) ag26 rfl rfl rfl) ?_
    refine XOps.s rfl rfl rfl (Q.len_vs isl26 rfl) ?_
    refine XOps.s rfl rfl rfl (Q.lss rfl rfl) ?_
    refine XOps.nil ?_
    refine W.cond rfl (fun hc15 => ?_) (fun hc15 => ?_)
    · try simp only [Bool.or_eq_true, Bool.or_eq_false_iff, Bool.and_eq_true, Bool.and_eq_false_iff, decide_eq_true_eq, decide_eq_false_iff_not, Bool.not_eq_true', Bool.not_eq_false', Int.not_lt, Int.not_le, List.length_map] at hc15
      obtain ⟨x, hx⟩ : ∃ x, p.first[k]? = some x := ⟨_, List.getElem?_eq_getElem (by omega)⟩
      have hrs := resL_succ hdn.1 hI.1
      rw [List.getD_eq_getElem?_getD, hx, Option.getD_some] at hrs
      have hrl := resL_len p k
      refine W.skip ?_
      refine W.seq ?_
      refine W.block ?_
      refine W.drawT 17 [16] follows (by kernel_rfl) (by decide) ?_
      apply DT.moreE [.new, .new, .new, .new, .new, .new, .new, .new, .new, .new, .new, .new, .new, .new, .new, .new, .now] (by kernel_rfl)
      refine PC.new _ rfl (GQ.q rfl (Q.move_vs rfl)) rfl ?_
      refine PC.new _ rfl (GQ.q rfl (Q.move_ptr rfl)) rfl ?_
      refine PC.new _ rfl (GQ.q rfl (Q.nil_ptr rfl)) rfl ?_
      refine PC.new _ rfl (GQ.q rfl (Q.fld_ptr fl39_0 rfl)) rfl ?_
      refine PC.new _ rfl (GQ.q rfl (Q.ld_ptr (k := 1) ag3 rfl rfl rfl)) rfl ?_
      refine PC.new _ rfl (GQ.q rfl (Q.move_d rfl)) rfl ?_
      refine PC.new _ rfl (GQ.q rfl (Q.add rfl rfl (wi64 (by first | omega | (dsimp only; omega) | (simp only [List.length_map]; omega)) (by first | omega | (dsimp only; omega) | (simp only [List.length_map]; omega))))) rfl ?_
      refine PC.new _ rfl (GQ.q rfl (Q.move_ptr rfl)) rfl ?_
      refine PC.new _ rfl (GQ.q rfl (Q.nil_ptr rfl)) rfl ?_
      refine PC.new _ rfl (GQ.q rfl (Q.fld_ptr fl39_1 rfl)) rfl ?_
      refine PC.new _ rfl (GQ.q rfl (Q.ld_ptr (k := 1) ag26 rfl rfl rfl)) rfl ?_
      refine PC.new _ rfl (GQ.q rfl (Q.move_d rfl)) rfl ?_
      refine PC.new _ rfl (GQ.q rfl (Q.idx_vs (kk := 2) sl26 rfl rfl rfl (by omega) (by first | omega | (dsimp only; omega)))) rfl ?_
      refine PC.new _ rfl (GQ.q rfl (Q.ld_ep (k := 2) ag9 rfl rfl (by exact map_at0 hx) rfl)) rfl ?_
      refine PC.new _ rfl (GQ.q rfl (Q.build pl46 tz46 tzd46 rfl)) rfl ?_
      refine PC.new _ rfl (GQ.q rfl (Q.bsl1n sl33 (by decide) zr33 rfl zrd33 rfl rfl (by decide))) rfl ?_
      refine PC.now rfl rfl (fun τ => Loud.to (L.app (k := 0) ap33 rfl rfl (by first | rfl | (simp [List.length_map]; done)) rfl (by simp; omega) rfl) (fun _ _ ⟨v, h1, h2⟩ => ⟨_, h1, v, rfl, h2⟩)) ?_
      refine PC.nil ?_
      rintro _ _ ⟨v34, rfl, rfl⟩
      refine DT.last [.did, .did, .did, .did, .did, .did, .did, .did, .did, .did, .did, .did, .did, .did, .did, .did, .did] (by kernel_rfl) ?_
      refine PC.did rfl ?_
      refine PC.did rfl ?_
      refine PC.did rfl ?_
      refine PC.did rfl ?_
      refine PC.did rfl ?_
      refine PC.did rfl ?_
      refine PC.did rfl ?_
      refine PC.did rfl ?_
      refine PC.did rfl ?_
      refine PC.did rfl ?_
      refine PC.did rfl ?_
      refine PC.did rfl ?_
      refine PC.did rfl ?_
      refine PC.did rfl ?_
      refine PC.did rfl ?_
      refine PC.did rfl ?_
      refine PC.did rfl ?_
      refine PC.nil ?_
      refine XOps.s rfl rfl rfl (Q.assign_vs rfl) ?_
      refine XOps.nil ?_
      refine W.region ?_
      refine XOps.s rfl rfl rfl (Q.move_d rfl) ?_
      refine XOps.s rfl rfl rfl (Q.add rfl rfl (wi64 (by first | omega | (dsimp only; omega) | (simp only [List.length_map]; omega)) (by first | omega | (dsimp only; omega) | (simp only [List.length_map]; omega)))) ?_
      refine XOps.s rfl rfl rfl (Q.assign_d rfl) ?_
      refine XOps.nil ?_
      refine ⟨(k + 1, v34), ?_, ?_, ?_, ?_⟩
      · dsimp only; omega
      · dsimp only; omega
      · exact ⟨by first | rfl | exact int_eq (by omega) | exact len_eq (by simp) | exact int_eq (by simp; done), by exact vs_eq (by dsimp only; rw [hrs]; simp), by first | rfl | exact int_eq (by omega) | exact len_eq (by simp) | exact int_eq (by simp; done), trivial⟩
      · exact HLe.pick 0 rfl (by dsimp only; rw [hrs]; simp [Msg.enc]) (HLe.refl _)
    · try simp only [Bool.or_eq_true, Bool.or_eq_false_iff, Bool.and_eq_true, Bool.and_eq_false_iff, decide_eq_true_eq, decide_eq_false_iff_not, Bool.not_eq_true', Bool.not_eq_false', Int.not_lt, Int.not_le, List.length_map] at hc15
      refine W.exit ?_
      obtain rfl : k = p.first.length := by omega
      refine W.freeze 3 0 rfl rfl (by simp) ?_
      refine W.reg ?_
      refine XOps.s rfl rfl rfl (Q.move_ptr rfl) ?_
      refine XOps.s rfl rfl rfl (Q.move_d rfl) ?_
      (refine XOps.loud rfl (L.call rfl Try.func32 go32 rfl (send_c b p f s w (resL p p.first.length) hs hwl (by rw [resL_len]; omega)) rfl) ?_; rintro _ _ ⟨_, rfl, w2, rfl, rfl⟩)
      refine XOps.s rfl rfl rfl (Q.assign_d rfl) ?_
      refine XOps.nil ?_
      refine W.ret ?_
      exact ⟨_, prH b p.resend f s w2 hs, rfl, HLe.refl _, w2, rfl, rfl⟩

set_option maxHeartbeats 1000000 in
set_option maxRecDepth 100000 in
theorem take_c (b : Nat) (p : PS) (f s w : Nat) (hs : Hp) (hok : p.ok 100) : AC P 25 [.ptr b 0] (prH b p f s w hs) (fun r h => ∃ f2 s2, r = .d (.int .i64 p.takeE) ∧ h = prH b p.take f2 s2 w hs) := by
  have htm := hok.term
  refine AC.of 33 Try.func25 rfl rfl rfl ?_
  refine W.reg ?_
  refine XOps.s rfl rfl rfl (Q.assign_d rfl) ?_
  refine XOps.nil ?_
  refine W.seq ?_
  refine W.drawreg 10 follows (by kernel_rfl) ?_
  refine Chain.cons _ (GQ.q rfl (Q.move_ptr rfl)) rfl ?_
  refine Chain.cons _ (GQ.q rfl (Q.nil_ptr rfl)) rfl ?_
  refine Chain.cons _ (GQ.q rfl (Q.fld_ptr fl39_2 rfl)) rfl ?_
  refine Chain.cons _ (GQ.q rfl (Q.ld_ptr (k := 0) ag26 rfl rfl rfl)) rfl ?_
  refine Chain.cons _ (GQ.q rfl (Q.len_vs isl26 rfl)) rfl ?_
  refine Chain.cons _ (GQ.q rfl (Q.move_ptr rfl)) rfl ?_
  refine Chain.cons _ (GQ.q rfl (Q.nil_ptr rfl)) rfl ?_
  refine Chain.cons _ (GQ.q rfl (Q.fld_ptr fl39_4 rfl)) rfl ?_
  refine Chain.cons _ (GQ.q rfl (Q.ld_ptr (k := 0) ag3 rfl rfl rfl)) rfl ?_
  refine Chain.cons _ (GQ.q rfl (Q.lss rfl rfl)) rfl ?_
  refine Chain.nil ?_
  refine XOps.nil ?_
  refine W.cond rfl (fun hc12 => ?_) (fun hc12 => ?_)
  · try simp only [Bool.or_eq_true, Bool.or_eq_false_iff, Bool.and_eq_true, Bool.and_eq_false_iff, decide_eq_true_eq, decide_eq_false_iff_not, Bool.not_eq_true', Bool.not_eq_false', Int.not_lt, Int.not_le, List.length_map] at hc12
    have hE : p.takeE = 21 := by unfold PS.takeE; rw [if_pos hc12]
    have hS : p.take = p := by unfold PS.take; rw [if_pos hc12]
    rw [hE, hS]
    refine W.reg ?_
    refine XOps.s rfl rfl rfl (Q.assign_d rfl) ?_
    refine XOps.nil ?_
    refine W.ret ?_
    exact ⟨_, prH b p f s w hs, rfl, HLe.refl _, f, s, rfl, rfl⟩
  · try simp only [Bool.or_eq_true, Bool.or_eq_false_iff, Bool.and_eq_true, Bool.and_eq_false_iff, decide_eq_true_eq, decide_eq_false_iff_not, Bool.not_eq_true', Bool.not_eq_false', Int.not_lt, Int.not_le, List.length_map] at hc12
    have hE : p.takeE = 0 := by unfold PS.takeE; rw [if_neg (by omega)]
    have hS : p.take = ⟨p.term + 1, p.second, [], 0, p.ans, p.wire⟩ := by unfold PS.take; rw [if_neg (by omega)]
    rw [hE, hS]
    refine W.skip ?_
    refine W.reg ?_
    refine XOps.s rfl rfl rfl (Q.move_ptr rfl) ?_
    refine XOps.s rfl rfl rfl (Q.nil_ptr rfl) ?_
    refine XOps.s rfl rfl rfl (Q.fld_ptr fl39_0 rfl) ?_
    refine XOps.s rfl rfl rfl (Q.ld_ptr (k := 0) ag3 rfl rfl rfl) ?_
    refine XOps.s rfl rfl rfl (Q.add rfl rfl (wi64 (by first | omega | (dsimp only; omega) | (simp only [List.length_map]; omega)) (by first | omega | (dsimp only; omega) | (simp only [List.length_map]; omega)))) ?_
    refine XOps.s rfl rfl rfl (Q.nil_ptr rfl) ?_
    refine XOps.s rfl rfl rfl (Q.fld_ptr fl39_0 rfl) ?_
    refine XOps.loud rfl (L.store (k := 0) ag3 rfl rfl rfl rfl rfl) ?_
    rintro _ _ ⟨rfl, rfl⟩
    refine XOps.nil ?_
    refine W.reg ?_
    refine XOps.s rfl rfl rfl (Q.move_ptr rfl) ?_
    refine XOps.s rfl rfl rfl (Q.move_ptr rfl) ?_
    refine XOps.s rfl rfl rfl (Q.move_ptr rfl) ?_
    refine XOps.s rfl rfl rfl (Q.nil_ptr rfl) ?_
    refine XOps.s rfl rfl rfl (Q.fld_ptr fl39_2 rfl) ?_
    refine XOps.s rfl rfl rfl (Q.ld_ptr (k := 0) ag26 rfl rfl rfl) ?_
    refine XOps.s rfl rfl rfl (Q.nil_ptr rfl) ?_
    refine XOps.s rfl rfl rfl (Q.fld_ptr fl39_1 rfl) ?_
    refine XOps.loud rfl (L.store (k := 0) ag26 rfl rfl rfl rfl rfl) ?_
    rintro _ _ ⟨rfl, rfl⟩
    refine XOps.s rfl rfl rfl (Q.nil_ptr rfl) ?_
    refine XOps.s rfl rfl rfl (Q.fld_ptr fl39_2 rfl) ?_
    refine XOps.loud rfl (L.store (k := 0) ag26 rfl rfl rfl rfl rfl) ?_
    rintro _ _ ⟨rfl, rfl⟩
    refine XOps.nil ?_
    refine W.ghostc 0 2 1 (by decide) rfl rfl (fun v => ?_)
    refine W.reg ?_
    refine XOps.s rfl rfl rfl (Q.move_ptr rfl) ?_
    refine XOps.s rfl rfl rfl (Q.nil_ptr rfl) ?_
    refine XOps.s rfl rfl rfl (Q.fld_ptr fl39_3 rfl) ?_
    refine XOps.loud rfl (L.store (k := 1) ag3 rfl rfl rfl rfl rfl) ?_
    rintro _ _ ⟨rfl, rfl⟩
    refine XOps.nil ?_
    refine W.reg ?_
    refine XOps.s rfl rfl rfl (Q.assign_d rfl) ?_
    refine XOps.nil ?_
    refine W.ret ?_
    exact ⟨_, prH b ⟨p.term + 1, p.second, [], 0, p.ans, p.wire⟩ s v w hs, rfl, (HLe.pick 1 rfl (by first | rfl | (simp [PS.cells, PS.without, Msg.enc, sE]; done) | (simp [PS.cells, PS.without, Msg.enc, sE]; rfl) | (simp [PS.cells, PS.without, Msg.enc, sE]; exact ⟨rfl, rfl⟩)) (HLe.pick 2 rfl (by first | rfl | (simp [PS.cells, PS.without, Msg.enc, sE]; done) | (simp [PS.cells, PS.without, Msg.enc, sE]; rfl) | (simp [PS.cells, PS.without, Msg.enc, sE]; exact ⟨rfl, rfl⟩)) (HLe.pick 0 rfl (by first | rfl | (simp [PS.cells, PS.without, Msg.enc, sE]; done) | (simp [PS.cells, PS.without, Msg.enc, sE]; rfl) | (simp [PS.cells, PS.without, Msg.enc, sE]; exact ⟨rfl, rfl⟩)) (HLe.pick 1 rfl (by first | rfl | (simp [PS.cells, PS.without, Msg.enc, sE]; done) | (simp [PS.cells, PS.without, Msg.enc, sE]; rfl) | (simp [PS.cells, PS.without, Msg.enc, sE]; exact ⟨rfl, rfl⟩)) (HLe.skip _ (HLe.refl _)))))), s, v, rfl, rfl⟩

set_option maxHeartbeats 1000000 in
set_option maxRecDepth 100000 in
theorem deliver_c (b : Nat) (p : PS) (f s w : Nat) (k : Int) (hs : Hp) (hok : p.ok 100) : AC P 22 [.ptr b 0, .d (.int .i64 k)] (prH b p f s w hs) (fun r h => ∃ s2 w2, r = .d (.int .i64 (p.deliverE k)) ∧ h = prH b (p.deliver k) f s2 w2 hs) := by
  have hwl := hok.wl
  refine AC.of 102 Try.func22 rfl rfl rfl ?_
  refine W.reg ?_
  refine XOps.s rfl rfl rfl (Q.assign_d rfl) ?_
  refine XOps.nil ?_
  refine W.seq ?_
  refine W.reg ?_
  refine XOps.s rfl rfl rfl (Q.move_d rfl) ?_
  refine XOps.s rfl rfl rfl (Q.lss rfl rfl) ?_
  refine XOps.s rfl rfl rfl (Q.move_d rfl) ?_
  refine XOps.gs rfl rfl rfl rfl rfl rfl rfl (fun hg => Q.move_d rfl) ?_
  refine XOps.gs rfl rfl rfl rfl rfl rfl rfl (fun hg => Q.move_ptr rfl) ?_
  refine XOps.gs rfl rfl rfl rfl rfl rfl rfl (fun hg => Quiet.open 10 hg rfl (Q.nil_ptr rfl)) ?_
  refine XOps.gs rfl rfl rfl rfl rfl rfl rfl (fun hg => Quiet.open 11 hg rfl (Q.fld_ptr fl39_5 rfl)) ?_
  refine XOps.gs rfl rfl rfl rfl rfl rfl rfl (fun hg => Quiet.open 12 hg rfl (Q.ld_ptr (k := 0) ag33 rfl rfl rfl)) ?_
  refine XOps.gs rfl rfl rfl rfl rfl rfl rfl (fun hg => Quiet.open 13 hg rfl (Q.len_vs isl33 rfl)) ?_
  refine XOps.gs rfl rfl rfl rfl rfl rfl rfl (fun hg => Quiet.open 9 hg rfl (Quiet.open 14 hg rfl (Q.geq rfl rfl))) ?_
  refine XOps.s rfl rfl rfl (Q.pick_or rfl rfl rfl (fun h => by first | (rw [h]; rfl) | (rw [hg, h]; rfl) | (simp [h, hg]; done))) ?_
  refine XOps.nil ?_
  refine W.cond rfl (fun hc16 => ?_) (fun hc16 => ?_)
  · try simp only [Bool.or_eq_true, Bool.or_eq_false_iff, Bool.and_eq_true, Bool.and_eq_false_iff, decide_eq_true_eq, decide_eq_false_iff_not, Bool.not_eq_true', Bool.not_eq_false', Int.not_lt, Int.not_le, List.length_map] at hc16
    have hin : ¬ p.inW k := by unfold PS.inW; omega
    have hE : p.deliverE k = 8 := by unfold PS.deliverE; rw [if_neg hin]
    have hS : p.deliver k = p := by unfold PS.deliver; rw [if_neg hin]
    rw [hE, hS]
    refine W.reg ?_
    refine XOps.s rfl rfl rfl (Q.assign_d rfl) ?_
    refine XOps.nil ?_
    refine W.ret ?_
    exact ⟨_, prH b p f s w hs, rfl, HLe.refl _, s, w, rfl, rfl⟩
  · try simp only [Bool.or_eq_true, Bool.or_eq_false_iff, Bool.and_eq_true, Bool.and_eq_false_iff, decide_eq_true_eq, decide_eq_false_iff_not, Bool.not_eq_true', Bool.not_eq_false', Int.not_lt, Int.not_le, List.length_map] at hc16
    obtain ⟨i, rfl⟩ : ∃ i : Nat, k = i := ⟨k.toNat, by omega⟩
    have hin : p.inW i := by unfold PS.inW; omega
    obtain ⟨x, hx⟩ : ∃ x, p.wire[i]? = some x := ⟨_, List.getElem?_eq_getElem (by omega)⟩
    have hgd : p.wire.getD ((i : Nat) : Int).toNat m0 = x := by rw [Int.toNat_natCast, List.getD_eq_getElem?_getD, hx]; rfl
    have hE : p.deliverE i = (p.without i).deliver1E x := by unfold PS.deliverE; rw [if_pos hin, hgd, Int.toNat_natCast]
    have hS : p.deliver i = (p.without i).deliver1 x := by unfold PS.deliver; rw [if_pos hin, hgd, Int.toNat_natCast]
    rw [hE, hS]
    refine W.skip ?_
    refine W.reg ?_
    refine XOps.s rfl rfl rfl (Q.move_ptr rfl) ?_
    refine XOps.s rfl rfl rfl (Q.nil_ptr rfl) ?_
    refine XOps.s rfl rfl rfl (Q.fld_ptr fl39_5 rfl) ?_
    refine XOps.s rfl rfl rfl (Q.ld_ptr (k := 0) ag33 rfl rfl rfl) ?_
    refine XOps.s rfl rfl rfl (Q.move_d rfl) ?_
    refine XOps.s rfl rfl rfl (Q.idx_vs (kk := 3) sl33 rfl rfl rfl (by omega) (by first | omega | (dsimp only; omega))) ?_
    refine XOps.s rfl rfl rfl (Q.ld_epn (k := 3) ag46 rfl rfl (by first | exact map_at0 hx) rfl) ?_
    (refine XOps.loud rfl (L.alloc tz46 rfl rfl) ?_; rintro _ _ ⟨b5, rfl, rfl⟩)
    refine XOps.loud rfl (L.storen (k := 0) ag46 rfl rfl rfl rfl rfl) ?_
    rintro _ _ ⟨rfl, rfl⟩
    refine XOps.nil ?_
    refine W.reg ?_
    refine XOps.s rfl rfl rfl (Q.move_ptr rfl) ?_
    refine XOps.s rfl rfl rfl (Q.move_ptr rfl) ?_
    refine XOps.s rfl rfl rfl (Q.nil_ptr rfl) ?_
    refine XOps.s rfl rfl rfl (Q.fld_ptr fl39_5 rfl) ?_
    refine XOps.s rfl rfl rfl (Q.ld_ptr (k := 1) ag33 rfl rfl rfl) ?_
    refine XOps.s rfl rfl rfl (Q.move_d rfl) ?_
    refine XOps.s rfl rfl rfl (Q.move_d rfl) ?_
    refine XOps.s rfl rfl rfl (Q.add rfl rfl (wi64 (by first | omega | (dsimp only; omega) | (simp only [List.length_map]; omega)) (by first | omega | (dsimp only; omega) | (simp only [List.length_map]; omega)))) ?_
    (refine XOps.loud rfl (L.call rfl Try.func31 go31 rfl (AC.le (delM1_c p.wire w i ((b5, .cells (x.enc.map .d)) :: (b, .cells (p.cells f s w)) :: (f, .lst 1 (p.first.map sE)) :: (s, .lst 1 (p.second.map sE)) :: hs) (by omega) (by omega)) (HLe.pick 4 rfl rfl (HLe.pick 0 rfl rfl (HLe.refl _)))) rfl) ?_; rintro _ _ ⟨_, rfl, rfl, rfl⟩)
    refine XOps.s rfl rfl rfl (Q.nil_ptr rfl) ?_
    refine XOps.s rfl rfl rfl (Q.fld_ptr fl39_5 rfl) ?_
    refine XOps.loud rfl (L.store (k := 2) ag33 rfl rfl rfl rfl rfl) ?_
    rintro _ _ ⟨rfl, rfl⟩
    refine XOps.nil ?_
    refine W.seq ?_
    refine W.block ?_
    refine W.heap ((b5, .cells (x.enc.map .d)) :: prH b (p.without i) f s w hs) (HLe.pick 1 rfl (by first | rfl | (simp [PS.cells, PS.without, Msg.enc, sE]; done) | (simp [PS.cells, PS.without, Msg.enc, sE]; rfl) | (simp [PS.cells, PS.without, Msg.enc, sE]; exact ⟨rfl, rfl⟩)) (HLe.pick 1 rfl (by first | rfl | (simp [PS.cells, PS.without, Msg.enc, sE]; done) | (simp [PS.cells, PS.without, Msg.enc, sE]; rfl) | (simp [PS.cells, PS.without, Msg.enc, sE]; exact ⟨rfl, rfl⟩)) (HLe.pick 1 rfl (by first | rfl | (simp [PS.cells, PS.without, Msg.enc, sE]; done) | (simp [PS.cells, PS.without, Msg.enc, sE]; rfl) | (simp [PS.cells, PS.without, Msg.enc, sE]; exact ⟨rfl, rfl⟩)) (HLe.pick 1 rfl (by first | rfl | (simp [PS.cells, PS.without, Msg.enc, sE]; done) | (simp [PS.cells, PS.without, Msg.enc, sE]; rfl) | (simp [PS.cells, PS.without, Msg.enc, sE]; exact ⟨rfl, rfl⟩)) (HLe.pick 0 rfl (by first | rfl | (simp [PS.cells, PS.without, Msg.enc, sE]; done) | (simp [PS.cells, PS.without, Msg.enc, sE]; rfl) | (simp [PS.cells, PS.without, Msg.enc, sE]; exact ⟨rfl, rfl⟩)) (HLe.refl _)))))) ?_
    have hq := hok.without i
    generalize p.without i = q at *
    have hqle := hq.le
    have hql := hq.len
    have hqd := hq.done
    refine W.drawreg 8 follows (by kernel_rfl) ?_
    refine Chain.cons _ (GQ.q rfl (Q.fld_ptr fl46_0 rfl)) rfl ?_
    refine Chain.cons _ (GQ.q rfl (Q.ld_ptr (k := 0) ag3 rfl rfl rfl)) rfl ?_
    refine Chain.cons _ (GQ.q rfl (Q.move_ptr rfl)) rfl ?_
    refine Chain.cons _ (GQ.q rfl (Q.nil_ptr rfl)) rfl ?_
    refine Chain.cons _ (GQ.q rfl (Q.fld_ptr fl39_0 rfl)) rfl ?_
    refine Chain.cons _ (GQ.q rfl (Q.ld_ptr (k := 1) ag3 rfl rfl rfl)) rfl ?_
    refine Chain.cons _ (GQ.q rfl (Q.neq rfl rfl)) rfl ?_
    refine Chain.cons _ (GQ.q rfl (Q.assign_d rfl)) rfl ?_
    refine Chain.nil ?_
    refine XOps.nil ?_
    refine W.cond rfl (fun hc35 => ?_) (fun hc35 => ?_)
    · try simp only [Bool.or_eq_true, Bool.or_eq_false_iff, Bool.and_eq_true, Bool.and_eq_false_iff, decide_eq_true_eq, decide_eq_false_iff_not, Bool.not_eq_true', Bool.not_eq_false', Int.not_lt, Int.not_le, List.length_map] at hc35
      have hE1 : q.deliver1E x = 0 := by unfold PS.deliver1E; rw [if_pos hc35]
      have hS1 : q.deliver1 x = q := by unfold PS.deliver1; rw [if_pos hc35]
      rw [hE1, hS1]
      refine W.reg ?_
      refine XOps.s rfl rfl rfl (Q.assign_d rfl) ?_
      refine XOps.nil ?_
      refine W.ret ?_
      exact ⟨_, prH b q f s w hs, rfl, HLe.skip _ (HLe.refl _), s, w, rfl, rfl⟩
    · try simp only [Bool.or_eq_true, Bool.or_eq_false_iff, Bool.and_eq_true, Bool.and_eq_false_iff, decide_eq_true_eq, decide_eq_false_iff_not, Bool.not_eq_true', Bool.not_eq_false', Int.not_lt, Int.not_le, List.length_map] at hc35
      have hct : ¬ x.term ≠ q.term := by omega
      refine W.reg ?_
      refine XOps.s rfl rfl rfl (Q.fld_ptr fl46_2 rfl) ?_
      refine XOps.s rfl rfl rfl (Q.ld_ptr (k := 0) ag4 rfl rfl rfl) ?_
      refine XOps.s rfl rfl rfl (Q.assign_d rfl) ?_
      refine XOps.nil ?_
      refine W.cond rfl (fun hc43 => ?_) (fun hc43 => ?_)
      · try simp only [Bool.or_eq_true, Bool.or_eq_false_iff, Bool.and_eq_true, Bool.and_eq_false_iff, decide_eq_true_eq, decide_eq_false_iff_not, Bool.not_eq_true', Bool.not_eq_false', Int.not_lt, Int.not_le, List.length_map] at hc43
        have hE1 : q.deliver1E x = 0 := by unfold PS.deliver1E; rw [if_neg hct, if_pos hc43]
        have hS1 : q.deliver1 x = ⟨q.term, q.first, q.second, max q.done x.num, max q.ans (max q.done x.num), q.wire⟩ := by unfold PS.deliver1; rw [if_neg hct, if_pos hc43]
        rw [hE1, hS1]
        refine W.drawTreg 11 [10] follows (by kernel_rfl) (by decide) ?_
        apply DT.moreS [.new, .new, .new, .new, .new, .new, .new, .new, .new, .new, .now] (by kernel_rfl)
        refine PC.new _ rfl (GQ.q rfl (Q.move_ptr rfl)) rfl ?_
        refine PC.new _ rfl (GQ.q rfl (Q.move_ptr rfl)) rfl ?_
        refine PC.new _ rfl (GQ.q rfl (Q.nil_ptr rfl)) rfl ?_
        refine PC.new _ rfl (GQ.q rfl (Q.fld_ptr fl39_3 rfl)) rfl ?_
        refine PC.new _ rfl (GQ.q rfl (Q.ld_ptr (k := 1) ag3 rfl rfl rfl)) rfl ?_
        refine PC.new _ rfl (GQ.q rfl (Q.fld_ptr fl46_1 rfl)) rfl ?_
        refine PC.new _ rfl (GQ.q rfl (Q.ld_ptr (k := 0) ag3 rfl rfl rfl)) rfl ?_
        refine PC.new _ rfl (GQ.q rfl (Q.maxi rfl rfl)) rfl ?_
        refine PC.new _ rfl (GQ.q rfl (Q.nil_ptr rfl)) rfl ?_
        refine PC.new _ rfl (GQ.q rfl (Q.fld_ptr fl39_3 rfl)) rfl ?_
        refine PC.now rfl rfl (fun τ => Loud.to (L.store (k := 1) ag3 ((oev_app rfl).trans rfl) rfl rfl ((oev_app rfl).trans rfl) rfl) (fun _ _ h => ⟨.any, h.1, h.2⟩)) ?_
        refine PC.nil ?_
        rintro _ _ rfl
        refine DT.last [.did, .did, .did, .did, .did, .did, .did, .did, .did, .did, .did] (by kernel_rfl) ?_
        refine PC.did rfl ?_
        refine PC.did rfl ?_
        refine PC.did rfl ?_
        refine PC.did rfl ?_
        refine PC.did rfl ?_
        refine PC.did rfl ?_
        refine PC.did rfl ?_
        refine PC.did rfl ?_
        refine PC.did rfl ?_
        refine PC.did rfl ?_
        refine PC.did rfl ?_
        refine PC.nil ?_
        refine XOps.nil ?_
        refine W.drawTreg 13 [12] follows (by kernel_rfl) (by decide) ?_
        apply DT.moreS [.new, .new, .new, .new, .new, .new, .new, .new, .new, .new, .new, .new, .now] (by kernel_rfl)
        refine PC.new _ rfl (GQ.q rfl (Q.move_ptr rfl)) rfl ?_
        refine PC.new _ rfl (GQ.q rfl (Q.move_ptr rfl)) rfl ?_
        refine PC.new _ rfl (GQ.q rfl (Q.nil_ptr rfl)) rfl ?_
        refine PC.new _ rfl (GQ.q rfl (Q.fld_ptr fl39_4 rfl)) rfl ?_
        refine PC.new _ rfl (GQ.q rfl (Q.ld_ptr (k := 1) ag3 rfl rfl rfl)) rfl ?_
        refine PC.new _ rfl (GQ.q rfl (Q.move_ptr rfl)) rfl ?_
        refine PC.new _ rfl (GQ.q rfl (Q.nil_ptr rfl)) rfl ?_
        refine PC.new _ rfl (GQ.q rfl (Q.fld_ptr fl39_3 rfl)) rfl ?_
        refine PC.new _ rfl (GQ.q rfl (Q.ld_ptr (k := 1) ag3 rfl rfl rfl)) rfl ?_
        refine PC.new _ rfl (GQ.q rfl (Q.maxi rfl rfl)) rfl ?_
        refine PC.new _ rfl (GQ.q rfl (Q.nil_ptr rfl)) rfl ?_
        refine PC.new _ rfl (GQ.q rfl (Q.fld_ptr fl39_4 rfl)) rfl ?_
        refine PC.now rfl rfl (fun τ => Loud.to (L.store (k := 1) ag3 ((oev_app rfl).trans rfl) rfl rfl ((oev_app rfl).trans rfl) rfl) (fun _ _ h => ⟨.any, h.1, h.2⟩)) ?_
        refine PC.nil ?_
        rintro _ _ rfl
        refine DT.last [.did, .did, .did, .did, .did, .did, .did, .did, .did, .did, .did, .did, .did] (by kernel_rfl) ?_
        refine PC.did rfl ?_
        refine PC.did rfl ?_
        refine PC.did rfl ?_
        refine PC.did rfl ?_
        refine PC.did rfl ?_
        refine PC.did rfl ?_
        refine PC.did rfl ?_
        refine PC.did rfl ?_
        refine PC.did rfl ?_
        refine PC.did rfl ?_
        refine PC.did rfl ?_
        refine PC.did rfl ?_
        refine PC.did rfl ?_
        refine PC.nil ?_
        refine XOps.nil ?_
        refine W.reg ?_
        refine XOps.s rfl rfl rfl (Q.assign_d rfl) ?_
        refine XOps.nil ?_
        refine W.ret ?_
        exact ⟨_, prH b ⟨q.term, q.first, q.second, max q.done x.num, max q.ans (max q.done x.num), q.wire⟩ f s w hs, rfl, HLe.skip _ (HLe.refl _), s, w, rfl, rfl⟩
      · try simp only [Bool.or_eq_true, Bool.or_eq_false_iff, Bool.and_eq_true, Bool.and_eq_false_iff, decide_eq_true_eq, decide_eq_false_iff_not, Bool.not_eq_true', Bool.not_eq_false', Int.not_lt, Int.not_le, List.length_map] at hc43
        have hca : ¬ x.ack = true := by simpa using hc43
        have hE1 : q.deliver1E x = (q.got x).sendE [(q.got x).ackM] := by unfold PS.deliver1E; rw [if_neg hct, if_neg hca]
        have hS1 : q.deliver1 x = (q.got x).send [(q.got x).ackM] := by unfold PS.deliver1; rw [if_neg hct, if_neg hca]
        rw [hE1, hS1]
        have hgw : (q.got x).wire.length ≤ 64 := by unfold PS.got; split <;> exact hq.wl
        refine W.drawreg 10 follows (by kernel_rfl) ?_
        refine Chain.cons _ (GQ.q rfl (Q.fld_ptr fl46_1 rfl)) rfl ?_
        refine Chain.cons _ (GQ.q rfl (Q.ld_ptr (k := 0) ag3 rfl rfl rfl)) rfl ?_
        refine Chain.cons _ (GQ.q rfl (Q.move_ptr rfl)) rfl ?_
        refine Chain.cons _ (GQ.q rfl (Q.nil_ptr rfl)) rfl ?_
        refine Chain.cons _ (GQ.q rfl (Q.fld_ptr fl39_2 rfl)) rfl ?_
        refine Chain.cons _ (GQ.q rfl (Q.ld_ptr (k := 1) ag26 rfl rfl rfl)) rfl ?_
        refine Chain.cons _ (GQ.q rfl (Q.len_vs isl26 rfl)) rfl ?_
        refine Chain.cons _ (GQ.q rfl (Q.add rfl rfl (wi64 (by first | omega | (dsimp only; omega) | (simp only [List.length_map]; omega)) (by first | omega | (dsimp only; omega) | (simp only [List.length_map]; omega))))) rfl ?_
        refine Chain.cons _ (GQ.q rfl (Q.eql rfl rfl)) rfl ?_
        refine Chain.cons _ (GQ.q rfl (Q.assign_d rfl)) rfl ?_
        refine Chain.nil ?_
        refine XOps.nil ?_
        refine W.cond rfl (fun hc68 => ?_) (fun hc68 => ?_)
        · try simp only [Bool.or_eq_true, Bool.or_eq_false_iff, Bool.and_eq_true, Bool.and_eq_false_iff, decide_eq_true_eq, decide_eq_false_iff_not, Bool.not_eq_true', Bool.not_eq_false', Int.not_lt, Int.not_le, List.length_map] at hc68
          have hgot : q.got x = ⟨q.term, q.first, q.second ++ [x.text], q.done, q.ans, q.wire⟩ := by unfold PS.got; rw [if_pos hc68]
          refine W.drawT 12 [8, 11] follows (by kernel_rfl) (by decide) ?_
          apply DT.moreE [.new, .new, .new, .new, .new, .new, .new, .new, .now, .later, .later, .later] (by kernel_rfl)
          refine PC.new _ rfl (GQ.q rfl (Q.move_ptr rfl)) rfl ?_
          refine PC.new _ rfl (GQ.q rfl (Q.move_ptr rfl)) rfl ?_
          refine PC.new _ rfl (GQ.q rfl (Q.nil_ptr rfl)) rfl ?_
          refine PC.new _ rfl (GQ.q rfl (Q.fld_ptr fl39_2 rfl)) rfl ?_
          refine PC.new _ rfl (GQ.q rfl (Q.ld_ptr (k := 1) ag26 rfl rfl rfl)) rfl ?_
          refine PC.new _ rfl (GQ.q rfl (Q.fld_ptr fl46_3 rfl)) rfl ?_
          refine PC.new _ rfl (GQ.q rfl (Q.ld_ptr (k := 0) ag9 rfl rfl rfl)) rfl ?_
          refine PC.new _ rfl (GQ.q rfl (Q.bsl1 sl26 zr26 rfl zrd26 rfl rfl)) rfl ?_
          refine PC.now rfl rfl (fun τ => Loud.to (L.app (k := 3) ap26 rfl rfl (by first | rfl | (simp [List.length_map]; done)) rfl (by simp; omega) rfl) (fun _ _ ⟨v, h1, h2⟩ => ⟨_, h1, v, rfl, h2⟩)) ?_
          refine PC.later rfl ?_
          refine PC.later rfl ?_
          refine PC.later rfl ?_
          refine PC.nil ?_
          rintro _ _ ⟨v86, rfl, rfl⟩
          apply DT.moreS [.old, .did, .did, .did, .did, .did, .did, .did, .did, .new, .new, .now] (by kernel_rfl)
          refine PC.old rfl (GQ.q rfl (Q.move_ptr rfl)) rfl ?_
          refine PC.did rfl ?_
          refine PC.did rfl ?_
          refine PC.did rfl ?_
          refine PC.did rfl ?_
          refine PC.did rfl ?_
          refine PC.did rfl ?_
          refine PC.did rfl ?_
          refine PC.did rfl ?_
          refine PC.new _ rfl (GQ.q rfl (Q.nil_ptr rfl)) rfl ?_
          refine PC.new _ rfl (GQ.q rfl (Q.fld_ptr fl39_2 rfl)) rfl ?_
          refine PC.now rfl rfl (fun τ => Loud.to (L.store (k := 2) ag26 ((oev_app rfl).trans rfl) rfl rfl ((oev_app rfl).trans rfl) rfl) (fun _ _ h => ⟨.any, h.1, h.2⟩)) ?_
          refine PC.nil ?_
          rintro _ _ rfl
          refine DT.last [.did, .did, .did, .did, .did, .did, .did, .did, .did, .did, .did, .did] (by kernel_rfl) ?_
          refine PC.did rfl ?_
          refine PC.did rfl ?_
          refine PC.did rfl ?_
          refine PC.did rfl ?_
          refine PC.did rfl ?_
          refine PC.did rfl ?_
          refine PC.did rfl ?_
          refine PC.did rfl ?_
          refine PC.did rfl ?_
          refine PC.did rfl ?_
          refine PC.did rfl ?_
          refine PC.did rfl ?_
          refine PC.nil ?_
          refine XOps.nil ?_
          refine W.heap (prH b (q.got x) f v86 w hs) (by rw [hgot]; exact (HLe.pick 2 rfl (by first | rfl | (simp [PS.cells, PS.without, Msg.enc, sE]; done) | (simp [PS.cells, PS.without, Msg.enc, sE]; rfl) | (simp [PS.cells, PS.without, Msg.enc, sE]; exact ⟨rfl, rfl⟩)) (HLe.pick 2 rfl (by first | rfl | (simp [PS.cells, PS.without, Msg.enc, sE]; done) | (simp [PS.cells, PS.without, Msg.enc, sE]; rfl) | (simp [PS.cells, PS.without, Msg.enc, sE]; exact ⟨rfl, rfl⟩)) (HLe.pick 0 rfl (by first | rfl | (simp [PS.cells, PS.without, Msg.enc, sE]; done) | (simp [PS.cells, PS.without, Msg.enc, sE]; rfl) | (simp [PS.cells, PS.without, Msg.enc, sE]; exact ⟨rfl, rfl⟩)) (HLe.pick 1 rfl (by first | rfl | (simp [PS.cells, PS.without, Msg.enc, sE]; done) | (simp [PS.cells, PS.without, Msg.enc, sE]; rfl) | (simp [PS.cells, PS.without, Msg.enc, sE]; exact ⟨rfl, rfl⟩)) (HLe.skip _ (HLe.refl _))))))) ?_
          refine W.drawTreg 13 [12] follows (by kernel_rfl) (by decide) ?_
          apply DT.moreC [.new, .new, .new, .new, .new, .new, .new, .new, .new, .new, .new, .new, .now] (by kernel_rfl)
          refine PC.new _ rfl (GQ.q rfl (Q.move_ptr rfl)) rfl ?_
          refine PC.new _ rfl (GQ.q rfl (Q.move_ptr rfl)) rfl ?_
          refine PC.new _ rfl (GQ.q rfl (Q.nil_ptr rfl)) rfl ?_
          refine PC.new _ rfl (GQ.q rfl (Q.fld_ptr fl39_0 rfl)) rfl ?_
          refine PC.new _ rfl (GQ.q rfl (Q.ld_ptr (k := 0) ag3 rfl rfl rfl)) rfl ?_
          refine PC.new _ rfl (GQ.q rfl (Q.move_ptr rfl)) rfl ?_
          refine PC.new _ rfl (GQ.q rfl (Q.nil_ptr rfl)) rfl ?_
          refine PC.new _ rfl (GQ.q rfl (Q.fld_ptr fl39_2 rfl)) rfl ?_
          refine PC.new _ rfl (GQ.q rfl (Q.ld_ptr (k := 0) ag26 rfl rfl rfl)) rfl ?_
          refine PC.new _ rfl (GQ.q rfl (Q.len_vs isl26 rfl)) rfl ?_
          refine PC.new _ rfl (GQ.q rfl (Q.build pl46 tz46 tzd46 rfl)) rfl ?_
          refine PC.new _ rfl (GQ.q rfl (Q.bsl1n sl33 (by decide) zr33 rfl zrd33 rfl rfl (by decide))) rfl ?_
          refine PC.now rfl rfl (fun τ => Loud.to (L.call rfl Try.func32 go32 rfl (send_c b (q.got x) f _ w [(q.got x).ackM] hs hgw (by simp)) rfl) (fun _ _ ⟨r, h1, h2⟩ => ⟨r, h1, _, h2, rfl⟩)) ?_
          refine PC.nil ?_
          rintro _ _ ⟨_, ⟨w2, rfl, rfl⟩, rfl⟩
          refine DT.last [.did, .did, .did, .did, .did, .did, .did, .did, .did, .did, .did, .did, .did] (by kernel_rfl) ?_
          refine PC.did rfl ?_
          refine PC.did rfl ?_
          refine PC.did rfl ?_
          refine PC.did rfl ?_
          refine PC.did rfl ?_
          refine PC.did rfl ?_
          refine PC.did rfl ?_
          refine PC.did rfl ?_
          refine PC.did rfl ?_
          refine PC.did rfl ?_
          refine PC.did rfl ?_
          refine PC.did rfl ?_
          refine PC.did rfl ?_
          refine PC.nil ?_
          refine XOps.s rfl rfl rfl (Q.assign_d rfl) ?_
          refine XOps.nil ?_
          refine W.ret ?_
          exact ⟨_, prH b ((q.got x).send [(q.got x).ackM]) f v86 w2 hs, rfl, HLe.refl _, v86, w2, rfl, rfl⟩
        · try simp only [Bool.or_eq_true, Bool.or_eq_false_iff, Bool.and_eq_true, Bool.and_eq_false_iff, decide_eq_true_eq, decide_eq_false_iff_not, Bool.not_eq_true', Bool.not_eq_false', Int.not_lt, Int.not_le, List.length_map] at hc68
          have hgot : q.got x = q := by unfold PS.got; rw [if_neg hc68]
          refine W.skip ?_
          refine W.heap (prH b (q.got x) f s w hs) (by rw [hgot]; exact HLe.skip _ (HLe.refl _)) ?_
          refine W.drawTreg 13 [12] follows (by kernel_rfl) (by decide) ?_
          apply DT.moreC [.new, .new, .new, .new, .new, .new, .new, .new, .new, .new, .new, .new, .now] (by kernel_rfl)
          refine PC.new _ rfl (GQ.q rfl (Q.move_ptr rfl)) rfl ?_
          refine PC.new _ rfl (GQ.q rfl (Q.move_ptr rfl)) rfl ?_
          refine PC.new _ rfl (GQ.q rfl (Q.nil_ptr rfl)) rfl ?_
          refine PC.new _ rfl (GQ.q rfl (Q.fld_ptr fl39_0 rfl)) rfl ?_
          refine PC.new _ rfl (GQ.q rfl (Q.ld_ptr (k := 0) ag3 rfl rfl rfl)) rfl ?_
          refine PC.new _ rfl (GQ.q rfl (Q.move_ptr rfl)) rfl ?_
          refine PC.new _ rfl (GQ.q rfl (Q.nil_ptr rfl)) rfl ?_
          refine PC.new _ rfl (GQ.q rfl (Q.fld_ptr fl39_2 rfl)) rfl ?_
          refine PC.new _ rfl (GQ.q rfl (Q.ld_ptr (k := 0) ag26 rfl rfl rfl)) rfl ?_
          refine PC.new _ rfl (GQ.q rfl (Q.len_vs isl26 rfl)) rfl ?_
          refine PC.new _ rfl (GQ.q rfl (Q.build pl46 tz46 tzd46 rfl)) rfl ?_
          refine PC.new _ rfl (GQ.q rfl (Q.bsl1n sl33 (by decide) zr33 rfl zrd33 rfl rfl (by decide))) rfl ?_
          refine PC.now rfl rfl (fun τ => Loud.to (L.call rfl Try.func32 go32 rfl (send_c b (q.got x) f _ w [(q.got x).ackM] hs hgw (by simp)) rfl) (fun _ _ ⟨r, h1, h2⟩ => ⟨r, h1, _, h2, rfl⟩)) ?_
          refine PC.nil ?_
          rintro _ _ ⟨_, ⟨w2, rfl, rfl⟩, rfl⟩
          refine DT.last [.did, .did, .did, .did, .did, .did, .did, .did, .did, .did, .did, .did, .did] (by kernel_rfl) ?_
          refine PC.did rfl ?_
          refine PC.did rfl ?_
          refine PC.did rfl ?_
          refine PC.did rfl ?_
          refine PC.did rfl ?_
          refine PC.did rfl ?_
          refine PC.did rfl ?_
          refine PC.did rfl ?_
          refine PC.did rfl ?_
          refine PC.did rfl ?_
          refine PC.did rfl ?_
          refine PC.did rfl ?_
          refine PC.did rfl ?_
          refine PC.nil ?_
          refine XOps.s rfl rfl rfl (Q.assign_d rfl) ?_
          refine XOps.nil ?_
          refine W.ret ?_
          exact ⟨_, prH b ((q.got x).send [(q.got x).ackM]) f s w2 hs, rfl, HLe.refl _, s, w2, rfl, rfl⟩
end Go.Proofs.YtcicechobemnaaaA
