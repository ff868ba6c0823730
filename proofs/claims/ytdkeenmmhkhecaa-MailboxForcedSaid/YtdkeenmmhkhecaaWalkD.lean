/- Force of package mailbox, the law MailboxForced. -/
import Derived.Test.YtdkeenmmhkhecaaBase
import Derived.Test.YtdkeenmmhkhecaaWalkB
set_option linter.unusedVariables false
set_option linter.unusedSimpArgs false
set_option linter.unnecessarySimpa false
namespace Go.Proofs.YtdkeenmmhkhecaaA.FWalkD
open Go
theorem ag22 : tAgg P 22 = some ((false, 1)) := by kernel_rfl
theorem ag3 : tAgg P 3 = some ((false, 1)) := by kernel_rfl
theorem ag41 : tAgg P 41 = some ((true, 8)) := by kernel_rfl
theorem ar41 : tArr P 41 = some ((8, 1)) := by kernel_rfl
theorem ar45 : tArr P 45 = some ((8, 1)) := by kernel_rfl
theorem eqt41 : tEq P 41 = some ([.int .i64, .int .i64, .int .i64, .int .i64, .int .i64, .int .i64, .int .i64, .int .i64]) := by kernel_rfl
theorem fl47_0 : tFld P 47 0 = some (0) := by kernel_rfl
theorem fl47_1 : tFld P 47 1 = some (1) := by kernel_rfl
theorem fl47_2 : tFld P 47 2 = some (2) := by kernel_rfl
theorem go10 : callGo Go.Proofs.Try.f10 = true := by kernel_rfl
theorem go12 : callGo Go.Proofs.Try.f12 = true := by kernel_rfl
theorem go13 : callGo Go.Proofs.Try.f13 = true := by kernel_rfl
theorem go14 : callGo Go.Proofs.Try.f14 = true := by kernel_rfl
theorem go15 : callGo Go.Proofs.Try.f15 = true := by kernel_rfl
theorem go16 : callGo Go.Proofs.Try.f16 = true := by kernel_rfl
theorem go7 : callGo Go.Proofs.Try.f7 = true := by kernel_rfl
theorem go8 : callGo Go.Proofs.Try.f8 = true := by kernel_rfl
theorem go9 : callGo Go.Proofs.Try.f9 = true := by kernel_rfl
theorem ipt23 : isPtr P 23 = true := by kernel_rfl
theorem isb4 : isB P 4 = true := by kernel_rfl
theorem isl22 : isSl P 22 = true := by kernel_rfl
theorem sl22 : tSl P 22 = some (1) := by kernel_rfl
theorem tz3 : tZero P 3 = some ([.int .i64 0]) := by kernel_rfl
theorem tz41 : tZero P 41 = some ([.int .i64 0, .int .i64 0, .int .i64 0, .int .i64 0, .int .i64 0, .int .i64 0, .int .i64 0, .int .i64 0]) := by kernel_rfl
end Go.Proofs.YtdkeenmmhkhecaaA.FWalkD
namespace Go.Proofs.YtdkeenmmhkhecaaA
open Go FWalkD
theorem delL_c (rows : List Int) (m : Nat) (hs : Hp) (h0 : rows.length ≠ 0) (hn : rows.length ≤ 1000) : AC P 15 [.vs m 0 rows.length 1, .d (.int .i64 ((rows.length : Int) - 1)), .d (.int .i64 rows.length)] ((m, .lst 1 (rows.map nE)) :: hs)
    (fun r h => r = .vs m 0 (rows.take (rows.length - 1)).length 1 ∧ h = (m, .lst 1 ((rows.take (rows.length - 1)).map nE)) :: hs) := by
  have h := delN_c m (rows.length - 1) rows.length (rows.map nE) hs (by omega) (by simp) (by simp; omega)
  rw [List.length_map, show (((rows.length - 1 : Nat) : Nat) : Int) = (rows.length : Int) - 1 by omega] at h
  exact h.mono fun r h' ⟨h1, h2⟩ => ⟨by rw [h1]; congr 1; rw [List.length_take]; omega, by rw [h2]; simp [List.map_take]⟩

theorem mid_ok {m : MB} {n k : Nat} (h : m.ok n) (hm : 1 ≤ m.many) : MB.ok ⟨m.sz, m.many - 1, updF m.q k ((m.q k).take ((m.q k).length - 1))⟩ n := by
  refine ⟨h.sz, ?_, fun i => ?_⟩
  · have := h.many; dsimp only; omega
  · dsimp only [updF]
    split
    · have := h.len k; rw [List.length_take]; omega
    · exact h.len i

set_option maxHeartbeats 1000000 in
set_option maxRecDepth 100000 in
theorem force_c (b : Nat) (m : MB) (ids : Nat → Nat) (p : Nat) (v : Int) (hs : Hp) (hm : m.ok 999) (hle : m.many ≤ m.sz) (hp : p < 8) : AC P 14 [.ptr b 0, .d (.int .i64 (p : Nat)), .d (.int .i64 v)] (boxH b m ids hs) (fun r h => ∃ ids2, r = .tup [.d (.int .i64 (m.force p v).2.1), .d (.bool (m.force p v).2.2.1), .d (.int .i64 (m.force p v).2.2.2)] ∧ h = boxH b (m.force p v).1 ids2 hs) := by
  have hmm := hm
  obtain ⟨hm1, hm2, hm3⟩ := hm
  refine AC.of 87 Try.func14 rfl rfl rfl ?_
  refine W.reg ?_
  refine XOps.s rfl rfl rfl (Q.assign_d rfl) ?_
  refine XOps.s rfl rfl rfl (Q.assign_d rfl) ?_
  refine XOps.s rfl rfl rfl (Q.assign_d rfl) ?_
  refine XOps.nil ?_
  refine W.reg ?_
  refine XOps.s rfl rfl rfl (Q.assign_d rfl) ?_
  refine XOps.nil ?_
  refine W.seq ?_
  refine W.drawreg 17 follows (by kernel_rfl) ?_
  refine Chain.cons _ (GQ.q rfl (Q.move_ptr rfl)) rfl ?_
  refine Chain.cons _ (GQ.q rfl (Q.nil_ptr rfl)) rfl ?_
  refine Chain.cons _ (GQ.q rfl (Q.fld_ptr fl47_1 rfl)) rfl ?_
  refine Chain.cons _ (GQ.q rfl (Q.ld_ptr (k := 0) ag3 rfl rfl rfl)) rfl ?_
  refine Chain.cons _ (GQ.q rfl (Q.move_ptr rfl)) rfl ?_
  refine Chain.cons _ (GQ.q rfl (Q.nil_ptr rfl)) rfl ?_
  refine Chain.cons _ (GQ.q rfl (Q.fld_ptr fl47_0 rfl)) rfl ?_
  refine Chain.cons _ (GQ.q rfl (Q.ld_ptr (k := 0) ag3 rfl rfl rfl)) rfl ?_
  refine Chain.cons _ (GQ.q rfl (Q.lss rfl rfl)) rfl ?_
  refine Chain.cons _ (GQ.q rfl (Q.move_d rfl)) rfl ?_
  refine Chain.cons _ (GQ.g rfl rfl rfl rfl rfl (fun hg => Q.move_d rfl)) rfl ?_
  refine Chain.cons _ (GQ.g rfl rfl rfl rfl rfl (fun hg => Quiet.open 23 hg rfl (Q.lss rfl rfl))) rfl ?_
  refine Chain.cons _ (GQ.q rfl (Q.pick_or rfl rfl rfl (fun h => by first | (rw [h]; rfl) | (rw [hg, h]; rfl) | (simp [h, hg]; done)))) rfl ?_
  refine Chain.cons _ (GQ.q rfl (Q.move_d rfl)) rfl ?_
  refine Chain.cons _ (GQ.g rfl rfl rfl rfl rfl (fun hg => Q.move_d rfl)) rfl ?_
  refine Chain.cons _ (GQ.g rfl rfl rfl rfl rfl (fun hg => Quiet.open 27 hg rfl (Q.geq rfl rfl))) rfl ?_
  refine Chain.cons _ (GQ.q rfl (Q.pick_or rfl rfl rfl (fun h => by first | (rw [h]; rfl) | (rw [hg, h]; rfl) | (simp [h, hg]; done)))) rfl ?_
  refine Chain.nil ?_
  refine XOps.nil ?_
  refine W.cond rfl (fun hc29 => ?_) (fun hc29 => ?_)
  · try simp only [Bool.or_eq_true, Bool.or_eq_false_iff, Bool.and_eq_true, Bool.and_eq_false_iff, decide_eq_true_eq, decide_eq_false_iff_not, Bool.not_eq_true', Bool.not_eq_false', Int.not_lt, Int.not_le, List.length_map] at hc29
    have hf : m.many < m.sz := by rcases hc29 with (h | h) | h <;> omega
    have hF : m.force p v = (m.put p v, 0, false, m.putE p) := by unfold MB.force; rw [if_pos hf]
    rw [hF]
    refine W.reg ?_
    refine XOps.s rfl rfl rfl (Q.move_d rfl) ?_
    refine XOps.s rfl rfl rfl (Q.move_ptr rfl) ?_
    refine XOps.s rfl rfl rfl (Q.move_d rfl) ?_
    refine XOps.s rfl rfl rfl (Q.move_d rfl) ?_
    refine XOps.loud rfl (L.call rfl Try.func8 go8 rfl (put_c b m ids p v hs (hmm.mono (by omega))) rfl) ?_
    rintro _ _ ⟨_, rfl, ids2, rfl, rfl⟩
    refine XOps.s rfl rfl rfl (Q.assign_d rfl) ?_
    refine XOps.s rfl rfl rfl (Q.assign_d rfl) ?_
    refine XOps.s rfl rfl rfl (Q.assign_d rfl) ?_
    refine XOps.nil ?_
    refine W.ret ?_
    exact ⟨_, boxH b (m.put p v) ids2 hs, rfl, HLe.refl _, ids2, rfl, rfl⟩
  · try simp only [Bool.or_eq_true, Bool.or_eq_false_iff, Bool.and_eq_true, Bool.and_eq_false_iff, decide_eq_true_eq, decide_eq_false_iff_not, Bool.not_eq_true', Bool.not_eq_false', Int.not_lt, Int.not_le, List.length_map] at hc29
    have hf : ¬ m.many < m.sz := by have := hc29.1.1; omega
    refine W.skip ?_
    refine W.seq ?_
    refine W.reg ?_
    refine XOps.s rfl rfl rfl (Q.move_d rfl) ?_
    refine XOps.s rfl rfl rfl (Q.move_d rfl) ?_
    refine XOps.nil ?_
    refine W.block ?_
    refine W.loop (ι := Nat) (fun k => [(0, .ptr b 0), (1, .d (.int .i64 (p : Nat))), (2, .d (.int .i64 v)), (9, .d (.int .i64 0)), (35, .d (.int .i64 (p : Nat))), (36, .d (.int .i64 (k : Nat)))]) (fun k => boxH b m ids hs) (fun k => k ≤ p ∧ ∀ i, i < k → (m.q i).length = 0) (fun k => p - k) 0 ?_ ?_ ?_ ?_
    · exact ⟨Nat.zero_le _, fun i h => absurd h (Nat.not_lt_zero _)⟩
    · exact ⟨by first | rfl | exact int_eq (by omega) | exact len_eq (by simp) | exact int_eq (by simp; done), by first | rfl | exact int_eq (by omega) | exact len_eq (by simp) | exact int_eq (by simp; done), by first | rfl | exact int_eq (by omega) | exact len_eq (by simp) | exact int_eq (by simp; done), by first | rfl | exact int_eq (by omega) | exact len_eq (by simp) | exact int_eq (by simp; done), by first | rfl | exact int_eq (by omega) | exact len_eq (by simp) | exact int_eq (by simp; done), by first | rfl | exact int_eq (by omega) | exact len_eq (by simp) | exact int_eq (by simp; done), trivial⟩
    · exact HLe.refl _
    · rintro k ⟨hk, hI⟩
      try dsimp only
      refine W.reg ?_
      refine XOps.s rfl rfl rfl (Q.lss rfl rfl) ?_
      refine XOps.nil ?_
      refine W.seq ?_
      refine W.cond rfl (fun hc37 => ?_) (fun hc37 => ?_)
      · try simp only [Bool.or_eq_true, Bool.or_eq_false_iff, Bool.and_eq_true, Bool.and_eq_false_iff, decide_eq_true_eq, decide_eq_false_iff_not, Bool.not_eq_true', Bool.not_eq_false', Int.not_lt, Int.not_le, List.length_map] at hc37
        have hk8 : k < 8 := by omega
        have hlk := hm3 k
        refine W.skip ?_
        refine W.seq ?_
        refine W.block ?_
        refine W.reg ?_
        refine XOps.s rfl rfl rfl (Q.move_d rfl) ?_
        refine XOps.s rfl rfl rfl (Q.assign_d rfl) ?_
        refine XOps.nil ?_
        refine W.reg ?_
        refine XOps.s rfl rfl rfl (Q.move_ptr rfl) ?_
        refine XOps.s rfl rfl rfl (Q.move_d rfl) ?_
        refine XOps.s rfl rfl rfl (Q.nil_ptr rfl) ?_
        refine XOps.s rfl rfl rfl (Q.fld_ptr fl47_2 rfl) ?_
        refine XOps.s rfl rfl rfl (Q.idx_arr ar45 rfl rfl (by first | omega | (simp at hg; omega)) (by first | omega | (simp at hg; omega))) ?_
        refine XOps.s rfl rfl rfl (Q.ld_ptr (k := 0) ag22 rfl rfl (by rw [show 0 + 2 + ((k : Nat) : Int).toNat * 1 = k + 2 by omega]; exact boxL_at m ids hk8)) ?_
        refine XOps.s rfl rfl rfl (Q.len_vs isl22 rfl) ?_
        refine XOps.s rfl rfl rfl (Q.assign_d rfl) ?_
        refine XOps.nil ?_
        refine W.seq ?_
        refine W.reg ?_
        refine XOps.s rfl rfl rfl (Q.move_d rfl) ?_
        refine XOps.s rfl rfl rfl (Q.eql rfl rfl) ?_
        refine XOps.nil ?_
        refine W.cond rfl (fun hc47 => ?_) (fun hc47 => ?_)
        · try simp only [Bool.or_eq_true, Bool.or_eq_false_iff, Bool.and_eq_true, Bool.and_eq_false_iff, decide_eq_true_eq, decide_eq_false_iff_not, Bool.not_eq_true', Bool.not_eq_false', Int.not_lt, Int.not_le, List.length_map] at hc47
          refine W.exit ?_
          refine W.region ?_
          refine XOps.s rfl rfl rfl (Q.add rfl rfl (wi64 (by first | omega | (dsimp only; omega) | (simp only [List.length_map]; omega)) (by first | omega | (dsimp only; omega) | (simp only [List.length_map]; omega)))) ?_
          refine XOps.s rfl rfl rfl (Q.move_d rfl) ?_
          refine XOps.nil ?_
          refine ⟨k + 1, ?_, ?_, ?_, ?_⟩
          · exact ⟨by omega, fun i h1 => if he : i = k then he ▸ (by omega) else hI i (by omega)⟩
          · omega
          · exact ⟨by first | rfl | exact int_eq (by omega) | exact len_eq (by simp) | exact int_eq (by simp; done), by first | rfl | exact int_eq (by omega) | exact len_eq (by simp) | exact int_eq (by simp; done), by first | rfl | exact int_eq (by omega) | exact len_eq (by simp) | exact int_eq (by simp; done), by first | rfl | exact int_eq (by omega) | exact len_eq (by simp) | exact int_eq (by simp; done), by first | rfl | exact int_eq (by omega) | exact len_eq (by simp) | exact int_eq (by simp; done), by first | rfl | exact int_eq (by omega) | exact len_eq (by simp) | exact int_eq (by simp; done), trivial⟩
          · exact HLe.refl _
        · try simp only [Bool.or_eq_true, Bool.or_eq_false_iff, Bool.and_eq_true, Bool.and_eq_false_iff, decide_eq_true_eq, decide_eq_false_iff_not, Bool.not_eq_true', Bool.not_eq_false', Int.not_lt, Int.not_le, List.length_map] at hc47
          have hl : lowF m.q p = some k := lowF_some (by omega) (by omega) hI
          have hF : m.force p v = (MB.put ⟨m.sz, m.many - 1, updF m.q k ((m.q k).take ((m.q k).length - 1))⟩ p v, (m.q k).getD ((m.q k).length - 1) 0, true, MB.putE ⟨m.sz, m.many - 1, updF m.q k ((m.q k).take ((m.q k).length - 1))⟩ p) := by unfold MB.force; rw [if_neg hf, hl]
          rw [hF]
          obtain ⟨x, hx⟩ : ∃ x, (m.q k)[(m.q k).length - 1]? = some x := ⟨_, List.getElem?_eq_getElem (by omega)⟩
          have hgx : (m.q k).getD ((m.q k).length - 1) 0 = x := by rw [List.getD_eq_getElem?_getD, hx]; rfl
          rw [hgx]
          have hrow : ((m.q k).map nE)[0 + (((m.q k).length : Int) - 1).toNat]? = some (nE x) := by rw [show 0 + (((m.q k).length : Int) - 1).toNat = (m.q k).length - 1 by omega, List.getElem?_map, hx]; rfl
          have hok2 : MB.ok ⟨m.sz, m.many - 1, updF m.q k ((m.q k).take ((m.q k).length - 1))⟩ 1000 := (mid_ok hmm (by omega)).mono (by omega)
          refine W.skip ?_
          refine W.reg ?_
          refine XOps.s rfl rfl rfl (Q.move_ptr rfl) ?_
          refine XOps.s rfl rfl rfl (Q.move_d rfl) ?_
          refine XOps.s rfl rfl rfl (Q.nil_ptr rfl) ?_
          refine XOps.s rfl rfl rfl (Q.fld_ptr fl47_2 rfl) ?_
          refine XOps.s rfl rfl rfl (Q.idx_arr ar45 rfl rfl (by first | omega | (simp at hg; omega)) (by first | omega | (simp at hg; omega))) ?_
          refine XOps.s rfl rfl rfl (Q.ld_ptr (k := 0) ag22 rfl rfl (by rw [show 0 + 2 + ((k : Nat) : Int).toNat * 1 = k + 2 by omega]; exact boxL_at m ids hk8)) ?_
          refine XOps.s rfl rfl rfl (Q.move_d rfl) ?_
          refine XOps.s rfl rfl rfl (Q.sub rfl rfl (wi64 (by first | omega | (dsimp only; omega) | (simp only [List.length_map]; omega)) (by first | omega | (dsimp only; omega) | (simp only [List.length_map]; omega)))) ?_
          refine XOps.s rfl rfl rfl (Q.idx_vs (kk := k + 1) sl22 rfl (boxH_at b m ids hs hk8) rfl (by omega) (by omega)) ?_
          refine XOps.s rfl rfl rfl (Q.ld_ep (k := k + 1) ag3 rfl (boxH_at b m ids hs hk8) hrow rfl) ?_
          refine XOps.s rfl rfl rfl (Q.assign_d rfl) ?_
          refine XOps.nil ?_
          refine W.drawTreg 16 [11, 15] follows (by kernel_rfl) (by decide) ?_
          apply DT.moreC [.new, .new, .new, .new, .new, .new, .new, .new, .new, .new, .new, .now, .new, .new, .later, .later] (by kernel_rfl)
          refine PC.new _ rfl (GQ.q rfl (Q.move_ptr rfl)) rfl ?_
          refine PC.new _ rfl (GQ.q rfl (Q.move_d rfl)) rfl ?_
          refine PC.new _ rfl (GQ.q rfl (Q.move_ptr rfl)) rfl ?_
          refine PC.new _ rfl (GQ.q rfl (Q.move_d rfl)) rfl ?_
          refine PC.new _ rfl (GQ.q rfl (Q.nil_ptr rfl)) rfl ?_
          refine PC.new _ rfl (GQ.q rfl (Q.fld_ptr fl47_2 rfl)) rfl ?_
          refine PC.new _ rfl (GQ.q rfl (Q.idx_arr ar45 rfl rfl (by first | omega | (simp at hg; omega)) (by first | omega | (simp at hg; omega)))) rfl ?_
          refine PC.new _ rfl (GQ.q rfl (Q.ld_ptr (k := 0) ag22 rfl rfl (by rw [show 0 + 2 + ((k : Nat) : Int).toNat * 1 = k + 2 by omega]; exact boxL_at m ids hk8))) rfl ?_
          refine PC.new _ rfl (GQ.q rfl (Q.move_d rfl)) rfl ?_
          refine PC.new _ rfl (GQ.q rfl (Q.sub rfl rfl (wi64 (by first | omega | (dsimp only; omega) | (simp only [List.length_map]; omega)) (by first | omega | (dsimp only; omega) | (simp only [List.length_map]; omega))))) rfl ?_
          refine PC.new _ rfl (GQ.q rfl (Q.move_d rfl)) rfl ?_
          refine PC.now rfl rfl (fun τ => Loud.to (L.call rfl Try.func15 go15 rfl (AC.le (delL_c (m.q k) (ids k) _ (by omega) (by omega)) (box_front b m ids hs hk8)) rfl) (fun _ _ ⟨r, h1, h2⟩ => ⟨r, h1, _, h2, rfl⟩)) ?_
          refine PC.new _ rfl (GQ.q rfl (Q.nil_ptr rfl)) rfl ?_
          refine PC.new _ rfl (GQ.q rfl (Q.fld_ptr fl47_2 rfl)) rfl ?_
          refine PC.later rfl ?_
          refine PC.later rfl ?_
          refine PC.nil ?_
          rintro _ _ ⟨_, ⟨rfl, rfl⟩, rfl⟩
          apply DT.moreS [.old, .old, .did, .did, .did, .did, .did, .did, .did, .did, .did, .did, .old, .old, .new, .now] (by kernel_rfl)
          refine PC.old rfl (GQ.q rfl (Q.move_ptr rfl)) rfl ?_
          refine PC.old rfl (GQ.q rfl (Q.move_d rfl)) rfl ?_
          refine PC.did rfl ?_
          refine PC.did rfl ?_
          refine PC.did rfl ?_
          refine PC.did rfl ?_
          refine PC.did rfl ?_
          refine PC.did rfl ?_
          refine PC.did rfl ?_
          refine PC.did rfl ?_
          refine PC.did rfl ?_
          refine PC.did rfl ?_
          refine PC.old rfl (GQ.q rfl (Q.nil_ptr rfl)) rfl ?_
          refine PC.old rfl (GQ.q rfl (Q.fld_ptr fl47_2 rfl)) rfl ?_
          refine PC.new _ rfl (GQ.q rfl (Q.idx_arr ar45 rfl rfl (by first | omega | (simp at hg; omega)) (by first | omega | (simp at hg; omega)))) rfl ?_
          refine PC.now rfl rfl (fun τ => Loud.to (L.store (k := 1) ag22 ((oev_app rfl).trans rfl) rfl (by simp [boxL, Nat.blt_eq]; omega) ((oev_app rfl).trans rfl) rfl) (fun _ _ h => ⟨.any, h.1, h.2⟩)) ?_
          refine PC.nil ?_
          rintro _ _ rfl
          refine DT.last [.did, .did, .did, .did, .did, .did, .did, .did, .did, .did, .did, .did, .did, .did, .did, .did] (by kernel_rfl) ?_
          refine PC.did rfl ?_
          refine PC.did rfl ?_
          refine PC.did rfl ?_
          refine PC.did rfl ?_
          refine PC.did rfl ?_
          refine PC.did rfl ?_
          refine PC.did rfl ?_
          refine PC.did rfl ?_
          refine PC.did rfl ?_
          refine PC.did rfl ?_
          refine PC.did rfl ?_
          refine PC.did rfl ?_
          refine PC.did rfl ?_
          refine PC.did rfl ?_
          refine PC.did rfl ?_
          refine PC.did rfl ?_
          refine PC.nil ?_
          refine XOps.nil ?_
          refine W.heap (boxH b ⟨m.sz, m.many, updF m.q k ((m.q k).take ((m.q k).length - 1))⟩ (updF ids k (ids k)) hs) ?_ ?_
          · refine HLe.trans (box_le b m ids hs hk8 (ids k) ((m.q k).take ((m.q k).length - 1)) m.many) ?_
            refine HLe.cons' rfl (HLe.cons' ?_ (HLe.refl _))
            rw [← boxL_set m ids hk8 (ids k) _ ((m.q k).take ((m.q k).length - 1)).length rfl, show k + 2 = 0 + 2 + ((k : Nat) : Int).toNat * 1 by omega]
            rfl
          refine W.reg ?_
          refine XOps.s rfl rfl rfl (Q.move_ptr rfl) ?_
          refine XOps.s rfl rfl rfl (Q.nil_ptr rfl) ?_
          refine XOps.s rfl rfl rfl (Q.fld_ptr fl47_1 rfl) ?_
          refine XOps.s rfl rfl rfl (Q.ld_ptr (k := 0) ag3 rfl rfl rfl) ?_
          refine XOps.s rfl rfl rfl (Q.sub rfl rfl (wi64 (by first | omega | (dsimp only; omega) | (simp only [List.length_map]; omega)) (by first | omega | (dsimp only; omega) | (simp only [List.length_map]; omega)))) ?_
          refine XOps.s rfl rfl rfl (Q.nil_ptr rfl) ?_
          refine XOps.s rfl rfl rfl (Q.fld_ptr fl47_1 rfl) ?_
          refine XOps.loud rfl (L.store (k := 0) ag3 rfl rfl rfl rfl rfl) ?_
          rintro _ _ ⟨rfl, rfl⟩
          refine XOps.nil ?_
          refine W.heap (boxH b ⟨m.sz, m.many - 1, updF m.q k ((m.q k).take ((m.q k).length - 1))⟩ (updF ids k (ids k)) hs) (HLe.cons' rfl (HLe.refl _)) ?_
          refine W.reg ?_
          refine XOps.s rfl rfl rfl (Q.move_d rfl) ?_
          refine XOps.s rfl rfl rfl (Q.move_ptr rfl) ?_
          refine XOps.s rfl rfl rfl (Q.move_d rfl) ?_
          refine XOps.s rfl rfl rfl (Q.move_d rfl) ?_
          refine XOps.loud rfl (L.call rfl Try.func8 go8 rfl (put_c b ⟨m.sz, m.many - 1, updF m.q k ((m.q k).take ((m.q k).length - 1))⟩ (updF ids k (ids k)) p v hs hok2) rfl) ?_
          rintro _ _ ⟨_, rfl, ids2, rfl, rfl⟩
          refine XOps.s rfl rfl rfl (Q.assign_d rfl) ?_
          refine XOps.s rfl rfl rfl (Q.assign_d rfl) ?_
          refine XOps.s rfl rfl rfl (Q.assign_d rfl) ?_
          refine XOps.nil ?_
          refine W.ret ?_
          exact ⟨_, boxH b (MB.put ⟨m.sz, m.many - 1, updF m.q k ((m.q k).take ((m.q k).length - 1))⟩ p v) ids2 hs, rfl, HLe.refl _, ids2, rfl, rfl⟩
      · try simp only [Bool.or_eq_true, Bool.or_eq_false_iff, Bool.and_eq_true, Bool.and_eq_false_iff, decide_eq_true_eq, decide_eq_false_iff_not, Bool.not_eq_true', Bool.not_eq_false', Int.not_lt, Int.not_le, List.length_map] at hc37
        have hl : lowF m.q p = none := lowF_none fun i hi => hI i (by omega)
        have hF : m.force p v = (m, 0, false, 9) := by unfold MB.force; rw [if_neg hf, hl]
        rw [hF]
        refine W.exit ?_
        refine W.reg ?_
        refine XOps.s rfl rfl rfl (Q.move_d rfl) ?_
        refine XOps.s rfl rfl rfl (Q.assign_d rfl) ?_
        refine XOps.s rfl rfl rfl (Q.assign_d rfl) ?_
        refine XOps.s rfl rfl rfl (Q.assign_d rfl) ?_
        refine XOps.nil ?_
        refine W.ret ?_
        exact ⟨_, boxH b m ids hs, rfl, HLe.refl _, ids, rfl, rfl⟩

theorem forced_fin {M : MB} {n : Nat} (hb : BI M n) {p : Nat} (hp : p < 8) : (∀ i, i < 8 → cntT (allM M.q 8) i = bef M i) ∧ ∀ i, i < 8 → cntT (allM (M.force p 99).1.q 8) i = bef (M.force p 99).1 i :=
  ⟨fun i hi => by unfold cntT bef; rw [cnt_all, if_pos hi], fun i hi => by unfold cntT bef; rw [cnt_all, if_pos hi]⟩

set_option maxHeartbeats 1000000 in
set_option maxRecDepth 100000 in
theorem forced_c (size : Int) (l : List Int) (prio : Int) (hs : Hp) (hL : l.length ≤ 140737488351232) : AC P 5 [.d (.int .i64 size), .d (slN l), .d (.int .i64 prio)] hs (fun r h => r = .d (.bool true)) := by
  have hcs := cutI_bounds size (show (1 : Int) ≤ 12 by decide)
  have hcp := cutI_bounds prio (show (0 : Int) ≤ 7 by decide)
  obtain ⟨p, hpe, hp⟩ : ∃ p : Nat, cutI prio 0 7 = (p : Int) ∧ p < 8 := ⟨(cutI prio 0 7).toNat, by omega, by omega⟩
  obtain ⟨hBI, hMm⟩ := BI.box (size := cutI size 1 12) (by omega) l (lo := 0) (hi := 7) (by decide) (by decide) (by decide) (min l.length 12)
  have hok := boxK_ok (size := cutI size 1 12) (by omega) l 0 7 (min l.length 12)
  have hsz := boxK_sz (cutI size 1 12) l 0 7 (min l.length 12)
  generalize hM : boxK (cutI size 1 12) l 0 7 (min l.length 12) = M at hBI hMm hok hsz
  have hTm := hBI.many
  have hok3 := hok.mono (show min l.length 12 ≤ 999 by omega)
  obtain ⟨hV1, hV2⟩ := forced hBI hp
  obtain ⟨hc1, hc2⟩ := forced_fin hBI hp
  have hokF := force_ok hok hBI.le p 99
  have hlb := lowT_bounds (q := M.q)
  have hFc := force_cnt hTm hBI.le hp 99
  have hFm := hokF.many
  have hm12 := hok.many
  refine AC.of 111 Try.func5 rfl rfl rfl ?_
  refine W.reg ?_
  refine XOps.s rfl rfl rfl (Q.assign_d rfl) ?_
  refine XOps.nil ?_
  refine W.reg ?_
  refine XOps.s rfl rfl rfl (Q.move_d rfl) ?_
  refine XOps.s rfl rfl rfl (Q.move_d rfl) ?_
  (refine XOps.loud rfl (L.call rfl Try.func12 go12 rfl (boxOf_c size l hs hL) rfl) ?_; rintro _ _ ⟨_, rfl, b, ids, rfl, rfl⟩)
  refine XOps.s rfl rfl rfl (Q.assign_ptr rfl) ?_
  refine XOps.nil ?_
  rw [hM]
  refine W.seq ?_
  refine W.reg ?_
  refine XOps.s rfl rfl rfl (Q.move_ptr rfl) ?_
  refine XOps.s rfl rfl rfl (Q.eql_ptr ipt23 rfl rfl) ?_
  refine XOps.s rfl rfl rfl (Q.move_d rfl) ?_
  refine XOps.gs rfl rfl rfl rfl rfl rfl rfl (fun hg => Q.call rfl Try.func7 go7 rfl (fact_c _)) ?_
  refine XOps.gs rfl rfl rfl rfl rfl rfl rfl (fun hg => Quiet.open 23 hg rfl (Q.not rfl)) ?_
  refine XOps.s rfl rfl rfl (Q.pick_or rfl rfl rfl (fun h => by first | (rw [h]; rfl) | (rw [hg, h]; rfl) | (simp [h, hg]; done))) ?_
  refine XOps.nil ?_
  refine W.cond rfl (fun hc25 => ?_) (fun hc25 => ?_)
  · try simp only [Bool.or_eq_true, Bool.or_eq_false_iff, Bool.and_eq_true, Bool.and_eq_false_iff, decide_eq_true_eq, decide_eq_false_iff_not, Bool.not_eq_true', Bool.not_eq_false', Int.not_lt, Int.not_le, List.length_map] at hc25
    exact absurd hc25 (by simp)
  · try simp only [Bool.or_eq_true, Bool.or_eq_false_iff, Bool.and_eq_true, Bool.and_eq_false_iff, decide_eq_true_eq, decide_eq_false_iff_not, Bool.not_eq_true', Bool.not_eq_false', Int.not_lt, Int.not_le, List.length_map] at hc25
    refine W.skip ?_
    refine W.reg ?_
    refine XOps.s rfl rfl rfl (Q.move_d rfl) ?_
    refine XOps.s rfl rfl rfl (Q.call rfl Try.func9 go9 rfl (cut_c prio 0 7 _ (by decide) (by decide) (by decide))) ?_
    refine XOps.s rfl rfl rfl (Q.assign_d rfl) ?_
    refine XOps.nil ?_
    rw [hpe]
    refine W.reg ?_
    (refine XOps.loud rfl (L.alloc tz41 rfl rfl) ?_; rintro _ _ ⟨b8, rfl, rfl⟩)
    (refine XOps.loud rfl (L.alloc tz41 rfl rfl) ?_; rintro _ _ ⟨b9, rfl, rfl⟩)
    refine XOps.nil ?_
    refine W.reg ?_
    (refine XOps.loud rfl (L.alloc tz3 rfl rfl) ?_; rintro _ _ ⟨b10, rfl, rfl⟩)
    refine XOps.loud rfl (L.store (k := 0) ag3 rfl rfl rfl rfl rfl) ?_
    rintro _ _ ⟨rfl, rfl⟩
    refine XOps.nil ?_
    refine W.seq ?_
    refine W.reg ?_
    refine XOps.s rfl rfl rfl (Q.move_ptr rfl) ?_
    (refine XOps.loud rfl (L.call rfl Try.func13 go13 rfl (all_c b _) rfl) ?_; rintro _ _ ⟨_, rfl, bb, rfl, rfl⟩)
    refine XOps.nil ?_
    refine W.heap ((bb, .cells [.ptr b 0]) :: (b10, .cells [.d (.int .i64 8)]) :: (b9, .cells (cellsI 8 (fun _ => 0))) :: (b8, .cells (cellsI 8 (fun _ => 0))) :: boxH b M ids hs) (HLe.refl _) ?_
    refine W.block ?_
    refine W.range rfl Try.func16 go16 (fun id0 => ?_)
    refine ((iter_c b bb id0 M ids _ (fun k H => H = (b10, .cells [.d (.int .i64 (lowT ((allM M.q 8).take k)))]) :: (b9, .cells (cellsI 8 (fun _ => 0))) :: (b8, .cells (cellsI 8 (cntT ((allM M.q 8).take k)))) :: hs) ((b10, .cells [.d (.int .i64 (lowT ((allM M.q 8).take 0)))]) :: (b9, .cells (cellsI 8 (fun _ => 0))) :: (b8, .cells (cellsI 8 (cntT ((allM M.q 8).take 0)))) :: hs) (hok3.mono (by omega)) rfl (fun k pp v H priv hJ hk => ?_)).le (HLe.cons _ (HLe.cons _ (HLe.perm (box_in3 _ _ _ _ _ _ _))))).mono ?_
    ·
      obtain rfl := hJ
      refine YC.of rfl rfl (fun B l0 => ?_)
      have hkp := allM_mem (List.mem_of_getElem? hk)
      dsimp only at hkp
      have hkl := (List.getElem?_eq_some_iff.1 hk).1
      have hcb := cntT_bound (allM M.q 8) k pp.toNat
      refine W.region ?_
      refine XOps.s rfl rfl rfl (Q.assign_d rfl) ?_
      refine XOps.nil ?_
      refine ⟨_, HLe.refl _, ?_⟩
      refine W.block ?_
      refine W.reg ?_
      refine XOps.s rfl rfl rfl (Q.move_d rfl) ?_
      refine XOps.s rfl rfl rfl (and7 rfl rfl ⟨hkp.1, hkp.2⟩) ?_
      refine XOps.s rfl rfl rfl (Q.idx_arr ar41 rfl rfl (by first | omega | (simp at hg; omega)) (by first | omega | (simp at hg; omega))) ?_
      refine XOps.s rfl rfl rfl (Q.ld_ptr (k := 3) ag3 rfl rfl (cell_at ⟨hkp.1, hkp.2⟩ (by omega))) ?_
      refine XOps.s rfl rfl rfl (Q.add rfl rfl (wi64 (by first | omega | (dsimp only; omega) | (simp only [List.length_map]; omega)) (by first | omega | (dsimp only; omega) | (simp only [List.length_map]; omega)))) ?_
      refine XOps.s rfl rfl rfl (Q.idx_arr ar41 rfl rfl (by first | omega | (simp at hg; omega)) (by first | omega | (simp at hg; omega))) ?_
      (refine XOps.loud rfl (L.store (k := 3) ag3 rfl rfl (by rw [cellsI_len, Nat.blt_eq]; omega) rfl rfl) ?_; rintro _ _ ⟨rfl, rfl⟩)
      refine XOps.nil ?_
      refine W.region ?_
      refine XOps.s rfl rfl rfl (Q.ld_ptr (k := 1) ag3 rfl rfl rfl) ?_
      refine XOps.s rfl rfl rfl (Q.move_d rfl) ?_
      refine XOps.s rfl rfl rfl (Q.mini rfl rfl) ?_
      (refine XOps.loud rfl (L.store (k := 1) ag3 rfl rfl rfl rfl rfl) ?_; rintro _ _ ⟨rfl, rfl⟩)
      refine XOps.nil ?_
      refine Post.block_n ?_
      refine roundQ.go ((b10, .cells [.d (.int .i64 (lowT ((allM M.q 8).take (k + 1))))]) :: (b9, .cells (cellsI 8 (fun _ => 0))) :: (b8, .cells (cellsI 8 (cntT ((allM M.q 8).take (k + 1))))) :: (hs ++ priv)) ?_ ?_
      · exact HLe.cons _ (HLe.cons' (by rw [lowT_succ hk]; rfl) (HLe.cons _ (HLe.cons' (cnt_cells hk ⟨hkp.1, hkp.2⟩ (by omega) rfl) (HLe.refl _))))
      · exact ⟨rfl, _, rfl, rfl⟩
    · rintro _ _ ⟨rfl, H2, rfl, rfl⟩
      refine rangeQ.go (boxH b M ids ((b10, .cells [.d (.int .i64 (lowT (allM M.q 8)))]) :: (b9, .cells (cellsI 8 (fun _ => 0))) :: (b8, .cells (cellsI 8 (cntT (allM M.q 8)))) :: hs)) (HLe.cons _ (HLe.skip _ (HLe.perm (by rw [List.take_length])))) ?_
      refine W.reg ?_
      refine XOps.s rfl rfl rfl (Q.move_ptr rfl) ?_
      refine XOps.s rfl rfl rfl (Q.call rfl Try.func10 go10 rfl (count_c b M ids _)) ?_
      refine XOps.s rfl rfl rfl (Q.move_d rfl) ?_
      refine XOps.s rfl rfl rfl (Q.call rfl Try.func9 go9 rfl (cut_c size 1 12 _ (by decide) (by decide) (by decide))) ?_
      refine XOps.s rfl rfl rfl (Q.eql rfl rfl) ?_
      refine XOps.s rfl rfl rfl (Q.assign_d rfl) ?_
      refine XOps.nil ?_
      refine W.reg ?_
      refine XOps.s rfl rfl rfl (Q.move_ptr rfl) ?_
      refine XOps.s rfl rfl rfl (Q.move_d rfl) ?_
      (refine XOps.loud rfl (L.call rfl Try.func14 go14 rfl (force_c b M ids p 99 ((b10, .cells [.d (.int .i64 (lowT (allM M.q 8)))]) :: (b9, .cells (cellsI 8 (fun _ => 0))) :: (b8, .cells (cellsI 8 (cntT (allM M.q 8)))) :: hs) hok3 hBI.le hp) rfl) ?_; rintro _ _ ⟨_, rfl, ids2, rfl, rfl⟩)
      refine XOps.s rfl rfl rfl (Q.move_tup rfl) ?_
      refine XOps.s rfl rfl rfl (Q.extract rfl rfl) ?_
      refine XOps.s rfl rfl rfl (Q.extract rfl rfl) ?_
      refine XOps.s rfl rfl rfl (Q.extract rfl rfl) ?_
      refine XOps.s rfl rfl rfl (Q.assign_d rfl) ?_
      refine XOps.s rfl rfl rfl (Q.assign_d rfl) ?_
      refine XOps.s rfl rfl rfl (Q.assign_d rfl) ?_
      refine XOps.nil ?_
      refine W.seq ?_
      refine W.reg ?_
      refine XOps.s rfl rfl rfl (Q.move_ptr rfl) ?_
      (refine XOps.loud rfl (L.call rfl Try.func13 go13 rfl (all_c b _) rfl) ?_; rintro _ _ ⟨_, rfl, bb, rfl, rfl⟩)
      refine XOps.nil ?_
      refine W.block ?_
      refine W.range rfl Try.func16 go16 (fun id0 => ?_)
      refine ((iter_c b bb id0 (M.force p 99).1 ids2 _ (fun k H => H = (b10, .cells [.d (.int .i64 (lowT (allM M.q 8)))]) :: (b9, .cells (cellsI 8 (cntT ((allM (M.force p 99).1.q 8).take k)))) :: (b8, .cells (cellsI 8 (cntT (allM M.q 8)))) :: hs) ((b10, .cells [.d (.int .i64 (lowT (allM M.q 8)))]) :: (b9, .cells (cellsI 8 (cntT ((allM (M.force p 99).1.q 8).take 0)))) :: (b8, .cells (cellsI 8 (cntT (allM M.q 8)))) :: hs) (hokF.mono (by omega)) rfl (fun k pp v H priv hJ hk => ?_)).le (HLe.refl _)).mono ?_
      ·
        obtain rfl := hJ
        refine YC.of rfl rfl (fun B l0 => ?_)
        have hkp := allM_mem (List.mem_of_getElem? hk)
        dsimp only at hkp
        have hkl := (List.getElem?_eq_some_iff.1 hk).1
        have hcb := cntT_bound (allM (M.force p 99).1.q 8) k pp.toNat
        refine W.region ?_
        refine XOps.s rfl rfl rfl (Q.assign_d rfl) ?_
        refine XOps.nil ?_
        refine ⟨_, HLe.refl _, ?_⟩
        refine W.block ?_
        refine W.region ?_
        refine XOps.s rfl rfl rfl (Q.move_d rfl) ?_
        refine XOps.s rfl rfl rfl (and7 rfl rfl ⟨hkp.1, hkp.2⟩) ?_
        refine XOps.s rfl rfl rfl (Q.idx_arr ar41 rfl rfl (by first | omega | (simp at hg; omega)) (by first | omega | (simp at hg; omega))) ?_
        refine XOps.s rfl rfl rfl (Q.ld_ptr (k := 2) ag3 rfl rfl (cell_at ⟨hkp.1, hkp.2⟩ (by omega))) ?_
        refine XOps.s rfl rfl rfl (Q.add rfl rfl (wi64 (by first | omega | (dsimp only; omega) | (simp only [List.length_map]; omega)) (by first | omega | (dsimp only; omega) | (simp only [List.length_map]; omega)))) ?_
        refine XOps.s rfl rfl rfl (Q.idx_arr ar41 rfl rfl (by first | omega | (simp at hg; omega)) (by first | omega | (simp at hg; omega))) ?_
        (refine XOps.loud rfl (L.store (k := 2) ag3 rfl rfl (by rw [cellsI_len, Nat.blt_eq]; omega) rfl rfl) ?_; rintro _ _ ⟨rfl, rfl⟩)
        refine XOps.nil ?_
        refine Post.block_n ?_
        refine roundQ.go ((b10, .cells [.d (.int .i64 (lowT (allM M.q 8)))]) :: (b9, .cells (cellsI 8 (cntT ((allM (M.force p 99).1.q 8).take (k + 1))))) :: (b8, .cells (cellsI 8 (cntT (allM M.q 8)))) :: (hs ++ priv)) ?_ ?_
        · exact HLe.cons _ (HLe.cons _ (HLe.cons' (cnt_cells hk ⟨hkp.1, hkp.2⟩ (by omega) rfl) (HLe.refl _)))
        · exact ⟨rfl, _, rfl, rfl⟩
      · rintro _ _ ⟨rfl, H2, rfl, rfl⟩
        refine rangeQ.go (boxH b (M.force p 99).1 ids2 ((b10, .cells [.d (.int .i64 (lowT (allM M.q 8)))]) :: (b9, .cells (cellsI 8 (cntT (allM (M.force p 99).1.q 8)))) :: (b8, .cells (cellsI 8 (cntT (allM M.q 8)))) :: hs)) (HLe.cons _ (HLe.skip _ (HLe.perm (by rw [List.take_length])))) ?_
        refine W.seq ?_
        refine W.reg ?_
        refine XOps.s rfl rfl rfl (Q.move_d rfl) ?_
        refine XOps.s rfl rfl rfl (Q.move_d rfl) ?_
        refine XOps.gs rfl rfl rfl rfl rfl rfl rfl (fun hg => Q.ld_ptr (k := 9) ag3 rfl rfl rfl) ?_
        refine XOps.gs rfl rfl rfl rfl rfl rfl rfl (fun hg => Q.move_d rfl) ?_
        refine XOps.gs rfl rfl rfl rfl rfl rfl rfl (fun hg => Quiet.open 65 hg rfl (Quiet.open 66 hg rfl (Q.geq rfl rfl))) ?_
        refine XOps.s rfl rfl rfl (Q.pick_and rfl rfl rfl (fun h => by first | (rw [h]; rfl) | (rw [hg, h]; rfl) | (simp [h, hg]; done))) ?_
        refine XOps.nil ?_
        refine W.cond rfl (fun hc68 => ?_) (fun hc68 => ?_)
        · try simp only [Bool.or_eq_true, Bool.or_eq_false_iff, Bool.and_eq_true, Bool.and_eq_false_iff, decide_eq_true_eq, decide_eq_false_iff_not, Bool.not_eq_true', Bool.not_eq_false', Int.not_lt, Int.not_le, List.length_map] at hc68
          obtain ⟨hfull, hlow⟩ := hc68
          obtain ⟨v1, v2, v3⟩ := hV1 (by omega) (by omega)
          have hfin : allD (vD (cntT (allM M.q 8))) (vD (cntT (allM (M.force p 99).1.q 8))) = true := vD_eqv fun i hi => by rw [hc1 i hi, hc2 i hi, v3]
          refine W.reg ?_
          refine XOps.s rfl rfl rfl (Q.move_d rfl) ?_
          refine XOps.s rfl rfl rfl (Q.eql rfl rfl) ?_
          refine XOps.s rfl rfl rfl (Q.move_d rfl) ?_
          refine XOps.gs rfl rfl rfl rfl rfl rfl rfl (fun hg => Q.move_d rfl) ?_
          refine XOps.gs rfl rfl rfl rfl rfl rfl rfl (fun hg => Quiet.open 72 hg rfl (Q.not rfl)) ?_
          refine XOps.s rfl rfl rfl (Q.pick_and rfl rfl rfl (fun h => by first | (rw [h]; rfl) | (rw [hg, h]; rfl) | (simp [h, hg]; done))) ?_
          refine XOps.s rfl rfl rfl (Q.move_d rfl) ?_
          refine XOps.gs rfl rfl rfl rfl rfl rfl rfl (fun hg => Q.ld_ptrn (k := 11) ag41 rfl rfl (cells8_take _)) ?_
          refine XOps.gs rfl rfl rfl rfl rfl rfl rfl (fun hg => Q.ld_ptrn (k := 10) ag41 rfl rfl (cells8_take _)) ?_
          refine XOps.gs rfl rfl rfl rfl rfl rfl rfl (fun hg => Quiet.open 76 hg rfl (Quiet.open 77 hg rfl (Q.eql_agg eqt41 rfl rfl rfl rfl rfl))) ?_
          refine XOps.s rfl rfl rfl (Q.pick_and rfl rfl rfl (fun h => by first | (rw [h]; rfl) | (rw [hg, h]; rfl) | (simp [h, hg]; done))) ?_
          refine XOps.s rfl rfl rfl (Q.assign_d rfl) ?_
          refine XOps.nil ?_
          refine W.ret ?_
          refine ⟨_, _, rfl, HLe.refl _, ?_⟩
          (rw [hfin, v1, v2]; rfl)
        · try simp only [Bool.or_eq_true, Bool.or_eq_false_iff, Bool.and_eq_true, Bool.and_eq_false_iff, decide_eq_true_eq, decide_eq_false_iff_not, Bool.not_eq_true', Bool.not_eq_false', Int.not_lt, Int.not_le, List.length_map] at hc68
          have hcpb := cntT_b (allM M.q 8) (p : Int).toNat
          obtain ⟨v1, v2, v3, v4, v5⟩ := hV2 (fun h => by rcases hc68 with h1 | h1 <;> omega)
          refine W.skip ?_
          refine W.reg ?_
          refine XOps.s rfl rfl rfl (Q.move_d rfl) ?_
          refine XOps.s rfl rfl rfl (Q.idx_arr ar41 rfl rfl (by first | omega | (simp at hg; omega)) (by first | omega | (simp at hg; omega))) ?_
          refine XOps.s rfl rfl rfl (Q.ld_ptr (k := 11) ag3 rfl rfl (cell_at (p := (p : Int)) (by omega) (by omega))) ?_
          refine XOps.s rfl rfl rfl (Q.add rfl rfl (wi64 (by first | omega | (dsimp only; omega) | (simp only [List.length_map]; omega)) (by first | omega | (dsimp only; omega) | (simp only [List.length_map]; omega)))) ?_
          refine XOps.s rfl rfl rfl (Q.idx_arr ar41 rfl rfl (by first | omega | (simp at hg; omega)) (by first | omega | (simp at hg; omega))) ?_
          (refine XOps.loud rfl (L.store (k := 11) ag3 rfl rfl (by rw [cellsI_len, Nat.blt_eq]; omega) rfl rfl) ?_; rintro _ _ ⟨rfl, rfl⟩)
          refine XOps.nil ?_
          refine W.heap (boxH b (M.force p 99).1 ids2 ((b10, .cells [.d (.int .i64 (lowT (allM M.q 8)))]) :: (b9, .cells (cellsI 8 (cntT (allM (M.force p 99).1.q 8)))) :: (b8, .cells (cellsI 8 (updF (cntT (allM M.q 8)) (p : Int).toNat (cntT (allM M.q 8) (p : Int).toNat + 1)))) :: hs)) (HLe.perm (List.Perm.of_eq ?_)) ?_
          · show boxH b (M.force p 99).1 ids2 ((b10, .cells [.d (.int .i64 (lowT (allM M.q 8)))]) :: (b9, .cells (cellsI 8 (cntT (allM (M.force p 99).1.q 8)))) :: (b8, .cells (cellsI 8 (updF (cntT (allM M.q 8)) (p : Int).toNat (cntT (allM M.q 8) (p : Int).toNat + 1)))) :: hs) = boxH b (M.force p 99).1 ids2 ((b10, .cells [.d (.int .i64 (lowT (allM M.q 8)))]) :: (b9, .cells (cellsI 8 (cntT (allM (M.force p 99).1.q 8)))) :: (b8, .cells ((cellsI 8 (cntT (allM M.q 8))).set (0 + (p : Int).toNat * 1) (.d (.int .i64 (cntT (allM M.q 8) (p : Int).toNat + 1))))) :: hs)
            rw [cells_upd8 (p := (p : Int)) (by omega) (by omega)]
          refine W.seq ?_
          refine W.reg ?_
          refine XOps.s rfl rfl rfl (Q.move_d rfl) ?_
          refine XOps.nil ?_
          refine W.cond rfl (fun hc85 => ?_) (fun hc85 => ?_)
          · try simp only [Bool.or_eq_true, Bool.or_eq_false_iff, Bool.and_eq_true, Bool.and_eq_false_iff, decide_eq_true_eq, decide_eq_false_iff_not, Bool.not_eq_true', Bool.not_eq_false', Int.not_lt, Int.not_le, List.length_map] at hc85
            have hfull : M.many = M.sz := by omega
            obtain ⟨q, hq, hq8, hqe⟩ := v4 hfull
            rw [hq]
            have hfb : 0 ≤ updF (cntT (allM M.q 8)) (p : Int).toNat (cntT (allM M.q 8) (p : Int).toNat + 1) (q : Int).toNat ∧ updF (cntT (allM M.q 8)) (p : Int).toNat (cntT (allM M.q 8) (p : Int).toNat + 1) (q : Int).toNat ≤ 2000 := by
              have h1 := cntT_b (allM M.q 8) (p : Int).toNat
              have h2 := cntT_b (allM M.q 8) (q : Int).toNat
              unfold updF
              split <;> omega
            have hfin : allD (vD (updF (updF (cntT (allM M.q 8)) (p : Int).toNat (cntT (allM M.q 8) (p : Int).toNat + 1)) (q : Int).toNat (updF (cntT (allM M.q 8)) (p : Int).toNat (cntT (allM M.q 8) (p : Int).toNat + 1) (q : Int).toNat - 1))) (vD (cntT (allM (M.force p 99).1.q 8))) = true := vD_eqv fun i hi => ((upd_fin hc1 hp hq8).2 i hi).trans ((hqe i).symm.trans (hc2 i hi).symm)
            refine W.region ?_
            refine XOps.s rfl rfl rfl (Q.ld_ptr (k := 9) ag3 rfl rfl rfl) ?_
            refine XOps.s rfl rfl rfl (and7 rfl rfl (by omega)) ?_
            refine XOps.s rfl rfl rfl (Q.idx_arr ar41 rfl rfl (by first | omega | (simp at hg; omega)) (by first | omega | (simp at hg; omega))) ?_
            refine XOps.s rfl rfl rfl (Q.ld_ptr (k := 11) ag3 rfl rfl (cell_at (p := (q : Int)) (by omega) (by omega))) ?_
            refine XOps.s rfl rfl rfl (Q.sub rfl rfl (wi64 (by first | omega | (dsimp only; omega) | (simp only [List.length_map]; omega)) (by first | omega | (dsimp only; omega) | (simp only [List.length_map]; omega)))) ?_
            refine XOps.s rfl rfl rfl (Q.idx_arr ar41 rfl rfl (by first | omega | (simp at hg; omega)) (by first | omega | (simp at hg; omega))) ?_
            (refine XOps.loud rfl (L.store (k := 11) ag3 rfl rfl (by rw [cellsI_len, Nat.blt_eq]; omega) rfl rfl) ?_; rintro _ _ ⟨rfl, rfl⟩)
            refine XOps.nil ?_
            refine W.heap (boxH b (M.force p 99).1 ids2 ((b10, .cells [.d (.int .i64 ((q : Int)))]) :: (b9, .cells (cellsI 8 (cntT (allM (M.force p 99).1.q 8)))) :: (b8, .cells (cellsI 8 (updF (updF (cntT (allM M.q 8)) (p : Int).toNat (cntT (allM M.q 8) (p : Int).toNat + 1)) (q : Int).toNat (updF (cntT (allM M.q 8)) (p : Int).toNat (cntT (allM M.q 8) (p : Int).toNat + 1) (q : Int).toNat - 1)))) :: hs)) (HLe.perm (List.Perm.of_eq ?_)) ?_
            · show boxH b (M.force p 99).1 ids2 ((b10, .cells [.d (.int .i64 ((q : Int)))]) :: (b9, .cells (cellsI 8 (cntT (allM (M.force p 99).1.q 8)))) :: (b8, .cells (cellsI 8 (updF (updF (cntT (allM M.q 8)) (p : Int).toNat (cntT (allM M.q 8) (p : Int).toNat + 1)) (q : Int).toNat (updF (cntT (allM M.q 8)) (p : Int).toNat (cntT (allM M.q 8) (p : Int).toNat + 1) (q : Int).toNat - 1)))) :: hs) = boxH b (M.force p 99).1 ids2 ((b10, .cells [.d (.int .i64 ((q : Int)))]) :: (b9, .cells (cellsI 8 (cntT (allM (M.force p 99).1.q 8)))) :: (b8, .cells ((cellsI 8 (updF (cntT (allM M.q 8)) (p : Int).toNat (cntT (allM M.q 8) (p : Int).toNat + 1))).set (0 + (q : Int).toNat * 1) (.d (.int .i64 (updF (cntT (allM M.q 8)) (p : Int).toNat (cntT (allM M.q 8) (p : Int).toNat + 1) (q : Int).toNat - 1))))) :: hs)
              rw [cells_upd8 (p := (q : Int)) (by omega) (by omega)]
            refine W.reg ?_
            refine XOps.s rfl rfl rfl (Q.move_d rfl) ?_
            refine XOps.s rfl rfl rfl (Q.eql rfl rfl) ?_
            refine XOps.s rfl rfl rfl (Q.move_d rfl) ?_
            refine XOps.gs rfl rfl rfl rfl rfl rfl rfl (fun hg => Q.move_d rfl) ?_
            refine XOps.gs rfl rfl rfl rfl rfl rfl rfl (fun hg => Q.move_d rfl) ?_
            refine XOps.gs rfl rfl rfl rfl rfl rfl rfl (fun hg => Quiet.open 95 hg rfl (Quiet.open 96 hg rfl (Q.eql_bool isb4 rfl rfl))) ?_
            refine XOps.s rfl rfl rfl (Q.pick_and rfl rfl rfl (fun h => by first | (rw [h]; rfl) | (rw [hg, h]; rfl) | (simp [h, hg]; done))) ?_
            refine XOps.s rfl rfl rfl (Q.move_d rfl) ?_
            refine XOps.gs rfl rfl rfl rfl rfl rfl rfl (fun hg => Q.ld_ptrn (k := 11) ag41 rfl rfl (cells8_take _)) ?_
            refine XOps.gs rfl rfl rfl rfl rfl rfl rfl (fun hg => Q.ld_ptrn (k := 10) ag41 rfl rfl (cells8_take _)) ?_
            refine XOps.gs rfl rfl rfl rfl rfl rfl rfl (fun hg => Quiet.open 100 hg rfl (Quiet.open 101 hg rfl (Q.eql_agg eqt41 rfl rfl rfl rfl rfl))) ?_
            refine XOps.s rfl rfl rfl (Q.pick_and rfl rfl rfl (fun h => by first | (rw [h]; rfl) | (rw [hg, h]; rfl) | (simp [h, hg]; done))) ?_
            refine XOps.s rfl rfl rfl (Q.move_d rfl) ?_
            refine XOps.gs rfl rfl rfl rfl rfl rfl rfl (fun hg => Q.move_ptr rfl) ?_
            refine XOps.gs rfl rfl rfl rfl rfl rfl rfl (fun hg => Quiet.open 105 hg rfl (Q.call rfl Try.func10 go10 rfl (count_c b (M.force p 99).1 ids2 _))) ?_
            refine XOps.gs rfl rfl rfl rfl rfl rfl rfl (fun hg => Q.move_d rfl) ?_
            refine XOps.gs rfl rfl rfl rfl rfl rfl rfl (fun hg => Quiet.open 107 hg rfl (Q.call rfl Try.func9 go9 rfl (cut_c size 1 12 _ (by decide) (by decide) (by decide)))) ?_
            refine XOps.gs rfl rfl rfl rfl rfl rfl rfl (fun hg => Quiet.open 106 hg rfl (Quiet.open 108 hg rfl (Q.leq rfl rfl))) ?_
            refine XOps.s rfl rfl rfl (Q.pick_and rfl rfl rfl (fun h => by first | (rw [h]; rfl) | (rw [hg, h]; rfl) | (simp [h, hg]; done))) ?_
            refine XOps.s rfl rfl rfl (Q.assign_d rfl) ?_
            refine XOps.nil ?_
            refine W.ret ?_
            refine ⟨_, _, rfl, HLe.refl _, ?_⟩
            (rw [hfin, v1, v2]; refine bt ?_; rw [hsz] at v3; simp [hsz, v3]; done)
          · try simp only [Bool.or_eq_true, Bool.or_eq_false_iff, Bool.and_eq_true, Bool.and_eq_false_iff, decide_eq_true_eq, decide_eq_false_iff_not, Bool.not_eq_true', Bool.not_eq_false', Int.not_lt, Int.not_le, List.length_map] at hc85
            have hfull : M.many ≠ M.sz := by omega
            have hqe := v5 hfull
            have hfin : allD (vD (updF (cntT (allM M.q 8)) (p : Int).toNat (cntT (allM M.q 8) (p : Int).toNat + 1))) (vD (cntT (allM (M.force p 99).1.q 8))) = true := vD_eqv fun i hi => ((upd_fin hc1 hp hp).1 i hi).trans ((hqe i).symm.trans (hc2 i hi).symm)
            refine W.skip ?_
            refine W.reg ?_
            refine XOps.s rfl rfl rfl (Q.move_d rfl) ?_
            refine XOps.s rfl rfl rfl (Q.eql rfl rfl) ?_
            refine XOps.s rfl rfl rfl (Q.move_d rfl) ?_
            refine XOps.gs rfl rfl rfl rfl rfl rfl rfl (fun hg => Q.move_d rfl) ?_
            refine XOps.gs rfl rfl rfl rfl rfl rfl rfl (fun hg => Q.move_d rfl) ?_
            refine XOps.gs rfl rfl rfl rfl rfl rfl rfl (fun hg => Quiet.open 95 hg rfl (Quiet.open 96 hg rfl (Q.eql_bool isb4 rfl rfl))) ?_
            refine XOps.s rfl rfl rfl (Q.pick_and rfl rfl rfl (fun h => by first | (rw [h]; rfl) | (rw [hg, h]; rfl) | (simp [h, hg]; done))) ?_
            refine XOps.s rfl rfl rfl (Q.move_d rfl) ?_
            refine XOps.gs rfl rfl rfl rfl rfl rfl rfl (fun hg => Q.ld_ptrn (k := 11) ag41 rfl rfl (cells8_take _)) ?_
            refine XOps.gs rfl rfl rfl rfl rfl rfl rfl (fun hg => Q.ld_ptrn (k := 10) ag41 rfl rfl (cells8_take _)) ?_
            refine XOps.gs rfl rfl rfl rfl rfl rfl rfl (fun hg => Quiet.open 100 hg rfl (Quiet.open 101 hg rfl (Q.eql_agg eqt41 rfl rfl rfl rfl rfl))) ?_
            refine XOps.s rfl rfl rfl (Q.pick_and rfl rfl rfl (fun h => by first | (rw [h]; rfl) | (rw [hg, h]; rfl) | (simp [h, hg]; done))) ?_
            refine XOps.s rfl rfl rfl (Q.move_d rfl) ?_
            refine XOps.gs rfl rfl rfl rfl rfl rfl rfl (fun hg => Q.move_ptr rfl) ?_
            refine XOps.gs rfl rfl rfl rfl rfl rfl rfl (fun hg => Quiet.open 105 hg rfl (Q.call rfl Try.func10 go10 rfl (count_c b (M.force p 99).1 ids2 _))) ?_
            refine XOps.gs rfl rfl rfl rfl rfl rfl rfl (fun hg => Q.move_d rfl) ?_
            refine XOps.gs rfl rfl rfl rfl rfl rfl rfl (fun hg => Quiet.open 107 hg rfl (Q.call rfl Try.func9 go9 rfl (cut_c size 1 12 _ (by decide) (by decide) (by decide)))) ?_
            refine XOps.gs rfl rfl rfl rfl rfl rfl rfl (fun hg => Quiet.open 106 hg rfl (Quiet.open 108 hg rfl (Q.leq rfl rfl))) ?_
            refine XOps.s rfl rfl rfl (Q.pick_and rfl rfl rfl (fun h => by first | (rw [h]; rfl) | (rw [hg, h]; rfl) | (simp [h, hg]; done))) ?_
            refine XOps.s rfl rfl rfl (Q.assign_d rfl) ?_
            refine XOps.nil ?_
            refine W.ret ?_
            refine ⟨_, _, rfl, HLe.refl _, ?_⟩
            (rw [hfin, v1, v2]; refine bt ?_; rw [hsz] at v3; simp [hsz, v3]; done)
end Go.Proofs.YtdkeenmmhkhecaaA
