/- All and Force of package mailbox, the law MailboxOrder. -/
import Derived.Test.YtdkeenmmhkhecaaBase
import Derived.Test.YtdkeenmmhkhecaaSpec2
import Derived.Test.YtdkeenmmhkhecaaWalkA
set_option linter.unusedVariables false
set_option linter.unusedSimpArgs false
set_option linter.unnecessarySimpa false
namespace Go.Proofs.YtdkeenmmhkhecaaA.FWalkB
open Go
theorem ag22 : tAgg P 22 = some ((false, 1)) := by kernel_rfl
theorem ag23 : tAgg P 23 = some ((false, 1)) := by kernel_rfl
theorem ag3 : tAgg P 3 = some ((false, 1)) := by kernel_rfl
theorem ag45 : tAgg P 45 = some ((true, 8)) := by kernel_rfl
theorem ap22 : tApp P 22 = some ((1, 8)) := by kernel_rfl
theorem ar45 : tArr P 45 = some ((8, 1)) := by kernel_rfl
theorem fl47_2 : tFld P 47 2 = some (2) := by kernel_rfl
theorem go17 : callGo Go.Proofs.Try.f17 = true := by kernel_rfl
theorem isl22 : isSl P 22 = true := by kernel_rfl
theorem sl22 : tSl P 22 = some (1) := by kernel_rfl
theorem tz45 : tZero P 45 = some ([.slice none 0 0, .slice none 0 0, .slice none 0 0, .slice none 0 0, .slice none 0 0, .slice none 0 0, .slice none 0 0, .slice none 0 0]) := by kernel_rfl
end Go.Proofs.YtdkeenmmhkhecaaA.FWalkB
namespace Go.Proofs.YtdkeenmmhkhecaaA
open Go FWalkB
set_option maxHeartbeats 1000000 in
set_option maxRecDepth 100000 in
theorem cloneN_c (l : List Int) (hs : Hp) (hL : l.length * 8 ≤ 140737488355328) : AC P 17 [.d (.sl 1 (l.map nE))] hs (fun r h => ∃ v, r = .vs v 0 l.length 1 ∧ h = (v, .lst 1 (l.map nE)) :: hs) := by
  refine AC.of 8 Try.func17 rfl rfl rfl ?_
  refine W.reg ?_
  refine XOps.s rfl rfl rfl (Q.assign_nilsl rfl) ?_
  refine XOps.nil ?_
  refine W.seq ?_
  refine W.reg ?_
  refine XOps.s rfl rfl rfl (Q.move_d rfl) ?_
  (refine XOps.loud rfl (L.eqnil sl22 (by decide) rfl rfl rfl) ?_; rintro _ _ ⟨bb, hbb, rfl, hh⟩; obtain rfl := hh.symm)
  refine XOps.nil ?_
  refine W.cond rfl (fun hc4 => ?_) (fun hc4 => ?_)
  · try simp only [Bool.or_eq_true, Bool.or_eq_false_iff, Bool.and_eq_true, Bool.and_eq_false_iff, decide_eq_true_eq, decide_eq_false_iff_not, Bool.not_eq_true', Bool.not_eq_false', Int.not_lt, Int.not_le, List.length_map] at hc4
    have hle : l = [] := by simpa using hbb hc4
    subst hle
    refine W.reg ?_
    refine XOps.s rfl rfl rfl (Q.assign_nilsl rfl) ?_
    refine XOps.nil ?_
    refine W.ghost 2 1 (by decide) rfl rfl (fun v2 => ?_)
    refine W.ret ?_
    exact ⟨_, (v2, .lst 1 []) :: hs, rfl, by repeat (first | exact HLe.refl _ | refine HLe.cons' (by first | rfl | (simp; done)) ?_ | refine HLe.pick 1 rfl (by first | rfl | (simp; done)) ?_ | refine HLe.pick 2 rfl (by first | rfl | (simp; done)) ?_ | refine HLe.pick 3 rfl (by first | rfl | (simp; done)) ?_ | refine HLe.pick 4 rfl (by first | rfl | (simp; done)) ?_ | refine HLe.pick 5 rfl (by first | rfl | (simp; done)) ?_ | refine HLe.skip _ ?_), v2, rfl, rfl⟩
  · try simp only [Bool.or_eq_true, Bool.or_eq_false_iff, Bool.and_eq_true, Bool.and_eq_false_iff, decide_eq_true_eq, decide_eq_false_iff_not, Bool.not_eq_true', Bool.not_eq_false', Int.not_lt, Int.not_le, List.length_map] at hc4
    refine W.skip ?_
    refine W.reg ?_
    refine XOps.s rfl rfl rfl (Q.bsl0 sl22) ?_
    refine XOps.s rfl rfl rfl (Q.move_d rfl) ?_
    refine XOps.loud rfl (L.app_new ap22 (.inl rfl) (by first | exact .inl rfl | exact .inr (by simp)) rfl (by simp; omega) rfl) ?_
    rintro _ _ ⟨v7, rfl, rfl⟩
    refine XOps.s rfl rfl rfl (Q.assign_vs rfl) ?_
    refine XOps.nil ?_
    refine W.ret ?_
    exact ⟨_, (v7, .lst 1 (l.map nE)) :: hs, rfl, by repeat (first | exact HLe.refl _ | refine HLe.cons' (by first | rfl | (simp; done)) ?_ | refine HLe.pick 1 rfl (by first | rfl | (simp; done)) ?_ | refine HLe.pick 2 rfl (by first | rfl | (simp; done)) ?_ | refine HLe.pick 3 rfl (by first | rfl | (simp; done)) ?_ | refine HLe.pick 4 rfl (by first | rfl | (simp; done)) ?_ | refine HLe.pick 5 rfl (by first | rfl | (simp; done)) ?_ | refine HLe.skip _ ?_), v7, by show AV.vs _ _ _ _ = _; congr 1; simp, rfl⟩

set_option maxHeartbeats 1000000 in
set_option maxRecDepth 100000 in
theorem all_c (b : Nat) (hs : Hp) : AC P 13 [.ptr b 0] hs (fun r h => ∃ bb, r = .fn 16 [.ptr bb 0] ∧ h = (bb, .cells [.ptr b 0]) :: hs) := by
  refine AC.of 4 Try.func13 rfl rfl rfl ?_
  refine W.reg ?_
  refine XOps.loud rfl (L.box rfl rfl rfl) ?_
  rintro _ _ ⟨b1, rfl, rfl⟩
  refine XOps.s rfl rfl rfl (Q.assign rfl) ?_
  refine XOps.nil ?_
  refine W.reg ?_
  refine XOps.s rfl rfl rfl (Q.mkfn rfl) ?_
  refine XOps.s rfl rfl rfl (Q.assign_fn rfl) ?_
  refine XOps.nil ?_
  refine W.ret ?_
  exact ⟨_, (b1, .cells [.ptr b 0]) :: hs, rfl, HLe.refl _, b1, rfl, rfl⟩

set_option maxHeartbeats 1000000 in
set_option maxRecDepth 100000 in
theorem iter_c (b bb id : Nat) (m : MB) (ids : Nat → Nat) (o : HO) (J : Nat → Hp → Prop) (H : Hp) (hm : m.ok 1000) (h0 : J 0 H) (hy : ∀ (k : Nat) (p v : Int) (H priv : Hp), J k H → (allM m.q 8)[k]? = some (p, v) → YC P id [.d (.int .i64 p), .d (.int .i64 v)] ((id, o) :: (H ++ priv)) (fun r h => r = .d (.bool true) ∧ ∃ H2, J (k + 1) H2 ∧ h = (id, o) :: (H2 ++ priv))) :
    AC P 16 [.yl id, .ptr bb 0] ((id, o) :: (bb, .cells [.ptr b 0]) :: boxH b m ids H) (fun r h => r = .tup [] ∧ ∃ H2, J (allM m.q 8).length H2 ∧ h = (id, o) :: (bb, .cells [.ptr b 0]) :: boxH b m ids H2) := by
  have hm3 := hm.len
  refine AC.of 40 Try.func16 rfl rfl rfl ?_
  refine W.reg ?_
  refine XOps.s rfl rfl rfl (Q.ld_ptr (k := 1) ag23 rfl rfl rfl) ?_
  refine XOps.s rfl rfl rfl (Q.nil_ptr rfl) ?_
  refine XOps.s rfl rfl rfl (Q.fld_ptr fl47_2 rfl) ?_
  refine XOps.s rfl rfl rfl (Q.ld_ptrv (k := 2) ag45 rfl rfl rfl) ?_
  (refine XOps.loud rfl (L.alloc tz45 rfl rfl) ?_; rintro _ _ ⟨b3, rfl, rfl⟩)
  refine XOps.loud rfl (L.storev (k := 0) ag45 rfl rfl rfl rfl rfl) ?_
  rintro _ _ ⟨rfl, rfl⟩
  refine XOps.nil ?_
  refine W.heap ((b3, .cells (cellsQ m ids 0)) :: (id, o) :: (bb, .cells [.ptr b 0]) :: boxH b m ids H) (HLe.cons' (by rw [← cellsQ_zero]; rfl) (HLe.refl _)) ?_
  refine W.seq ?_
  refine W.reg ?_
  refine XOps.s rfl rfl rfl (Q.move_d rfl) ?_
  refine XOps.nil ?_
  refine W.block ?_
  refine W.loop (ι := Nat) (fun k => [(0, .yl id), (1, .ptr bb 0), (3, .ptr b3 0), (12, .d (.int .i64 (k : Nat)))]) (fun k => (b3, .cells (cellsQ m ids k)) :: (id, o) :: (bb, .cells [.ptr b 0]) :: boxH b m ids H) (fun k => k ≤ 8) (fun k => 8 - k) 0 ?_ ?_ ?_ ?_
  · exact Nat.zero_le _
  · exact ⟨by first | rfl | exact int_eq (by omega) | exact len_eq (by simp) | exact int_eq (by simp; done), by first | rfl | exact int_eq (by omega) | exact len_eq (by simp) | exact int_eq (by simp; done), by first | rfl | exact int_eq (by omega) | exact len_eq (by simp) | exact int_eq (by simp; done), by first | rfl | exact int_eq (by omega) | exact len_eq (by simp) | exact int_eq (by simp; done), trivial⟩
  · exact HLe.refl _
  · rintro k hk
    try dsimp only
    refine W.reg ?_
    refine XOps.s rfl rfl rfl (Q.lss rfl rfl) ?_
    refine XOps.nil ?_
    refine W.seq ?_
    refine W.cond rfl (fun hc13 => ?_) (fun hc13 => ?_)
    · try simp only [Bool.or_eq_true, Bool.or_eq_false_iff, Bool.and_eq_true, Bool.and_eq_false_iff, decide_eq_true_eq, decide_eq_false_iff_not, Bool.not_eq_true', Bool.not_eq_false', Int.not_lt, Int.not_le, List.length_map] at hc13
      have hk8 : k < 8 := by omega
      have hcell : (cellsQ m ids k)[0 + ((k : Nat) : Int).toNat * 1]? = some (.vs (ids k) 0 (m.q k).length 1) := by rw [show 0 + ((k : Nat) : Int).toNat * 1 = k by omega, cellsQ_at _ _ _ hk8, if_neg (by omega)]
      have hlst : ((b3, HO.cells (cellsQ m ids k)) :: (id, o) :: (bb, .cells [.ptr b 0]) :: boxH b m ids H)[k + 3 + 1]? = some (ids k, .lst 1 ((m.q k).map nE)) := boxH_at b m ids H hk8
      have hoff : Nat.blt (0 + ((k : Nat) : Int).toNat * 1) (cellsQ m ids k).length = true := by rw [cellsQ_len, Nat.blt_eq]; omega
      have hlk := hm3 k
      refine W.skip ?_
      refine W.seq ?_
      refine W.block ?_
      refine W.reg ?_
      refine XOps.s rfl rfl rfl (Q.move_d rfl) ?_
      refine XOps.s rfl rfl rfl (Q.assign_d rfl) ?_
      refine XOps.nil ?_
      refine W.region ?_
      refine XOps.s rfl rfl rfl (Q.move_d rfl) ?_
      refine XOps.s rfl rfl rfl (Q.move_d rfl) ?_
      refine XOps.s rfl rfl rfl (Q.idx_arr ar45 rfl rfl (by first | omega | (simp at hg; omega)) (by first | omega | (simp at hg; omega))) ?_
      refine XOps.s rfl rfl rfl (Q.ld_ptr (k := 0) ag22 rfl rfl hcell) ?_
      (refine XOps.loud rfl (L.bcall rfl Try.func17 go17 rfl (.cons (.b1 (.b0 (.vs (k + 3 + 1) hlst (by simp)))) .nil) (cloneN_c (m.q k) [] (by omega)) (fun r h ⟨v, h1, h2⟩ => by subst h1; subst h2; exact ⟨by simp [OkR, Ok1], by simp [OkH, nE, D.flat]⟩) rfl) ?_; rintro _ _ ⟨_, _, rfl, ⟨v, rfl, rfl⟩, rfl⟩)
      refine XOps.s rfl rfl rfl (Q.idx_arr ar45 rfl rfl (by first | omega | (simp at hg; omega)) (by first | omega | (simp at hg; omega))) ?_
      (refine XOps.loud rfl (L.store (k := 1) ag22 rfl rfl hoff rfl rfl) ?_; rintro _ _ ⟨rfl, rfl⟩)
      refine XOps.nil ?_
      refine W.freezec (n := (m.q k).length) (0 + ((k : Nat) : Int).toNat * 1) (by rw [List.getElem?_set_self (by rw [cellsQ_len]; omega)]; rfl) (by simp) ?_
      refine W.heap ((b3, .cells (cellsQ m ids (k + 1))) :: (id, o) :: (bb, .cells [.ptr b 0]) :: boxH b m ids H) (HLe.cons' (cellsQ_step m ids hk8 (by omega) _) (HLe.refl _)) ?_
      refine W.region ?_
      refine XOps.s rfl rfl rfl (Q.add rfl rfl (wi64 (by first | omega | (dsimp only; omega) | (simp only [List.length_map]; omega)) (by first | omega | (dsimp only; omega) | (simp only [List.length_map]; omega)))) ?_
      refine XOps.s rfl rfl rfl (Q.move_d rfl) ?_
      refine XOps.nil ?_
      refine ⟨k + 1, ?_, ?_, ?_, ?_⟩
      · omega
      · omega
      · exact ⟨by first | rfl | exact int_eq (by omega) | exact len_eq (by simp) | exact int_eq (by simp; done), by first | rfl | exact int_eq (by omega) | exact len_eq (by simp) | exact int_eq (by simp; done), by first | rfl | exact int_eq (by omega) | exact len_eq (by simp) | exact int_eq (by simp; done), by first | rfl | exact int_eq (by omega) | exact len_eq (by simp) | exact int_eq (by simp; done), trivial⟩
      · exact HLe.refl _
    · try simp only [Bool.or_eq_true, Bool.or_eq_false_iff, Bool.and_eq_true, Bool.and_eq_false_iff, decide_eq_true_eq, decide_eq_false_iff_not, Bool.not_eq_true', Bool.not_eq_false', Int.not_lt, Int.not_le, List.length_map] at hc13
      obtain rfl : k = 8 := by omega
      refine W.exit ?_
      refine W.reg ?_
      refine XOps.s rfl rfl rfl (Q.assign_d rfl) ?_
      refine XOps.nil ?_
      refine W.block ?_
      refine W.loop (ι := Nat × Nat × Hp) (fun z => [(0, .yl id), (3, .ptr b3 0), (5, .d (.int .i64 ((z.1 : Int) - 1)))]) (fun z => (b3, .cells (cellsQ m ids 8)) :: (id, o) :: (bb, .cells [.ptr b 0]) :: boxH b m ids z.2.2) (fun z => z.1 ≤ 8 ∧ (allM m.q 8).drop z.2.1 = allM m.q z.1 ∧ z.2.1 + (allM m.q z.1).length = (allM m.q 8).length ∧ J z.2.1 z.2.2) (fun z => z.1) (8, 0, H) ?_ ?_ ?_ ?_
      · exact ⟨Nat.le_refl _, rfl, by simp, h0⟩
      · exact ⟨by first | rfl | exact int_eq (by omega) | exact len_eq (by simp) | exact int_eq (by simp; done), by first | rfl | exact int_eq (by omega) | exact len_eq (by simp) | exact int_eq (by simp; done), by first | rfl | exact int_eq (by omega) | exact len_eq (by simp) | exact int_eq (by simp; done), trivial⟩
      · exact HLe.refl _
      · rintro ⟨k, c, H1⟩ ⟨hk, hdr, hlen, hJ⟩
        dsimp only at hk hdr hlen hJ
        try dsimp only
        refine W.seq ?_
        refine W.reg ?_
        refine XOps.s rfl rfl rfl (Q.move_d rfl) ?_
        refine XOps.s rfl rfl rfl (Q.geq rfl rfl) ?_
        refine XOps.nil ?_
        refine W.cond rfl (fun hc23 => ?_) (fun hc23 => ?_)
        · try simp only [Bool.or_eq_true, Bool.or_eq_false_iff, Bool.and_eq_true, Bool.and_eq_false_iff, decide_eq_true_eq, decide_eq_false_iff_not, Bool.not_eq_true', Bool.not_eq_false', Int.not_lt, Int.not_le, List.length_map] at hc23
          obtain ⟨p, rfl⟩ : ∃ p, k = p + 1 := ⟨k - 1, by omega⟩
          have hp : p < 8 := by omega
          rw [show ((p + 1 : Nat) : Int) - 1 = (p : Int) by omega]
          have hlp := hm3 p
          have hcell2 : (cellsQ m ids 8)[0 + ((p : Nat) : Int).toNat * 1]? = some (.d (slN (m.q p))) := by rw [show 0 + ((p : Nat) : Int).toNat * 1 = p by omega, cellsQ_at _ _ _ hp, if_pos hp]
          have hnx := allM_next hdr
          refine W.skip ?_
          refine W.seq ?_
          refine W.block ?_
          refine W.reg ?_
          refine XOps.s rfl rfl rfl (Q.move_d rfl) ?_
          refine XOps.s rfl rfl rfl (Q.idx_arr ar45 rfl rfl (by first | omega | (simp at hg; omega)) (by first | omega | (simp at hg; omega))) ?_
          refine XOps.s rfl rfl rfl (Q.ld_ptr (k := 0) ag22 rfl rfl hcell2) ?_
          refine XOps.s rfl rfl rfl (Q.len_sl isl22 rfl) ?_
          refine XOps.s rfl rfl rfl (Q.move_d rfl) ?_
          refine XOps.nil ?_
          refine W.block ?_
          refine W.loop (ι := Nat × Hp) (fun z => [(0, .yl id), (3, .ptr b3 0), (5, .d (.int .i64 (p : Nat))), (28, .d (slN (m.q p))), (29, .d (.int .i64 (m.q p).length)), (30, .d (.int .i64 (z.1 : Nat)))]) (fun z => (b3, .cells (cellsQ m ids 8)) :: (id, o) :: (bb, .cells [.ptr b 0]) :: boxH b m ids z.2) (fun z => z.1 ≤ (m.q p).length ∧ J (c + z.1) z.2) (fun z => (m.q p).length - z.1) (0, H1) ?_ ?_ ?_ ?_
          · exact ⟨Nat.zero_le _, hJ⟩
          · exact ⟨by first | rfl | exact int_eq (by omega) | exact len_eq (by simp) | exact int_eq (by simp; done), by first | rfl | exact int_eq (by omega) | exact len_eq (by simp) | exact int_eq (by simp; done), by first | rfl | exact int_eq (by omega) | exact len_eq (by simp) | exact int_eq (by simp; done), by first | rfl | exact int_eq (by omega) | exact len_eq (by simp) | exact int_eq (by simp; done), by first | rfl | exact int_eq (by omega) | exact len_eq (by simp) | exact int_eq (by simp; done), by first | rfl | exact int_eq (by omega) | exact len_eq (by simp) | exact int_eq (by simp; done), trivial⟩
          · exact HLe.refl _
          · rintro ⟨j, H2⟩ ⟨hj, hJ2⟩
            dsimp only at hj hJ2
            try dsimp only
            refine W.reg ?_
            refine XOps.s rfl rfl rfl (Q.lss rfl rfl) ?_
            refine XOps.nil ?_
            refine W.seq ?_
            refine W.cond rfl (fun hc31 => ?_) (fun hc31 => ?_)
            · try simp only [Bool.or_eq_true, Bool.or_eq_false_iff, Bool.and_eq_true, Bool.and_eq_false_iff, decide_eq_true_eq, decide_eq_false_iff_not, Bool.not_eq_true', Bool.not_eq_false', Int.not_lt, Int.not_le, List.length_map] at hc31
              obtain ⟨x, hx⟩ : ∃ x, (m.q p)[j]? = some x := ⟨_, List.getElem?_eq_getElem (by omega)⟩
              refine W.skip ?_
              refine W.seq ?_
              refine W.block ?_
              refine W.reg ?_
              refine XOps.s rfl rfl rfl (Q.idx_sl sl22 (by decide) rfl rfl (by first | omega | (simp only [List.length_map]; omega)) (by first | exact map_at hx | exact map_at0 hx)) ?_
              refine XOps.s rfl rfl rfl (Q.ld_dp ag3 rfl rfl) ?_
              refine XOps.s rfl rfl rfl (Q.assign_d rfl) ?_
              refine XOps.nil ?_
              refine W.reg ?_
              refine XOps.s rfl rfl rfl (Q.move rfl) ?_
              refine XOps.s rfl rfl rfl (Q.move_d rfl) ?_
              refine XOps.s rfl rfl rfl (Q.move_d rfl) ?_
              (refine XOps.loud rfl (L.ycall rfl rfl (YC.le (hy (c + j) p x H2 ((b3, .cells (cellsQ m ids 8)) :: (bb, .cells [.ptr b 0]) :: boxH b m ids []) hJ2 (allM_at hdr hx)) (HLe.perm (by rw [box_tail b m ids H2]; exact yperm _ _ _ _ _))) rfl) ?_; rintro _ _ ⟨_, rfl, rfl, H3, hJ3, rfl⟩)
              refine XOps.s rfl rfl rfl (Q.not rfl) ?_
              refine XOps.nil ?_
              refine W.heap ((b3, .cells (cellsQ m ids 8)) :: (id, o) :: (bb, .cells [.ptr b 0]) :: boxH b m ids H3) (HLe.perm (by rw [box_tail b m ids H3]; exact (yperm _ _ _ _ _).symm)) ?_
              refine W.cond_f rfl ?_
              refine W.skip ?_
              refine W.region ?_
              refine XOps.s rfl rfl rfl (Q.add rfl rfl (wi64 (by first | omega | (dsimp only; omega) | (simp only [List.length_map]; omega)) (by first | omega | (dsimp only; omega) | (simp only [List.length_map]; omega)))) ?_
              refine XOps.s rfl rfl rfl (Q.move_d rfl) ?_
              refine XOps.nil ?_
              refine ⟨(j + 1, H3), ?_, ?_, ?_, ?_⟩
              · exact ⟨by dsimp only; omega, hJ3⟩
              · dsimp only; omega
              · exact ⟨by first | rfl | exact int_eq (by omega) | exact len_eq (by simp) | exact int_eq (by simp; done), by first | rfl | exact int_eq (by omega) | exact len_eq (by simp) | exact int_eq (by simp; done), by first | rfl | exact int_eq (by omega) | exact len_eq (by simp) | exact int_eq (by simp; done), by first | rfl | exact int_eq (by omega) | exact len_eq (by simp) | exact int_eq (by simp; done), by first | rfl | exact int_eq (by omega) | exact len_eq (by simp) | exact int_eq (by simp; done), by first | rfl | exact int_eq (by omega) | exact len_eq (by simp) | exact int_eq (by simp; done), trivial⟩
              · exact HLe.refl _
            · try simp only [Bool.or_eq_true, Bool.or_eq_false_iff, Bool.and_eq_true, Bool.and_eq_false_iff, decide_eq_true_eq, decide_eq_false_iff_not, Bool.not_eq_true', Bool.not_eq_false', Int.not_lt, Int.not_le, List.length_map] at hc31
              obtain rfl : j = (m.q p).length := by omega
              refine W.exit ?_
              refine W.region ?_
              refine XOps.s rfl rfl rfl (Q.move_d rfl) ?_
              refine XOps.s rfl rfl rfl (Q.sub rfl rfl (wi64 (by first | omega | (dsimp only; omega) | (simp only [List.length_map]; omega)) (by first | omega | (dsimp only; omega) | (simp only [List.length_map]; omega)))) ?_
              refine XOps.s rfl rfl rfl (Q.assign_d rfl) ?_
              refine XOps.nil ?_
              refine ⟨(p, c + (m.q p).length, H2), ?_, ?_, ?_, ?_⟩
              · exact ⟨by dsimp only; omega, hnx, by dsimp only; have h9 := hlen; rw [allM, List.length_append, List.length_map] at h9; omega, hJ2⟩
              · dsimp only; omega
              · exact ⟨by first | rfl | exact int_eq (by omega) | exact len_eq (by simp) | exact int_eq (by simp; done), by first | rfl | exact int_eq (by omega) | exact len_eq (by simp) | exact int_eq (by simp; done), by first | rfl | exact int_eq (by dsimp only; omega), trivial⟩
              · exact HLe.refl _
        · try simp only [Bool.or_eq_true, Bool.or_eq_false_iff, Bool.and_eq_true, Bool.and_eq_false_iff, decide_eq_true_eq, decide_eq_false_iff_not, Bool.not_eq_true', Bool.not_eq_false', Int.not_lt, Int.not_le, List.length_map] at hc23
          obtain rfl : k = 0 := by omega
          obtain rfl : c = (allM m.q 8).length := by simpa [allM] using hlen
          refine W.exit ?_
          exact ⟨_, (id, o) :: (bb, .cells [.ptr b 0]) :: boxH b m ids H1, rfl, HLe.skip _ (HLe.refl _), rfl, H1, hJ, rfl⟩
end Go.Proofs.YtdkeenmmhkhecaaA
