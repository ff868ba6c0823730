/- The law ContactOne. -/
import Derived.Test.YtaegecnjimbfbaaBase
import Derived.Test.YtaegecnjimbfbaaWalkB
set_option linter.unusedVariables false
set_option linter.unusedSimpArgs false
set_option linter.unnecessarySimpa false
namespace Go.Proofs.YtaegecnjimbfbaaA.FWalkC
open Go
theorem ag27 : tAgg P 27 = some ((true, 3)) := by kernel_rfl
theorem ag3 : tAgg P 3 = some ((false, 1)) := by kernel_rfl
theorem ag9 : tAgg P 9 = some ((false, 1)) := by kernel_rfl
theorem fl27_0 : tFld P 27 0 = some (0) := by kernel_rfl
theorem fl27_1 : tFld P 27 1 = some (1) := by kernel_rfl
theorem fl27_2 : tFld P 27 2 = some (2) := by kernel_rfl
theorem go10 : callGo Go.Proofs.Try.f10 = true := by kernel_rfl
theorem go11 : callGo Go.Proofs.Try.f11 = true := by kernel_rfl
theorem go5 : callGo Go.Proofs.Try.f5 = true := by kernel_rfl
theorem go6 : callGo Go.Proofs.Try.f6 = true := by kernel_rfl
theorem go7 : callGo Go.Proofs.Try.f7 = true := by kernel_rfl
theorem go8 : callGo Go.Proofs.Try.f8 = true := by kernel_rfl
theorem go9 : callGo Go.Proofs.Try.f9 = true := by kernel_rfl
theorem ipt23 : isPtr P 23 = true := by kernel_rfl
theorem isl22 : isSl P 22 = true := by kernel_rfl
theorem isl31 : isSl P 31 = true := by kernel_rfl
theorem pl41 : tPl P 41 = some ([(0, 1)]) := by kernel_rfl
theorem sl22 : tSl P 22 = some (3) := by kernel_rfl
theorem tz27 : tZero P 27 = some ([.string ⟨#[]⟩, .int .i64 0, .int .i64 0]) := by kernel_rfl
theorem tz41 : tZero P 41 = some ([.slice none 0 0]) := by kernel_rfl
end Go.Proofs.YtaegecnjimbfbaaA.FWalkC
namespace Go.Proofs.YtaegecnjimbfbaaA
open Go FWalkC
set_option maxHeartbeats 1000000 in
set_option maxRecDepth 100000 in
theorem new_c (hs : Hp) : AC P 5 [] hs (fun r h => ∃ b id, r = .ptr b 0 ∧ h = stC b [] id hs) := by
  refine AC.of 3 Try.func5 rfl rfl rfl ?_
  refine W.reg ?_
  refine XOps.s rfl rfl rfl (Q.assign_d rfl) ?_
  refine XOps.nil ?_
  refine W.reg ?_
  refine XOps.s rfl rfl rfl (Q.buildS pl41 tz41 rfl rfl) ?_
  (refine XOps.loud rfl (L.boxv rfl rfl) ?_; rintro _ _ ⟨b2, rfl, rfl⟩)
  refine XOps.s rfl rfl rfl (Q.assign_ptr rfl) ?_
  refine XOps.nil ?_
  refine W.ghostc 0 0 3 (by decide) rfl rfl (fun v => ?_)
  refine W.ret ?_
  exact ⟨_, stC b2 [] v hs, rfl, HLe.trans (HLe.perm (List.Perm.swap _ _ _)) (HLe.cons _ (HLe.cons _ (HLe.refl _))), b2, v, rfl, rfl⟩

theorem any_seq {l : List ByteArray} {c : ByteArray} (h : c ∈ l) : (l.any fun n => seq c n) = true := List.any_eq_true.2 ⟨c, h, seq_refl c⟩
theorem cut12 {l : List Ct} (m : Nat) : ((l.take (min (((l.map Ct.enc).length : Nat) : Int) m).toNat).drop (0 : Int).toNat).map Ct.enc = (l.take (min l.length m)).map Ct.enc := by
  rw [List.length_map, show (min ((l.length : Nat) : Int) m).toNat = min l.length m by omega]; rfl
theorem manyK_b (l : List Ct) (k : Nat) (h : k ≤ l.length) : manyK l k ≤ l.length := by rw [manyK_cov l k h]; exact List.countP_le_length
def firstJ (l : List Ct) (j : Nat) (f : Int) : Bool := (l.take j).all fun y => !decide (y.f = f)
theorem firstJ_succ {l : List Ct} {j : Nat} {y : Ct} (h : l[j]? = some y) (f : Int) : firstJ l (j + 1) f = (firstJ l j f && !decide (y.f = f)) := by
  unfold firstJ; rw [List.take_add_one, h, Option.toList_some, List.all_append]; simp
theorem firstJ_all (l : List Ct) (k : Nat) (f : Int) : firstJ (l.take k) (l.take k).length f = firstIn l k f := by
  unfold firstJ firstIn; rw [List.take_length]
  congr 1; funext y; by_cases h : y.f = f <;> simp [h]

set_option maxHeartbeats 1000000 in
set_option maxRecDepth 100000 in
theorem one_c (l : List Ct) (hs : Hp) (hL : l.length * 32 ≤ 140737488355328) (hc : ∀ x ∈ l, x.call.size ≤ 140737488351232) : AC P 3 [.d (.sl 3 (l.map Ct.enc))] hs (fun r h => r = .d (.bool true)) := by
  refine AC.of 121 Try.func3 rfl rfl rfl ?_
  refine W.reg ?_
  refine XOps.s rfl rfl rfl (Q.assign_d rfl) ?_
  refine XOps.nil ?_
  refine W.reg ?_
  (refine XOps.loud rfl (L.call rfl Try.func5 go5 rfl (new_c _) rfl) ?_; rintro _ _ ⟨_, rfl, b, id0, rfl, rfl⟩)
  refine XOps.s rfl rfl rfl (Q.assign_ptr rfl) ?_
  refine XOps.nil ?_
  refine W.seq ?_
  refine W.reg ?_
  refine XOps.s rfl rfl rfl (Q.move_ptr rfl) ?_
  refine XOps.s rfl rfl rfl (Q.eql_ptr ipt23 rfl rfl) ?_
  refine XOps.s rfl rfl rfl (Q.move_d rfl) ?_
  refine XOps.gs rfl rfl rfl rfl rfl rfl rfl (fun hg => Q.call rfl Try.func6 go6 rfl (valid_c 118000 _)) ?_
  refine XOps.gs rfl rfl rfl rfl rfl rfl rfl (fun hg => Quiet.open 18 hg rfl (Q.not rfl)) ?_
  refine XOps.s rfl rfl rfl (Q.pick_or rfl rfl rfl (fun h => by first | (rw [h]; rfl) | (rw [hg, h]; rfl) | (simp [h, hg]; done))) ?_
  refine XOps.s rfl rfl rfl (Q.move_d rfl) ?_
  refine XOps.gs rfl rfl rfl rfl rfl rfl rfl (fun hg => Q.call rfl Try.func6 go6 rfl (valid_c 118010 _)) ?_
  refine XOps.s rfl rfl rfl (Q.pick_or rfl rfl rfl (fun h => by first | (rw [h]; rfl) | (rw [hg, h]; rfl) | (simp [h, hg]; done))) ?_
  refine XOps.nil ?_
  refine W.cond rfl (fun hc23 => ?_) (fun hc23 => ?_)
  · try simp only [Bool.or_eq_true, Bool.or_eq_false_iff, Bool.and_eq_true, Bool.and_eq_false_iff, decide_eq_true_eq, decide_eq_false_iff_not, Bool.not_eq_true', Bool.not_eq_false', Int.not_lt, Int.not_le, List.length_map] at hc23
    exfalso; revert hc23; simp [validF] --done
  · try simp only [Bool.or_eq_true, Bool.or_eq_false_iff, Bool.and_eq_true, Bool.and_eq_false_iff, decide_eq_true_eq, decide_eq_false_iff_not, Bool.not_eq_true', Bool.not_eq_false', Int.not_lt, Int.not_le, List.length_map] at hc23
    refine W.skip ?_
    refine W.seq ?_
    refine W.reg ?_
    refine XOps.s rfl rfl rfl (Q.move_d rfl) ?_
    refine XOps.s rfl rfl rfl (Q.move_d rfl) ?_
    refine XOps.s rfl rfl rfl (Q.len_sl isl22 rfl) ?_
    refine XOps.s rfl rfl rfl (Q.mini rfl rfl) ?_
    refine XOps.s rfl rfl rfl (Q.cut_slm sl22 rfl rfl rfl (by omega) (by omega) (by simp; omega)) ?_
    refine XOps.s rfl rfl rfl (Q.len_sl isl22 rfl) ?_
    refine XOps.s rfl rfl rfl (Q.move_d rfl) ?_
    refine XOps.nil ?_
    refine W.block ?_
    refine W.loop (ι := Nat × Nat) (fun p => [(3, .ptr b 0), (28, .d (.sl 3 ((l.take (min l.length 12)).map Ct.enc))), (29, .d (.int .i64 (min l.length 12 : Nat))), (30, .d (.int .i64 p.1))]) (fun p => stC b (tuneK l p.1) p.2 hs) (fun p => p.1 ≤ min l.length 12) (fun p => min l.length 12 - p.1) (0, id0) ?_ ?_ ?_ ?_
    · exact Nat.zero_le _
    · exact ⟨by first | rfl | exact int_eq (by omega) | exact len_eq (by simp) | exact int_eq (by simp; done), by exact congrArg (fun z => AV.d (.sl 3 z)) (cut12 12), by exact len_eq (by simp; omega), by first | rfl | exact int_eq (by omega) | exact len_eq (by simp) | exact int_eq (by simp; done), trivial⟩
    · repeat (first | exact HLe.refl _ | refine HLe.cons' (by first | rfl | (simp; done)) ?_ | refine HLe.pick 1 rfl (by first | rfl | (simp; done)) ?_ | refine HLe.pick 2 rfl (by first | rfl | (simp; done)) ?_ | refine HLe.pick 3 rfl (by first | rfl | (simp; done)) ?_ | refine HLe.pick 4 rfl (by first | rfl | (simp; done)) ?_ | refine HLe.pick 5 rfl (by first | rfl | (simp; done)) ?_ | refine HLe.skip _ ?_)
    · rintro ⟨k, id⟩ hk
      try dsimp only at hk ⊢
      refine W.reg ?_
      refine XOps.s rfl rfl rfl (Q.lss rfl rfl) ?_
      refine XOps.nil ?_
      refine W.seq ?_
      refine W.cond rfl (fun hc31 => ?_) (fun hc31 => ?_)
      · try simp only [Bool.or_eq_true, Bool.or_eq_false_iff, Bool.and_eq_true, Bool.and_eq_false_iff, decide_eq_true_eq, decide_eq_false_iff_not, Bool.not_eq_true', Bool.not_eq_false', Int.not_lt, Int.not_le, List.length_map] at hc31
        obtain ⟨x, hx⟩ : ∃ x, (l.take (min l.length 12))[k]? = some x := ⟨_, List.getElem?_eq_getElem (by simp; omega)⟩
        have hxl : l[k]? = some x := by rw [List.getElem?_take] at hx; split at hx <;> first | (cases hx; done) | exact hx
        have htk := tuneK_ok l k
        have hst := tuneK_succ hxl
        refine W.skip ?_
        refine W.seq ?_
        refine W.block ?_
        refine W.reg ?_
        refine XOps.s rfl rfl rfl (Q.idx_sl sl22 (by decide) rfl rfl (by first | omega | (simp only [List.length_map]; omega)) (by first | exact map_at hx | exact map_at0 hx | exact map_at hy2 | exact map_atI hy)) ?_
        refine XOps.s rfl rfl rfl (Q.ld_dpn ag27 rfl rfl) ?_
        (refine XOps.loud rfl (L.alloc tz27 rfl rfl) ?_; rintro _ _ ⟨b5, rfl, rfl⟩)
        refine XOps.loud rfl (L.storen (k := 0) ag27 rfl rfl rfl rfl rfl) ?_
        rintro _ _ ⟨rfl, rfl⟩
        refine XOps.nil ?_
        refine W.reg ?_
        refine XOps.s rfl rfl rfl (Q.move_ptr rfl) ?_
        refine XOps.s rfl rfl rfl (Q.fld_ptr fl27_0 rfl) ?_
        refine XOps.s rfl rfl rfl (Q.ld_ptr (k := 0) ag9 rfl rfl rfl) ?_
        refine XOps.s rfl rfl rfl (Q.fld_ptr fl27_1 rfl) ?_
        refine XOps.s rfl rfl rfl (Q.ld_ptr (k := 0) ag3 rfl rfl rfl) ?_
        refine XOps.s rfl rfl rfl (Q.fld_ptr fl27_2 rfl) ?_
        refine XOps.s rfl rfl rfl (Q.ld_ptr (k := 0) ag3 rfl rfl rfl) ?_
        (refine XOps.loud rfl (L.call rfl Try.func7 go7 rfl (AC.le (tune_c b id (tuneK l k) x.call x.f x.t ((b5, .cells (x.enc.map .d)) :: hs) htk.1 (by omega) (hc x (List.mem_of_getElem? hxl))) (HLe.pick 1 rfl rfl (HLe.pick 1 rfl rfl (HLe.refl _)))) rfl) ?_; rintro _ _ ⟨_, rfl, id2, rfl, rfl⟩)
        refine XOps.s rfl rfl rfl (Q.assign_d rfl) ?_
        refine XOps.nil ?_
        refine W.drawreg 12 follows (by kernel_rfl) ?_
        refine Chain.cons _ (GQ.q rfl (Q.move_d rfl)) rfl ?_
        refine Chain.cons _ (GQ.q rfl (Q.eql rfl rfl)) rfl ?_
        refine Chain.cons _ (GQ.q rfl (Q.move_d rfl)) rfl ?_
        refine Chain.cons _ (GQ.g rfl rfl rfl rfl rfl (fun hg => Q.move_ptr rfl)) rfl ?_
        refine Chain.cons _ (GQ.g rfl rfl rfl rfl rfl (fun hg => Q.fld_ptr fl27_1 rfl)) rfl ?_
        refine Chain.cons _ (GQ.g rfl rfl rfl rfl rfl (fun hg => Quiet.open 46 hg rfl (Q.ld_ptr (k := 2) ag3 rfl rfl rfl))) rfl ?_
        refine Chain.cons _ (GQ.g rfl rfl rfl rfl rfl (fun hg => Quiet.open 45 hg rfl (Quiet.open 47 hg rfl (Q.call rfl Try.func9 go9 rfl (on_c b id2 (tuneL (tuneK l k) x.call x.f x.t) x.f _ (by have := tuneL_len (tuneK l k) x.call x.f x.t; omega)))))) rfl ?_
        refine Chain.cons _ (GQ.g rfl rfl rfl rfl rfl (fun hg => Q.fld_ptr fl27_0 rfl)) rfl ?_
        refine Chain.cons _ (GQ.g rfl rfl rfl rfl rfl (fun hg => Quiet.open 49 hg rfl (Q.ld_ptr (k := 2) ag9 rfl rfl rfl))) rfl ?_
        refine Chain.cons _ (GQ.g rfl rfl rfl rfl rfl (fun hg => Quiet.open 48 hg rfl (Quiet.open 50 hg rfl (Q.call rfl Try.func8 go8 rfl (containsS_c (onS (tuneL (tuneK l k) x.call x.f x.t) x.f) x.call _ (by have := tuneL_len (tuneK l k) x.call x.f x.t; have := onS_len (tuneL (tuneK l k) x.call x.f x.t) x.f; omega)))))) rfl ?_
        refine Chain.cons _ (GQ.g rfl rfl rfl rfl rfl (fun hg => Quiet.open 51 hg rfl (Q.not rfl))) rfl ?_
        refine Chain.cons _ (GQ.q rfl (Q.pick_and rfl rfl rfl (fun h => by first | (rw [h]; rfl) | (rw [hg, h]; rfl) | (simp [h, hg]; done)))) rfl ?_
        refine Chain.nil ?_
        refine XOps.nil ?_
        refine W.cond rfl (fun hc53 => ?_) (fun hc53 => ?_)
        · try simp only [Bool.or_eq_true, Bool.or_eq_false_iff, Bool.and_eq_true, Bool.and_eq_false_iff, decide_eq_true_eq, decide_eq_false_iff_not, Bool.not_eq_true', Bool.not_eq_false', Int.not_lt, Int.not_le, List.length_map] at hc53
          exfalso
          rw [any_seq (onS_mem (tuneL_in hc53.1))] at hc53
          simp at hc53 --done
        · try simp only [Bool.or_eq_true, Bool.or_eq_false_iff, Bool.and_eq_true, Bool.and_eq_false_iff, decide_eq_true_eq, decide_eq_false_iff_not, Bool.not_eq_true', Bool.not_eq_false', Int.not_lt, Int.not_le, List.length_map] at hc53
          refine W.skip ?_
          refine W.region ?_
          refine XOps.s rfl rfl rfl (Q.add rfl rfl (wi64 (by first | omega | (dsimp only; omega) | (simp only [List.length_map]; omega)) (by first | omega | (dsimp only; omega) | (simp only [List.length_map]; omega)))) ?_
          refine XOps.s rfl rfl rfl (Q.move_d rfl) ?_
          refine XOps.nil ?_
          refine ⟨(k + 1, id2), ?_, ?_, ?_, ?_⟩
          · show k + 1 ≤ min l.length 12; omega
          · show min l.length 12 - (k + 1) < min l.length 12 - k; omega
          · exact ⟨by first | rfl | exact int_eq (by omega) | exact len_eq (by simp) | exact int_eq (by simp; done), by first | rfl | exact int_eq (by omega) | exact len_eq (by simp) | exact int_eq (by simp; done), by first | rfl | exact int_eq (by omega) | exact len_eq (by simp) | exact int_eq (by simp; done), by first | rfl | exact int_eq (by omega) | exact len_eq (by simp) | exact int_eq (by simp; done), trivial⟩
          · try dsimp only
            rw [hst]
            repeat (first | exact HLe.refl _ | refine HLe.cons' (by first | rfl | (simp; done)) ?_ | refine HLe.pick 1 rfl (by first | rfl | (simp; done)) ?_ | refine HLe.pick 2 rfl (by first | rfl | (simp; done)) ?_ | refine HLe.pick 3 rfl (by first | rfl | (simp; done)) ?_ | refine HLe.pick 4 rfl (by first | rfl | (simp; done)) ?_ | refine HLe.pick 5 rfl (by first | rfl | (simp; done)) ?_ | refine HLe.skip _ ?_)
      · try simp only [Bool.or_eq_true, Bool.or_eq_false_iff, Bool.and_eq_true, Bool.and_eq_false_iff, decide_eq_true_eq, decide_eq_false_iff_not, Bool.not_eq_true', Bool.not_eq_false', Int.not_lt, Int.not_le, List.length_map] at hc31
        obtain rfl : k = min l.length 12 := by omega
        have hMok := tuneK_ok l (min l.length 12)
        generalize hM : (tuneK l (min l.length 12)) = M at hMok ⊢
        refine W.exit ?_
        refine W.reg ?_
        refine XOps.s rfl rfl rfl (Q.assign_d rfl) ?_
        refine XOps.nil ?_
        refine W.reg ?_
        refine XOps.s rfl rfl rfl (Q.move_ptr rfl) ?_
        (refine XOps.loud rfl (L.call rfl Try.func10 go10 rfl (list_c b id M _ (by omega)) rfl) ?_; rintro _ _ ⟨_, rfl, v56, rfl, rfl⟩)
        refine XOps.s rfl rfl rfl (Q.assign_vs rfl) ?_
        refine XOps.nil ?_
        refine W.seq ?_
        refine W.freeze 8 0 rfl rfl (by simp) ?_
        refine W.reg ?_
        refine XOps.s rfl rfl rfl (Q.move_d rfl) ?_
        refine XOps.s rfl rfl rfl (Q.len_sl isl22 rfl) ?_
        refine XOps.s rfl rfl rfl (Q.move_d rfl) ?_
        refine XOps.nil ?_
        refine W.block ?_
        refine W.loop (ι := Nat) (fun k => [(3, .ptr b 0), (7, .d (.int .i64 (manyK M k : Nat))), (8, .d (.sl 3 (M.map Ct.enc))), (57, .d (.sl 3 (M.map Ct.enc))), (58, .d (.int .i64 M.length)), (59, .d (.int .i64 k))]) (fun k => stC b M id hs) (fun k => k ≤ M.length) (fun k => M.length - k) 0 ?_ ?_ ?_ ?_
        · exact Nat.zero_le _
        · exact ⟨by first | rfl | exact int_eq (by omega) | exact len_eq (by simp) | exact int_eq (by simp; done), by first | rfl | exact int_eq (by omega) | exact len_eq (by simp) | exact int_eq (by simp; done), by first | rfl | exact int_eq (by omega) | exact len_eq (by simp) | exact int_eq (by simp; done), by first | rfl | exact int_eq (by omega) | exact len_eq (by simp) | exact int_eq (by simp; done), by first | rfl | exact int_eq (by omega) | exact len_eq (by simp) | exact int_eq (by simp; done), by first | rfl | exact int_eq (by omega) | exact len_eq (by simp) | exact int_eq (by simp; done), trivial⟩
        · repeat (first | exact HLe.refl _ | refine HLe.cons' (by first | rfl | (simp; done)) ?_ | refine HLe.pick 1 rfl (by first | rfl | (simp; done)) ?_ | refine HLe.pick 2 rfl (by first | rfl | (simp; done)) ?_ | refine HLe.pick 3 rfl (by first | rfl | (simp; done)) ?_ | refine HLe.pick 4 rfl (by first | rfl | (simp; done)) ?_ | refine HLe.pick 5 rfl (by first | rfl | (simp; done)) ?_ | refine HLe.skip _ ?_)
        · rintro k hk
          try dsimp only
          refine W.reg ?_
          refine XOps.s rfl rfl rfl (Q.lss rfl rfl) ?_
          refine XOps.nil ?_
          refine W.seq ?_
          refine W.cond rfl (fun hc60 => ?_) (fun hc60 => ?_)
          · try simp only [Bool.or_eq_true, Bool.or_eq_false_iff, Bool.and_eq_true, Bool.and_eq_false_iff, decide_eq_true_eq, decide_eq_false_iff_not, Bool.not_eq_true', Bool.not_eq_false', Int.not_lt, Int.not_le, List.length_map] at hc60
            obtain ⟨x, hx⟩ : ∃ x, M[k]? = some x := ⟨_, List.getElem?_eq_getElem (by simp at hc60; omega)⟩
            obtain ⟨y, hy⟩ : ∃ y, M[((k : Int) - 1).toNat]? = some y := ⟨_, List.getElem?_eq_getElem (by have := (List.getElem?_eq_some_iff.1 hx).1; omega)⟩
            have hkM := (List.getElem?_eq_some_iff.1 hx).1
            have hmk : manyK M (k + 1) = if firstIn M k x.f = true then manyK M k + (onS M x.f).length else manyK M k := by rw [manyK, hx]
            have hmb := manyK_b M k (by omega)
            have hob := onS_len M x.f
            refine W.skip ?_
            refine W.seq ?_
            refine W.block ?_
            refine W.reg ?_
            refine XOps.s rfl rfl rfl (Q.move_d rfl) ?_
            refine XOps.s rfl rfl rfl (Q.idx_sl sl22 (by decide) rfl rfl (by first | omega | (simp only [List.length_map]; omega)) (by first | exact map_at hx | exact map_at0 hx | exact map_at hy2 | exact map_atI hy)) ?_
            refine XOps.s rfl rfl rfl (Q.ld_dpn ag27 rfl rfl) ?_
            (refine XOps.loud rfl (L.alloc tz27 rfl rfl) ?_; rintro _ _ ⟨b10, rfl, rfl⟩)
            refine XOps.s rfl rfl rfl (Q.assign_d rfl) ?_
            refine XOps.loud rfl (L.storen (k := 0) ag27 rfl rfl rfl rfl rfl) ?_
            rintro _ _ ⟨rfl, rfl⟩
            refine XOps.nil ?_
            refine W.heap (stC b M id ((b10, .cells (x.enc.map .d)) :: hs)) (HLe.pick 1 rfl rfl (HLe.pick 1 rfl rfl (HLe.refl _))) ?_
            refine W.seq ?_
            refine W.drawreg 27 follows (by kernel_rfl) ?_
            refine Chain.cons _ (GQ.q rfl (Q.move_d rfl)) rfl ?_
            refine Chain.cons _ (GQ.q rfl (Q.gtr rfl rfl)) rfl ?_
            refine Chain.cons _ (GQ.q rfl (Q.move_d rfl)) rfl ?_
            refine Chain.cons _ (GQ.g rfl rfl rfl rfl rfl (fun hg => Q.fld_ptr fl27_0 rfl)) rfl ?_
            refine Chain.cons _ (GQ.g rfl rfl rfl rfl rfl (fun hg => Quiet.open 67 hg rfl (Q.ld_ptr (k := 2) ag9 rfl rfl rfl))) rfl ?_
            refine Chain.cons _ (GQ.g rfl rfl rfl rfl rfl (fun hg => Q.move_d rfl)) rfl ?_
            refine Chain.cons _ (GQ.g rfl rfl rfl rfl rfl (fun hg => Q.move_d rfl)) rfl ?_
            refine Chain.cons _ (GQ.g rfl rfl rfl rfl rfl (fun hg => Quiet.open 70 hg rfl (Q.sub rfl rfl (wi64 (by first | omega | (dsimp only; omega) | (simp only [List.length_map]; omega)) (by first | omega | (dsimp only; omega) | (simp only [List.length_map]; omega)))))) rfl ?_
            refine Chain.cons _ (GQ.g rfl rfl rfl rfl rfl (fun hg => Quiet.open 69 hg rfl (Quiet.open 71 hg rfl (Q.idx_sl sl22 (by decide) rfl rfl (by simp at hg; omega) (map_atI hy))))) rfl ?_
            refine Chain.cons _ (GQ.g rfl rfl rfl rfl rfl (fun hg => Quiet.open 72 hg rfl (Q.fld_dp fl27_0 rfl))) rfl ?_
            refine Chain.cons _ (GQ.g rfl rfl rfl rfl rfl (fun hg => Quiet.open 73 hg rfl (Q.ld_dp ag9 rfl rfl))) rfl ?_
            refine Chain.cons _ (GQ.g rfl rfl rfl rfl rfl (fun hg => Quiet.open 68 hg rfl (Quiet.open 74 hg rfl (Q.leq_str rfl rfl)))) rfl ?_
            refine Chain.cons _ (GQ.q rfl (Q.pick_and rfl rfl rfl (fun h => by first | (rw [h]; rfl) | (rw [hg, h]; rfl) | (simp [h, hg]; done)))) rfl ?_
            refine Chain.cons _ (GQ.q rfl (Q.move_d rfl)) rfl ?_
            refine Chain.cons _ (GQ.g rfl rfl rfl rfl rfl (fun hg => Q.fld_ptr fl27_1 rfl)) rfl ?_
            refine Chain.cons _ (GQ.g rfl rfl rfl rfl rfl (fun hg => Quiet.open 78 hg rfl (Q.ld_ptr (k := 2) ag3 rfl rfl rfl))) rfl ?_
            refine Chain.cons _ (GQ.g rfl rfl rfl rfl rfl (fun hg => Quiet.open 79 hg rfl (Q.call rfl Try.func6 go6 rfl (valid_c x.f _)))) rfl ?_
            refine Chain.cons _ (GQ.g rfl rfl rfl rfl rfl (fun hg => Quiet.open 80 hg rfl (Q.not rfl))) rfl ?_
            refine Chain.cons _ (GQ.q rfl (Q.pick_or rfl rfl rfl (fun h => by first | (rw [h]; rfl) | (rw [hg, h]; rfl) | (simp [h, hg]; done)))) rfl ?_
            refine Chain.cons _ (GQ.q rfl (Q.move_d rfl)) rfl ?_
            refine Chain.cons _ (GQ.g rfl rfl rfl rfl rfl (fun hg => Q.move_ptr rfl)) rfl ?_
            refine Chain.cons _ (GQ.g rfl rfl rfl rfl rfl (fun hg => Q.fld_ptr fl27_1 rfl)) rfl ?_
            refine Chain.cons _ (GQ.g rfl rfl rfl rfl rfl (fun hg => Quiet.open 85 hg rfl (Q.ld_ptr (k := 2) ag3 rfl rfl rfl))) rfl ?_
            refine Chain.cons _ (GQ.g rfl rfl rfl rfl rfl (fun hg => Quiet.open 84 hg rfl (Quiet.open 86 hg rfl (Q.call rfl Try.func9 go9 rfl (on_c b id M x.f ((b10, .cells (x.enc.map .d)) :: hs) (by omega)))))) rfl ?_
            refine Chain.cons _ (GQ.g rfl rfl rfl rfl rfl (fun hg => Quiet.open 87 hg rfl (Q.call rfl Try.func11 go11 rfl (sorted_c (onS M x.f) _ (by have := onS_len M x.f; omega) (onS_srt hMok.1 x.f))))) rfl ?_
            refine Chain.cons _ (GQ.g rfl rfl rfl rfl rfl (fun hg => Quiet.open 88 hg rfl (Q.not rfl))) rfl ?_
            refine Chain.cons _ (GQ.q rfl (Q.pick_or rfl rfl rfl (fun h => by first | (rw [h]; rfl) | (rw [hg, h]; rfl) | (simp [h, hg]; done)))) rfl ?_
            refine Chain.nil ?_
            refine XOps.nil ?_
            refine W.cond rfl (fun hc90 => ?_) (fun hc90 => ?_)
            · try simp only [Bool.or_eq_true, Bool.or_eq_false_iff, Bool.and_eq_true, Bool.and_eq_false_iff, decide_eq_true_eq, decide_eq_false_iff_not, Bool.not_eq_true', Bool.not_eq_false', Int.not_lt, Int.not_le, List.length_map] at hc90
              exfalso
              have hv := (hMok.1.val x (List.mem_of_getElem? hx)).1
              rw [hv] at hc90
              have hq : 0 < (k : Int) ∧ (Op.bytesLess x.call.toList y.call.toList || x.call.toList == y.call.toList) = true := by
                rcases hc90 with (h | h) | h
                · exact ⟨h.1, by simpa using h.2⟩
                · cases h
                · cases h
              rw [leq_cmpB] at hq
              obtain ⟨h1, h2⟩ := hq
              replace h2 := of_decide_eq_true h2
              have h3 : cmpB y.call x.call < 0 := by
                obtain ⟨a1, rfl⟩ := List.getElem?_eq_some_iff.1 hx
                obtain ⟨a2, rfl⟩ := List.getElem?_eq_some_iff.1 hy
                exact List.pairwise_iff_getElem.1 hMok.1.srt _ _ a2 a1 (by omega)
              rw [cmpB_anti] at h3
              omega --done
            · try simp only [Bool.or_eq_true, Bool.or_eq_false_iff, Bool.and_eq_true, Bool.and_eq_false_iff, decide_eq_true_eq, decide_eq_false_iff_not, Bool.not_eq_true', Bool.not_eq_false', Int.not_lt, Int.not_le, List.length_map] at hc90
              refine W.skip ?_
              refine W.reg ?_
              refine XOps.s rfl rfl rfl (Q.assign_d rfl) ?_
              refine XOps.nil ?_
              refine W.seq ?_
              refine W.reg ?_
              refine XOps.s rfl rfl rfl (Q.move_d rfl) ?_
              refine XOps.s rfl rfl rfl (Q.move_d rfl) ?_
              refine XOps.s rfl rfl rfl (Q.cut_slm sl22 rfl rfl rfl (by omega) (by omega) (by simp; omega)) ?_
              refine XOps.s rfl rfl rfl (Q.len_sl isl22 rfl) ?_
              refine XOps.s rfl rfl rfl (Q.move_d rfl) ?_
              refine XOps.nil ?_
              refine W.block ?_
              refine W.loop (ι := Nat) (fun j => [(3, .ptr b 0), (7, .d (.int .i64 (manyK M k : Nat))), (8, .d (.sl 3 (M.map Ct.enc))), (9, .d (.int .i64 k)), (10, .ptr b10 0), (11, .d (.bool (firstJ (M.take k) j x.f))), (57, .d (.sl 3 (M.map Ct.enc))), (58, .d (.int .i64 M.length)), (59, .d (.int .i64 k)), (93, .d (.sl 3 ((M.take k).map Ct.enc))), (94, .d (.int .i64 (M.take k).length)), (95, .d (.int .i64 j))]) (fun j => stC b M id ((b10, .cells (x.enc.map .d)) :: hs)) (fun j => j ≤ (M.take k).length) (fun j => (M.take k).length - j) 0 ?_ ?_ ?_ ?_
              · exact Nat.zero_le _
              · exact ⟨by first | rfl | exact int_eq (by omega) | exact len_eq (by simp) | exact int_eq (by simp; done), by first | rfl | exact int_eq (by omega) | exact len_eq (by simp) | exact int_eq (by simp; done), by first | rfl | exact int_eq (by omega) | exact len_eq (by simp) | exact int_eq (by simp; done), by first | rfl | exact int_eq (by omega) | exact len_eq (by simp) | exact int_eq (by simp; done), by first | rfl | exact int_eq (by omega) | exact len_eq (by simp) | exact int_eq (by simp; done), by first | rfl | exact int_eq (by omega) | exact len_eq (by simp) | exact int_eq (by simp; done), by first | rfl | exact int_eq (by omega) | exact len_eq (by simp) | exact int_eq (by simp; done), by first | rfl | exact int_eq (by omega) | exact len_eq (by simp) | exact int_eq (by simp; done), by first | rfl | exact int_eq (by omega) | exact len_eq (by simp) | exact int_eq (by simp; done), by first | rfl | exact int_eq (by omega) | exact len_eq (by simp) | exact int_eq (by simp; done), by exact len_eq (by simp), by first | rfl | exact int_eq (by omega) | exact len_eq (by simp) | exact int_eq (by simp; done), trivial⟩
              · repeat (first | exact HLe.refl _ | refine HLe.cons' (by first | rfl | (simp; done)) ?_ | refine HLe.pick 1 rfl (by first | rfl | (simp; done)) ?_ | refine HLe.pick 2 rfl (by first | rfl | (simp; done)) ?_ | refine HLe.pick 3 rfl (by first | rfl | (simp; done)) ?_ | refine HLe.pick 4 rfl (by first | rfl | (simp; done)) ?_ | refine HLe.pick 5 rfl (by first | rfl | (simp; done)) ?_ | refine HLe.skip _ ?_)
              · rintro j hj
                try dsimp only
                refine W.reg ?_
                refine XOps.s rfl rfl rfl (Q.lss rfl rfl) ?_
                refine XOps.nil ?_
                refine W.seq ?_
                refine W.cond rfl (fun hc96 => ?_) (fun hc96 => ?_)
                · try simp only [Bool.or_eq_true, Bool.or_eq_false_iff, Bool.and_eq_true, Bool.and_eq_false_iff, decide_eq_true_eq, decide_eq_false_iff_not, Bool.not_eq_true', Bool.not_eq_false', Int.not_lt, Int.not_le, List.length_map] at hc96
                  obtain ⟨y2, hy2⟩ : ∃ y2, (M.take k)[j]? = some y2 := ⟨_, List.getElem?_eq_getElem (by omega)⟩
                  have hfj := firstJ_succ hy2 x.f
                  have htk : (M.take k).length ≤ M.length := by rw [List.length_take]; omega
                  refine W.skip ?_
                  refine W.seq ?_
                  refine W.block ?_
                  refine W.reg ?_
                  refine XOps.s rfl rfl rfl (Q.idx_sl sl22 (by decide) rfl rfl (by first | omega | (simp only [List.length_map]; omega)) (by first | exact map_at hx | exact map_at0 hx | exact map_at hy2 | exact map_atI hy)) ?_
                  refine XOps.s rfl rfl rfl (Q.ld_dpn ag27 rfl rfl) ?_
                  (refine XOps.loud rfl (L.alloc tz27 rfl rfl) ?_; rintro _ _ ⟨b13, rfl, rfl⟩)
                  refine XOps.loud rfl (L.storen (k := 0) ag27 rfl rfl rfl rfl rfl) ?_
                  rintro _ _ ⟨rfl, rfl⟩
                  refine XOps.nil ?_
                  refine W.region ?_
                  refine XOps.s rfl rfl rfl (Q.move_d rfl) ?_
                  refine XOps.s rfl rfl rfl (Q.move_d rfl) ?_
                  refine XOps.gs rfl rfl rfl rfl rfl rfl rfl (fun hg => Q.fld_ptr fl27_1 rfl) ?_
                  refine XOps.gs rfl rfl rfl rfl rfl rfl rfl (fun hg => Quiet.open 101 hg rfl (Q.ld_ptr (k := 0) ag3 rfl rfl rfl)) ?_
                  refine XOps.gs rfl rfl rfl rfl rfl rfl rfl (fun hg => Q.fld_ptr fl27_1 rfl) ?_
                  refine XOps.gs rfl rfl rfl rfl rfl rfl rfl (fun hg => Quiet.open 103 hg rfl (Q.ld_ptr (k := 3) ag3 rfl rfl rfl)) ?_
                  refine XOps.gs rfl rfl rfl rfl rfl rfl rfl (fun hg => Quiet.open 102 hg rfl (Quiet.open 104 hg rfl (Q.neq rfl rfl))) ?_
                  refine XOps.s rfl rfl rfl (Q.pick_and rfl rfl rfl (fun h => by first | (rw [h]; rfl) | (rw [hg, h]; rfl) | (simp [h, hg]; done))) ?_
                  refine XOps.s rfl rfl rfl (Q.assign_d rfl) ?_
                  refine XOps.nil ?_
                  refine W.region ?_
                  refine XOps.s rfl rfl rfl (Q.add rfl rfl (wi64 (by first | omega | (dsimp only; omega) | (simp only [List.length_map]; omega)) (by first | omega | (dsimp only; omega) | (simp only [List.length_map]; omega)))) ?_
                  refine XOps.s rfl rfl rfl (Q.move_d rfl) ?_
                  refine XOps.nil ?_
                  refine ⟨j + 1, ?_, ?_, ?_, ?_⟩
                  · omega
                  · omega
                  · exact ⟨by first | rfl | exact int_eq (by omega) | exact len_eq (by simp) | exact int_eq (by simp; done), by first | rfl | exact int_eq (by omega) | exact len_eq (by simp) | exact int_eq (by simp; done), by first | rfl | exact int_eq (by omega) | exact len_eq (by simp) | exact int_eq (by simp; done), by first | rfl | exact int_eq (by omega) | exact len_eq (by simp) | exact int_eq (by simp; done), by first | rfl | exact int_eq (by omega) | exact len_eq (by simp) | exact int_eq (by simp; done), by (rw [hfj]; rfl), by first | rfl | exact int_eq (by omega) | exact len_eq (by simp) | exact int_eq (by simp; done), by first | rfl | exact int_eq (by omega) | exact len_eq (by simp) | exact int_eq (by simp; done), by first | rfl | exact int_eq (by omega) | exact len_eq (by simp) | exact int_eq (by simp; done), by first | rfl | exact int_eq (by omega) | exact len_eq (by simp) | exact int_eq (by simp; done), by first | rfl | exact int_eq (by omega) | exact len_eq (by simp) | exact int_eq (by simp; done), by first | rfl | exact int_eq (by omega) | exact len_eq (by simp) | exact int_eq (by simp; done), trivial⟩
                  · repeat (first | exact HLe.refl _ | refine HLe.cons' (by first | rfl | (simp; done)) ?_ | refine HLe.pick 1 rfl (by first | rfl | (simp; done)) ?_ | refine HLe.pick 2 rfl (by first | rfl | (simp; done)) ?_ | refine HLe.pick 3 rfl (by first | rfl | (simp; done)) ?_ | refine HLe.pick 4 rfl (by first | rfl | (simp; done)) ?_ | refine HLe.pick 5 rfl (by first | rfl | (simp; done)) ?_ | refine HLe.skip _ ?_)
                · try simp only [Bool.or_eq_true, Bool.or_eq_false_iff, Bool.and_eq_true, Bool.and_eq_false_iff, decide_eq_true_eq, decide_eq_false_iff_not, Bool.not_eq_true', Bool.not_eq_false', Int.not_lt, Int.not_le, List.length_map] at hc96
                  obtain rfl : j = (M.take k).length := by omega
                  have hfa := firstJ_all M k x.f
                  rw [hfa]
                  refine W.exit ?_
                  refine W.reg ?_
                  refine XOps.s rfl rfl rfl (Q.move_d rfl) ?_
                  refine XOps.nil ?_
                  refine W.cond rfl (fun hc108 => ?_) (fun hc108 => ?_)
                  · try simp only [Bool.or_eq_true, Bool.or_eq_false_iff, Bool.and_eq_true, Bool.and_eq_false_iff, decide_eq_true_eq, decide_eq_false_iff_not, Bool.not_eq_true', Bool.not_eq_false', Int.not_lt, Int.not_le, List.length_map] at hc108
                    rw [if_pos hc108] at hmk
                    refine W.region ?_
                    refine XOps.s rfl rfl rfl (Q.move_d rfl) ?_
                    refine XOps.s rfl rfl rfl (Q.move_ptr rfl) ?_
                    refine XOps.s rfl rfl rfl (Q.fld_ptr fl27_1 rfl) ?_
                    refine XOps.s rfl rfl rfl (Q.ld_ptr (k := 2) ag3 rfl rfl rfl) ?_
                    refine XOps.s rfl rfl rfl (Q.call rfl Try.func9 go9 rfl (on_c b id M x.f ((b10, .cells (x.enc.map .d)) :: hs) (by omega))) ?_
                    refine XOps.s rfl rfl rfl (Q.len_sl isl31 rfl) ?_
                    refine XOps.s rfl rfl rfl (Q.add rfl rfl (wi64 (by first | omega | (dsimp only; omega) | (simp only [List.length_map]; omega)) (by first | omega | (dsimp only; omega) | (simp only [List.length_map]; omega)))) ?_
                    refine XOps.s rfl rfl rfl (Q.assign_d rfl) ?_
                    refine XOps.nil ?_
                    refine W.region ?_
                    refine XOps.s rfl rfl rfl (Q.add rfl rfl (wi64 (by first | omega | (dsimp only; omega) | (simp only [List.length_map]; omega)) (by first | omega | (dsimp only; omega) | (simp only [List.length_map]; omega)))) ?_
                    refine XOps.s rfl rfl rfl (Q.move_d rfl) ?_
                    refine XOps.nil ?_
                    refine ⟨k + 1, ?_, ?_, ?_, ?_⟩
                    · omega
                    · omega
                    · exact ⟨by first | rfl | exact int_eq (by omega) | exact len_eq (by simp) | exact int_eq (by simp; done), by first | (rw [hmk]; done) | (rw [hmk]; rfl) | exact int_eq (by rw [hmk]; simp) | exact int_eq (by rw [hmk]; omega), by first | rfl | exact int_eq (by omega) | exact len_eq (by simp) | exact int_eq (by simp; done), by first | rfl | exact int_eq (by omega) | exact len_eq (by simp) | exact int_eq (by simp; done), by first | rfl | exact int_eq (by omega) | exact len_eq (by simp) | exact int_eq (by simp; done), by first | rfl | exact int_eq (by omega) | exact len_eq (by simp) | exact int_eq (by simp; done), trivial⟩
                    · repeat (first | exact HLe.refl _ | refine HLe.cons' (by first | rfl | (simp; done)) ?_ | refine HLe.pick 1 rfl (by first | rfl | (simp; done)) ?_ | refine HLe.pick 2 rfl (by first | rfl | (simp; done)) ?_ | refine HLe.pick 3 rfl (by first | rfl | (simp; done)) ?_ | refine HLe.pick 4 rfl (by first | rfl | (simp; done)) ?_ | refine HLe.pick 5 rfl (by first | rfl | (simp; done)) ?_ | refine HLe.skip _ ?_)
                  · try simp only [Bool.or_eq_true, Bool.or_eq_false_iff, Bool.and_eq_true, Bool.and_eq_false_iff, decide_eq_true_eq, decide_eq_false_iff_not, Bool.not_eq_true', Bool.not_eq_false', Int.not_lt, Int.not_le, List.length_map] at hc108
                    rw [if_neg (by simp [hc108])] at hmk
                    refine W.skip ?_
                    refine W.region ?_
                    refine XOps.s rfl rfl rfl (Q.add rfl rfl (wi64 (by first | omega | (dsimp only; omega) | (simp only [List.length_map]; omega)) (by first | omega | (dsimp only; omega) | (simp only [List.length_map]; omega)))) ?_
                    refine XOps.s rfl rfl rfl (Q.move_d rfl) ?_
                    refine XOps.nil ?_
                    refine ⟨k + 1, ?_, ?_, ?_, ?_⟩
                    · omega
                    · omega
                    · exact ⟨by first | rfl | exact int_eq (by omega) | exact len_eq (by simp) | exact int_eq (by simp; done), by first | (rw [hmk]; done) | (rw [hmk]; rfl) | exact int_eq (by rw [hmk]; simp) | exact int_eq (by rw [hmk]; omega), by first | rfl | exact int_eq (by omega) | exact len_eq (by simp) | exact int_eq (by simp; done), by first | rfl | exact int_eq (by omega) | exact len_eq (by simp) | exact int_eq (by simp; done), by first | rfl | exact int_eq (by omega) | exact len_eq (by simp) | exact int_eq (by simp; done), by first | rfl | exact int_eq (by omega) | exact len_eq (by simp) | exact int_eq (by simp; done), trivial⟩
                    · repeat (first | exact HLe.refl _ | refine HLe.cons' (by first | rfl | (simp; done)) ?_ | refine HLe.pick 1 rfl (by first | rfl | (simp; done)) ?_ | refine HLe.pick 2 rfl (by first | rfl | (simp; done)) ?_ | refine HLe.pick 3 rfl (by first | rfl | (simp; done)) ?_ | refine HLe.pick 4 rfl (by first | rfl | (simp; done)) ?_ | refine HLe.pick 5 rfl (by first | rfl | (simp; done)) ?_ | refine HLe.skip _ ?_)
          · try simp only [Bool.or_eq_true, Bool.or_eq_false_iff, Bool.and_eq_true, Bool.and_eq_false_iff, decide_eq_true_eq, decide_eq_false_iff_not, Bool.not_eq_true', Bool.not_eq_false', Int.not_lt, Int.not_le, List.length_map] at hc60
            obtain rfl : k = M.length := by simp at hc60; omega
            refine W.exit ?_
            refine W.reg ?_
            refine XOps.s rfl rfl rfl (Q.move_d rfl) ?_
            refine XOps.s rfl rfl rfl (Q.move_d rfl) ?_
            refine XOps.s rfl rfl rfl (Q.len_sl isl22 rfl) ?_
            refine XOps.s rfl rfl rfl (Q.eql rfl rfl) ?_
            refine XOps.s rfl rfl rfl (Q.assign_d rfl) ?_
            refine XOps.nil ?_
            refine W.ret ?_
            rw [manyK_all] at *
            exact ⟨_, _, rfl, HLe.refl _, by show AV.d (.bool _) = _; simp⟩
end Go.Proofs.YtaegecnjimbfbaaA
