/- Flights: copied. -/
import Derived.Test.YtaegeaajhbfkgaaGreatDoorFrB
import Derived.Test.YtaegeaajhbfkgaaGreatDoorCeL
set_option linter.unusedVariables false
set_option linter.unusedSimpArgs false
set_option linter.unnecessarySimpa false
namespace Go.Proofs.YtaegeaajhbfkgaaGreatDoorA.FCeM
open Go
theorem ag33 : tAgg P 33 = some ((false, 1)) := by kernel_rfl
theorem ag39 : tAgg P 39 = some ((false, 1)) := by kernel_rfl
theorem ag41 : tAgg P 41 = some ((true, 8)) := by kernel_rfl
theorem ap39 : tApp P 39 = some ((1, 24)) := by kernel_rfl
theorem fl41_4 : tFld P 41 4 = some (4) := by kernel_rfl
theorem fl41_5 : tFld P 41 5 = some (5) := by kernel_rfl
theorem go65 : callGo Go.Proofs.Tryz.f65 = true := by kernel_rfl
theorem isl39 : isSl P 39 = true := by kernel_rfl
theorem sl39 : tSl P 39 = some (1) := by kernel_rfl
theorem tz41 : tZero P 41 = some ([.string ⟨#[]⟩, .int .i64 0, .int .i64 0, .bool false, .slice none 0 0, .slice none 0 0, .int .i64 0, .int .i64 0]) := by kernel_rfl
theorem zr39 : tZrow P 39 = some ([.slice none 0 0]) := by kernel_rfl
theorem zrd39 : cellsD [.slice none 0 0] = some ([.sl 0 []]) := rfl
end Go.Proofs.YtaegeaajhbfkgaaGreatDoorA.FCeM
namespace Go.Proofs.YtaegeaajhbfkgaaGreatDoorA
open Go FCeM
attribute [local irreducible] XOps Quiet Loud W AC GQ DT
set_option maxHeartbeats 8000000 in
set_option maxRecDepth 100000 in
theorem copied_c (f : Fl) (hs : Hp) (fl : ∀ l ∈ f.legs, l.length ≤ 1000000) (fn : f.next.length ≤ 1000000) (fz : f.legs.length ≤ 1000) : AC P 40 [.d (.agg (Fl.enc f))] hs (fun r h => r = .d (.agg (Fl.enc f)) ∧ h = hs) := by
  have hml : (f.legs.map tuR).length = f.legs.length := List.length_map _
  refine AC.ofc 28 Tryz.func40 rfl rfl rfl ?_
  refine W.reg ?_
  refine XOps.loud rfl (L.boxn rfl rfl) ?_
  rintro _ _ ⟨b1, rfl, rfl⟩
  (refine XOps.loud rfl (L.alloc tz41 rfl rfl) ?_; rintro _ _ ⟨b2, rfl, rfl⟩)
  refine XOps.nil ?_
  refine W.reg ?_
  refine XOps.s rfl rfl rfl (Q.fld_ptr fl41_4 rfl) ?_
  refine XOps.s rfl rfl rfl (Q.ld_ptr (k := 1) ag39 rfl rfl rfl) ?_
  refine XOps.s rfl rfl rfl (Q.assign_d rfl) ?_
  refine XOps.nil ?_
  refine W.reg ?_
  refine XOps.s rfl rfl rfl (Q.fld_ptr fl41_4 rfl) ?_
  refine XOps.loud rfl (L.store (k := 1) ag39 rfl rfl rfl rfl rfl) ?_
  rintro _ _ ⟨rfl, rfl⟩
  refine XOps.nil ?_
  refine W.ghostc 1 4 1 (by decide) rfl rfl (fun v0 => ?_)
  refine W.heap ((v0, .lst 1 ((f.legs.take 0).map tuR)) :: (b1, .cells [.d (.str f.call), .d (.int .i64 f.wake), .d (.int .i64 f.slot), .d (.bool f.lands), .vs v0 0 0 1, .d (tuD f.next), .d (.int .i64 f.land), .d (.int .i64 f.nland)]) :: (b2, .cells [.d (.str ⟨#[]⟩), .d (.int .i64 0), .d (.int .i64 0), .d (.bool false), .nilsl, .nilsl, .d (.int .i64 0), .d (.int .i64 0)]) :: hs) (HLe.pick 0 rfl rfl (HLe.pick 1 rfl rfl (HLe.refl _))) ?_
  refine W.seq ?_
  refine W.reg ?_
  refine XOps.s rfl rfl rfl (Q.move_d rfl) ?_
  refine XOps.s rfl rfl rfl (Q.len_sl isl39 rfl) ?_
  refine XOps.s rfl rfl rfl (Q.move_d rfl) ?_
  refine XOps.nil ?_
  refine W.block ?_
  refine W.loop (ι := Nat × Nat) (fun p => [(1, .ptr b1 0), (2, .ptr b2 0), (9, .d (lgD f.legs)), (10, .d (.int .i64 f.legs.length)), (11, .d (.int .i64 (p.1 : Nat)))]) (fun p => (p.2, .lst 1 ((f.legs.take p.1).map tuR)) :: (b1, .cells [.d (.str f.call), .d (.int .i64 f.wake), .d (.int .i64 f.slot), .d (.bool f.lands), .vs p.2 0 p.1 1, .d (tuD f.next), .d (.int .i64 f.land), .d (.int .i64 f.nland)]) :: (b2, .cells [.d (.str ⟨#[]⟩), .d (.int .i64 0), .d (.int .i64 0), .d (.bool false), .nilsl, .nilsl, .d (.int .i64 0), .d (.int .i64 0)]) :: hs) (fun p => p.1 ≤ f.legs.length) (fun p => f.legs.length - p.1) (0, v0) ?_ ?_ ?_ ?_
  · exact Nat.zero_le _
  · exact ⟨by first | rfl | exact int_eq (by omega) | exact len_eq (by simp) | exact int_eq (by simp; done), by first | rfl | exact int_eq (by omega) | exact len_eq (by simp) | exact int_eq (by simp; done), by first | rfl | exact int_eq (by omega) | exact len_eq (by simp) | exact int_eq (by simp; done), by exact int_eq (by simp [lgD]), by first | rfl | exact int_eq (by omega) | exact len_eq (by simp) | exact int_eq (by simp; done), trivial⟩
  · exact HLe.refl _
  · rintro ⟨k, v⟩ hk
    dsimp only at hk ⊢
    refine W.reg ?_
    refine XOps.s rfl rfl rfl (Q.lss rfl rfl) ?_
    refine XOps.nil ?_
    refine W.seq ?_
    refine W.cond rfl (fun hc12 => ?_) (fun hc12 => ?_)
    · try simp only [Bool.or_eq_true, Bool.or_eq_false_iff, Bool.and_eq_true, Bool.and_eq_false_iff, decide_eq_true_eq, decide_eq_false_iff_not, Bool.not_eq_true', Bool.not_eq_false', Int.not_lt, Int.not_le, List.length_map] at hc12
      obtain ⟨x, hx⟩ : ∃ x, f.legs[k]? = some x := ⟨_, List.getElem?_eq_getElem (by omega)⟩
      have htk : f.legs.take (k + 1) = f.legs.take k ++ [x] := by
        obtain ⟨q1, q2⟩ := List.getElem?_eq_some_iff.1 hx
        rw [List.take_succ_eq_append_getElem q1, q2]
      have hlk : ((f.legs.take k).map tuR).length = k := by simp; omega
      refine W.skip ?_
      refine W.seq ?_
      refine W.block ?_
      refine W.reg ?_
      refine XOps.s rfl rfl rfl (Q.idx_sl sl39 (by decide) rfl rfl (by first | omega | (simp only [List.length_map]; omega)) (by exact map_at hx)) ?_
      refine XOps.s rfl rfl rfl (Q.ld_dp ag33 rfl rfl) ?_
      refine XOps.s rfl rfl rfl (Q.assign_d rfl) ?_
      refine XOps.nil ?_
      refine W.drawT 6 [5] follows (by kernel_rfl) (by decide) ?_
      apply DT.moreE [.new, .new, .new, .new, .new, .now] (by kernel_rfl)
      refine PC.new _ rfl (GQ.q rfl (Q.fld_ptr fl41_4 rfl)) rfl ?_
      refine PC.new _ rfl (GQ.q rfl (Q.ld_ptr (k := 1) ag39 rfl rfl rfl)) rfl ?_
      refine PC.new _ rfl (GQ.q rfl (Q.move_d rfl)) rfl ?_
      refine PC.new _ rfl (GQ.q rfl (Q.call rfl Tryz.func65 go65 rfl (cloneT_c x _ (fl x (List.mem_of_getElem? hx))))) rfl ?_
      refine PC.new _ rfl (GQ.q rfl (Q.bsl1 sl39 zr39 rfl zrd39 rfl rfl)) rfl ?_
      refine PC.now rfl rfl (fun τ => Loud.to (L.app (k := 0) ap39 rfl rfl (by simp; omega) rfl (by simp; omega) rfl) (fun _ _ ⟨v, h1, h2⟩ => ⟨_, h1, v, rfl, h2⟩)) ?_
      refine PC.nil ?_
      rintro _ _ ⟨v20, rfl, rfl⟩
      refine DT.last [.did, .did, .did, .did, .did, .did] (by kernel_rfl) ?_
      refine PC.did rfl ?_
      refine PC.did rfl ?_
      refine PC.did rfl ?_
      refine PC.did rfl ?_
      refine PC.did rfl ?_
      refine PC.did rfl ?_
      refine PC.nil ?_
      refine XOps.s rfl rfl rfl (Q.fld_ptr fl41_4 rfl) ?_
      refine XOps.loud rfl (L.store (k := 1) ag39 rfl rfl rfl rfl rfl) ?_
      rintro _ _ ⟨rfl, rfl⟩
      refine XOps.nil ?_
      refine W.heap ((v20, .lst 1 ((f.legs.take (k + 1)).map tuR)) :: (b1, .cells [.d (.str f.call), .d (.int .i64 f.wake), .d (.int .i64 f.slot), .d (.bool f.lands), .vs v20 0 (k + 1) 1, .d (tuD f.next), .d (.int .i64 f.land), .d (.int .i64 f.nland)]) :: (b2, .cells [.d (.str ⟨#[]⟩), .d (.int .i64 0), .d (.int .i64 0), .d (.bool false), .nilsl, .nilsl, .d (.int .i64 0), .d (.int .i64 0)]) :: hs) (HLe.cons' (by rw [htk, List.map_append]; rfl) (HLe.cons' (show _ = HO.cells [.d (.str f.call), .d (.int .i64 f.wake), .d (.int .i64 f.slot), .d (.bool f.lands), .vs v20 0 (((f.legs.take k).map tuR).length + 1) 1, .d (tuD f.next), .d (.int .i64 f.land), .d (.int .i64 f.nland)] by rw [hlk]) (HLe.refl _))) ?_
      refine W.region ?_
      refine XOps.s rfl rfl rfl (Q.add rfl rfl (wi64 (by first | omega | (dsimp only; omega) | (simp only [List.length_map]; omega)) (by first | omega | (dsimp only; omega) | (simp only [List.length_map]; omega)))) ?_
      refine XOps.s rfl rfl rfl (Q.move_d rfl) ?_
      refine XOps.nil ?_
      refine ⟨(k + 1, v20), ?_, ?_, ?_, ?_⟩
      · exact (show k + 1 ≤ _ by omega)
      · dsimp only; omega
      · exact ⟨by first | rfl | exact int_eq (by omega) | exact len_eq (by simp) | exact int_eq (by simp; done), by first | rfl | exact int_eq (by omega) | exact len_eq (by simp) | exact int_eq (by simp; done), by first | rfl | exact int_eq (by omega) | exact len_eq (by simp) | exact int_eq (by simp; done), by first | rfl | exact int_eq (by omega) | exact len_eq (by simp) | exact int_eq (by simp; done), by first | rfl | exact int_eq (by omega) | exact len_eq (by simp) | exact int_eq (by simp; done), trivial⟩
      · exact HLe.refl _
    · try simp only [Bool.or_eq_true, Bool.or_eq_false_iff, Bool.and_eq_true, Bool.and_eq_false_iff, decide_eq_true_eq, decide_eq_false_iff_not, Bool.not_eq_true', Bool.not_eq_false', Int.not_lt, Int.not_le, List.length_map] at hc12
      obtain rfl : k = f.legs.length := by omega
      rw [List.take_length]
      refine W.exit ?_
      refine W.reg ?_
      refine XOps.s rfl rfl rfl (Q.fld_ptr fl41_5 rfl) ?_
      refine XOps.s rfl rfl rfl (Q.ld_ptr (k := 1) ag33 rfl rfl rfl) ?_
      refine XOps.s rfl rfl rfl (Q.call rfl Tryz.func65 go65 rfl (cloneT_c f.next _ fn)) ?_
      refine XOps.s rfl rfl rfl (Q.fld_ptr fl41_5 rfl) ?_
      refine XOps.loud rfl (L.store (k := 1) ag33 rfl rfl rfl rfl rfl) ?_
      rintro _ _ ⟨rfl, rfl⟩
      refine XOps.nil ?_
      refine W.freezec 4 rfl (by simp) ?_
      refine W.reg ?_
      refine XOps.s rfl rfl rfl (Q.ld_ptrn (k := 0) ag41 rfl rfl rfl) ?_
      refine XOps.loud rfl (L.storen (k := 1) ag41 rfl rfl rfl rfl rfl) ?_
      rintro _ _ ⟨rfl, rfl⟩
      refine XOps.nil ?_
      refine W.ret ?_
      exact ⟨_, hs, (.cons (by first | exact .celln 0 ag41 rfl rfl rfl | exact .cell1 0 ag41 rfl rfl rfl | exact .celln 1 ag41 rfl rfl rfl | exact .cell1 1 ag41 rfl rfl rfl | exact .celln 2 ag41 rfl rfl rfl | exact .cell1 2 ag41 rfl rfl rfl | exact .celln 3 ag41 rfl rfl rfl | exact .cell1 3 ag41 rfl rfl rfl | exact .celln 4 ag41 rfl rfl rfl | exact .cell1 4 ag41 rfl rfl rfl) .nil), HLe.skip _ (HLe.skip _ (HLe.refl _)), rfl, rfl⟩
set_option maxHeartbeats 8000000 in
set_option maxRecDepth 100000 in
theorem copied_own (f : Fl) (hs : Hp) (fl : ∀ l ∈ f.legs, l.length ≤ 1000000) (fn : f.next.length ≤ 1000000) (fz : f.legs.length ≤ 1000) : AC P 40 [.d (.agg (Fl.enc f))] hs (fun r h => ∃ v, r = .aggv [.d (.str f.call), .d (.int .i64 f.wake), .d (.int .i64 f.slot), .d (.bool f.lands), .vs v 0 f.legs.length 1, .d (tuD f.next), .d (.int .i64 f.land), .d (.int .i64 f.nland)] ∧ h = (v, .lst 1 (f.legs.map tuR)) :: hs) := by
  have hml : (f.legs.map tuR).length = f.legs.length := List.length_map _
  refine AC.ofc 28 Tryz.func40 rfl rfl rfl ?_
  refine W.reg ?_
  refine XOps.loud rfl (L.boxn rfl rfl) ?_
  rintro _ _ ⟨b1, rfl, rfl⟩
  (refine XOps.loud rfl (L.alloc tz41 rfl rfl) ?_; rintro _ _ ⟨b2, rfl, rfl⟩)
  refine XOps.nil ?_
  refine W.reg ?_
  refine XOps.s rfl rfl rfl (Q.fld_ptr fl41_4 rfl) ?_
  refine XOps.s rfl rfl rfl (Q.ld_ptr (k := 1) ag39 rfl rfl rfl) ?_
  refine XOps.s rfl rfl rfl (Q.assign_d rfl) ?_
  refine XOps.nil ?_
  refine W.reg ?_
  refine XOps.s rfl rfl rfl (Q.fld_ptr fl41_4 rfl) ?_
  refine XOps.loud rfl (L.store (k := 1) ag39 rfl rfl rfl rfl rfl) ?_
  rintro _ _ ⟨rfl, rfl⟩
  refine XOps.nil ?_
  refine W.ghostc 1 4 1 (by decide) rfl rfl (fun v0 => ?_)
  refine W.heap ((v0, .lst 1 ((f.legs.take 0).map tuR)) :: (b1, .cells [.d (.str f.call), .d (.int .i64 f.wake), .d (.int .i64 f.slot), .d (.bool f.lands), .vs v0 0 0 1, .d (tuD f.next), .d (.int .i64 f.land), .d (.int .i64 f.nland)]) :: (b2, .cells [.d (.str ⟨#[]⟩), .d (.int .i64 0), .d (.int .i64 0), .d (.bool false), .nilsl, .nilsl, .d (.int .i64 0), .d (.int .i64 0)]) :: hs) (HLe.pick 0 rfl rfl (HLe.pick 1 rfl rfl (HLe.refl _))) ?_
  refine W.seq ?_
  refine W.reg ?_
  refine XOps.s rfl rfl rfl (Q.move_d rfl) ?_
  refine XOps.s rfl rfl rfl (Q.len_sl isl39 rfl) ?_
  refine XOps.s rfl rfl rfl (Q.move_d rfl) ?_
  refine XOps.nil ?_
  refine W.block ?_
  refine W.loop (ι := Nat × Nat) (fun p => [(1, .ptr b1 0), (2, .ptr b2 0), (9, .d (lgD f.legs)), (10, .d (.int .i64 f.legs.length)), (11, .d (.int .i64 (p.1 : Nat)))]) (fun p => (p.2, .lst 1 ((f.legs.take p.1).map tuR)) :: (b1, .cells [.d (.str f.call), .d (.int .i64 f.wake), .d (.int .i64 f.slot), .d (.bool f.lands), .vs p.2 0 p.1 1, .d (tuD f.next), .d (.int .i64 f.land), .d (.int .i64 f.nland)]) :: (b2, .cells [.d (.str ⟨#[]⟩), .d (.int .i64 0), .d (.int .i64 0), .d (.bool false), .nilsl, .nilsl, .d (.int .i64 0), .d (.int .i64 0)]) :: hs) (fun p => p.1 ≤ f.legs.length) (fun p => f.legs.length - p.1) (0, v0) ?_ ?_ ?_ ?_
  · exact Nat.zero_le _
  · exact ⟨by first | rfl | exact int_eq (by omega) | exact len_eq (by simp) | exact int_eq (by simp; done), by first | rfl | exact int_eq (by omega) | exact len_eq (by simp) | exact int_eq (by simp; done), by first | rfl | exact int_eq (by omega) | exact len_eq (by simp) | exact int_eq (by simp; done), by exact int_eq (by simp [lgD]), by first | rfl | exact int_eq (by omega) | exact len_eq (by simp) | exact int_eq (by simp; done), trivial⟩
  · exact HLe.refl _
  · rintro ⟨k, v⟩ hk
    dsimp only at hk ⊢
    refine W.reg ?_
    refine XOps.s rfl rfl rfl (Q.lss rfl rfl) ?_
    refine XOps.nil ?_
    refine W.seq ?_
    refine W.cond rfl (fun hc12 => ?_) (fun hc12 => ?_)
    · try simp only [Bool.or_eq_true, Bool.or_eq_false_iff, Bool.and_eq_true, Bool.and_eq_false_iff, decide_eq_true_eq, decide_eq_false_iff_not, Bool.not_eq_true', Bool.not_eq_false', Int.not_lt, Int.not_le, List.length_map] at hc12
      obtain ⟨x, hx⟩ : ∃ x, f.legs[k]? = some x := ⟨_, List.getElem?_eq_getElem (by omega)⟩
      have htk : f.legs.take (k + 1) = f.legs.take k ++ [x] := by
        obtain ⟨q1, q2⟩ := List.getElem?_eq_some_iff.1 hx
        rw [List.take_succ_eq_append_getElem q1, q2]
      have hlk : ((f.legs.take k).map tuR).length = k := by simp; omega
      refine W.skip ?_
      refine W.seq ?_
      refine W.block ?_
      refine W.reg ?_
      refine XOps.s rfl rfl rfl (Q.idx_sl sl39 (by decide) rfl rfl (by first | omega | (simp only [List.length_map]; omega)) (by exact map_at hx)) ?_
      refine XOps.s rfl rfl rfl (Q.ld_dp ag33 rfl rfl) ?_
      refine XOps.s rfl rfl rfl (Q.assign_d rfl) ?_
      refine XOps.nil ?_
      refine W.drawT 6 [5] follows (by kernel_rfl) (by decide) ?_
      apply DT.moreE [.new, .new, .new, .new, .new, .now] (by kernel_rfl)
      refine PC.new _ rfl (GQ.q rfl (Q.fld_ptr fl41_4 rfl)) rfl ?_
      refine PC.new _ rfl (GQ.q rfl (Q.ld_ptr (k := 1) ag39 rfl rfl rfl)) rfl ?_
      refine PC.new _ rfl (GQ.q rfl (Q.move_d rfl)) rfl ?_
      refine PC.new _ rfl (GQ.q rfl (Q.call rfl Tryz.func65 go65 rfl (cloneT_c x _ (fl x (List.mem_of_getElem? hx))))) rfl ?_
      refine PC.new _ rfl (GQ.q rfl (Q.bsl1 sl39 zr39 rfl zrd39 rfl rfl)) rfl ?_
      refine PC.now rfl rfl (fun τ => Loud.to (L.app (k := 0) ap39 rfl rfl (by simp; omega) rfl (by simp; omega) rfl) (fun _ _ ⟨v, h1, h2⟩ => ⟨_, h1, v, rfl, h2⟩)) ?_
      refine PC.nil ?_
      rintro _ _ ⟨v20, rfl, rfl⟩
      refine DT.last [.did, .did, .did, .did, .did, .did] (by kernel_rfl) ?_
      refine PC.did rfl ?_
      refine PC.did rfl ?_
      refine PC.did rfl ?_
      refine PC.did rfl ?_
      refine PC.did rfl ?_
      refine PC.did rfl ?_
      refine PC.nil ?_
      refine XOps.s rfl rfl rfl (Q.fld_ptr fl41_4 rfl) ?_
      refine XOps.loud rfl (L.store (k := 1) ag39 rfl rfl rfl rfl rfl) ?_
      rintro _ _ ⟨rfl, rfl⟩
      refine XOps.nil ?_
      refine W.heap ((v20, .lst 1 ((f.legs.take (k + 1)).map tuR)) :: (b1, .cells [.d (.str f.call), .d (.int .i64 f.wake), .d (.int .i64 f.slot), .d (.bool f.lands), .vs v20 0 (k + 1) 1, .d (tuD f.next), .d (.int .i64 f.land), .d (.int .i64 f.nland)]) :: (b2, .cells [.d (.str ⟨#[]⟩), .d (.int .i64 0), .d (.int .i64 0), .d (.bool false), .nilsl, .nilsl, .d (.int .i64 0), .d (.int .i64 0)]) :: hs) (HLe.cons' (by rw [htk, List.map_append]; rfl) (HLe.cons' (show _ = HO.cells [.d (.str f.call), .d (.int .i64 f.wake), .d (.int .i64 f.slot), .d (.bool f.lands), .vs v20 0 (((f.legs.take k).map tuR).length + 1) 1, .d (tuD f.next), .d (.int .i64 f.land), .d (.int .i64 f.nland)] by rw [hlk]) (HLe.refl _))) ?_
      refine W.region ?_
      refine XOps.s rfl rfl rfl (Q.add rfl rfl (wi64 (by first | omega | (dsimp only; omega) | (simp only [List.length_map]; omega)) (by first | omega | (dsimp only; omega) | (simp only [List.length_map]; omega)))) ?_
      refine XOps.s rfl rfl rfl (Q.move_d rfl) ?_
      refine XOps.nil ?_
      refine ⟨(k + 1, v20), ?_, ?_, ?_, ?_⟩
      · exact (show k + 1 ≤ _ by omega)
      · dsimp only; omega
      · exact ⟨by first | rfl | exact int_eq (by omega) | exact len_eq (by simp) | exact int_eq (by simp; done), by first | rfl | exact int_eq (by omega) | exact len_eq (by simp) | exact int_eq (by simp; done), by first | rfl | exact int_eq (by omega) | exact len_eq (by simp) | exact int_eq (by simp; done), by first | rfl | exact int_eq (by omega) | exact len_eq (by simp) | exact int_eq (by simp; done), by first | rfl | exact int_eq (by omega) | exact len_eq (by simp) | exact int_eq (by simp; done), trivial⟩
      · exact HLe.refl _
    · try simp only [Bool.or_eq_true, Bool.or_eq_false_iff, Bool.and_eq_true, Bool.and_eq_false_iff, decide_eq_true_eq, decide_eq_false_iff_not, Bool.not_eq_true', Bool.not_eq_false', Int.not_lt, Int.not_le, List.length_map] at hc12
      obtain rfl : k = f.legs.length := by omega
      rw [List.take_length]
      refine W.exit ?_
      refine W.reg ?_
      refine XOps.s rfl rfl rfl (Q.fld_ptr fl41_5 rfl) ?_
      refine XOps.s rfl rfl rfl (Q.ld_ptr (k := 1) ag33 rfl rfl rfl) ?_
      refine XOps.s rfl rfl rfl (Q.call rfl Tryz.func65 go65 rfl (cloneT_c f.next _ fn)) ?_
      refine XOps.s rfl rfl rfl (Q.fld_ptr fl41_5 rfl) ?_
      refine XOps.loud rfl (L.store (k := 1) ag33 rfl rfl rfl rfl rfl) ?_
      rintro _ _ ⟨rfl, rfl⟩
      refine XOps.nil ?_
      skip
      refine W.reg ?_
      refine XOps.s rfl rfl rfl (Q.ld_ptrv (k := 1) ag41 rfl rfl rfl) ?_
      refine XOps.loud rfl (L.storev (k := 2) ag41 rfl rfl rfl rfl rfl) ?_
      rintro _ _ ⟨rfl, rfl⟩
      refine XOps.nil ?_
      refine W.ret ?_
      exact ⟨_, (v, .lst 1 (f.legs.map tuR)) :: hs, .cons (.cellv 2 ag41 rfl rfl rfl) .nil, HLe.cons _ (HLe.skip _ (HLe.skip _ (HLe.refl _))), v, rfl, rfl⟩
end Go.Proofs.YtaegeaajhbfkgaaGreatDoorA

