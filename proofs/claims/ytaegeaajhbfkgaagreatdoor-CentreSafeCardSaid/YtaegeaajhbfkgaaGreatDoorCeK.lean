/- Landing times: free, land. -/
import Derived.Test.YtaegeaajhbfkgaaGreatDoorFrB
import Derived.Test.YtaegeaajhbfkgaaGreatDoorCeI
set_option linter.unusedVariables false
set_option linter.unusedSimpArgs false
set_option linter.unnecessarySimpa false
namespace Go.Proofs.YtaegeaajhbfkgaaGreatDoorA.FCeK
open Go
theorem ag3 : tAgg P 3 = some ((false, 1)) := by kernel_rfl
theorem ag37 : tAgg P 37 = some ((false, 1)) := by kernel_rfl
theorem ag4 : tAgg P 4 = some ((false, 1)) := by kernel_rfl
theorem ag41 : tAgg P 41 = some ((true, 8)) := by kernel_rfl
theorem ag9 : tAgg P 9 = some ((false, 1)) := by kernel_rfl
theorem ar24 : tArr P 24 = some ((4, 1)) := by kernel_rfl
theorem ar25 : tArr P 25 = some ((4, 4)) := by kernel_rfl
theorem fl27_1 : tFld P 27 1 = some (2) := by kernel_rfl
theorem fl41_0 : tFld P 41 0 = some (0) := by kernel_rfl
theorem fl41_1 : tFld P 41 1 = some (1) := by kernel_rfl
theorem fl41_2 : tFld P 41 2 = some (2) := by kernel_rfl
theorem fl41_3 : tFld P 41 3 = some (3) := by kernel_rfl
theorem fl45_0 : tFld P 45 0 = some (0) := by kernel_rfl
theorem fl47_0 : tFld P 47 0 = some (0) := by kernel_rfl
theorem fl83_0 : tFld P 83 0 = some (0) := by kernel_rfl
theorem fl83_2 : tFld P 83 2 = some (19) := by kernel_rfl
theorem go103 : callGo Go.Proofs.Tryz.f103 = true := by kernel_rfl
theorem go104 : callGo Go.Proofs.Tryz.f104 = true := by kernel_rfl
theorem isl151 : isSl P 151 = true := by kernel_rfl
theorem isl33 : isSl P 33 = true := by kernel_rfl
theorem isl37 : isSl P 37 = true := by kernel_rfl
theorem sl151 : tSl P 151 = some (1) := by kernel_rfl
theorem sl33 : tSl P 33 = some (6) := by kernel_rfl
theorem sl37 : tSl P 37 = some (8) := by kernel_rfl
theorem tz41 : tZero P 41 = some ([.string ⟨#[]⟩, .int .i64 0, .int .i64 0, .bool false, .slice none 0 0, .slice none 0 0, .int .i64 0, .int .i64 0]) := by kernel_rfl
end Go.Proofs.YtaegeaajhbfkgaaGreatDoorA.FCeK
namespace Go.Proofs.YtaegeaajhbfkgaaGreatDoorA
open Go FCeK
attribute [local irreducible] XOps Quiet Loud W AC GQ DT
set_option maxHeartbeats 8000000 in
set_option maxRecDepth 100000 in
theorem free_c (su : Su) (tm : AV) (fl : List Fl) (T : List AV) (b q : Nat) (hs : Hp) (hq : hs[q]? = some (b, .cells (su.enc.map AV.d ++ tm :: .d (.sl 8 (fl.map Fl.enc)) :: T))) (f : Fl) (t : Int) (t0 : -1000000 ≤ t) (t1 : t ≤ 1000000) (wk : 0 ≤ f.wake ∧ f.wake ≤ 3) (fo : ∀ g ∈ fl, FlOk g) (hf : fl.length ≤ 1000) : AC P 103 [.ptr b 0, .d (.agg (Fl.enc f)), .d (.int .i64 (t))] hs (fun r h => r = .d (.bool (fryB su fl f t)) ∧ h = hs) := by
  have hml : (fl.map Fl.enc).length = fl.length := List.length_map _
  refine AC.of 68 Tryz.func103 rfl rfl rfl ?_
  refine W.reg ?_
  refine XOps.loud rfl (L.boxn rfl rfl) ?_
  rintro _ _ ⟨b4, rfl, rfl⟩
  refine XOps.s rfl rfl rfl (Q.assign_d rfl) ?_
  refine XOps.nil ?_
  refine W.seq ?_
  refine W.reg ?_
  refine XOps.s rfl rfl rfl (Q.move_ptr rfl) ?_
  refine XOps.s rfl rfl rfl (Q.nil_ptr rfl) ?_
  refine XOps.s rfl rfl rfl (Q.fld_ptr fl83_2 rfl) ?_
  refine XOps.s rfl rfl rfl (Q.ld_ptr (k := q + 1) ag37 rfl hq rfl) ?_
  refine XOps.s rfl rfl rfl (Q.len_sl isl37 rfl) ?_
  refine XOps.s rfl rfl rfl (Q.move_d rfl) ?_
  refine XOps.nil ?_
  refine W.block ?_
  refine W.loop (ι := Nat) (fun i => [(0, .ptr b 0), (2, .d (.int .i64 (t))), (4, .ptr b4 0), (14, .d (.sl 8 (fl.map Fl.enc))), (15, .d (.int .i64 fl.length)), (16, .d (.int .i64 (i : Nat)))]) (fun i => (b4, .cells (f.enc.map .d)) :: hs) (fun i => i ≤ fl.length ∧ ((fl.take i).any fun g => (landL g).any (freeP su f t g)) = false) (fun i => fl.length - i) 0 ?_ ?_ ?_ ?_
  · exact ⟨Nat.zero_le _, rfl⟩
  · exact ⟨by first | rfl | exact int_eq (by omega) | exact len_eq (by simp) | exact int_eq (by simp; done), by first | rfl | exact int_eq (by omega) | exact len_eq (by simp) | exact int_eq (by simp; done), by first | rfl | exact int_eq (by omega) | exact len_eq (by simp) | exact int_eq (by simp; done), by first | rfl | exact int_eq (by omega) | exact len_eq (by simp) | exact int_eq (by simp; done), by exact int_eq (by rw [List.length_map]), by first | rfl | exact int_eq (by omega) | exact len_eq (by simp) | exact int_eq (by simp; done), trivial⟩
  · exact HLe.refl _
  · rintro i ⟨hi, hI⟩
    refine W.reg ?_
    refine XOps.s rfl rfl rfl (Q.lss rfl rfl) ?_
    refine XOps.nil ?_
    refine W.seq ?_
    refine W.cond rfl (fun hc17 => ?_) (fun hc17 => ?_)
    · skip
      have h17 : (i : Int) < ((fl.length : Nat) : Int) := of_decide_eq_true hc17
      obtain ⟨g, hx⟩ : ∃ g, fl[i]? = some g := ⟨_, List.getElem?_eq_getElem (by omega)⟩
      have hst := any_take (p := fun g => (landL g).any (freeP su f t g)) hx
      have og := fo g (List.mem_of_getElem? hx)
      have hg0 := og.wake.1
      have hg1 := og.wake.2
      have hf0 := wk.1
      have hf1 := wk.2
      have hll := landL_len g
      refine W.skip ?_
      refine W.seq ?_
      refine W.block ?_
      refine W.reg ?_
      refine XOps.s rfl rfl rfl (Q.idx_sl sl37 (by decide) rfl rfl (by first | omega | (simp only [List.length_map]; omega)) (by first | exact map_at hx | exact map_at hu)) ?_
      refine XOps.s rfl rfl rfl (Q.ld_dpn ag41 rfl rfl) ?_
      (refine XOps.loud rfl (L.alloc tz41 rfl rfl) ?_; rintro _ _ ⟨b8, rfl, rfl⟩)
      refine XOps.loud rfl (L.storen (k := 0) ag41 rfl rfl rfl rfl rfl) ?_
      rintro _ _ ⟨rfl, rfl⟩
      refine XOps.nil ?_
      refine W.reg ?_
      refine XOps.s rfl rfl rfl (Q.ld_ptrn (k := 0) ag41 rfl rfl rfl) ?_
      refine XOps.s rfl rfl rfl (Q.call rfl Tryz.func104 go104 rfl (ldg_c g _)) ?_
      refine XOps.s rfl rfl rfl (Q.len_sl isl151 rfl) ?_
      refine XOps.s rfl rfl rfl (Q.move_d rfl) ?_
      refine XOps.nil ?_
      refine W.block ?_
      refine W.loop (ι := Nat) (fun j => [(0, .ptr b 0), (2, .d (.int .i64 (t))), (4, .ptr b4 0), (8, .ptr b8 0), (14, .d (.sl 8 (fl.map Fl.enc))), (15, .d (.int .i64 fl.length)), (16, .d (.int .i64 (i : Nat))), (21, .d (slN (landL g))), (22, .d (.int .i64 (landL g).length)), (23, .d (.int .i64 (j : Nat)))]) (fun j => (b8, .cells (g.enc.map .d)) :: (b4, .cells (f.enc.map .d)) :: hs) (fun j => j ≤ (landL g).length ∧ ((landL g).take j).any (freeP su f t g) = false) (fun j => (landL g).length - j) 0 ?_ ?_ ?_ ?_
      · exact ⟨Nat.zero_le _, rfl⟩
      · exact ⟨by first | rfl | exact int_eq (by omega) | exact len_eq (by simp) | exact int_eq (by simp; done), by first | rfl | exact int_eq (by omega) | exact len_eq (by simp) | exact int_eq (by simp; done), by first | rfl | exact int_eq (by omega) | exact len_eq (by simp) | exact int_eq (by simp; done), by first | rfl | exact int_eq (by omega) | exact len_eq (by simp) | exact int_eq (by simp; done), by first | rfl | exact int_eq (by omega) | exact len_eq (by simp) | exact int_eq (by simp; done), by first | rfl | exact int_eq (by omega) | exact len_eq (by simp) | exact int_eq (by simp; done), by first | rfl | exact int_eq (by omega) | exact len_eq (by simp) | exact int_eq (by simp; done), by first | rfl | exact int_eq (by omega) | exact len_eq (by simp) | exact int_eq (by simp; done), by exact int_eq (by rw [List.length_map]), by first | rfl | exact int_eq (by omega) | exact len_eq (by simp) | exact int_eq (by simp; done), trivial⟩
      · exact HLe.refl _
      · rintro j ⟨hj, hJ⟩
        refine W.reg ?_
        refine XOps.s rfl rfl rfl (Q.lss rfl rfl) ?_
        refine XOps.nil ?_
        refine W.seq ?_
        refine W.cond rfl (fun hc24 => ?_) (fun hc24 => ?_)
        · skip
          have h24 : (j : Int) < (((landL g).length : Nat) : Int) := of_decide_eq_true hc24
          obtain ⟨u, hu⟩ : ∃ u, (landL g)[j]? = some u := ⟨_, List.getElem?_eq_getElem (by omega)⟩
          have hst2 := any_take (p := freeP su f t g) hu
          have hub := landL_bd og u (List.mem_of_getElem? hu)
          have hu0 := hub.1
          have hu1 := hub.2
          refine W.skip ?_
          refine W.seq ?_
          refine W.block ?_
          refine W.reg ?_
          refine XOps.s rfl rfl rfl (Q.idx_sl sl151 (by decide) rfl rfl (by first | omega | (simp only [List.length_map]; omega)) (by first | exact map_at hx | exact map_at hu)) ?_
          refine XOps.s rfl rfl rfl (Q.ld_dp ag3 rfl rfl) ?_
          refine XOps.s rfl rfl rfl (Q.assign_d rfl) ?_
          refine XOps.nil ?_
          refine W.drawreg 39 follows (by kernel_rfl) ?_
          refine Chain.cons _ (GQ.q rfl (Q.fld_ptr fl41_0 rfl)) rfl ?_
          refine Chain.cons _ (GQ.q rfl (Q.ld_ptr (k := 0) ag9 rfl rfl rfl)) rfl ?_
          refine Chain.cons _ (GQ.q rfl (Q.fld_ptr fl41_0 rfl)) rfl ?_
          refine Chain.cons _ (GQ.q rfl (Q.ld_ptr (k := 1) ag9 rfl rfl rfl)) rfl ?_
          refine Chain.cons _ (GQ.q rfl (Q.neq_str rfl rfl)) rfl ?_
          refine Chain.cons _ (GQ.q rfl (Q.move_d rfl)) rfl ?_
          refine Chain.cons _ (GQ.g rfl rfl rfl rfl rfl (fun hg => Q.move_d rfl)) rfl ?_
          refine Chain.cons _ (GQ.g rfl rfl rfl rfl rfl (fun hg => Q.move_d rfl)) rfl ?_
          refine Chain.cons _ (GQ.g rfl rfl rfl rfl rfl (fun hg => Quiet.open 33 hg rfl (Quiet.open 34 hg rfl (Q.sub rfl rfl (wi64 (by first | omega | (dsimp only; omega) | (simp only [List.length_map]; omega)) (by first | omega | (dsimp only; omega) | (simp only [List.length_map]; omega))))))) rfl ?_
          refine Chain.cons _ (GQ.g rfl rfl rfl rfl rfl (fun hg => Q.move_ptr rfl)) rfl ?_
          refine Chain.cons _ (GQ.g rfl rfl rfl rfl rfl (fun hg => Q.fld_ptr fl41_1 rfl)) rfl ?_
          refine Chain.cons _ (GQ.g rfl rfl rfl rfl rfl (fun hg => Quiet.open 37 hg rfl (Q.ld_ptr (k := 0) ag3 rfl rfl rfl))) rfl ?_
          refine Chain.cons _ (GQ.g rfl rfl rfl rfl rfl (fun hg => Q.fld_ptr fl41_1 rfl)) rfl ?_
          refine Chain.cons _ (GQ.g rfl rfl rfl rfl rfl (fun hg => Quiet.open 39 hg rfl (Q.ld_ptr (k := 1) ag3 rfl rfl rfl))) rfl ?_
          refine Chain.cons _ (GQ.g rfl rfl rfl rfl rfl (fun hg => Quiet.open 36 hg rfl (Q.nil_ptr rfl))) rfl ?_
          refine Chain.cons _ (GQ.g rfl rfl rfl rfl rfl (fun hg => Quiet.open 41 hg rfl (Q.fld_ptr fl83_0 rfl))) rfl ?_
          refine Chain.cons _ (GQ.g rfl rfl rfl rfl rfl (fun hg => Quiet.open 42 hg rfl (Q.fld_ptr fl27_1 rfl))) rfl ?_
          refine Chain.cons _ (GQ.g rfl rfl rfl rfl rfl (fun hg => Quiet.open 43 hg rfl (Quiet.open 38 hg rfl (Q.idx_arr ar25 rfl rfl (by omega) (by omega))))) rfl ?_
          refine Chain.cons _ (GQ.g rfl rfl rfl rfl rfl (fun hg => Quiet.open 44 hg rfl (Quiet.open 40 hg rfl (Q.idx_arr ar24 rfl rfl (by omega) (by omega))))) rfl ?_
          refine Chain.cons _ (GQ.g rfl rfl rfl rfl rfl (fun hg => Quiet.open 45 hg rfl (Q.ld_ptr (k := q + 2) ag3 rfl hq (gap_at su _ (by omega) (by omega) (by omega) (by omega))))) rfl ?_
          refine Chain.cons _ (GQ.g rfl rfl rfl rfl rfl (fun hg => Quiet.open 35 hg rfl (Quiet.open 46 hg rfl (Q.lss rfl rfl)))) rfl ?_
          refine Chain.cons _ (GQ.q rfl (Q.pick_and rfl rfl rfl (fun h => by first | (rw [h]; rfl) | (rw [hg, h]; rfl) | (simp [h, hg]; done)))) rfl ?_
          refine Chain.cons _ (GQ.q rfl (Q.move_d rfl)) rfl ?_
          refine Chain.cons _ (GQ.g rfl rfl rfl rfl rfl (fun hg => Q.move_d rfl)) rfl ?_
          refine Chain.cons _ (GQ.g rfl rfl rfl rfl rfl (fun hg => Q.move_d rfl)) rfl ?_
          refine Chain.cons _ (GQ.g rfl rfl rfl rfl rfl (fun hg => Quiet.open 50 hg rfl (Quiet.open 51 hg rfl (Q.sub rfl rfl (wi64 (by first | omega | (dsimp only; omega) | (simp only [List.length_map]; omega)) (by first | omega | (dsimp only; omega) | (simp only [List.length_map]; omega))))))) rfl ?_
          refine Chain.cons _ (GQ.g rfl rfl rfl rfl rfl (fun hg => Q.move_ptr rfl)) rfl ?_
          refine Chain.cons _ (GQ.g rfl rfl rfl rfl rfl (fun hg => Q.fld_ptr fl41_1 rfl)) rfl ?_
          refine Chain.cons _ (GQ.g rfl rfl rfl rfl rfl (fun hg => Quiet.open 54 hg rfl (Q.ld_ptr (k := 1) ag3 rfl rfl rfl))) rfl ?_
          refine Chain.cons _ (GQ.g rfl rfl rfl rfl rfl (fun hg => Q.fld_ptr fl41_1 rfl)) rfl ?_
          refine Chain.cons _ (GQ.g rfl rfl rfl rfl rfl (fun hg => Quiet.open 56 hg rfl (Q.ld_ptr (k := 0) ag3 rfl rfl rfl))) rfl ?_
          refine Chain.cons _ (GQ.g rfl rfl rfl rfl rfl (fun hg => Quiet.open 53 hg rfl (Q.nil_ptr rfl))) rfl ?_
          refine Chain.cons _ (GQ.g rfl rfl rfl rfl rfl (fun hg => Quiet.open 58 hg rfl (Q.fld_ptr fl83_0 rfl))) rfl ?_
          refine Chain.cons _ (GQ.g rfl rfl rfl rfl rfl (fun hg => Quiet.open 59 hg rfl (Q.fld_ptr fl27_1 rfl))) rfl ?_
          refine Chain.cons _ (GQ.g rfl rfl rfl rfl rfl (fun hg => Quiet.open 60 hg rfl (Quiet.open 55 hg rfl (Q.idx_arr ar25 rfl rfl (by omega) (by omega))))) rfl ?_
          refine Chain.cons _ (GQ.g rfl rfl rfl rfl rfl (fun hg => Quiet.open 61 hg rfl (Quiet.open 57 hg rfl (Q.idx_arr ar24 rfl rfl (by omega) (by omega))))) rfl ?_
          refine Chain.cons _ (GQ.g rfl rfl rfl rfl rfl (fun hg => Quiet.open 62 hg rfl (Q.ld_ptr (k := q + 2) ag3 rfl hq (gap_at su _ (by omega) (by omega) (by omega) (by omega))))) rfl ?_
          refine Chain.cons _ (GQ.g rfl rfl rfl rfl rfl (fun hg => Quiet.open 52 hg rfl (Quiet.open 63 hg rfl (Q.lss rfl rfl)))) rfl ?_
          refine Chain.cons _ (GQ.q rfl (Q.pick_and rfl rfl rfl (fun h => by first | (rw [h]; rfl) | (rw [hg, h]; rfl) | (simp [h, hg]; done)))) rfl ?_
          refine Chain.nil ?_
          refine XOps.nil ?_
          refine W.cond rfl (fun hc65 => ?_) (fun hc65 => ?_)
          · skip
            have h65 : freeP su f t g u = true := hc65
            have hE : fryB su fl f t = false := by unfold fryB; rw [any_yes hx (any_yes hu h65)]; rfl
            rw [hE]
            refine W.reg ?_
            refine XOps.s rfl rfl rfl (Q.assign_d rfl) ?_
            refine XOps.nil ?_
            refine W.ret ?_
            exact ⟨_, hs, rfl, HLe.skip _ (HLe.skip _ (HLe.refl _)), rfl, rfl⟩
          · skip
            have h65 : freeP su f t g u = false := hc65
            rw [hJ, h65] at hst2
            refine W.skip ?_
            refine W.region ?_
            refine XOps.s rfl rfl rfl (Q.add rfl rfl (wi64 (by first | omega | (dsimp only; omega) | (simp only [List.length_map]; omega)) (by first | omega | (dsimp only; omega) | (simp only [List.length_map]; omega)))) ?_
            refine XOps.s rfl rfl rfl (Q.move_d rfl) ?_
            refine XOps.nil ?_
            refine ⟨j + 1, ?_, ?_, ?_, ?_⟩
            · exact ⟨by omega, hst2⟩
            · omega
            · exact ⟨by first | rfl | exact int_eq (by omega) | exact len_eq (by simp) | exact int_eq (by simp; done), by first | rfl | exact int_eq (by omega) | exact len_eq (by simp) | exact int_eq (by simp; done), by first | rfl | exact int_eq (by omega) | exact len_eq (by simp) | exact int_eq (by simp; done), by first | rfl | exact int_eq (by omega) | exact len_eq (by simp) | exact int_eq (by simp; done), by first | rfl | exact int_eq (by omega) | exact len_eq (by simp) | exact int_eq (by simp; done), by first | rfl | exact int_eq (by omega) | exact len_eq (by simp) | exact int_eq (by simp; done), by first | rfl | exact int_eq (by omega) | exact len_eq (by simp) | exact int_eq (by simp; done), by first | rfl | exact int_eq (by omega) | exact len_eq (by simp) | exact int_eq (by simp; done), by first | rfl | exact int_eq (by omega) | exact len_eq (by simp) | exact int_eq (by simp; done), by first | rfl | exact int_eq (by omega) | exact len_eq (by simp) | exact int_eq (by simp; done), trivial⟩
            · exact HLe.refl _
        · skip
          have h24 : ¬ (j : Int) < (((landL g).length : Nat) : Int) := of_decide_eq_false hc24
          obtain rfl : j = (landL g).length := by omega
          rw [List.take_length] at hJ
          rw [hI, hJ] at hst
          refine W.exit ?_
          refine W.region ?_
          refine XOps.s rfl rfl rfl (Q.add rfl rfl (wi64 (by first | omega | (dsimp only; omega) | (simp only [List.length_map]; omega)) (by first | omega | (dsimp only; omega) | (simp only [List.length_map]; omega)))) ?_
          refine XOps.s rfl rfl rfl (Q.move_d rfl) ?_
          refine XOps.nil ?_
          refine ⟨i + 1, ?_, ?_, ?_, ?_⟩
          · exact ⟨by omega, hst⟩
          · omega
          · exact ⟨by first | rfl | exact int_eq (by omega) | exact len_eq (by simp) | exact int_eq (by simp; done), by first | rfl | exact int_eq (by omega) | exact len_eq (by simp) | exact int_eq (by simp; done), by first | rfl | exact int_eq (by omega) | exact len_eq (by simp) | exact int_eq (by simp; done), by first | rfl | exact int_eq (by omega) | exact len_eq (by simp) | exact int_eq (by simp; done), by first | rfl | exact int_eq (by omega) | exact len_eq (by simp) | exact int_eq (by simp; done), by first | rfl | exact int_eq (by omega) | exact len_eq (by simp) | exact int_eq (by simp; done), trivial⟩
          · exact HLe.skip _ (HLe.refl _)
    · skip
      have h17 : ¬ (i : Int) < ((fl.length : Nat) : Int) := of_decide_eq_false hc17
      obtain rfl : i = fl.length := by omega
      rw [List.take_length] at hI
      have hE : fryB su fl f t = true := by unfold fryB; rw [hI]; rfl
      rw [hE]
      refine W.exit ?_
      refine W.reg ?_
      refine XOps.s rfl rfl rfl (Q.assign_d rfl) ?_
      refine XOps.nil ?_
      refine W.ret ?_
      exact ⟨_, hs, rfl, HLe.skip _ (HLe.refl _), rfl, rfl⟩
set_option maxHeartbeats 8000000 in
set_option maxRecDepth 100000 in
theorem land_c (su : Su) (tm : AV) (fl : List Fl) (T : List AV) (b q : Nat) (hs : Hp) (hq : hs[q]? = some (b, .cells (su.enc.map AV.d ++ tm :: .d (.sl 8 (fl.map Fl.enc)) :: T))) (f : Fl) (l : List Nd) (ok : TuOk l) (gk : gapsOk su.gv) (wk : 0 ≤ f.wake ∧ f.wake ≤ 3) (sl : 0 ≤ f.slot ∧ f.slot ≤ 200000) (fo : ∀ g ∈ fl, FlOk g) (hf : fl.length ≤ 1000) : AC P 81 [.ptr b 0, .d (.agg (Fl.enc f)), .d (tuD l)] hs (fun r h => r = .tup [.d (.int .i64 (landV su fl f l)), .d (.bool (landB su fl f l))] ∧ h = hs) := by
  have hml : (fl.map Fl.enc).length = fl.length := List.length_map _
  have pl := la_row ok.ne
  have hmt : (l.map Nd.enc).length = l.length := List.length_map _
  have hl0 : l.length ≠ 0 := fun e => ok.ne (List.eq_nil_of_length_eq_zero e)
  have hlen := ok.len
  obtain ⟨⟨a1, a2⟩, a3, a4⟩ := hd_bd ok
  have s0 := sl.1
  have s1 := sl.2
  have hf0 := wk.1
  have hf1 := wk.2
  refine AC.of 85 Tryz.func81 rfl rfl rfl ?_
  refine W.reg ?_
  refine XOps.loud rfl (L.boxn rfl rfl) ?_
  rintro _ _ ⟨b4, rfl, rfl⟩
  refine XOps.s rfl rfl rfl (Q.assign_d rfl) ?_
  refine XOps.s rfl rfl rfl (Q.assign_d rfl) ?_
  refine XOps.nil ?_
  refine W.seq ?_
  refine W.reg ?_
  refine XOps.s rfl rfl rfl (Q.fld_ptr fl41_3 rfl) ?_
  refine XOps.s rfl rfl rfl (Q.ld_ptr (k := 0) ag4 rfl rfl rfl) ?_
  refine XOps.s rfl rfl rfl (Q.not rfl) ?_
  refine XOps.nil ?_
  refine W.cond rfl (fun hc17 => ?_) (fun hc17 => ?_)
  · skip
    have h17 : f.lands = false := by simpa using hc17
    have hE : landV su fl f l = 0 := if_pos h17
    have hB : landB su fl f l = true := if_pos h17
    rw [hE, hB]
    refine W.reg ?_
    refine XOps.s rfl rfl rfl (Q.assign_d rfl) ?_
    refine XOps.s rfl rfl rfl (Q.assign_d rfl) ?_
    refine XOps.nil ?_
    refine W.ret ?_
    exact ⟨_, hs, rfl, HLe.skip _ (HLe.refl _), rfl, rfl⟩
  · skip
    have h17 : ¬ f.lands = false := by
      intro h; rw [h] at hc17; simp at hc17
    have hE : landV su fl f l = bestV su fl f l := if_neg h17
    have hB : landB su fl f l = decide (bestV su fl f l ≤ f.slot) := if_neg h17
    rw [hE, hB]
    refine W.skip ?_
    refine W.reg ?_
    refine XOps.s rfl rfl rfl (Q.move_d rfl) ?_
    refine XOps.s rfl rfl rfl (Q.move_d rfl) ?_
    refine XOps.s rfl rfl rfl (Q.len_sl isl33 rfl) ?_
    refine XOps.s rfl rfl rfl (Q.sub rfl rfl (wi64 (by first | omega | (dsimp only; omega) | (simp only [List.length_map]; omega)) (by first | omega | (dsimp only; omega) | (simp only [List.length_map]; omega)))) ?_
    refine XOps.s rfl rfl rfl (Q.idx_sl sl33 (by decide) rfl rfl (by first | omega | (simp only [List.length_map]; omega)) (by first | exact pl | exact map_at hx | exact map_at hu)) ?_
    refine XOps.s rfl rfl rfl (Q.fld_dp fl47_0 rfl) ?_
    refine XOps.s rfl rfl rfl (Q.fld_dp fl45_0 rfl) ?_
    refine XOps.s rfl rfl rfl (Q.ld_dp ag3 rfl rfl) ?_
    refine XOps.s rfl rfl rfl (Q.assign_d rfl) ?_
    refine XOps.nil ?_
    refine W.reg ?_
    refine XOps.s rfl rfl rfl (Q.fld_ptr fl41_2 rfl) ?_
    refine XOps.s rfl rfl rfl (Q.ld_ptr (k := 0) ag3 rfl rfl rfl) ?_
    refine XOps.s rfl rfl rfl (Q.add rfl rfl (wi64 (by first | omega | (dsimp only; omega) | (simp only [List.length_map]; omega)) (by first | omega | (dsimp only; omega) | (simp only [List.length_map]; omega)))) ?_
    refine XOps.s rfl rfl rfl (Q.assign_d rfl) ?_
    refine XOps.nil ?_
    refine W.seq ?_
    refine W.reg ?_
    refine XOps.s rfl rfl rfl (Q.move_ptr rfl) ?_
    refine XOps.s rfl rfl rfl (Q.ld_ptrn (k := 0) ag41 rfl rfl rfl) ?_
    refine XOps.s rfl rfl rfl (Q.move_d rfl) ?_
    refine XOps.s rfl rfl rfl (Q.call rfl Tryz.func103 go103 rfl (free_c su tm fl T b (q + 1) _ hq f (laT l) (by omega) (by omega) wk fo hf)) ?_
    refine XOps.nil ?_
    refine W.cond rfl (fun hc32 => ?_) (fun hc32 => ?_)
    · skip
      have hb0 : best0 su fl f (laT l) = laT l := if_pos hc32
      refine W.region ?_
      refine XOps.s rfl rfl rfl (Q.move_d rfl) ?_
      refine XOps.s rfl rfl rfl (Q.assign_d rfl) ?_
      refine XOps.nil ?_
      refine W.seq ?_
      rw [← hb0]
      refine W.reg ?_
      refine XOps.s rfl rfl rfl (Q.move_ptr rfl) ?_
      refine XOps.s rfl rfl rfl (Q.nil_ptr rfl) ?_
      refine XOps.s rfl rfl rfl (Q.fld_ptr fl83_2 rfl) ?_
      refine XOps.s rfl rfl rfl (Q.ld_ptr (k := q + 1) ag37 rfl hq rfl) ?_
      refine XOps.s rfl rfl rfl (Q.len_sl isl37 rfl) ?_
      refine XOps.s rfl rfl rfl (Q.move_d rfl) ?_
      refine XOps.nil ?_
      refine W.block ?_
      refine W.loop (ι := Nat) (fun i => [(0, .ptr b 0), (4, .ptr b4 0), (8, .d (.int .i64 (laT l))), (9, .d (.int .i64 (((fl.take i).foldl (bestG su fl f (laT l)) (best0 su fl f (laT l)))))), (37, .d (.sl 8 (fl.map Fl.enc))), (38, .d (.int .i64 fl.length)), (39, .d (.int .i64 (i : Nat)))]) (fun i => (b4, .cells (f.enc.map .d)) :: hs) (fun i => i ≤ fl.length) (fun i => fl.length - i) 0 ?_ ?_ ?_ ?_
      · exact Nat.zero_le _
      · exact ⟨by first | rfl | exact int_eq (by omega) | exact len_eq (by simp) | exact int_eq (by simp; done), by first | rfl | exact int_eq (by omega) | exact len_eq (by simp) | exact int_eq (by simp; done), by first | rfl | exact int_eq (by omega) | exact len_eq (by simp) | exact int_eq (by simp; done), by first | rfl | exact int_eq (by rw [List.take_zero]; exact hb0.symm), by first | rfl | exact int_eq (by omega) | exact len_eq (by simp) | exact int_eq (by simp; done), by exact int_eq (by rw [List.length_map]), by first | rfl | exact int_eq (by omega) | exact len_eq (by simp) | exact int_eq (by simp; done), trivial⟩
      · exact HLe.refl _
      · rintro i hi
        refine W.reg ?_
        refine XOps.s rfl rfl rfl (Q.lss rfl rfl) ?_
        refine XOps.nil ?_
        refine W.seq ?_
        refine W.cond rfl (fun hc40 => ?_) (fun hc40 => ?_)
        · skip
          have h40 : (i : Int) < ((fl.length : Nat) : Int) := of_decide_eq_true hc40
          obtain ⟨g, hx⟩ : ∃ g, fl[i]? = some g := ⟨_, List.getElem?_eq_getElem (by omega)⟩
          have hst := foldl_take (p := bestG su fl f (laT l)) (b := best0 su fl f (laT l)) hx
          have og := fo g (List.mem_of_getElem? hx)
          have hg0 := og.wake.1
          have hg1 := og.wake.2
          have hll := landL_len g
          have hgb := gap_bd gk hg0 hg1 hf0 hf1
          have hgb0 := hgb.1
          have hgb1 := hgb.2
          refine W.skip ?_
          refine W.seq ?_
          refine W.block ?_
          refine W.reg ?_
          refine XOps.s rfl rfl rfl (Q.idx_sl sl37 (by decide) rfl rfl (by first | omega | (simp only [List.length_map]; omega)) (by first | exact pl | exact map_at hx | exact map_at hu)) ?_
          refine XOps.s rfl rfl rfl (Q.ld_dpn ag41 rfl rfl) ?_
          (refine XOps.loud rfl (L.alloc tz41 rfl rfl) ?_; rintro _ _ ⟨b11, rfl, rfl⟩)
          refine XOps.loud rfl (L.storen (k := 0) ag41 rfl rfl rfl rfl rfl) ?_
          rintro _ _ ⟨rfl, rfl⟩
          refine XOps.nil ?_
          refine W.reg ?_
          refine XOps.s rfl rfl rfl (Q.ld_ptrn (k := 0) ag41 rfl rfl rfl) ?_
          refine XOps.s rfl rfl rfl (Q.call rfl Tryz.func104 go104 rfl (ldg_c g _)) ?_
          refine XOps.s rfl rfl rfl (Q.len_sl isl151 rfl) ?_
          refine XOps.s rfl rfl rfl (Q.move_d rfl) ?_
          refine XOps.nil ?_
          refine W.block ?_
          refine W.loop (ι := Nat) (fun j => [(0, .ptr b 0), (4, .ptr b4 0), (8, .d (.int .i64 (laT l))), (9, .d (.int .i64 ((((landL g).take j).foldl (bestU su fl f g (laT l)) ((fl.take i).foldl (bestG su fl f (laT l)) (best0 su fl f (laT l))))))), (11, .ptr b11 0), (37, .d (.sl 8 (fl.map Fl.enc))), (38, .d (.int .i64 fl.length)), (39, .d (.int .i64 (i : Nat))), (44, .d (slN (landL g))), (45, .d (.int .i64 (landL g).length)), (46, .d (.int .i64 (j : Nat)))]) (fun j => (b11, .cells (g.enc.map .d)) :: (b4, .cells (f.enc.map .d)) :: hs) (fun j => j ≤ (landL g).length) (fun j => (landL g).length - j) 0 ?_ ?_ ?_ ?_
          · exact Nat.zero_le _
          · exact ⟨by first | rfl | exact int_eq (by omega) | exact len_eq (by simp) | exact int_eq (by simp; done), by first | rfl | exact int_eq (by omega) | exact len_eq (by simp) | exact int_eq (by simp; done), by first | rfl | exact int_eq (by omega) | exact len_eq (by simp) | exact int_eq (by simp; done), by rfl, by first | rfl | exact int_eq (by omega) | exact len_eq (by simp) | exact int_eq (by simp; done), by first | rfl | exact int_eq (by omega) | exact len_eq (by simp) | exact int_eq (by simp; done), by first | rfl | exact int_eq (by omega) | exact len_eq (by simp) | exact int_eq (by simp; done), by first | rfl | exact int_eq (by omega) | exact len_eq (by simp) | exact int_eq (by simp; done), by first | rfl | exact int_eq (by omega) | exact len_eq (by simp) | exact int_eq (by simp; done), by exact int_eq (by rw [List.length_map]), by first | rfl | exact int_eq (by omega) | exact len_eq (by simp) | exact int_eq (by simp; done), trivial⟩
          · exact HLe.refl _
          · rintro j hj
            refine W.reg ?_
            refine XOps.s rfl rfl rfl (Q.lss rfl rfl) ?_
            refine XOps.nil ?_
            refine W.seq ?_
            refine W.cond rfl (fun hc47 => ?_) (fun hc47 => ?_)
            · skip
              have h47 : (j : Int) < (((landL g).length : Nat) : Int) := of_decide_eq_true hc47
              obtain ⟨u, hu⟩ : ∃ u, (landL g)[j]? = some u := ⟨_, List.getElem?_eq_getElem (by omega)⟩
              have hst2 := foldl_take (p := bestU su fl f g (laT l)) (b := ((fl.take i).foldl (bestG su fl f (laT l)) (best0 su fl f (laT l)))) hu
              have hub := landL_bd og u (List.mem_of_getElem? hu)
              have hu0 := hub.1
              have hu1 := hub.2
              refine W.skip ?_
              refine W.seq ?_
              refine W.block ?_
              refine W.reg ?_
              refine XOps.s rfl rfl rfl (Q.idx_sl sl151 (by decide) rfl rfl (by first | omega | (simp only [List.length_map]; omega)) (by first | exact pl | exact map_at hx | exact map_at hu)) ?_
              refine XOps.s rfl rfl rfl (Q.ld_dp ag3 rfl rfl) ?_
              refine XOps.s rfl rfl rfl (Q.assign_d rfl) ?_
              refine XOps.nil ?_
              refine W.drawreg 13 follows (by kernel_rfl) ?_
              refine Chain.cons _ (GQ.q rfl (Q.move_d rfl)) rfl ?_
              refine Chain.cons _ (GQ.q rfl (Q.move_ptr rfl)) rfl ?_
              refine Chain.cons _ (GQ.q rfl (Q.fld_ptr fl41_1 rfl)) rfl ?_
              refine Chain.cons _ (GQ.q rfl (Q.ld_ptr (k := 0) ag3 rfl rfl rfl)) rfl ?_
              refine Chain.cons _ (GQ.q rfl (Q.fld_ptr fl41_1 rfl)) rfl ?_
              refine Chain.cons _ (GQ.q rfl (Q.ld_ptr (k := 1) ag3 rfl rfl rfl)) rfl ?_
              refine Chain.cons _ (GQ.q rfl (Q.nil_ptr rfl)) rfl ?_
              refine Chain.cons _ (GQ.q rfl (Q.fld_ptr fl83_0 rfl)) rfl ?_
              refine Chain.cons _ (GQ.q rfl (Q.fld_ptr fl27_1 rfl)) rfl ?_
              refine Chain.cons _ (GQ.q rfl (Q.idx_arr ar25 rfl rfl (by omega) (by omega))) rfl ?_
              refine Chain.cons _ (GQ.q rfl (Q.idx_arr ar24 rfl rfl (by omega) (by omega))) rfl ?_
              refine Chain.cons _ (GQ.q rfl (Q.ld_ptr (k := q + 2) ag3 rfl hq (gap_at su _ (by omega) (by omega) (by omega) (by omega)))) rfl ?_
              refine Chain.cons _ (GQ.q rfl (Q.add rfl rfl (wi64 (by first | omega | (dsimp only; omega) | (simp only [List.length_map]; omega)) (by first | omega | (dsimp only; omega) | (simp only [List.length_map]; omega))))) rfl ?_
              refine Chain.nil ?_
              refine XOps.s rfl rfl rfl (Q.assign_d rfl) ?_
              refine XOps.nil ?_
              refine W.reg ?_
              refine XOps.s rfl rfl rfl (Q.move_d rfl) ?_
              refine XOps.s rfl rfl rfl (Q.move_d rfl) ?_
              refine XOps.s rfl rfl rfl (Q.geq rfl rfl) ?_
              refine XOps.s rfl rfl rfl (Q.move_d rfl) ?_
              refine XOps.gs rfl rfl rfl rfl rfl rfl rfl (fun hg => Q.move_d rfl) ?_
              refine XOps.gs rfl rfl rfl rfl rfl rfl rfl (fun hg => Q.move_d rfl) ?_
              refine XOps.gs rfl rfl rfl rfl rfl rfl rfl (fun hg => Quiet.open 67 hg rfl (Quiet.open 68 hg rfl (Q.lss rfl rfl))) ?_
              refine XOps.s rfl rfl rfl (Q.pick_and rfl rfl rfl (fun h => by first | (rw [h]; rfl) | (rw [hg, h]; rfl) | (simp [h, hg]; done))) ?_
              refine XOps.s rfl rfl rfl (Q.move_d rfl) ?_
              refine XOps.gs rfl rfl rfl rfl rfl rfl rfl (fun hg => Q.move_ptr rfl) ?_
              refine XOps.gs rfl rfl rfl rfl rfl rfl rfl (fun hg => Q.ld_ptrn (k := 1) ag41 rfl rfl rfl) ?_
              refine XOps.gs rfl rfl rfl rfl rfl rfl rfl (fun hg => Q.move_d rfl) ?_
              refine XOps.gs rfl rfl rfl rfl rfl rfl rfl (fun hg => Quiet.open 72 hg rfl (Quiet.open 73 hg rfl (Quiet.open 74 hg rfl (Q.call rfl Tryz.func103 go103 rfl (free_c su tm fl T b (q + 2) _ hq f (u + gapI su.gv g.wake f.wake) (by omega) (by omega) wk fo hf))))) ?_
              refine XOps.s rfl rfl rfl (Q.pick_and rfl rfl rfl (fun h => by first | (rw [h]; rfl) | (rw [hg, h]; rfl) | (simp [h, hg]; done))) ?_
              refine XOps.nil ?_
              refine W.cond rfl (fun hc76 => ?_) (fun hc76 => ?_)
              · skip
                have h76 : bestU su fl f g (laT l) (((landL g).take j).foldl (bestU su fl f g (laT l)) ((fl.take i).foldl (bestG su fl f (laT l)) (best0 su fl f (laT l)))) u = u + gapI su.gv g.wake f.wake := if_pos (by simp only [Bool.and_eq_true, decide_eq_true_eq] at hc76; exact hc76)
                rw [h76] at hst2
                refine W.region ?_
                refine XOps.s rfl rfl rfl (Q.move_d rfl) ?_
                refine XOps.s rfl rfl rfl (Q.assign_d rfl) ?_
                refine XOps.nil ?_
                refine W.region ?_
                refine XOps.s rfl rfl rfl (Q.add rfl rfl (wi64 (by first | omega | (dsimp only; omega) | (simp only [List.length_map]; omega)) (by first | omega | (dsimp only; omega) | (simp only [List.length_map]; omega)))) ?_
                refine XOps.s rfl rfl rfl (Q.move_d rfl) ?_
                refine XOps.nil ?_
                refine ⟨j + 1, ?_, ?_, ?_, ?_⟩
                · omega
                · omega
                · exact ⟨by first | rfl | exact int_eq (by omega) | exact len_eq (by simp) | exact int_eq (by simp; done), by first | rfl | exact int_eq (by omega) | exact len_eq (by simp) | exact int_eq (by simp; done), by first | rfl | exact int_eq (by omega) | exact len_eq (by simp) | exact int_eq (by simp; done), by exact int_eq (by rw [hst2]), by first | rfl | exact int_eq (by omega) | exact len_eq (by simp) | exact int_eq (by simp; done), by first | rfl | exact int_eq (by omega) | exact len_eq (by simp) | exact int_eq (by simp; done), by first | rfl | exact int_eq (by omega) | exact len_eq (by simp) | exact int_eq (by simp; done), by first | rfl | exact int_eq (by omega) | exact len_eq (by simp) | exact int_eq (by simp; done), by first | rfl | exact int_eq (by omega) | exact len_eq (by simp) | exact int_eq (by simp; done), by first | rfl | exact int_eq (by omega) | exact len_eq (by simp) | exact int_eq (by simp; done), by first | rfl | exact int_eq (by omega) | exact len_eq (by simp) | exact int_eq (by simp; done), trivial⟩
                · exact HLe.refl _
              · skip
                have h76 : bestU su fl f g (laT l) (((landL g).take j).foldl (bestU su fl f g (laT l)) ((fl.take i).foldl (bestG su fl f (laT l)) (best0 su fl f (laT l)))) u = (((landL g).take j).foldl (bestU su fl f g (laT l)) ((fl.take i).foldl (bestG su fl f (laT l)) (best0 su fl f (laT l)))) := if_neg (by intro h; have h2 := hc76; rw [decide_eq_true h.1.1, decide_eq_true h.1.2, h.2] at h2; simp at h2)
                rw [h76] at hst2
                refine W.skip ?_
                refine W.region ?_
                refine XOps.s rfl rfl rfl (Q.add rfl rfl (wi64 (by first | omega | (dsimp only; omega) | (simp only [List.length_map]; omega)) (by first | omega | (dsimp only; omega) | (simp only [List.length_map]; omega)))) ?_
                refine XOps.s rfl rfl rfl (Q.move_d rfl) ?_
                refine XOps.nil ?_
                refine ⟨j + 1, ?_, ?_, ?_, ?_⟩
                · omega
                · omega
                · exact ⟨by first | rfl | exact int_eq (by omega) | exact len_eq (by simp) | exact int_eq (by simp; done), by first | rfl | exact int_eq (by omega) | exact len_eq (by simp) | exact int_eq (by simp; done), by first | rfl | exact int_eq (by omega) | exact len_eq (by simp) | exact int_eq (by simp; done), by exact int_eq (by rw [hst2]), by first | rfl | exact int_eq (by omega) | exact len_eq (by simp) | exact int_eq (by simp; done), by first | rfl | exact int_eq (by omega) | exact len_eq (by simp) | exact int_eq (by simp; done), by first | rfl | exact int_eq (by omega) | exact len_eq (by simp) | exact int_eq (by simp; done), by first | rfl | exact int_eq (by omega) | exact len_eq (by simp) | exact int_eq (by simp; done), by first | rfl | exact int_eq (by omega) | exact len_eq (by simp) | exact int_eq (by simp; done), by first | rfl | exact int_eq (by omega) | exact len_eq (by simp) | exact int_eq (by simp; done), by first | rfl | exact int_eq (by omega) | exact len_eq (by simp) | exact int_eq (by simp; done), trivial⟩
                · exact HLe.refl _
            · skip
              have h47 : ¬ (j : Int) < (((landL g).length : Nat) : Int) := of_decide_eq_false hc47
              obtain rfl : j = (landL g).length := by omega
              rw [List.take_length]
              refine W.exit ?_
              refine W.region ?_
              refine XOps.s rfl rfl rfl (Q.add rfl rfl (wi64 (by first | omega | (dsimp only; omega) | (simp only [List.length_map]; omega)) (by first | omega | (dsimp only; omega) | (simp only [List.length_map]; omega)))) ?_
              refine XOps.s rfl rfl rfl (Q.move_d rfl) ?_
              refine XOps.nil ?_
              refine ⟨i + 1, ?_, ?_, ?_, ?_⟩
              · omega
              · omega
              · exact ⟨by first | rfl | exact int_eq (by omega) | exact len_eq (by simp) | exact int_eq (by simp; done), by first | rfl | exact int_eq (by omega) | exact len_eq (by simp) | exact int_eq (by simp; done), by first | rfl | exact int_eq (by omega) | exact len_eq (by simp) | exact int_eq (by simp; done), by exact int_eq (by rw [hst]; rfl), by first | rfl | exact int_eq (by omega) | exact len_eq (by simp) | exact int_eq (by simp; done), by first | rfl | exact int_eq (by omega) | exact len_eq (by simp) | exact int_eq (by simp; done), by first | rfl | exact int_eq (by omega) | exact len_eq (by simp) | exact int_eq (by simp; done), trivial⟩
              · exact HLe.skip _ (HLe.refl _)
        · skip
          have h40 : ¬ (i : Int) < ((fl.length : Nat) : Int) := of_decide_eq_false hc40
          obtain rfl : i = fl.length := by omega
          rw [List.take_length]
          refine W.exit ?_
          refine W.drawreg 6 follows (by kernel_rfl) ?_
          refine Chain.cons _ (GQ.q rfl (Q.move_d rfl)) rfl ?_
          refine Chain.cons _ (GQ.q rfl (Q.move_d rfl)) rfl ?_
          refine Chain.cons _ (GQ.q rfl (Q.fld_ptr fl41_2 rfl)) rfl ?_
          refine Chain.cons _ (GQ.q rfl (Q.ld_ptr (k := 0) ag3 rfl rfl rfl)) rfl ?_
          refine Chain.cons _ (GQ.q rfl (Q.leq rfl rfl)) rfl ?_
          refine Chain.cons _ (GQ.q rfl (Q.assign_d rfl)) rfl ?_
          refine Chain.nil ?_
          refine XOps.s rfl rfl rfl (Q.assign_d rfl) ?_
          refine XOps.nil ?_
          refine W.ret ?_
          exact ⟨_, hs, rfl, HLe.skip _ (HLe.refl _), rfl, rfl⟩
    · skip
      have hb0 : best0 su fl f (laT l) = f.slot + 1 := if_neg (by rw [hc32]; simp)
      refine W.skip ?_
      refine W.seq ?_
      rw [← hb0]
      refine W.reg ?_
      refine XOps.s rfl rfl rfl (Q.move_ptr rfl) ?_
      refine XOps.s rfl rfl rfl (Q.nil_ptr rfl) ?_
      refine XOps.s rfl rfl rfl (Q.fld_ptr fl83_2 rfl) ?_
      refine XOps.s rfl rfl rfl (Q.ld_ptr (k := q + 1) ag37 rfl hq rfl) ?_
      refine XOps.s rfl rfl rfl (Q.len_sl isl37 rfl) ?_
      refine XOps.s rfl rfl rfl (Q.move_d rfl) ?_
      refine XOps.nil ?_
      refine W.block ?_
      refine W.loop (ι := Nat) (fun i => [(0, .ptr b 0), (4, .ptr b4 0), (8, .d (.int .i64 (laT l))), (9, .d (.int .i64 (((fl.take i).foldl (bestG su fl f (laT l)) (best0 su fl f (laT l)))))), (37, .d (.sl 8 (fl.map Fl.enc))), (38, .d (.int .i64 fl.length)), (39, .d (.int .i64 (i : Nat)))]) (fun i => (b4, .cells (f.enc.map .d)) :: hs) (fun i => i ≤ fl.length) (fun i => fl.length - i) 0 ?_ ?_ ?_ ?_
      · exact Nat.zero_le _
      · exact ⟨by first | rfl | exact int_eq (by omega) | exact len_eq (by simp) | exact int_eq (by simp; done), by first | rfl | exact int_eq (by omega) | exact len_eq (by simp) | exact int_eq (by simp; done), by first | rfl | exact int_eq (by omega) | exact len_eq (by simp) | exact int_eq (by simp; done), by first | rfl | exact int_eq (by rw [List.take_zero]; exact hb0.symm), by first | rfl | exact int_eq (by omega) | exact len_eq (by simp) | exact int_eq (by simp; done), by exact int_eq (by rw [List.length_map]), by first | rfl | exact int_eq (by omega) | exact len_eq (by simp) | exact int_eq (by simp; done), trivial⟩
      · exact HLe.refl _
      · rintro i hi
        refine W.reg ?_
        refine XOps.s rfl rfl rfl (Q.lss rfl rfl) ?_
        refine XOps.nil ?_
        refine W.seq ?_
        refine W.cond rfl (fun hc40 => ?_) (fun hc40 => ?_)
        · skip
          have h40 : (i : Int) < ((fl.length : Nat) : Int) := of_decide_eq_true hc40
          obtain ⟨g, hx⟩ : ∃ g, fl[i]? = some g := ⟨_, List.getElem?_eq_getElem (by omega)⟩
          have hst := foldl_take (p := bestG su fl f (laT l)) (b := best0 su fl f (laT l)) hx
          have og := fo g (List.mem_of_getElem? hx)
          have hg0 := og.wake.1
          have hg1 := og.wake.2
          have hll := landL_len g
          have hgb := gap_bd gk hg0 hg1 hf0 hf1
          have hgb0 := hgb.1
          have hgb1 := hgb.2
          refine W.skip ?_
          refine W.seq ?_
          refine W.block ?_
          refine W.reg ?_
          refine XOps.s rfl rfl rfl (Q.idx_sl sl37 (by decide) rfl rfl (by first | omega | (simp only [List.length_map]; omega)) (by first | exact pl | exact map_at hx | exact map_at hu)) ?_
          refine XOps.s rfl rfl rfl (Q.ld_dpn ag41 rfl rfl) ?_
          (refine XOps.loud rfl (L.alloc tz41 rfl rfl) ?_; rintro _ _ ⟨b11, rfl, rfl⟩)
          refine XOps.loud rfl (L.storen (k := 0) ag41 rfl rfl rfl rfl rfl) ?_
          rintro _ _ ⟨rfl, rfl⟩
          refine XOps.nil ?_
          refine W.reg ?_
          refine XOps.s rfl rfl rfl (Q.ld_ptrn (k := 0) ag41 rfl rfl rfl) ?_
          refine XOps.s rfl rfl rfl (Q.call rfl Tryz.func104 go104 rfl (ldg_c g _)) ?_
          refine XOps.s rfl rfl rfl (Q.len_sl isl151 rfl) ?_
          refine XOps.s rfl rfl rfl (Q.move_d rfl) ?_
          refine XOps.nil ?_
          refine W.block ?_
          refine W.loop (ι := Nat) (fun j => [(0, .ptr b 0), (4, .ptr b4 0), (8, .d (.int .i64 (laT l))), (9, .d (.int .i64 ((((landL g).take j).foldl (bestU su fl f g (laT l)) ((fl.take i).foldl (bestG su fl f (laT l)) (best0 su fl f (laT l))))))), (11, .ptr b11 0), (37, .d (.sl 8 (fl.map Fl.enc))), (38, .d (.int .i64 fl.length)), (39, .d (.int .i64 (i : Nat))), (44, .d (slN (landL g))), (45, .d (.int .i64 (landL g).length)), (46, .d (.int .i64 (j : Nat)))]) (fun j => (b11, .cells (g.enc.map .d)) :: (b4, .cells (f.enc.map .d)) :: hs) (fun j => j ≤ (landL g).length) (fun j => (landL g).length - j) 0 ?_ ?_ ?_ ?_
          · exact Nat.zero_le _
          · exact ⟨by first | rfl | exact int_eq (by omega) | exact len_eq (by simp) | exact int_eq (by simp; done), by first | rfl | exact int_eq (by omega) | exact len_eq (by simp) | exact int_eq (by simp; done), by first | rfl | exact int_eq (by omega) | exact len_eq (by simp) | exact int_eq (by simp; done), by rfl, by first | rfl | exact int_eq (by omega) | exact len_eq (by simp) | exact int_eq (by simp; done), by first | rfl | exact int_eq (by omega) | exact len_eq (by simp) | exact int_eq (by simp; done), by first | rfl | exact int_eq (by omega) | exact len_eq (by simp) | exact int_eq (by simp; done), by first | rfl | exact int_eq (by omega) | exact len_eq (by simp) | exact int_eq (by simp; done), by first | rfl | exact int_eq (by omega) | exact len_eq (by simp) | exact int_eq (by simp; done), by exact int_eq (by rw [List.length_map]), by first | rfl | exact int_eq (by omega) | exact len_eq (by simp) | exact int_eq (by simp; done), trivial⟩
          · exact HLe.refl _
          · rintro j hj
            refine W.reg ?_
            refine XOps.s rfl rfl rfl (Q.lss rfl rfl) ?_
            refine XOps.nil ?_
            refine W.seq ?_
            refine W.cond rfl (fun hc47 => ?_) (fun hc47 => ?_)
            · skip
              have h47 : (j : Int) < (((landL g).length : Nat) : Int) := of_decide_eq_true hc47
              obtain ⟨u, hu⟩ : ∃ u, (landL g)[j]? = some u := ⟨_, List.getElem?_eq_getElem (by omega)⟩
              have hst2 := foldl_take (p := bestU su fl f g (laT l)) (b := ((fl.take i).foldl (bestG su fl f (laT l)) (best0 su fl f (laT l)))) hu
              have hub := landL_bd og u (List.mem_of_getElem? hu)
              have hu0 := hub.1
              have hu1 := hub.2
              refine W.skip ?_
              refine W.seq ?_
              refine W.block ?_
              refine W.reg ?_
              refine XOps.s rfl rfl rfl (Q.idx_sl sl151 (by decide) rfl rfl (by first | omega | (simp only [List.length_map]; omega)) (by first | exact pl | exact map_at hx | exact map_at hu)) ?_
              refine XOps.s rfl rfl rfl (Q.ld_dp ag3 rfl rfl) ?_
              refine XOps.s rfl rfl rfl (Q.assign_d rfl) ?_
              refine XOps.nil ?_
              refine W.drawreg 13 follows (by kernel_rfl) ?_
              refine Chain.cons _ (GQ.q rfl (Q.move_d rfl)) rfl ?_
              refine Chain.cons _ (GQ.q rfl (Q.move_ptr rfl)) rfl ?_
              refine Chain.cons _ (GQ.q rfl (Q.fld_ptr fl41_1 rfl)) rfl ?_
              refine Chain.cons _ (GQ.q rfl (Q.ld_ptr (k := 0) ag3 rfl rfl rfl)) rfl ?_
              refine Chain.cons _ (GQ.q rfl (Q.fld_ptr fl41_1 rfl)) rfl ?_
              refine Chain.cons _ (GQ.q rfl (Q.ld_ptr (k := 1) ag3 rfl rfl rfl)) rfl ?_
              refine Chain.cons _ (GQ.q rfl (Q.nil_ptr rfl)) rfl ?_
              refine Chain.cons _ (GQ.q rfl (Q.fld_ptr fl83_0 rfl)) rfl ?_
              refine Chain.cons _ (GQ.q rfl (Q.fld_ptr fl27_1 rfl)) rfl ?_
              refine Chain.cons _ (GQ.q rfl (Q.idx_arr ar25 rfl rfl (by omega) (by omega))) rfl ?_
              refine Chain.cons _ (GQ.q rfl (Q.idx_arr ar24 rfl rfl (by omega) (by omega))) rfl ?_
              refine Chain.cons _ (GQ.q rfl (Q.ld_ptr (k := q + 2) ag3 rfl hq (gap_at su _ (by omega) (by omega) (by omega) (by omega)))) rfl ?_
              refine Chain.cons _ (GQ.q rfl (Q.add rfl rfl (wi64 (by first | omega | (dsimp only; omega) | (simp only [List.length_map]; omega)) (by first | omega | (dsimp only; omega) | (simp only [List.length_map]; omega))))) rfl ?_
              refine Chain.nil ?_
              refine XOps.s rfl rfl rfl (Q.assign_d rfl) ?_
              refine XOps.nil ?_
              refine W.reg ?_
              refine XOps.s rfl rfl rfl (Q.move_d rfl) ?_
              refine XOps.s rfl rfl rfl (Q.move_d rfl) ?_
              refine XOps.s rfl rfl rfl (Q.geq rfl rfl) ?_
              refine XOps.s rfl rfl rfl (Q.move_d rfl) ?_
              refine XOps.gs rfl rfl rfl rfl rfl rfl rfl (fun hg => Q.move_d rfl) ?_
              refine XOps.gs rfl rfl rfl rfl rfl rfl rfl (fun hg => Q.move_d rfl) ?_
              refine XOps.gs rfl rfl rfl rfl rfl rfl rfl (fun hg => Quiet.open 67 hg rfl (Quiet.open 68 hg rfl (Q.lss rfl rfl))) ?_
              refine XOps.s rfl rfl rfl (Q.pick_and rfl rfl rfl (fun h => by first | (rw [h]; rfl) | (rw [hg, h]; rfl) | (simp [h, hg]; done))) ?_
              refine XOps.s rfl rfl rfl (Q.move_d rfl) ?_
              refine XOps.gs rfl rfl rfl rfl rfl rfl rfl (fun hg => Q.move_ptr rfl) ?_
              refine XOps.gs rfl rfl rfl rfl rfl rfl rfl (fun hg => Q.ld_ptrn (k := 1) ag41 rfl rfl rfl) ?_
              refine XOps.gs rfl rfl rfl rfl rfl rfl rfl (fun hg => Q.move_d rfl) ?_
              refine XOps.gs rfl rfl rfl rfl rfl rfl rfl (fun hg => Quiet.open 72 hg rfl (Quiet.open 73 hg rfl (Quiet.open 74 hg rfl (Q.call rfl Tryz.func103 go103 rfl (free_c su tm fl T b (q + 2) _ hq f (u + gapI su.gv g.wake f.wake) (by omega) (by omega) wk fo hf))))) ?_
              refine XOps.s rfl rfl rfl (Q.pick_and rfl rfl rfl (fun h => by first | (rw [h]; rfl) | (rw [hg, h]; rfl) | (simp [h, hg]; done))) ?_
              refine XOps.nil ?_
              refine W.cond rfl (fun hc76 => ?_) (fun hc76 => ?_)
              · skip
                have h76 : bestU su fl f g (laT l) (((landL g).take j).foldl (bestU su fl f g (laT l)) ((fl.take i).foldl (bestG su fl f (laT l)) (best0 su fl f (laT l)))) u = u + gapI su.gv g.wake f.wake := if_pos (by simp only [Bool.and_eq_true, decide_eq_true_eq] at hc76; exact hc76)
                rw [h76] at hst2
                refine W.region ?_
                refine XOps.s rfl rfl rfl (Q.move_d rfl) ?_
                refine XOps.s rfl rfl rfl (Q.assign_d rfl) ?_
                refine XOps.nil ?_
                refine W.region ?_
                refine XOps.s rfl rfl rfl (Q.add rfl rfl (wi64 (by first | omega | (dsimp only; omega) | (simp only [List.length_map]; omega)) (by first | omega | (dsimp only; omega) | (simp only [List.length_map]; omega)))) ?_
                refine XOps.s rfl rfl rfl (Q.move_d rfl) ?_
                refine XOps.nil ?_
                refine ⟨j + 1, ?_, ?_, ?_, ?_⟩
                · omega
                · omega
                · exact ⟨by first | rfl | exact int_eq (by omega) | exact len_eq (by simp) | exact int_eq (by simp; done), by first | rfl | exact int_eq (by omega) | exact len_eq (by simp) | exact int_eq (by simp; done), by first | rfl | exact int_eq (by omega) | exact len_eq (by simp) | exact int_eq (by simp; done), by exact int_eq (by rw [hst2]), by first | rfl | exact int_eq (by omega) | exact len_eq (by simp) | exact int_eq (by simp; done), by first | rfl | exact int_eq (by omega) | exact len_eq (by simp) | exact int_eq (by simp; done), by first | rfl | exact int_eq (by omega) | exact len_eq (by simp) | exact int_eq (by simp; done), by first | rfl | exact int_eq (by omega) | exact len_eq (by simp) | exact int_eq (by simp; done), by first | rfl | exact int_eq (by omega) | exact len_eq (by simp) | exact int_eq (by simp; done), by first | rfl | exact int_eq (by omega) | exact len_eq (by simp) | exact int_eq (by simp; done), by first | rfl | exact int_eq (by omega) | exact len_eq (by simp) | exact int_eq (by simp; done), trivial⟩
                · exact HLe.refl _
              · skip
                have h76 : bestU su fl f g (laT l) (((landL g).take j).foldl (bestU su fl f g (laT l)) ((fl.take i).foldl (bestG su fl f (laT l)) (best0 su fl f (laT l)))) u = (((landL g).take j).foldl (bestU su fl f g (laT l)) ((fl.take i).foldl (bestG su fl f (laT l)) (best0 su fl f (laT l)))) := if_neg (by intro h; have h2 := hc76; rw [decide_eq_true h.1.1, decide_eq_true h.1.2, h.2] at h2; simp at h2)
                rw [h76] at hst2
                refine W.skip ?_
                refine W.region ?_
                refine XOps.s rfl rfl rfl (Q.add rfl rfl (wi64 (by first | omega | (dsimp only; omega) | (simp only [List.length_map]; omega)) (by first | omega | (dsimp only; omega) | (simp only [List.length_map]; omega)))) ?_
                refine XOps.s rfl rfl rfl (Q.move_d rfl) ?_
                refine XOps.nil ?_
                refine ⟨j + 1, ?_, ?_, ?_, ?_⟩
                · omega
                · omega
                · exact ⟨by first | rfl | exact int_eq (by omega) | exact len_eq (by simp) | exact int_eq (by simp; done), by first | rfl | exact int_eq (by omega) | exact len_eq (by simp) | exact int_eq (by simp; done), by first | rfl | exact int_eq (by omega) | exact len_eq (by simp) | exact int_eq (by simp; done), by exact int_eq (by rw [hst2]), by first | rfl | exact int_eq (by omega) | exact len_eq (by simp) | exact int_eq (by simp; done), by first | rfl | exact int_eq (by omega) | exact len_eq (by simp) | exact int_eq (by simp; done), by first | rfl | exact int_eq (by omega) | exact len_eq (by simp) | exact int_eq (by simp; done), by first | rfl | exact int_eq (by omega) | exact len_eq (by simp) | exact int_eq (by simp; done), by first | rfl | exact int_eq (by omega) | exact len_eq (by simp) | exact int_eq (by simp; done), by first | rfl | exact int_eq (by omega) | exact len_eq (by simp) | exact int_eq (by simp; done), by first | rfl | exact int_eq (by omega) | exact len_eq (by simp) | exact int_eq (by simp; done), trivial⟩
                · exact HLe.refl _
            · skip
              have h47 : ¬ (j : Int) < (((landL g).length : Nat) : Int) := of_decide_eq_false hc47
              obtain rfl : j = (landL g).length := by omega
              rw [List.take_length]
              refine W.exit ?_
              refine W.region ?_
              refine XOps.s rfl rfl rfl (Q.add rfl rfl (wi64 (by first | omega | (dsimp only; omega) | (simp only [List.length_map]; omega)) (by first | omega | (dsimp only; omega) | (simp only [List.length_map]; omega)))) ?_
              refine XOps.s rfl rfl rfl (Q.move_d rfl) ?_
              refine XOps.nil ?_
              refine ⟨i + 1, ?_, ?_, ?_, ?_⟩
              · omega
              · omega
              · exact ⟨by first | rfl | exact int_eq (by omega) | exact len_eq (by simp) | exact int_eq (by simp; done), by first | rfl | exact int_eq (by omega) | exact len_eq (by simp) | exact int_eq (by simp; done), by first | rfl | exact int_eq (by omega) | exact len_eq (by simp) | exact int_eq (by simp; done), by exact int_eq (by rw [hst]; rfl), by first | rfl | exact int_eq (by omega) | exact len_eq (by simp) | exact int_eq (by simp; done), by first | rfl | exact int_eq (by omega) | exact len_eq (by simp) | exact int_eq (by simp; done), by first | rfl | exact int_eq (by omega) | exact len_eq (by simp) | exact int_eq (by simp; done), trivial⟩
              · exact HLe.skip _ (HLe.refl _)
        · skip
          have h40 : ¬ (i : Int) < ((fl.length : Nat) : Int) := of_decide_eq_false hc40
          obtain rfl : i = fl.length := by omega
          rw [List.take_length]
          refine W.exit ?_
          refine W.drawreg 6 follows (by kernel_rfl) ?_
          refine Chain.cons _ (GQ.q rfl (Q.move_d rfl)) rfl ?_
          refine Chain.cons _ (GQ.q rfl (Q.move_d rfl)) rfl ?_
          refine Chain.cons _ (GQ.q rfl (Q.fld_ptr fl41_2 rfl)) rfl ?_
          refine Chain.cons _ (GQ.q rfl (Q.ld_ptr (k := 0) ag3 rfl rfl rfl)) rfl ?_
          refine Chain.cons _ (GQ.q rfl (Q.leq rfl rfl)) rfl ?_
          refine Chain.cons _ (GQ.q rfl (Q.assign_d rfl)) rfl ?_
          refine Chain.nil ?_
          refine XOps.s rfl rfl rfl (Q.assign_d rfl) ?_
          refine XOps.nil ?_
          refine W.ret ?_
          exact ⟨_, hs, rfl, HLe.skip _ (HLe.refl _), rfl, rfl⟩
end Go.Proofs.YtaegeaajhbfkgaaGreatDoorA

