/- The law of landings. -/
import Derived.Test.YtaegeaajhbfkgaaGreatDoorFrB
import Derived.Test.YtaegeaajhbfkgaaGreatDoorCeX
import Derived.Test.YtaegeaajhbfkgaaGreatDoorCen10
set_option linter.unusedVariables false
set_option linter.unusedSimpArgs false
set_option linter.unnecessarySimpa false
namespace Go.Proofs.YtaegeaajhbfkgaaGreatDoorA.FCe1
open Go
theorem ag27 : tAgg P 27 = some ((true, 18)) := by kernel_rfl
theorem ag3 : tAgg P 3 = some ((false, 1)) := by kernel_rfl
theorem ag33 : tAgg P 33 = some ((false, 1)) := by kernel_rfl
theorem ag39 : tAgg P 39 = some ((false, 1)) := by kernel_rfl
theorem ag4 : tAgg P 4 = some ((false, 1)) := by kernel_rfl
theorem ag41 : tAgg P 41 = some ((true, 8)) := by kernel_rfl
theorem ar24 : tArr P 24 = some ((4, 1)) := by kernel_rfl
theorem ar25 : tArr P 25 = some ((4, 4)) := by kernel_rfl
theorem fl27_1 : tFld P 27 1 = some (2) := by kernel_rfl
theorem fl41_1 : tFld P 41 1 = some (1) := by kernel_rfl
theorem fl41_2 : tFld P 41 2 = some (2) := by kernel_rfl
theorem fl41_3 : tFld P 41 3 = some (3) := by kernel_rfl
theorem fl41_4 : tFld P 41 4 = some (4) := by kernel_rfl
theorem fl41_6 : tFld P 41 6 = some (6) := by kernel_rfl
theorem fl41_7 : tFld P 41 7 = some (7) := by kernel_rfl
theorem fl45_0 : tFld P 45 0 = some (0) := by kernel_rfl
theorem fl47_0 : tFld P 47 0 = some (0) := by kernel_rfl
theorem go11 : callGo Go.Proofs.Tryz.f11 = true := by kernel_rfl
theorem go12 : callGo Go.Proofs.Tryz.f12 = true := by kernel_rfl
theorem go13 : callGo Go.Proofs.Tryz.f13 = true := by kernel_rfl
theorem go14 : callGo Go.Proofs.Tryz.f14 = true := by kernel_rfl
theorem isl33 : isSl P 33 = true := by kernel_rfl
theorem isl37 : isSl P 37 = true := by kernel_rfl
theorem isl39 : isSl P 39 = true := by kernel_rfl
theorem sl33 : tSl P 33 = some (6) := by kernel_rfl
theorem sl37 : tSl P 37 = some (8) := by kernel_rfl
theorem sl39 : tSl P 39 = some (1) := by kernel_rfl
theorem tz41 : tZero P 41 = some ([.string ⟨#[]⟩, .int .i64 0, .int .i64 0, .bool false, .slice none 0 0, .slice none 0 0, .int .i64 0, .int .i64 0]) := by kernel_rfl
end Go.Proofs.YtaegeaajhbfkgaaGreatDoorA.FCe1
namespace Go.Proofs.YtaegeaajhbfkgaaGreatDoorA
open Go FCe1
attribute [local irreducible] XOps Quiet Loud W AC GQ DT
set_option maxHeartbeats 8000000 in
set_option maxRecDepth 100000 in
theorem landsf_c (su : Su) (s : Stt) (x : CI) (e : Int) (b lb f gk gd i2 : Nat) (hs : Hp) (o : StOk su s) (ld : LdOk su s) : AC P 13 ([.ptr b 0, .d (.agg x.enc), .d (.int .i64 e)] ++ [.ptr i2 0]) (ceH su s b lb f gk gd ((i2, .cells (su.enc.map .d)) :: hs)) (fun r h => r = .d (.bool (true)) ∧ h = ceH su s b lb f gk gd ((i2, .cells (su.enc.map .d)) :: hs)) := by
  have hfl := o.fw.len
  have hml : (s.fl.map Fl.enc).length = s.fl.length := List.length_map _
  refine AC.of 132 Tryz.func13 rfl rfl rfl ?_
  refine W.reg ?_
  refine XOps.loud rfl (L.boxn rfl rfl) ?_
  rintro _ _ ⟨b5, rfl, rfl⟩
  refine XOps.s rfl rfl rfl (Q.assign_d rfl) ?_
  refine XOps.nil ?_
  refine W.reg ?_
  refine XOps.s rfl rfl rfl (Q.move_ptr rfl) ?_
  refine XOps.s rfl rfl rfl (Q.call rfl Tryz.func14 go14 rfl (flights_c su s.tm s.fl s.ow lb b 1 _ rfl o.fw.all (by have := o.fw.len; omega))) ?_
  refine XOps.s rfl rfl rfl (Q.assign_d rfl) ?_
  refine XOps.nil ?_
  refine W.seq ?_
  refine W.reg ?_
  refine XOps.s rfl rfl rfl (Q.move_d rfl) ?_
  refine XOps.s rfl rfl rfl (Q.len_sl isl37 rfl) ?_
  refine XOps.s rfl rfl rfl (Q.move_d rfl) ?_
  refine XOps.nil ?_
  refine W.block ?_
  refine W.loop (ι := Nat) (fun i => [(3, .ptr i2 0), (8, .d (.sl 8 (s.fl.map Fl.enc))), (16, .d (.sl 8 (s.fl.map Fl.enc))), (17, .d (.int .i64 s.fl.length)), (18, .d (.int .i64 (i : Nat)))]) (fun i => ceH su s b lb f gk gd ((i2, .cells (su.enc.map .d)) :: hs)) (fun i => i ≤ s.fl.length) (fun i => s.fl.length - i) 0 ?_ ?_ ?_ ?_
  · exact Nat.zero_le _
  · exact ⟨by first | rfl | exact int_eq (by omega) | exact len_eq (by simp) | exact int_eq (by simp; done), by first | rfl | exact int_eq (by omega) | exact len_eq (by simp) | exact int_eq (by simp; done), by first | rfl | exact int_eq (by omega) | exact len_eq (by simp) | exact int_eq (by simp; done), by exact int_eq (by rw [List.length_map]), by first | rfl | exact int_eq (by omega) | exact len_eq (by simp) | exact int_eq (by simp; done), trivial⟩
  · exact HLe.skip _ (HLe.refl _)
  · rintro i hi
    refine W.reg ?_
    refine XOps.s rfl rfl rfl (Q.lss rfl rfl) ?_
    refine XOps.nil ?_
    refine W.seq ?_
    refine W.cond rfl (fun hc19 => ?_) (fun hc19 => ?_)
    · skip
      have h19 : (i : Int) < ((s.fl.length : Nat) : Int) := of_decide_eq_true hc19
      obtain ⟨x, hx⟩ : ∃ x, s.fl[i]? = some x := ⟨_, List.getElem?_eq_getElem (by omega)⟩
      have hxm := List.mem_of_getElem? hx
      have okf := o.fw.all x hxm
      have hll : x.legs.length ≠ 0 := fun h => okf.ne (List.eq_nil_of_length_eq_zero h)
      have hlg := lastL_get okf.ne
      have hlm : (x.legs.map tuR).length = x.legs.length := List.length_map _
      have hok := okf.legs _ (List.mem_of_getElem? hlg)
      have hlz := okf.len
      have hlr : (x.legs.map tuR)[(((x.legs.map tuR).length : Int) - 1).toNat]? = some (tuR (lastL x)) := by
        rw [List.getElem?_map, List.length_map, show ((x.legs.length : Int) - 1).toNat = x.legs.length - 1 by omega, hlg]; rfl
      have pl := la_row hok.ne
      have hlt : (lastL x).length ≠ 0 := fun h => hok.ne (List.eq_nil_of_length_eq_zero h)
      have hlt2 := hok.len
      have hlm2 : ((lastL x).map Nd.enc).length = (lastL x).length := List.length_map _
      have hla := okf.land
      have hwk := okf.wake
      have hld := ld.one x hxm
      refine W.skip ?_
      refine W.seq ?_
      refine W.block ?_
      refine W.reg ?_
      refine XOps.s rfl rfl rfl (Q.move_d rfl) ?_
      refine XOps.s rfl rfl rfl (Q.idx_sl sl37 (by decide) rfl rfl (by first | omega | (simp only [List.length_map]; omega)) (by first | exact map_at hx | exact map_at hy | exact hlr | exact pl)) ?_
      refine XOps.s rfl rfl rfl (Q.ld_dpn ag41 rfl rfl) ?_
      (refine XOps.loud rfl (L.alloc tz41 rfl rfl) ?_; rintro _ _ ⟨b10, rfl, rfl⟩)
      refine XOps.s rfl rfl rfl (Q.assign_d rfl) ?_
      refine XOps.loud rfl (L.storen (k := 0) ag41 rfl rfl rfl rfl rfl) ?_
      rintro _ _ ⟨rfl, rfl⟩
      refine XOps.nil ?_
      refine W.seq ?_
      refine W.reg ?_
      refine XOps.s rfl rfl rfl (Q.fld_ptr fl41_4 rfl) ?_
      refine XOps.s rfl rfl rfl (Q.ld_ptr (k := 0) ag39 rfl rfl rfl) ?_
      refine XOps.s rfl rfl rfl (Q.len_sl isl39 rfl) ?_
      refine XOps.s rfl rfl rfl (Q.eql rfl rfl) ?_
      refine XOps.s rfl rfl rfl (Q.move_d rfl) ?_
      refine XOps.gs rfl rfl rfl rfl rfl rfl rfl (fun hg => Q.fld_ptr fl41_3 rfl) ?_
      refine XOps.gs rfl rfl rfl rfl rfl rfl rfl (fun hg => Quiet.open 28 hg rfl (Q.ld_ptr (k := 0) ag4 rfl rfl rfl)) ?_
      refine XOps.gs rfl rfl rfl rfl rfl rfl rfl (fun hg => Quiet.open 29 hg rfl (Q.not rfl)) ?_
      refine XOps.gs rfl rfl rfl rfl rfl rfl rfl (fun hg => Quiet.open 30 hg rfl (Q.move_d rfl)) ?_
      refine XOps.gsw rfl rfl rfl rfl rfl rfl rfl (fun hg => Q.fld_ptr fl41_6 rfl) ?_
      refine XOps.gsw rfl rfl rfl rfl rfl rfl rfl (fun hg => Quiet.open 32 hg rfl (Q.ld_ptr (k := 0) ag3 rfl rfl rfl)) ?_
      refine XOps.gsw rfl rfl rfl rfl rfl rfl rfl (fun hg => Quiet.open 33 hg rfl (Q.neq rfl rfl)) ?_
      refine XOps.gsw rfl rfl rfl rfl rfl rfl rfl (fun hg => Quiet.open 34 hg rfl (Q.move_d rfl)) ?_
      refine XOps.gsw rfl rfl rfl rfl rfl rfl rfl (fun hg => Q.fld_ptr fl41_7 rfl) ?_
      refine XOps.gsw rfl rfl rfl rfl rfl rfl rfl (fun hg => Quiet.open 36 hg rfl (Q.ld_ptr (k := 0) ag3 rfl rfl rfl)) ?_
      refine XOps.gsw rfl rfl rfl rfl rfl rfl rfl (fun hg => Quiet.open 37 hg rfl (Q.neq rfl rfl)) ?_
      refine XOps.gsw rfl rfl rfl rfl rfl rfl rfl (fun hg => Quiet.open 35 hg rfl (Q.pick_or rfl rfl rfl (fun h => by first | (rw [h]; rfl) | (rw [hg, h]; rfl) | (simp [h, hg]; done)))) ?_
      refine XOps.gs rfl rfl rfl rfl rfl rfl rfl (fun hg => Quiet.open 31 hg rfl (Q.pick_and rfl rfl rfl (fun h => by first | (rw [h]; rfl) | (rw [hg, h]; rfl) | (simp [h, hg]; done)))) ?_
      refine XOps.s rfl rfl rfl (Q.pick_or rfl rfl rfl (fun h => by first | (rw [h]; rfl) | (rw [hg, h]; rfl) | (simp [h, hg]; done))) ?_
      refine XOps.nil ?_
      refine W.cond rfl (fun hc41 => ?_) (fun hc41 => ?_)
      · skip
        exfalso
        cases hl : x.lands with
        | false => obtain ⟨z1, z2⟩ := hld.zero hl; rw [z1, z2, hl] at hc41; simp at hc41; first | omega | exact okf.ne hc41
        | true => rw [hl] at hc41; simp at hc41; first | omega | exact okf.ne hc41
        --done
      · skip
        refine W.skip ?_
        refine W.reg ?_
        refine XOps.s rfl rfl rfl (Q.fld_ptr fl41_4 rfl) ?_
        refine XOps.s rfl rfl rfl (Q.ld_ptr (k := 0) ag39 rfl rfl rfl) ?_
        refine XOps.s rfl rfl rfl (Q.fld_ptr fl41_4 rfl) ?_
        refine XOps.s rfl rfl rfl (Q.ld_ptr (k := 0) ag39 rfl rfl rfl) ?_
        refine XOps.s rfl rfl rfl (Q.len_sl isl39 rfl) ?_
        refine XOps.s rfl rfl rfl (Q.sub rfl rfl (wi64 (by first | omega | (dsimp only; omega) | (simp only [List.length_map]; omega)) (by first | omega | (dsimp only; omega) | (simp only [List.length_map]; omega)))) ?_
        refine XOps.s rfl rfl rfl (Q.idx_sl sl39 (by decide) rfl rfl (by first | omega | (simp only [List.length_map]; omega)) (by first | exact map_at hx | exact map_at hy | exact hlr | exact pl)) ?_
        refine XOps.s rfl rfl rfl (Q.ld_dp ag33 rfl rfl) ?_
        refine XOps.s rfl rfl rfl (Q.assign_d rfl) ?_
        refine XOps.nil ?_
        refine W.seq ?_
        refine W.drawreg 34 follows (by kernel_rfl) ?_
        refine Chain.cons _ (GQ.q rfl (Q.move_d rfl)) rfl ?_
        refine Chain.cons _ (GQ.q rfl (Q.len_sl isl33 rfl)) rfl ?_
        refine Chain.cons _ (GQ.q rfl (Q.eql rfl rfl)) rfl ?_
        refine Chain.cons _ (GQ.q rfl (Q.move_d rfl)) rfl ?_
        refine Chain.cons _ (GQ.g rfl rfl rfl rfl rfl (fun hg => Q.fld_ptr fl41_3 rfl)) rfl ?_
        refine Chain.cons _ (GQ.g rfl rfl rfl rfl rfl (fun hg => Quiet.open 54 hg rfl (Q.ld_ptr (k := 0) ag4 rfl rfl rfl))) rfl ?_
        refine Chain.cons _ (GQ.g rfl rfl rfl rfl rfl (fun hg => Quiet.open 55 hg rfl (Q.move_d rfl))) rfl ?_
        refine Chain.cons _ (GQ.gw rfl rfl rfl rfl rfl (fun hg => Q.fld_ptr fl41_6 rfl)) rfl ?_
        refine Chain.cons _ (GQ.gw rfl rfl rfl rfl rfl (fun hg => Quiet.open 57 hg rfl (Q.ld_ptr (k := 0) ag3 rfl rfl rfl))) rfl ?_
        refine Chain.cons _ (GQ.gw rfl rfl rfl rfl rfl (fun hg => Q.move_d rfl)) rfl ?_
        refine Chain.cons _ (GQ.gw rfl rfl rfl rfl rfl (fun hg => Q.move_d rfl)) rfl ?_
        refine Chain.cons _ (GQ.gw rfl rfl rfl rfl rfl (fun hg => Quiet.open 60 hg rfl (Q.len_sl isl33 rfl))) rfl ?_
        refine Chain.cons _ (GQ.gw rfl rfl rfl rfl rfl (fun hg => Quiet.open 61 hg rfl (Q.sub rfl rfl (wi64 (by first | omega | (dsimp only; omega) | (simp only [List.length_map]; omega)) (by first | omega | (dsimp only; omega) | (simp only [List.length_map]; omega)))))) rfl ?_
        refine Chain.cons _ (GQ.gw rfl rfl rfl rfl rfl (fun hg => Quiet.open 59 hg rfl (Quiet.open 62 hg rfl (Q.idx_sl sl33 (by decide) rfl rfl (by first | omega | (simp only [List.length_map]; omega)) (by first | exact map_at hx | exact map_at hy | exact hlr | exact pl))))) rfl ?_
        refine Chain.cons _ (GQ.gw rfl rfl rfl rfl rfl (fun hg => Quiet.open 63 hg rfl (Q.fld_dp fl47_0 rfl))) rfl ?_
        refine Chain.cons _ (GQ.gw rfl rfl rfl rfl rfl (fun hg => Quiet.open 64 hg rfl (Q.fld_dp fl45_0 rfl))) rfl ?_
        refine Chain.cons _ (GQ.gw rfl rfl rfl rfl rfl (fun hg => Quiet.open 65 hg rfl (Q.ld_dp ag3 rfl rfl))) rfl ?_
        refine Chain.cons _ (GQ.gw rfl rfl rfl rfl rfl (fun hg => Quiet.open 58 hg rfl (Quiet.open 66 hg rfl (Q.lss rfl rfl)))) rfl ?_
        refine Chain.cons _ (GQ.gw rfl rfl rfl rfl rfl (fun hg => Quiet.open 67 hg rfl (Q.move_d rfl))) rfl ?_
        refine Chain.cons _ (GQ.gw rfl rfl rfl rfl rfl (fun hg => Q.fld_ptr fl41_6 rfl)) rfl ?_
        refine Chain.cons _ (GQ.gw rfl rfl rfl rfl rfl (fun hg => Quiet.open 69 hg rfl (Q.ld_ptr (k := 0) ag3 rfl rfl rfl))) rfl ?_
        refine Chain.cons _ (GQ.gw rfl rfl rfl rfl rfl (fun hg => Q.fld_ptr fl41_2 rfl)) rfl ?_
        refine Chain.cons _ (GQ.gw rfl rfl rfl rfl rfl (fun hg => Quiet.open 71 hg rfl (Q.ld_ptr (k := 0) ag3 rfl rfl rfl))) rfl ?_
        refine Chain.cons _ (GQ.gw rfl rfl rfl rfl rfl (fun hg => Quiet.open 70 hg rfl (Quiet.open 72 hg rfl (Q.gtr rfl rfl)))) rfl ?_
        refine Chain.cons _ (GQ.gw rfl rfl rfl rfl rfl (fun hg => Quiet.open 68 hg rfl (Q.pick_or rfl rfl rfl (fun h => by first | (rw [h]; rfl) | (rw [hg, h]; rfl) | (simp [h, hg]; done))))) rfl ?_
        refine Chain.cons _ (GQ.gw rfl rfl rfl rfl rfl (fun hg => Quiet.open 74 hg rfl (Q.move_d rfl))) rfl ?_
        refine Chain.cons _ (GQ.gw rfl rfl rfl rfl rfl (fun hg => Q.fld_ptr fl41_7 rfl)) rfl ?_
        refine Chain.cons _ (GQ.gw rfl rfl rfl rfl rfl (fun hg => Quiet.open 76 hg rfl (Q.ld_ptr (k := 0) ag3 rfl rfl rfl))) rfl ?_
        refine Chain.cons _ (GQ.gw rfl rfl rfl rfl rfl (fun hg => Q.fld_ptr fl41_2 rfl)) rfl ?_
        refine Chain.cons _ (GQ.gw rfl rfl rfl rfl rfl (fun hg => Quiet.open 78 hg rfl (Q.ld_ptr (k := 0) ag3 rfl rfl rfl))) rfl ?_
        refine Chain.cons _ (GQ.gw rfl rfl rfl rfl rfl (fun hg => Quiet.open 77 hg rfl (Quiet.open 79 hg rfl (Q.gtr rfl rfl)))) rfl ?_
        refine Chain.cons _ (GQ.gw rfl rfl rfl rfl rfl (fun hg => Quiet.open 75 hg rfl (Q.pick_or rfl rfl rfl (fun h => by first | (rw [h]; rfl) | (rw [hg, h]; rfl) | (simp [h, hg]; done))))) rfl ?_
        refine Chain.cons _ (GQ.g rfl rfl rfl rfl rfl (fun hg => Quiet.open 56 hg rfl (Q.pick_and rfl rfl rfl (fun h => by first | (rw [h]; rfl) | (rw [hg, h]; rfl) | (simp [h, hg]; done))))) rfl ?_
        refine Chain.cons _ (GQ.q rfl (Q.pick_or rfl rfl rfl (fun h => by first | (rw [h]; rfl) | (rw [hg, h]; rfl) | (simp [h, hg]; done)))) rfl ?_
        refine Chain.nil ?_
        refine XOps.nil ?_
        refine W.cond rfl (fun hc83 => ?_) (fun hc83 => ?_)
        · skip
          exfalso
          cases hl : x.lands with
          | false => rw [hl] at hc83; simp at hc83; first | omega | exact hok.ne hc83
          | true => obtain ⟨z1, z2, z3⟩ := hld.end_ hl; have z1 : ((lastL x).getLast?.getD Nd.zero).t ≤ x.land := (by have h := z1; unfold laT at h; simpa using h); rw [hl] at hc83; simp at hc83; rcases hc83 with h | ((h | h) | h) <;> first | omega | exact hok.ne h
          --done
        · skip
          refine W.skip ?_
          refine W.reg ?_
          refine XOps.s rfl rfl rfl (Q.move_d rfl) ?_
          refine XOps.s rfl rfl rfl (Q.move_d rfl) ?_
          refine XOps.s rfl rfl rfl (Q.cut_slm sl37 rfl rfl rfl (by first | omega | (simp only [List.length_map]; omega)) (by first | omega | (simp only [List.length_map]; omega)) (by first | omega | (simp only [List.length_map]; omega))) ?_
          refine XOps.s rfl rfl rfl (Q.len_sl isl37 rfl) ?_
          refine XOps.s rfl rfl rfl (Q.move_d rfl) ?_
          refine XOps.nil ?_
          refine W.block ?_
          refine W.loop (ι := Nat) (fun j => [(3, .ptr i2 0), (8, .d (.sl 8 (s.fl.map Fl.enc))), (10, .ptr b10 0), (16, .d (.sl 8 (s.fl.map Fl.enc))), (17, .d (.int .i64 s.fl.length)), (18, .d (.int .i64 (i : Nat))), (86, .d (.sl 8 ((s.fl.take i).map Fl.enc))), (87, .d (.int .i64 (s.fl.take i).length)), (88, .d (.int .i64 (j : Nat)))]) (fun j => (b10, .cells (x.enc.map .d)) :: ceH su s b lb f gk gd ((i2, .cells (su.enc.map .d)) :: hs)) (fun j => j ≤ (s.fl.take i).length) (fun j => (s.fl.take i).length - j) 0 ?_ ?_ ?_ ?_
          · exact Nat.zero_le _
          · exact ⟨by first | rfl | exact int_eq (by omega) | exact len_eq (by simp) | exact int_eq (by simp; done), by first | rfl | exact int_eq (by omega) | exact len_eq (by simp) | exact int_eq (by simp; done), by first | rfl | exact int_eq (by omega) | exact len_eq (by simp) | exact int_eq (by simp; done), by first | rfl | exact int_eq (by omega) | exact len_eq (by simp) | exact int_eq (by simp; done), by first | rfl | exact int_eq (by omega) | exact len_eq (by simp) | exact int_eq (by simp; done), by first | rfl | exact int_eq (by omega) | exact len_eq (by simp) | exact int_eq (by simp; done), by first | rfl | exact int_eq (by omega) | exact len_eq (by simp) | exact int_eq (by simp; done), by exact int_eq (by rw [List.length_map]; rfl), by first | rfl | exact int_eq (by omega) | exact len_eq (by simp) | exact int_eq (by simp; done), trivial⟩
          · exact HLe.refl _
          · rintro j hj
            refine W.reg ?_
            refine XOps.s rfl rfl rfl (Q.lss rfl rfl) ?_
            refine XOps.nil ?_
            refine W.seq ?_
            refine W.cond rfl (fun hc89 => ?_) (fun hc89 => ?_)
            · skip
              have h89 : (j : Int) < (((s.fl.take i).length : Nat) : Int) := of_decide_eq_true hc89
              have hti : (s.fl.take i).length ≤ i := by rw [List.length_take]; omega
              obtain ⟨y, hy⟩ : ∃ y, (s.fl.take i)[j]? = some y := ⟨_, List.getElem?_eq_getElem (by omega)⟩
              have hy2 : s.fl[j]? = some y := by rw [List.getElem?_take, if_pos (by omega)] at hy; exact hy
              have oky := o.fw.all y (List.mem_of_getElem? hy2)
              have hlb := oky.land
              have hwy := oky.wake
              refine W.skip ?_
              refine W.seq ?_
              refine W.block ?_
              refine W.reg ?_
              refine XOps.s rfl rfl rfl (Q.idx_sl sl37 (by decide) rfl rfl (by first | omega | (simp only [List.length_map]; omega)) (by first | exact map_at hx | exact map_at hy | exact hlr | exact pl)) ?_
              refine XOps.s rfl rfl rfl (Q.ld_dpn ag41 rfl rfl) ?_
              (refine XOps.loud rfl (L.alloc tz41 rfl rfl) ?_; rintro _ _ ⟨b13, rfl, rfl⟩)
              refine XOps.loud rfl (L.storen (k := 0) ag41 rfl rfl rfl rfl rfl) ?_
              rintro _ _ ⟨rfl, rfl⟩
              refine XOps.nil ?_
              refine W.drawreg 38 follows (by kernel_rfl) ?_
              refine Chain.cons _ (GQ.q rfl (Q.fld_ptr fl41_3 rfl)) rfl ?_
              refine Chain.cons _ (GQ.q rfl (Q.ld_ptr (k := 1) ag4 rfl rfl rfl)) rfl ?_
              refine Chain.cons _ (GQ.q rfl (Q.move_d rfl)) rfl ?_
              refine Chain.cons _ (GQ.g rfl rfl rfl rfl rfl (fun hg => Q.fld_ptr fl41_3 rfl)) rfl ?_
              refine Chain.cons _ (GQ.g rfl rfl rfl rfl rfl (fun hg => Quiet.open 95 hg rfl (Q.ld_ptr (k := 0) ag4 rfl rfl rfl))) rfl ?_
              refine Chain.cons _ (GQ.q rfl (Q.pick_and rfl rfl rfl (fun h => by first | (rw [h]; rfl) | (rw [hg, h]; rfl) | (simp [h, hg]; done)))) rfl ?_
              refine Chain.cons _ (GQ.q rfl (Q.move_d rfl)) rfl ?_
              refine Chain.cons _ (GQ.g rfl rfl rfl rfl rfl (fun hg => Q.fld_ptr fl41_6 rfl)) rfl ?_
              refine Chain.cons _ (GQ.g rfl rfl rfl rfl rfl (fun hg => Quiet.open 99 hg rfl (Q.ld_ptr (k := 1) ag3 rfl rfl rfl))) rfl ?_
              refine Chain.cons _ (GQ.g rfl rfl rfl rfl rfl (fun hg => Q.fld_ptr fl41_6 rfl)) rfl ?_
              refine Chain.cons _ (GQ.g rfl rfl rfl rfl rfl (fun hg => Quiet.open 101 hg rfl (Q.ld_ptr (k := 0) ag3 rfl rfl rfl))) rfl ?_
              refine Chain.cons _ (GQ.g rfl rfl rfl rfl rfl (fun hg => Quiet.open 100 hg rfl (Quiet.open 102 hg rfl (Q.sub rfl rfl (wi64 (by first | omega | (dsimp only; omega) | (simp only [List.length_map]; omega)) (by first | omega | (dsimp only; omega) | (simp only [List.length_map]; omega))))))) rfl ?_
              refine Chain.cons _ (GQ.g rfl rfl rfl rfl rfl (fun hg => Q.fld_ptr fl41_1 rfl)) rfl ?_
              refine Chain.cons _ (GQ.g rfl rfl rfl rfl rfl (fun hg => Quiet.open 104 hg rfl (Q.ld_ptr (k := 0) ag3 rfl rfl rfl))) rfl ?_
              refine Chain.cons _ (GQ.g rfl rfl rfl rfl rfl (fun hg => Q.fld_ptr fl41_1 rfl)) rfl ?_
              refine Chain.cons _ (GQ.g rfl rfl rfl rfl rfl (fun hg => Quiet.open 106 hg rfl (Q.ld_ptr (k := 1) ag3 rfl rfl rfl))) rfl ?_
              refine Chain.cons _ (GQ.g rfl rfl rfl rfl rfl (fun hg => Q.fld_ptr fl27_1 rfl)) rfl ?_
              refine Chain.cons _ (GQ.g rfl rfl rfl rfl rfl (fun hg => Quiet.open 108 hg rfl (Quiet.open 105 hg rfl (Q.idx_arr ar25 rfl rfl (by omega) (by omega))))) rfl ?_
              refine Chain.cons _ (GQ.g rfl rfl rfl rfl rfl (fun hg => Quiet.open 109 hg rfl (Quiet.open 107 hg rfl (Q.idx_arr ar24 rfl rfl (by omega) (by omega))))) rfl ?_
              refine Chain.cons _ (GQ.g rfl rfl rfl rfl rfl (fun hg => Quiet.open 110 hg rfl (Q.ld_ptr (k := 7) ag3 rfl rfl (gap_at su [] (by omega) (by omega) (by omega) (by omega))))) rfl ?_
              refine Chain.cons _ (GQ.g rfl rfl rfl rfl rfl (fun hg => Quiet.open 103 hg rfl (Quiet.open 111 hg rfl (Q.lss rfl rfl)))) rfl ?_
              refine Chain.cons _ (GQ.q rfl (Q.pick_and rfl rfl rfl (fun h => by first | (rw [h]; rfl) | (rw [hg, h]; rfl) | (simp [h, hg]; done)))) rfl ?_
              refine Chain.cons _ (GQ.q rfl (Q.move_d rfl)) rfl ?_
              refine Chain.cons _ (GQ.g rfl rfl rfl rfl rfl (fun hg => Q.fld_ptr fl41_6 rfl)) rfl ?_
              refine Chain.cons _ (GQ.g rfl rfl rfl rfl rfl (fun hg => Quiet.open 115 hg rfl (Q.ld_ptr (k := 0) ag3 rfl rfl rfl))) rfl ?_
              refine Chain.cons _ (GQ.g rfl rfl rfl rfl rfl (fun hg => Q.fld_ptr fl41_6 rfl)) rfl ?_
              refine Chain.cons _ (GQ.g rfl rfl rfl rfl rfl (fun hg => Quiet.open 117 hg rfl (Q.ld_ptr (k := 1) ag3 rfl rfl rfl))) rfl ?_
              refine Chain.cons _ (GQ.g rfl rfl rfl rfl rfl (fun hg => Quiet.open 116 hg rfl (Quiet.open 118 hg rfl (Q.sub rfl rfl (wi64 (by first | omega | (dsimp only; omega) | (simp only [List.length_map]; omega)) (by first | omega | (dsimp only; omega) | (simp only [List.length_map]; omega))))))) rfl ?_
              refine Chain.cons _ (GQ.g rfl rfl rfl rfl rfl (fun hg => Q.fld_ptr fl41_1 rfl)) rfl ?_
              refine Chain.cons _ (GQ.g rfl rfl rfl rfl rfl (fun hg => Quiet.open 120 hg rfl (Q.ld_ptr (k := 1) ag3 rfl rfl rfl))) rfl ?_
              refine Chain.cons _ (GQ.g rfl rfl rfl rfl rfl (fun hg => Q.fld_ptr fl41_1 rfl)) rfl ?_
              refine Chain.cons _ (GQ.g rfl rfl rfl rfl rfl (fun hg => Quiet.open 122 hg rfl (Q.ld_ptr (k := 0) ag3 rfl rfl rfl))) rfl ?_
              refine Chain.cons _ (GQ.g rfl rfl rfl rfl rfl (fun hg => Q.fld_ptr fl27_1 rfl)) rfl ?_
              refine Chain.cons _ (GQ.g rfl rfl rfl rfl rfl (fun hg => Quiet.open 124 hg rfl (Quiet.open 121 hg rfl (Q.idx_arr ar25 rfl rfl (by omega) (by omega))))) rfl ?_
              refine Chain.cons _ (GQ.g rfl rfl rfl rfl rfl (fun hg => Quiet.open 125 hg rfl (Quiet.open 123 hg rfl (Q.idx_arr ar24 rfl rfl (by omega) (by omega))))) rfl ?_
              refine Chain.cons _ (GQ.g rfl rfl rfl rfl rfl (fun hg => Quiet.open 126 hg rfl (Q.ld_ptr (k := 7) ag3 rfl rfl (gap_at su [] (by omega) (by omega) (by omega) (by omega))))) rfl ?_
              refine Chain.cons _ (GQ.g rfl rfl rfl rfl rfl (fun hg => Quiet.open 119 hg rfl (Quiet.open 127 hg rfl (Q.lss rfl rfl)))) rfl ?_
              refine Chain.cons _ (GQ.q rfl (Q.pick_and rfl rfl rfl (fun h => by first | (rw [h]; rfl) | (rw [hg, h]; rfl) | (simp [h, hg]; done)))) rfl ?_
              refine Chain.nil ?_
              refine XOps.nil ?_
              refine W.cond rfl (fun hc129 => ?_) (fun hc129 => ?_)
              · skip
                exfalso
                obtain ⟨j1, j2⟩ := List.getElem?_eq_some_iff.1 hy2
                obtain ⟨i1, i2'⟩ := List.getElem?_eq_some_iff.1 hx
                have hap := List.pairwise_iff_getElem.1 ld.two j i j1 i1 (by omega)
                rw [j2, i2'] at hap
                simp only [Bool.and_eq_true, decide_eq_true_eq] at hc129
                obtain ⟨⟨⟨q1, q2⟩, q3⟩, q4⟩ := hc129
                exact hap y.land (land_mem q2) x.land (land_mem q1) ⟨q4, q3⟩
                --done
              · skip
                refine W.skip ?_
                refine W.region ?_
                refine XOps.s rfl rfl rfl (Q.add rfl rfl (wi64 (by first | omega | (dsimp only; omega) | (simp only [List.length_map]; omega)) (by first | omega | (dsimp only; omega) | (simp only [List.length_map]; omega)))) ?_
                refine XOps.s rfl rfl rfl (Q.move_d rfl) ?_
                refine XOps.nil ?_
                refine ⟨j + 1, ?_, ?_, ?_, ?_⟩
                · omega
                · omega
                · exact ⟨by first | rfl | exact int_eq (by omega) | exact len_eq (by simp) | exact int_eq (by simp; done), by first | rfl | exact int_eq (by omega) | exact len_eq (by simp) | exact int_eq (by simp; done), by first | rfl | exact int_eq (by omega) | exact len_eq (by simp) | exact int_eq (by simp; done), by first | rfl | exact int_eq (by omega) | exact len_eq (by simp) | exact int_eq (by simp; done), by first | rfl | exact int_eq (by omega) | exact len_eq (by simp) | exact int_eq (by simp; done), by first | rfl | exact int_eq (by omega) | exact len_eq (by simp) | exact int_eq (by simp; done), by first | rfl | exact int_eq (by omega) | exact len_eq (by simp) | exact int_eq (by simp; done), by first | rfl | exact int_eq (by omega) | exact len_eq (by simp) | exact int_eq (by simp; done), by first | rfl | exact int_eq (by omega) | exact len_eq (by simp) | exact int_eq (by simp; done), trivial⟩
                · exact HLe.skip _ (HLe.refl _)
            · skip
              refine W.exit ?_
              refine W.region ?_
              refine XOps.s rfl rfl rfl (Q.add rfl rfl (wi64 (by first | omega | (dsimp only; omega) | (simp only [List.length_map]; omega)) (by first | omega | (dsimp only; omega) | (simp only [List.length_map]; omega)))) ?_
              refine XOps.s rfl rfl rfl (Q.move_d rfl) ?_
              refine XOps.nil ?_
              refine ⟨i + 1, ?_, ?_, ?_, ?_⟩
              · omega
              · omega
              · exact ⟨by first | rfl | exact int_eq (by omega) | exact len_eq (by simp) | exact int_eq (by simp; done), by first | rfl | exact int_eq (by omega) | exact len_eq (by simp) | exact int_eq (by simp; done), by first | rfl | exact int_eq (by omega) | exact len_eq (by simp) | exact int_eq (by simp; done), by first | rfl | exact int_eq (by omega) | exact len_eq (by simp) | exact int_eq (by simp; done), by first | rfl | exact int_eq (by omega) | exact len_eq (by simp) | exact int_eq (by simp; done), trivial⟩
              · exact HLe.skip _ (HLe.refl _)
    · skip
      refine W.exit ?_
      refine W.reg ?_
      refine XOps.s rfl rfl rfl (Q.assign_d rfl) ?_
      refine XOps.nil ?_
      refine W.ret ?_
      exact ⟨_, ceH su s b lb f gk gd ((i2, .cells (su.enc.map .d)) :: hs), rfl, HLe.refl _, rfl, rfl⟩
set_option maxHeartbeats 4000000 in
set_option maxRecDepth 100000 in
theorem lands1 (su : Su) (xs : List CI) (gk gd : Nat) (hs : Hp) (hx : ∀ x ∈ xs, CiS x) (hlen : xs.length ≤ 4611686018427387904) (h0 : suC su = 0) : AC P 3 [.d (.agg su.enc), .d (.sl 9 (xs.map CI.enc))] ((gk, kiG) :: (gd, p10G) :: hs) (fun r h => r = .d (.bool (true))) := by
  refine AC.of 12 Tryz.func3 rfl rfl rfl ?_
  refine W.reg ?_
  refine XOps.loud rfl (L.boxn rfl rfl) ?_
  rintro _ _ ⟨b2, rfl, rfl⟩
  refine XOps.s rfl rfl rfl (Q.assign_d rfl) ?_
  refine XOps.nil ?_
  refine W.reg ?_
  (refine XOps.loud rfl (L.call rfl Tryz.func11 go11 rfl (AC.le (fact_c gk gd ((b2, .cells (su.enc.map .d)) :: hs)) (HLe.pick 1 rfl rfl (HLe.pick 1 rfl rfl (HLe.refl _)))) rfl) ?_; rintro _ _ ⟨_, rfl, rfl, rfl⟩)
  refine XOps.s rfl rfl rfl (Q.move_d rfl) ?_
  refine XOps.gs rfl rfl rfl rfl rfl rfl rfl (fun hg => Q.ld_ptrn (k := 2) ag27 rfl rfl rfl) ?_
  refine XOps.gs rfl rfl rfl rfl rfl rfl rfl (fun hg => Q.move_d rfl) ?_
  refine XOps.gs rfl rfl rfl rfl rfl rfl rfl (fun hg => Q.mkfn rfl) ?_
  refine XOps.gl (.d (.bool false)) rfl rfl rfl rfl rfl rfl (fun hg => Loud.open 7 hg rfl (Loud.open 8 hg rfl (Loud.open 9 hg rfl (L.call rfl Tryz.func12 go12 rfl (run_c su xs 13 _ Tryz.func13 go13 [.ptr b2 0] (fun _ H => H = ((b2, .cells (su.enc.map .d)) :: hs)) gk gd ((b2, .cells (su.enc.map .d)) :: hs) h0 hx hlen rfl (fun k x b lb f H hk hxk hJ => by subst hJ; exact (landsf_c su (atS su xs (k + 1)) x _ b lb f gk gd b2 hs (atS_ok h0 xs (k + 1)) (atS_ld h0 xs (k + 1))).mono fun r h ⟨h1, h2⟩ => ⟨h1, _, rfl, h2⟩)) rfl)))) (fun hg => ?_) (fun hg => ?_)
  · rintro _ _ ⟨rfl, H2, hJ, rfl⟩
    have hgt : _ = true := hg
    refine XOps.s rfl rfl rfl (Q.pick_and rfl rfl rfl (fun h => by first | (rw [h]; rfl) | (rw [hg, h]; rfl) | (simp [h, hg]; done))) ?_
    refine XOps.s rfl rfl rfl (Q.assign_d rfl) ?_
    refine XOps.nil ?_
    refine W.ret ?_
    exact ⟨_, _, rfl, HLe.refl _, rfl⟩
  · have hgf : _ = false := hg
    exact absurd hgf (by decide) --done
set_option maxHeartbeats 4000000 in
set_option maxRecDepth 100000 in
theorem lands2 (su : Su) (xs : List CI) (gk gd : Nat) (hs : Hp) (hx : ∀ x ∈ xs, CiS x) (hlen : xs.length ≤ 4611686018427387904) (h0 : suC su ≠ 0) : AC P 3 [.d (.agg su.enc), .d (.sl 9 (xs.map CI.enc))] ((gk, kiG) :: (gd, p10G) :: hs) (fun r h => r = .d (.bool (true))) := by
  refine AC.of 12 Tryz.func3 rfl rfl rfl ?_
  refine W.reg ?_
  refine XOps.loud rfl (L.boxn rfl rfl) ?_
  rintro _ _ ⟨b2, rfl, rfl⟩
  refine XOps.s rfl rfl rfl (Q.assign_d rfl) ?_
  refine XOps.nil ?_
  refine W.reg ?_
  (refine XOps.loud rfl (L.call rfl Tryz.func11 go11 rfl (AC.le (fact_c gk gd ((b2, .cells (su.enc.map .d)) :: hs)) (HLe.pick 1 rfl rfl (HLe.pick 1 rfl rfl (HLe.refl _)))) rfl) ?_; rintro _ _ ⟨_, rfl, rfl, rfl⟩)
  refine XOps.s rfl rfl rfl (Q.move_d rfl) ?_
  refine XOps.gs rfl rfl rfl rfl rfl rfl rfl (fun hg => Q.ld_ptrn (k := 2) ag27 rfl rfl rfl) ?_
  refine XOps.gs rfl rfl rfl rfl rfl rfl rfl (fun hg => Q.move_d rfl) ?_
  refine XOps.gs rfl rfl rfl rfl rfl rfl rfl (fun hg => Q.mkfn rfl) ?_
  refine XOps.gl (.d (.bool false)) rfl rfl rfl rfl rfl rfl (fun hg => Loud.open 7 hg rfl (Loud.open 8 hg rfl (Loud.open 9 hg rfl (L.call rfl Tryz.func12 go12 rfl (runx_c su xs _ _ h0) rfl)))) (fun hg => ?_) (fun hg => ?_)
  · rintro _ _ ⟨rfl, rfl⟩
    have hgt : _ = true := hg
    refine XOps.s rfl rfl rfl (Q.pick_and rfl rfl rfl (fun h => by first | (rw [h]; rfl) | (rw [hg, h]; rfl) | (simp [h, hg]; done))) ?_
    refine XOps.s rfl rfl rfl (Q.assign_d rfl) ?_
    refine XOps.nil ?_
    refine W.ret ?_
    exact ⟨_, _, rfl, HLe.refl _, rfl⟩
  · have hgf : _ = false := hg
    exact absurd hgf (by decide) --done
theorem lands_c (su : Su) (xs : List CI) (gk gd : Nat) (hs : Hp) (hx : ∀ x ∈ xs, CiS x) (hlen : xs.length ≤ 4611686018427387904) : AC P 3 [.d (.agg su.enc), .d (.sl 9 (xs.map CI.enc))] ((gk, kiG) :: (gd, p10G) :: hs) (fun r h => r = .d (.bool (true))) := by
  by_cases h : suC su = 0
  · exact lands1 su xs gk gd hs hx hlen h
  · exact lands2 su xs gk gd hs hx hlen h
end Go.Proofs.YtaegeaajhbfkgaaGreatDoorA

