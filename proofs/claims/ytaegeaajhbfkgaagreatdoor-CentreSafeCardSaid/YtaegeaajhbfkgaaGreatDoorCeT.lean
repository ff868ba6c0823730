/- Centres: read. -/
import Derived.Test.YtaegeaajhbfkgaaGreatDoorFrB
import Derived.Test.YtaegeaajhbfkgaaGreatDoorCeO
set_option linter.unusedVariables false
set_option linter.unusedSimpArgs false
set_option linter.unnecessarySimpa false
namespace Go.Proofs.YtaegeaajhbfkgaaGreatDoorA.FCeT
open Go
theorem ag3 : tAgg P 3 = some ((false, 1)) := by kernel_rfl
theorem ag33 : tAgg P 33 = some ((false, 1)) := by kernel_rfl
theorem ag37 : tAgg P 37 = some ((false, 1)) := by kernel_rfl
theorem ag39 : tAgg P 39 = some ((false, 1)) := by kernel_rfl
theorem ag41 : tAgg P 41 = some ((true, 8)) := by kernel_rfl
theorem ag9 : tAgg P 9 = some ((false, 1)) := by kernel_rfl
theorem ap39 : tApp P 39 = some ((1, 24)) := by kernel_rfl
theorem fl35_0 : tFld P 35 0 = some (0) := by kernel_rfl
theorem fl35_1 : tFld P 35 1 = some (1) := by kernel_rfl
theorem fl35_2 : tFld P 35 2 = some (2) := by kernel_rfl
theorem fl41_4 : tFld P 41 4 = some (4) := by kernel_rfl
theorem fl41_5 : tFld P 41 5 = some (5) := by kernel_rfl
theorem fl41_6 : tFld P 41 6 = some (6) := by kernel_rfl
theorem fl41_7 : tFld P 41 7 = some (7) := by kernel_rfl
theorem fl45_0 : tFld P 45 0 = some (0) := by kernel_rfl
theorem fl47_0 : tFld P 47 0 = some (0) := by kernel_rfl
theorem fl83_2 : tFld P 83 2 = some (19) := by kernel_rfl
theorem go40 : callGo Go.Proofs.Tryz.f40 = true := by kernel_rfl
theorem go82 : callGo Go.Proofs.Tryz.f82 = true := by kernel_rfl
theorem go84 : callGo Go.Proofs.Tryz.f84 = true := by kernel_rfl
theorem isl33 : isSl P 33 = true := by kernel_rfl
theorem sl33 : tSl P 33 = some (6) := by kernel_rfl
theorem sl37 : tSl P 37 = some (8) := by kernel_rfl
theorem sl39 : tSl P 39 = some (1) := by kernel_rfl
theorem tz41 : tZero P 41 = some ([.string ⟨#[]⟩, .int .i64 0, .int .i64 0, .bool false, .slice none 0 0, .slice none 0 0, .int .i64 0, .int .i64 0]) := by kernel_rfl
theorem zr39 : tZrow P 39 = some ([.slice none 0 0]) := by kernel_rfl
theorem zrd39 : cellsD [.slice none 0 0] = some ([.sl 0 []]) := rfl
end Go.Proofs.YtaegeaajhbfkgaaGreatDoorA.FCeT
namespace Go.Proofs.YtaegeaajhbfkgaaGreatDoorA
open Go FCeT
attribute [local irreducible] XOps Quiet Loud W AC GQ DT
set_option maxHeartbeats 8000000 in
set_option maxRecDepth 100000 in
theorem red_c (su : Su) (tm : Int) (fl : List Fl) (ow : List OE) (lb b : Nat) (x : CI) (hs : Hp) (o : FwOk fl ow)  : AC P 59 [.ptr b 0, .d (.agg x.enc)] ((b, .cells (ceC su tm fl ow lb)) :: hs) (fun r h => r = .d (.int .i64 (redE fl x)) ∧ h = (b, .cells (ceC su tm (redF fl x) (ow) lb)) :: hs) := by
  have hfl := o.len
  have hml : (fl.map Fl.enc).length = fl.length := List.length_map _
  refine AC.of 88 Tryz.func59 rfl rfl rfl ?_
  refine W.reg ?_
  refine XOps.loud rfl (L.boxn rfl rfl) ?_
  rintro _ _ ⟨b3, rfl, rfl⟩
  refine XOps.s rfl rfl rfl (Q.assign_d rfl) ?_
  refine XOps.nil ?_
  refine W.reg ?_
  refine XOps.s rfl rfl rfl (Q.move_ptr rfl) ?_
  refine XOps.s rfl rfl rfl (Q.fld_ptr fl35_2 rfl) ?_
  refine XOps.s rfl rfl rfl (Q.ld_ptr (k := 0) ag9 rfl rfl rfl) ?_
  refine XOps.s rfl rfl rfl (Q.call rfl Tryz.func82 go82 rfl (cfind_c su (.d (.int .i64 tm)) fl [.d (.sl 3 (ow.map OE.enc)), .ptr lb 0] b 1 _ rfl x.call o.srt (by omega))) ?_
  refine XOps.s rfl rfl rfl (Q.move_tup rfl) ?_
  refine XOps.s rfl rfl rfl (Q.extract rfl rfl) ?_
  refine XOps.s rfl rfl rfl (Q.extract rfl rfl) ?_
  refine XOps.s rfl rfl rfl (Q.assign_d rfl) ?_
  refine XOps.s rfl rfl rfl (Q.assign_d rfl) ?_
  refine XOps.nil ?_
  refine W.seq ?_
  refine W.block ?_
  refine W.reg ?_
  refine XOps.s rfl rfl rfl (Q.move_d rfl) ?_
  refine XOps.s rfl rfl rfl (Q.not rfl) ?_
  refine XOps.s rfl rfl rfl (Q.assign_d rfl) ?_
  refine XOps.nil ?_
  refine W.cond rfl (fun hc15 => ?_) (fun hc15 => ?_)
  · try simp only [Bool.or_eq_true, Bool.or_eq_false_iff, Bool.and_eq_true, Bool.and_eq_false_iff, decide_eq_true_eq, decide_eq_false_iff_not, Bool.not_eq_true', Bool.not_eq_false', Int.not_lt, Int.not_le, List.length_map] at hc15
    have h15 : hasK Fl.call fl x.call = false := hc15
    have hE : redE fl x = 8 := by unfold redE; rw [if_pos h15]
    have hF := red_no (fl := fl) (x := x) (by rw [hE]; omega)
    rw [hF, hE]
    refine W.reg ?_
    refine XOps.s rfl rfl rfl (Q.assign_d rfl) ?_
    refine XOps.nil ?_
    refine W.ret ?_
    exact ⟨_, (b, .cells (ceC su tm fl ow lb)) :: hs, rfl, HLe.skip _ (HLe.refl _), rfl, rfl⟩
  · try simp only [Bool.or_eq_true, Bool.or_eq_false_iff, Bool.and_eq_true, Bool.and_eq_false_iff, decide_eq_true_eq, decide_eq_false_iff_not, Bool.not_eq_true', Bool.not_eq_false', Int.not_lt, Int.not_le, List.length_map] at hc15
    have h15 : ¬ hasK Fl.call fl x.call = false := by rw [hc15]; simp
    have hh : hasK Fl.call fl x.call = true := hc15
    obtain ⟨hx, hxc⟩ := atF_get hh
    have hpl := (List.getElem?_eq_some_iff.1 hx).1
    have okf := o.all _ (List.mem_of_getElem? hx)
    have hll : (atF fl x.call).legs.length ≠ 0 := fun h => okf.ne (List.eq_nil_of_length_eq_zero h)
    have hlg := lastL_get okf.ne
    have hlm : ((atF fl x.call).legs.map tuR).length = (atF fl x.call).legs.length := List.length_map _
    have hok := okf.legs _ (List.mem_of_getElem? hlg)
    have hlz := okf.len
    have hlr : ((atF fl x.call).legs.map tuR)[((((atF fl x.call).legs.map tuR).length : Int) - 1).toNat]? = some (tuR (lastL (atF fl x.call))) := by
      rw [List.getElem?_map, List.length_map, show (((atF fl x.call).legs.length : Int) - 1).toNat = (atF fl x.call).legs.length - 1 by omega, hlg]; rfl
    have pll := hd_row hok.ne
    have hlt : (lastL (atF fl x.call)).length ≠ 0 := fun h => hok.ne (List.eq_nil_of_length_eq_zero h)
    have hlt2 := hok.len
    have hlm2 : ((lastL (atF fl x.call)).map Nd.enc).length = (lastL (atF fl x.call)).length := List.length_map _
    have hnm : ((atF fl x.call).next.map Nd.enc).length = (atF fl x.call).next.length := List.length_map _
    refine W.reg ?_
    refine XOps.s rfl rfl rfl (Q.move_ptr rfl) ?_
    refine XOps.s rfl rfl rfl (Q.nil_ptr rfl) ?_
    refine XOps.s rfl rfl rfl (Q.fld_ptr fl83_2 rfl) ?_
    refine XOps.s rfl rfl rfl (Q.ld_ptr (k := 1) ag37 rfl rfl rfl) ?_
    refine XOps.s rfl rfl rfl (Q.move_d rfl) ?_
    refine XOps.s rfl rfl rfl (Q.idx_sl sl37 (by decide) rfl rfl (by first | omega | (simp only [List.length_map]; omega)) (by first | exact map_at hx | exact pn)) ?_
    refine XOps.s rfl rfl rfl (Q.fld_dp fl41_5 rfl) ?_
    refine XOps.s rfl rfl rfl (Q.ld_dp ag33 rfl rfl) ?_
    refine XOps.s rfl rfl rfl (Q.len_sl isl33 rfl) ?_
    refine XOps.s rfl rfl rfl (Q.eql rfl rfl) ?_
    refine XOps.s rfl rfl rfl (Q.assign_d rfl) ?_
    refine XOps.nil ?_
    refine W.cond rfl (fun hc18 => ?_) (fun hc18 => ?_)
    · try simp only [Bool.or_eq_true, Bool.or_eq_false_iff, Bool.and_eq_true, Bool.and_eq_false_iff, decide_eq_true_eq, decide_eq_false_iff_not, Bool.not_eq_true', Bool.not_eq_false', Int.not_lt, Int.not_le, List.length_map] at hc18
      have h18 : (atF fl x.call).next = [] := List.eq_nil_of_length_eq_zero (by omega)
      have hE : redE fl x = 11 := by unfold redE; rw [if_neg h15, if_pos h18]
      have hF := red_no (fl := fl) (x := x) (by rw [hE]; omega)
      rw [hF, hE]
      refine W.reg ?_
      refine XOps.s rfl rfl rfl (Q.assign_d rfl) ?_
      refine XOps.nil ?_
      refine W.ret ?_
      exact ⟨_, (b, .cells (ceC su tm fl ow lb)) :: hs, rfl, HLe.skip _ (HLe.refl _), rfl, rfl⟩
    · try simp only [Bool.or_eq_true, Bool.or_eq_false_iff, Bool.and_eq_true, Bool.and_eq_false_iff, decide_eq_true_eq, decide_eq_false_iff_not, Bool.not_eq_true', Bool.not_eq_false', Int.not_lt, Int.not_le, List.length_map] at hc18
      have h18 : ¬ (atF fl x.call).next = [] := fun h => by rw [h] at hc18; simp at hc18
      have pn := hd_row h18
      have hn0 : (atF fl x.call).next.length ≠ 0 := fun h => h18 (List.eq_nil_of_length_eq_zero h)
      refine W.drawreg 21 follows (by kernel_rfl) ?_
      refine Chain.cons _ (GQ.q rfl (Q.fld_ptr fl35_0 rfl)) rfl ?_
      refine Chain.cons _ (GQ.q rfl (Q.ld_ptr (k := 0) ag3 rfl rfl rfl)) rfl ?_
      refine Chain.cons _ (GQ.q rfl (Q.eql rfl rfl)) rfl ?_
      refine Chain.cons _ (GQ.q rfl (Q.move_d rfl)) rfl ?_
      refine Chain.cons _ (GQ.g rfl rfl rfl rfl rfl (fun hg => Q.fld_ptr fl35_1 rfl)) rfl ?_
      refine Chain.cons _ (GQ.g rfl rfl rfl rfl rfl (fun hg => Quiet.open 34 hg rfl (Q.ld_ptr (k := 0) ag3 rfl rfl rfl))) rfl ?_
      refine Chain.cons _ (GQ.g rfl rfl rfl rfl rfl (fun hg => Q.move_ptr rfl)) rfl ?_
      refine Chain.cons _ (GQ.g rfl rfl rfl rfl rfl (fun hg => Quiet.open 36 hg rfl (Q.nil_ptr rfl))) rfl ?_
      refine Chain.cons _ (GQ.g rfl rfl rfl rfl rfl (fun hg => Quiet.open 37 hg rfl (Q.fld_ptr fl83_2 rfl))) rfl ?_
      refine Chain.cons _ (GQ.g rfl rfl rfl rfl rfl (fun hg => Quiet.open 38 hg rfl (Q.ld_ptr (k := 1) ag37 rfl rfl rfl))) rfl ?_
      refine Chain.cons _ (GQ.g rfl rfl rfl rfl rfl (fun hg => Q.move_d rfl)) rfl ?_
      refine Chain.cons _ (GQ.g rfl rfl rfl rfl rfl (fun hg => Quiet.open 39 hg rfl (Quiet.open 40 hg rfl (Q.idx_sl sl37 (by decide) rfl rfl (by first | omega | (simp only [List.length_map]; omega)) (by first | exact map_at hx | exact pn))))) rfl ?_
      refine Chain.cons _ (GQ.g rfl rfl rfl rfl rfl (fun hg => Quiet.open 41 hg rfl (Q.fld_dp fl41_5 rfl))) rfl ?_
      refine Chain.cons _ (GQ.g rfl rfl rfl rfl rfl (fun hg => Quiet.open 42 hg rfl (Q.ld_dp ag33 rfl rfl))) rfl ?_
      refine Chain.cons _ (GQ.g rfl rfl rfl rfl rfl (fun hg => Quiet.open 43 hg rfl (Q.idx_sl sl33 (by decide) rfl rfl (by first | omega | (simp only [List.length_map]; omega)) (by first | exact map_at hx | exact pn)))) rfl ?_
      refine Chain.cons _ (GQ.g rfl rfl rfl rfl rfl (fun hg => Quiet.open 44 hg rfl (Q.fld_dp fl47_0 rfl))) rfl ?_
      refine Chain.cons _ (GQ.g rfl rfl rfl rfl rfl (fun hg => Quiet.open 45 hg rfl (Q.fld_dp fl45_0 rfl))) rfl ?_
      refine Chain.cons _ (GQ.g rfl rfl rfl rfl rfl (fun hg => Quiet.open 46 hg rfl (Q.ld_dp ag3 rfl rfl))) rfl ?_
      refine Chain.cons _ (GQ.g rfl rfl rfl rfl rfl (fun hg => Quiet.open 35 hg rfl (Quiet.open 47 hg rfl (Q.geq rfl rfl)))) rfl ?_
      refine Chain.cons _ (GQ.q rfl (Q.pick_and rfl rfl rfl (fun h => by first | (rw [h]; rfl) | (rw [hg, h]; rfl) | (simp [h, hg]; done)))) rfl ?_
      refine Chain.cons _ (GQ.q rfl (Q.assign_d rfl)) rfl ?_
      refine Chain.nil ?_
      refine XOps.nil ?_
      refine W.cond rfl (fun hc29 => ?_) (fun hc29 => ?_)
      · try simp only [Bool.or_eq_true, Bool.or_eq_false_iff, Bool.and_eq_true, Bool.and_eq_false_iff, decide_eq_true_eq, decide_eq_false_iff_not, Bool.not_eq_true', Bool.not_eq_false', Int.not_lt, Int.not_le, List.length_map] at hc29
        have h29 : x.kind = 4 ∧ hdT (atF fl x.call).next ≤ x.time := hc29
        have hE : redE fl x = 12 := by unfold redE; rw [if_neg h15, if_neg h18, if_pos h29]
        have hF := red_no (fl := fl) (x := x) (by rw [hE]; omega)
        rw [hF, hE]
        refine W.reg ?_
        refine XOps.s rfl rfl rfl (Q.assign_d rfl) ?_
        refine XOps.nil ?_
        refine W.ret ?_
        exact ⟨_, (b, .cells (ceC su tm fl ow lb)) :: hs, rfl, HLe.skip _ (HLe.refl _), rfl, rfl⟩
      · try simp only [Bool.or_eq_true, Bool.or_eq_false_iff, Bool.and_eq_true, Bool.and_eq_false_iff, decide_eq_true_eq, decide_eq_false_iff_not, Bool.not_eq_true', Bool.not_eq_false', Int.not_lt, Int.not_le, List.length_map] at hc29
        have h29 : ¬ (x.kind = 4 ∧ hdT (atF fl x.call).next ≤ x.time) := by
          rintro ⟨h1, h2⟩
          rcases hc29 with h | h
          · exact h h1
          · have h7 : x.time < hdT (atF fl x.call).next := by first | exact h | exact Int.not_le.1 h
            omega
        have hE : redE fl x = 0 := by unfold redE; rw [if_neg h15, if_neg h18, if_neg h29]
        have hF := red_yes hE
        rw [hF, hE]
        refine W.skip ?_
        refine W.reg ?_
        refine XOps.s rfl rfl rfl (Q.move_ptr rfl) ?_
        refine XOps.s rfl rfl rfl (Q.nil_ptr rfl) ?_
        refine XOps.s rfl rfl rfl (Q.fld_ptr fl83_2 rfl) ?_
        refine XOps.s rfl rfl rfl (Q.ld_ptr (k := 1) ag37 rfl rfl rfl) ?_
        refine XOps.s rfl rfl rfl (Q.move_d rfl) ?_
        refine XOps.s rfl rfl rfl (Q.idx_sl sl37 (by decide) rfl rfl (by first | omega | (simp only [List.length_map]; omega)) (by first | exact map_at hx | exact pn)) ?_
        refine XOps.s rfl rfl rfl (Q.ld_dpn ag41 rfl rfl) ?_
        (refine XOps.loud rfl (L.call rfl Tryz.func40 go40 rfl (copied_own (atF fl x.call) _ (fun l hl => by have := (okf.legs l hl).len; omega) (okf.next.elim (fun h => by rw [h]; exact Nat.zero_le _) (fun h => by have := h.len; omega)) (by omega)) rfl) ?_; rintro _ _ ⟨_, rfl, v57, rfl, rfl⟩)
        (refine XOps.loud rfl (L.alloc tz41 rfl rfl) ?_; rintro _ _ ⟨b7, rfl, rfl⟩)
        refine XOps.loud rfl (L.storev (k := 0) ag41 rfl rfl rfl rfl rfl) ?_
        rintro _ _ ⟨rfl, rfl⟩
        refine XOps.nil ?_
        refine W.seq ?_
        refine W.reg ?_
        refine XOps.s rfl rfl rfl (Q.fld_ptr fl35_0 rfl) ?_
        refine XOps.s rfl rfl rfl (Q.ld_ptr (k := 2) ag3 rfl rfl rfl) ?_
        refine XOps.s rfl rfl rfl (Q.eql rfl rfl) ?_
        refine XOps.nil ?_
        refine W.cond rfl (fun hc60 => ?_) (fun hc60 => ?_)
        · try simp only [Bool.or_eq_true, Bool.or_eq_false_iff, Bool.and_eq_true, Bool.and_eq_false_iff, decide_eq_true_eq, decide_eq_false_iff_not, Bool.not_eq_true', Bool.not_eq_false', Int.not_lt, Int.not_le, List.length_map] at hc60
          have hR : redL (atF fl x.call) x = ⟨(atF fl x.call).call, (atF fl x.call).wake, (atF fl x.call).slot, (atF fl x.call).lands, (atF fl x.call).legs ++ [(atF fl x.call).next], [], (atF fl x.call).nland, 0⟩ := if_pos hc60
          refine W.reg ?_
          refine XOps.s rfl rfl rfl (Q.fld_ptr fl41_4 rfl) ?_
          refine XOps.s rfl rfl rfl (Q.ld_ptr (k := 0) ag39 rfl rfl rfl) ?_
          refine XOps.s rfl rfl rfl (Q.fld_ptr fl41_5 rfl) ?_
          refine XOps.s rfl rfl rfl (Q.ld_ptr (k := 0) ag33 rfl rfl rfl) ?_
          refine XOps.s rfl rfl rfl (Q.bsl1 sl39 zr39 rfl zrd39 rfl rfl) ?_
          (refine XOps.loud rfl (L.app (k := 1) ap39 rfl rfl (by simp) rfl (by simp; omega) rfl) ?_; rintro _ _ ⟨v66, rfl, rfl⟩)
          refine XOps.s rfl rfl rfl (Q.fld_ptr fl41_4 rfl) ?_
          refine XOps.loud rfl (L.store (k := 1) ag39 rfl rfl rfl rfl rfl) ?_
          rintro _ _ ⟨rfl, rfl⟩
          refine XOps.nil ?_
          refine W.region ?_
          refine XOps.s rfl rfl rfl (Q.fld_ptr fl41_7 rfl) ?_
          refine XOps.s rfl rfl rfl (Q.ld_ptr (k := 1) ag3 rfl rfl rfl) ?_
          refine XOps.s rfl rfl rfl (Q.fld_ptr fl41_6 rfl) ?_
          refine XOps.loud rfl (L.store (k := 1) ag3 rfl rfl rfl rfl rfl) ?_
          rintro _ _ ⟨rfl, rfl⟩
          refine XOps.nil ?_
          refine W.heap ((v66, .lst 1 (((atF fl x.call).legs ++ [(atF fl x.call).next]).map tuR)) :: _) (HLe.cons' (by rw [List.map_append]; rfl) (HLe.refl _)) ?_
          refine W.freezec 4 rfl (by simp) ?_
          refine W.reg ?_
          refine XOps.s rfl rfl rfl (Q.fld_ptr fl41_5 rfl) ?_
          refine XOps.loud rfl (L.store (k := 0) ag33 rfl rfl rfl rfl rfl) ?_
          rintro _ _ ⟨rfl, rfl⟩
          refine XOps.s rfl rfl rfl (Q.fld_ptr fl41_7 rfl) ?_
          refine XOps.loud rfl (L.store (k := 0) ag3 rfl rfl rfl rfl rfl) ?_
          rintro _ _ ⟨rfl, rfl⟩
          refine XOps.nil ?_
          refine W.ghostc 0 5 6 (by decide) rfl rfl (fun vz => ?_)
          refine W.freezec 5 rfl rfl ?_
          refine W.reg ?_
          refine XOps.s rfl rfl rfl (Q.move_ptr rfl) ?_
          refine XOps.s rfl rfl rfl (Q.move_ptr rfl) ?_
          refine XOps.s rfl rfl rfl (Q.nil_ptr rfl) ?_
          refine XOps.s rfl rfl rfl (Q.fld_ptr fl83_2 rfl) ?_
          refine XOps.s rfl rfl rfl (Q.ld_ptr (k := 2) ag37 rfl rfl rfl) ?_
          (refine XOps.loud rfl (L.call rfl Tryz.func84 go84 rfl (cloneF_c fl _ (by omega)) rfl) ?_; rintro _ _ ⟨_, rfl, v78, rfl, rfl⟩)
          refine XOps.s rfl rfl rfl (Q.nil_ptr rfl) ?_
          refine XOps.s rfl rfl rfl (Q.fld_ptr fl83_2 rfl) ?_
          refine XOps.loud rfl (L.store (k := 3) ag37 rfl rfl rfl rfl rfl) ?_
          rintro _ _ ⟨rfl, rfl⟩
          refine XOps.nil ?_
          refine W.drawreg 6 follows (by kernel_rfl) ?_
          refine Chain.cons _ (GQ.q rfl (Q.move_ptr rfl)) rfl ?_
          refine Chain.cons _ (GQ.q rfl (Q.nil_ptr rfl)) rfl ?_
          refine Chain.cons _ (GQ.q rfl (Q.fld_ptr fl83_2 rfl)) rfl ?_
          refine Chain.cons _ (GQ.q rfl (Q.ld_ptr (k := 3) ag37 rfl rfl rfl)) rfl ?_
          refine Chain.cons _ (GQ.q rfl (Q.move_d rfl)) rfl ?_
          refine Chain.cons _ (GQ.q rfl (Q.ld_ptrn (k := 1) ag41 rfl rfl rfl)) rfl ?_
          refine Chain.nil ?_
          refine XOps.s rfl rfl rfl (Q.idx_vs (kk := 0) sl37 rfl rfl rfl (by omega) (by omega)) ?_
          (refine XOps.loud rfl (L.storen_ep (k := 0) ag41 rfl rfl (map_at0 hx) rfl rfl rfl) ?_; rintro _ _ ⟨rfl, rfl⟩)
          refine XOps.nil ?_
          refine W.heap ((v78, .lst 8 ((fl.set (posK Fl.call fl x.call) (redL (atF fl x.call) x)).map Fl.enc)) :: (b, .cells ((ceC su tm fl ow lb).set 19 (.vs v78 0 fl.length 8))) :: hs) (HLe.cons' (congrArg (HO.lst 8) (by rw [Nat.zero_add, Int.toNat_natCast, List.map_set, hR]; rfl)) (HLe.skip _ (HLe.skip _ (HLe.refl _)))) ?_
          refine W.freezec 19 rfl (by simp) ?_
          refine W.reg ?_
          refine XOps.s rfl rfl rfl (Q.assign_d rfl) ?_
          refine XOps.nil ?_
          refine W.ret ?_
          exact ⟨_, (b, .cells (ceC su tm (fl.set (posK Fl.call fl x.call) (redL (atF fl x.call) x)) ow lb)) :: hs, rfl, HLe.refl _, rfl, rfl⟩
        · try simp only [Bool.or_eq_true, Bool.or_eq_false_iff, Bool.and_eq_true, Bool.and_eq_false_iff, decide_eq_true_eq, decide_eq_false_iff_not, Bool.not_eq_true', Bool.not_eq_false', Int.not_lt, Int.not_le, List.length_map] at hc60
          have hR : redL (atF fl x.call) x = ⟨(atF fl x.call).call, (atF fl x.call).wake, (atF fl x.call).slot, (atF fl x.call).lands, (atF fl x.call).legs, [], (atF fl x.call).land, 0⟩ := if_neg hc60
          refine W.heap _ (HLe.pick 1 rfl rfl (HLe.refl _)) ?_
          refine W.freezec 4 rfl (by simp) ?_
          refine W.skip ?_
          refine W.reg ?_
          refine XOps.s rfl rfl rfl (Q.fld_ptr fl41_5 rfl) ?_
          refine XOps.loud rfl (L.store (k := 0) ag33 rfl rfl rfl rfl rfl) ?_
          rintro _ _ ⟨rfl, rfl⟩
          refine XOps.s rfl rfl rfl (Q.fld_ptr fl41_7 rfl) ?_
          refine XOps.loud rfl (L.store (k := 0) ag3 rfl rfl rfl rfl rfl) ?_
          rintro _ _ ⟨rfl, rfl⟩
          refine XOps.nil ?_
          refine W.ghostc 0 5 6 (by decide) rfl rfl (fun vz => ?_)
          refine W.freezec 5 rfl rfl ?_
          refine W.reg ?_
          refine XOps.s rfl rfl rfl (Q.move_ptr rfl) ?_
          refine XOps.s rfl rfl rfl (Q.move_ptr rfl) ?_
          refine XOps.s rfl rfl rfl (Q.nil_ptr rfl) ?_
          refine XOps.s rfl rfl rfl (Q.fld_ptr fl83_2 rfl) ?_
          refine XOps.s rfl rfl rfl (Q.ld_ptr (k := 2) ag37 rfl rfl rfl) ?_
          (refine XOps.loud rfl (L.call rfl Tryz.func84 go84 rfl (cloneF_c fl _ (by omega)) rfl) ?_; rintro _ _ ⟨_, rfl, v78, rfl, rfl⟩)
          refine XOps.s rfl rfl rfl (Q.nil_ptr rfl) ?_
          refine XOps.s rfl rfl rfl (Q.fld_ptr fl83_2 rfl) ?_
          refine XOps.loud rfl (L.store (k := 3) ag37 rfl rfl rfl rfl rfl) ?_
          rintro _ _ ⟨rfl, rfl⟩
          refine XOps.nil ?_
          refine W.drawreg 6 follows (by kernel_rfl) ?_
          refine Chain.cons _ (GQ.q rfl (Q.move_ptr rfl)) rfl ?_
          refine Chain.cons _ (GQ.q rfl (Q.nil_ptr rfl)) rfl ?_
          refine Chain.cons _ (GQ.q rfl (Q.fld_ptr fl83_2 rfl)) rfl ?_
          refine Chain.cons _ (GQ.q rfl (Q.ld_ptr (k := 3) ag37 rfl rfl rfl)) rfl ?_
          refine Chain.cons _ (GQ.q rfl (Q.move_d rfl)) rfl ?_
          refine Chain.cons _ (GQ.q rfl (Q.ld_ptrn (k := 1) ag41 rfl rfl rfl)) rfl ?_
          refine Chain.nil ?_
          refine XOps.s rfl rfl rfl (Q.idx_vs (kk := 0) sl37 rfl rfl rfl (by omega) (by omega)) ?_
          (refine XOps.loud rfl (L.storen_ep (k := 0) ag41 rfl rfl (map_at0 hx) rfl rfl rfl) ?_; rintro _ _ ⟨rfl, rfl⟩)
          refine XOps.nil ?_
          refine W.heap ((v78, .lst 8 ((fl.set (posK Fl.call fl x.call) (redL (atF fl x.call) x)).map Fl.enc)) :: (b, .cells ((ceC su tm fl ow lb).set 19 (.vs v78 0 fl.length 8))) :: hs) (HLe.cons' (congrArg (HO.lst 8) (by rw [Nat.zero_add, Int.toNat_natCast, List.map_set, hR]; rfl)) (HLe.skip _ (HLe.skip _ (HLe.refl _)))) ?_
          refine W.freezec 19 rfl (by simp) ?_
          refine W.reg ?_
          refine XOps.s rfl rfl rfl (Q.assign_d rfl) ?_
          refine XOps.nil ?_
          refine W.ret ?_
          exact ⟨_, (b, .cells (ceC su tm (fl.set (posK Fl.call fl x.call) (redL (atF fl x.call) x)) ow lb)) :: hs, rfl, HLe.refl _, rfl, rfl⟩
end Go.Proofs.YtaegeaajhbfkgaaGreatDoorA

