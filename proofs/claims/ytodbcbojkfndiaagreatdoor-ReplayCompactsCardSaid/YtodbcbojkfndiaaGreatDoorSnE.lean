/- Changes applied. -/
import Derived.Test.YtodbcbojkfndiaaGreatDoorFrB
import Derived.Test.YtodbcbojkfndiaaGreatDoorSpec4
import Derived.Test.YtodbcbojkfndiaaGreatDoorSnB
import Derived.Test.YtodbcbojkfndiaaGreatDoorFrC
set_option linter.unusedVariables false
set_option linter.unusedSimpArgs false
set_option linter.unnecessarySimpa false
namespace Go.Proofs.YtodbcbojkfndiaaGreatDoorA.FSnE
open Go
theorem ag4 : tAgg P 4 = some ((false, 1)) := by kernel_rfl
theorem ag72 : tAgg P 72 = some ((true, 5)) := by kernel_rfl
theorem ag9 : tAgg P 9 = some ((false, 1)) := by kernel_rfl
theorem fl50_1 : tFld P 50 1 = some (1) := by kernel_rfl
theorem fl72_0 : tFld P 72 0 = some (0) := by kernel_rfl
theorem fl72_1 : tFld P 72 1 = some (1) := by kernel_rfl
theorem fl72_2 : tFld P 72 2 = some (2) := by kernel_rfl
theorem fl72_3 : tFld P 72 3 = some (3) := by kernel_rfl
theorem fl72_4 : tFld P 72 4 = some (4) := by kernel_rfl
theorem go21 : callGo Go.Proofs.Tryz.f21 = true := by kernel_rfl
theorem go32 : callGo Go.Proofs.Tryz.f32 = true := by kernel_rfl
theorem go33 : callGo Go.Proofs.Tryz.f33 = true := by kernel_rfl
theorem go34 : callGo Go.Proofs.Tryz.f34 = true := by kernel_rfl
theorem go35 : callGo Go.Proofs.Tryz.f35 = true := by kernel_rfl
theorem go40 : callGo Go.Proofs.Tryz.f40 = true := by kernel_rfl
theorem go41 : callGo Go.Proofs.Tryz.f41 = true := by kernel_rfl
theorem go42 : callGo Go.Proofs.Tryz.f42 = true := by kernel_rfl
theorem isb4 : isB P 4 = true := by kernel_rfl
theorem isl28 : isSl P 28 = true := by kernel_rfl
theorem isl69 : isSl P 69 = true := by kernel_rfl
theorem pl50 : tPl P 50 = some ([(0, 1), (1, 1)]) := by kernel_rfl
theorem sl28 : tSl P 28 = some (2) := by kernel_rfl
theorem sl69 : tSl P 69 = some (5) := by kernel_rfl
theorem tz50 : tZero P 50 = some ([.string ⟨#[]⟩, .string ⟨#[]⟩]) := by kernel_rfl
theorem tz72 : tZero P 72 = some ([.string ⟨#[]⟩, .bool false, .bool false, .string ⟨#[]⟩, .string ⟨#[]⟩]) := by kernel_rfl
theorem tzd50 : cellsD [.string ⟨#[]⟩, .string ⟨#[]⟩] = some ([.str ⟨#[]⟩, .str ⟨#[]⟩]) := rfl
theorem zr28 : tZrow P 28 = some ([.string ⟨#[]⟩, .string ⟨#[]⟩]) := by kernel_rfl
theorem zrd28 : cellsD [.string ⟨#[]⟩, .string ⟨#[]⟩] = some ([.str ⟨#[]⟩, .str ⟨#[]⟩]) := rfl
end Go.Proofs.YtodbcbojkfndiaaGreatDoorA.FSnE
namespace Go.Proofs.YtodbcbojkfndiaaGreatDoorA
open Go FSnE
attribute [local irreducible] XOps Quiet Loud W AC GQ DT
def szC (cs : List SC) : Prop := ∀ x ∈ cs, x.key.size ≤ 140737488355000 ∧ x.new.size ≤ 140737488355000
theorem bne_iff (p q : Bool) : (!(p == q)) = true ↔ p ≠ q := by cases p <;> cases q <;> simp

set_option maxHeartbeats 4000000 in
set_option maxRecDepth 100000 in
theorem one_c (id : Nat) (l : List SR) (c : SC) (hs : Hp) (hok : okS l) (hl : l.length ≤ 1000) (hz1 : c.key.size ≤ 140737488355000) (hz2 : c.new.size ≤ 140737488355000) : AC P 35 [.vs id 0 l.length 2, .d (.agg c.enc)] ((id, .lst 2 (l.map SR.enc)) :: hs) (fun r h => ∃ m, r = .tup [.vs m 0 (oneL l c).length 2, .d (.int .i64 (oneE l c))] ∧ h = (m, .lst 2 ((oneL l c).map SR.enc)) :: hs) := by
  obtain ⟨x, hx⟩ : ∃ x : SR, isS l c.key = true → l[atS l c.key]? = some x ∧ x.key = c.key := by
    cases h : isS l c.key with
    | true => obtain ⟨x, hx, hk⟩ := isS_at h; exact ⟨x, fun _ => ⟨hx, hk⟩⟩
    | false => exact ⟨⟨c.key, c.key⟩, fun h => by cases h⟩
  have hal := atS_le l c.key
  have hva : isS l c.key = true → valAt l (atS l c.key) = x.val := fun h => by unfold valAt; rw [(hx h).1]
  refine AC.of 79 Tryz.func35 rfl rfl rfl ?_
  refine W.reg ?_
  refine XOps.loud rfl (L.boxn rfl rfl) ?_
  rintro _ _ ⟨b3, rfl, rfl⟩
  refine XOps.s rfl rfl rfl (Q.assign_nilsl rfl) ?_
  refine XOps.s rfl rfl rfl (Q.assign_d rfl) ?_
  refine XOps.nil ?_
  refine W.reg ?_
  refine XOps.s rfl rfl rfl (Q.move_vs rfl) ?_
  refine XOps.s rfl rfl rfl (Q.fld_ptr fl72_0 rfl) ?_
  refine XOps.s rfl rfl rfl (Q.ld_ptr (k := 0) ag9 rfl rfl rfl) ?_
  (refine XOps.loud rfl (L.call rfl Tryz.func40 go40 rfl (AC.le (find_own id l c.key ((b3, .cells (c.enc.map .d)) :: hs) hok (by omega)) (HLe.pick 1 rfl rfl (HLe.refl _))) rfl) ?_; rintro _ _ ⟨_, rfl, rfl, rfl⟩)
  refine XOps.s rfl rfl rfl (Q.move_tup rfl) ?_
  refine XOps.s rfl rfl rfl (Q.extract rfl rfl) ?_
  refine XOps.s rfl rfl rfl (Q.extract rfl rfl) ?_
  refine XOps.s rfl rfl rfl (Q.assign_d rfl) ?_
  refine XOps.s rfl rfl rfl (Q.assign_d rfl) ?_
  refine XOps.nil ?_
  refine W.seq ?_
  refine W.drawreg 17 follows (by kernel_rfl) ?_
  refine Chain.cons _ (GQ.q rfl (Q.move_d rfl)) rfl ?_
  refine Chain.cons _ (GQ.q rfl (Q.fld_ptr fl72_1 rfl)) rfl ?_
  refine Chain.cons _ (GQ.q rfl (Q.ld_ptr (k := 1) ag4 rfl rfl rfl)) rfl ?_
  refine Chain.cons _ (GQ.q rfl (Q.neq_bool isb4 rfl rfl)) rfl ?_
  refine Chain.cons _ (GQ.q rfl (Q.move_d rfl)) rfl ?_
  refine Chain.cons _ (GQ.g rfl rfl rfl rfl rfl (fun hg => Q.move_d rfl)) rfl ?_
  refine Chain.cons _ (GQ.g rfl rfl rfl rfl rfl (fun hg => Quiet.open 20 hg rfl (Q.move_d rfl))) rfl ?_
  refine Chain.cons _ (GQ.gw rfl rfl rfl rfl rfl (fun hg => Q.move_vs rfl)) rfl ?_
  refine Chain.cons _ (GQ.gw rfl rfl rfl rfl rfl (fun hg => Q.move_d rfl)) rfl ?_
  refine Chain.cons _ (GQ.gw rfl rfl rfl rfl rfl (fun hg => Quiet.open 22 hg rfl (Quiet.open 23 hg rfl (Q.idx_vs (kk := 0) sl28 rfl rfl rfl (by omega) (by have := (List.getElem?_eq_some_iff.1 (hx (show _ ∧ _ from (by simpa using hg)).2).1).1; omega))))) rfl ?_
  refine Chain.cons _ (GQ.gw rfl rfl rfl rfl rfl (fun hg => Quiet.open 24 hg rfl (Q.fld_ep fl50_1 rfl))) rfl ?_
  refine Chain.cons _ (GQ.gw rfl rfl rfl rfl rfl (fun hg => Quiet.open 25 hg rfl (Q.ld_ep (k := 0) ag9 rfl rfl (map_at0 (hx (show _ ∧ _ from (by simpa using hg)).2).1) rfl))) rfl ?_
  refine Chain.cons _ (GQ.gw rfl rfl rfl rfl rfl (fun hg => Q.fld_ptr fl72_3 rfl)) rfl ?_
  refine Chain.cons _ (GQ.gw rfl rfl rfl rfl rfl (fun hg => Quiet.open 27 hg rfl (Q.ld_ptr (k := 1) ag9 rfl rfl rfl))) rfl ?_
  refine Chain.cons _ (GQ.gw rfl rfl rfl rfl rfl (fun hg => Quiet.open 26 hg rfl (Quiet.open 28 hg rfl (Q.neq_str rfl rfl)))) rfl ?_
  refine Chain.cons _ (GQ.g rfl rfl rfl rfl rfl (fun hg => Quiet.open 21 hg rfl (Q.pick_and rfl rfl rfl (fun h => by first | (rw [h]; rfl) | (rw [hg, h]; rfl) | (simp [h, hg]; done))))) rfl ?_
  refine Chain.cons _ (GQ.q rfl (Q.pick_or rfl rfl rfl (fun h => by first | (rw [h]; rfl) | (rw [hg, h]; rfl) | (simp [h, hg]; done)))) rfl ?_
  refine Chain.nil ?_
  refine XOps.nil ?_
  refine W.cond rfl (fun hc31 => ?_) (fun hc31 => ?_)
  · skip
    have hE : oneE l c = 11 := by
      unfold oneE
      rw [if_pos]
      rcases Bool.or_eq_true_iff.1 hc31 with h | h
      · exact .inl ((bne_iff _ _).1 h)
      · have h2 := Bool.and_eq_true_iff.1 h
        refine .inr ⟨h2.1, fun e => ?_⟩
        rw [hva h2.1] at e
        have h3 : (!(seq x.val c.old)) = true := h2.2
        rw [e, seq_refl] at h3; cases h3
    have hV : oneL l c = [] := if_pos (by omega)
    rw [hE, hV]
    refine W.reg ?_
    refine XOps.s rfl rfl rfl (Q.assign_nilsl rfl) ?_
    refine XOps.s rfl rfl rfl (Q.assign_d rfl) ?_
    refine XOps.nil ?_
    refine W.ghost 4 2 (by decide) rfl rfl (fun v4 => ?_)
    refine W.ret ?_
    exact ⟨_, (v4, .lst 2 []) :: hs, rfl, HLe.cons _ (HLe.skip _ (HLe.skip _ (HLe.refl _))), v4, rfl, rfl⟩
  · skip
    have h31 : ¬ (isS l c.key ≠ c.had ∨ isS l c.key = true ∧ valAt l (atS l c.key) ≠ c.old) := by
      obtain ⟨h1, h2⟩ := Bool.or_eq_false_iff.1 hc31
      rintro (h | ⟨h, h3⟩)
      · rw [(bne_iff _ _).2 h] at h1; cases h1
      · rw [hva h] at h3
        rcases Bool.and_eq_false_iff.1 h2 with h4 | h4
        · rw [h] at h4; cases h4
        · have h5 : (!(seq x.val c.old)) = false := h4
          exact h3 ((seq_iff _ _).1 (by simpa using h5))
    refine W.skip ?_
    refine W.seq ?_
    refine W.block ?_
    refine W.reg ?_
    refine XOps.s rfl rfl rfl (Q.fld_ptr fl72_2 rfl) ?_
    refine XOps.s rfl rfl rfl (Q.ld_ptr (k := 1) ag4 rfl rfl rfl) ?_
    refine XOps.s rfl rfl rfl (Q.move_d rfl) ?_
    refine XOps.gs rfl rfl rfl rfl rfl rfl rfl (fun hg => Q.fld_ptr fl72_0 rfl) ?_
    refine XOps.gs rfl rfl rfl rfl rfl rfl rfl (fun hg => Quiet.open 36 hg rfl (Q.ld_ptr (k := 1) ag9 rfl rfl rfl)) ?_
    refine XOps.gs rfl rfl rfl rfl rfl rfl rfl (fun hg => Quiet.open 37 hg rfl (Q.call rfl Tryz.func32 go32 rfl (keyed_c c.key _ hz1))) ?_
    refine XOps.gs rfl rfl rfl rfl rfl rfl rfl (fun hg => Quiet.open 38 hg rfl (Q.not rfl)) ?_
    refine XOps.gs rfl rfl rfl rfl rfl rfl rfl (fun hg => Quiet.open 39 hg rfl (Q.move_d rfl)) ?_
    refine XOps.gsw rfl rfl rfl rfl rfl rfl rfl (fun hg => Q.fld_ptr fl72_4 rfl) ?_
    refine XOps.gsw rfl rfl rfl rfl rfl rfl rfl (fun hg => Quiet.open 41 hg rfl (Q.ld_ptr (k := 1) ag9 rfl rfl rfl)) ?_
    refine XOps.gsw rfl rfl rfl rfl rfl rfl rfl (fun hg => Quiet.open 42 hg rfl (Q.call rfl Tryz.func33 go33 rfl (valued_c c.new _ hz2))) ?_
    refine XOps.gsw rfl rfl rfl rfl rfl rfl rfl (fun hg => Quiet.open 43 hg rfl (Q.not rfl)) ?_
    refine XOps.gs rfl rfl rfl rfl rfl rfl rfl (fun hg => Quiet.open 40 hg rfl (Q.pick_or rfl rfl rfl (fun h => by first | (rw [h]; rfl) | (rw [hg, h]; rfl) | (simp [h, hg]; done)))) ?_
    refine XOps.s rfl rfl rfl (Q.pick_and rfl rfl rfl (fun h => by first | (rw [h]; rfl) | (rw [hg, h]; rfl) | (simp [h, hg]; done))) ?_
    refine XOps.s rfl rfl rfl (Q.assign_d rfl) ?_
    refine XOps.nil ?_
    refine W.cond rfl (fun hc32 => ?_) (fun hc32 => ?_)
    · skip
      have h46 : c.has = true ∧ (keyedS c.key = false ∨ valuedS c.new = false) := by
        obtain ⟨h1, h2⟩ := Bool.and_eq_true_iff.1 hc32
        refine ⟨h1, ?_⟩
        rcases Bool.or_eq_true_iff.1 h2 with h3 | h3
        · exact .inl (by simpa using h3)
        · exact .inr (by simpa using h3)
      have hE : oneE l c = 3 := by unfold oneE; rw [if_neg h31, if_pos h46]
      have hV : oneL l c = [] := if_pos (by omega)
      rw [hE, hV]
      refine W.reg ?_
      refine XOps.s rfl rfl rfl (Q.assign_nilsl rfl) ?_
      refine XOps.s rfl rfl rfl (Q.assign_d rfl) ?_
      refine XOps.nil ?_
      refine W.ghost 4 2 (by decide) rfl rfl (fun v4 => ?_)
      refine W.ret ?_
      exact ⟨_, (v4, .lst 2 []) :: hs, rfl, HLe.cons _ (HLe.skip _ (HLe.skip _ (HLe.refl _))), v4, rfl, rfl⟩
    · skip
      have h46 : ¬ (c.has = true ∧ (keyedS c.key = false ∨ valuedS c.new = false)) := by
        rintro ⟨h1, h2⟩
        rw [h1] at hc32
        rcases h2 with h2 | h2 <;> rw [h2] at hc32 <;> simp at hc32
      have hE : oneE l c = 0 := by unfold oneE; rw [if_neg h31, if_neg h46]
      refine W.reg ?_
      refine XOps.s rfl rfl rfl (Q.fld_ptr fl72_2 rfl) ?_
      refine XOps.s rfl rfl rfl (Q.ld_ptr (k := 1) ag4 rfl rfl rfl) ?_
      refine XOps.s rfl rfl rfl (Q.move_d rfl) ?_
      refine XOps.gs rfl rfl rfl rfl rfl rfl rfl (fun hg => Q.move_d rfl) ?_
      refine XOps.s rfl rfl rfl (Q.pick_and rfl rfl rfl (fun h => by first | (rw [h]; rfl) | (rw [hg, h]; rfl) | (simp [h, hg]; done))) ?_
      refine XOps.s rfl rfl rfl (Q.assign_d rfl) ?_
      refine XOps.nil ?_
      refine W.cond rfl (fun hc47 => ?_) (fun hc47 => ?_)
      · skip
        have h52 : c.has = true ∧ isS l c.key = true := Bool.and_eq_true_iff.1 hc47
        have hV : oneL l c = l.set (atS l c.key) ⟨c.key, c.new⟩ := by unfold oneL putS; rw [if_neg (by omega), if_pos h52.1, if_pos h52.2]
        rw [hE, hV]
        have hkl := (List.getElem?_eq_some_iff.1 (hx h52.2).1).1
        refine W.region ?_
        refine XOps.s rfl rfl rfl (Q.move_vs rfl) ?_
        refine XOps.s rfl rfl rfl (Q.move_d rfl) ?_
        refine XOps.s rfl rfl rfl (Q.fld_ptr fl72_4 rfl) ?_
        refine XOps.s rfl rfl rfl (Q.ld_ptr (k := 1) ag9 rfl rfl rfl) ?_
        refine XOps.s rfl rfl rfl (Q.idx_vs (kk := 0) sl28 rfl rfl rfl (by omega) (by omega)) ?_
        refine XOps.s rfl rfl rfl (Q.fld_ep fl50_1 rfl) ?_
        (refine XOps.loud rfl (L.store_ep (k := 0) ag9 rfl rfl (map_at0 (hx h52.2).1) rfl rfl rfl) ?_; rintro _ _ ⟨rfl, rfl⟩)
        refine XOps.nil ?_
        refine W.reg ?_
        refine XOps.s rfl rfl rfl (Q.move_vs rfl) ?_
        refine XOps.s rfl rfl rfl (Q.assign_vs rfl) ?_
        refine XOps.s rfl rfl rfl (Q.assign_d rfl) ?_
        refine XOps.nil ?_
        refine W.ret ?_
        exact ⟨_, (id, .lst 2 ((l.set (atS l c.key) ⟨c.key, c.new⟩).map SR.enc)) :: hs, rfl, HLe.cons' (congrArg (HO.lst 2) (by rw [Nat.zero_add, Int.toNat_natCast]; have := set_enc l (atS l c.key) x c.new hkl (x.enc.set (0 + 1) (.str c.new)) rfl; rw [(hx h52.2).2] at this; exact this.symm)) (HLe.skip _ (HLe.refl _)), id, by rw [List.length_set]; rfl, rfl⟩
      · skip
        refine W.reg ?_
        refine XOps.s rfl rfl rfl (Q.fld_ptr fl72_2 rfl) ?_
        refine XOps.s rfl rfl rfl (Q.ld_ptr (k := 1) ag4 rfl rfl rfl) ?_
        refine XOps.s rfl rfl rfl (Q.assign_d rfl) ?_
        refine XOps.nil ?_
        refine W.cond rfl (fun hc59 => ?_) (fun hc59 => ?_)
        · skip
          have h61 : c.has = true := hc59
          have hni : isS l c.key = false := by cases h : isS l c.key with | false => rfl | true => (rw [h61, h] at hc47; cases hc47)
          have hV : oneL l c = insS l (atS l c.key) ⟨c.key, c.new⟩ := by unfold oneL putS; rw [if_neg (by omega), if_pos h61, if_neg (by simp [hni])]
          rw [hE, hV]
          refine W.reg ?_
          refine XOps.s rfl rfl rfl (Q.move_vs rfl) ?_
          refine XOps.s rfl rfl rfl (Q.move_d rfl) ?_
          refine XOps.s rfl rfl rfl (Q.fld_ptr fl72_0 rfl) ?_
          refine XOps.s rfl rfl rfl (Q.ld_ptr (k := 1) ag9 rfl rfl rfl) ?_
          refine XOps.s rfl rfl rfl (Q.fld_ptr fl72_4 rfl) ?_
          refine XOps.s rfl rfl rfl (Q.ld_ptr (k := 1) ag9 rfl rfl rfl) ?_
          refine XOps.s rfl rfl rfl (Q.build pl50 tz50 tzd50 rfl) ?_
          (refine XOps.loud rfl (L.bslo sl28 (by decide) zr28 rfl zrd28 (by decide) rfl rfl rfl) ?_; rintro _ _ ⟨v69, rfl, rfl⟩)
          (refine XOps.loud rfl (L.call rfl Tryz.func41 go41 rfl (insS_c v69 id (atS l c.key) ⟨c.key, c.new⟩ l ((b3, .cells (c.enc.map .d)) :: hs) hal (by omega)) rfl) ?_; rintro _ _ ⟨_, rfl, id2, rfl, rfl⟩)
          refine XOps.s rfl rfl rfl (Q.assign_vs rfl) ?_
          refine XOps.s rfl rfl rfl (Q.assign_d rfl) ?_
          refine XOps.nil ?_
          refine W.ret ?_
          exact ⟨_, (id2, .lst 2 ((insS l (atS l c.key) ⟨c.key, c.new⟩).map SR.enc)) :: hs, rfl, HLe.cons _ (HLe.skip _ (HLe.refl _)), id2, congrArg (fun z => AV.tup [AV.vs id2 0 z 2, .d (.int .i64 0)]) (by unfold insS; simp; omega), rfl⟩
        · skip
          have h61 : ¬ c.has = true := by rw [hc59]; simp
          refine W.reg ?_
          refine XOps.s rfl rfl rfl (Q.move_d rfl) ?_
          refine XOps.s rfl rfl rfl (Q.assign_d rfl) ?_
          refine XOps.nil ?_
          refine W.cond rfl (fun hc71 => ?_) (fun hc71 => ?_)
          · skip
            have h72 : isS l c.key = true := hc71
            have hV : oneL l c = delS l c.key := by unfold oneL; rw [if_neg (by omega), if_neg h61, if_pos h72]
            rw [hE, hV]
            have hkl := (List.getElem?_eq_some_iff.1 (hx h72).1).1
            refine W.reg ?_
            refine XOps.s rfl rfl rfl (Q.move_vs rfl) ?_
            refine XOps.s rfl rfl rfl (Q.move_d rfl) ?_
            refine XOps.s rfl rfl rfl (Q.move_d rfl) ?_
            refine XOps.s rfl rfl rfl (Q.add rfl rfl (wi64 (by first | omega | (dsimp only; omega) | (simp only [List.length_map]; omega)) (by first | omega | (dsimp only; omega) | (simp only [List.length_map]; omega)))) ?_
            (refine XOps.loud rfl (L.call rfl Tryz.func42 go42 (by show [AV.vs id 0 l.length 2, AV.d (.int .i64 (atS l c.key : Nat)), AV.d (.int .i64 ((atS l c.key : Int) + 1))] = [AV.vs id 0 (l.map SR.enc).length 2, AV.d (.int .i64 (atS l c.key : Nat)), AV.d (.int .i64 ((atS l c.key + 1 : Nat) : Int))]; rw [List.length_map]; rfl) (delS_c id (atS l c.key) (atS l c.key + 1) (l.map SR.enc) ((b3, .cells (c.enc.map .d)) :: hs) (by omega) (by simp; omega) (by simp; omega)) rfl) ?_; rintro _ _ ⟨_, rfl, rfl, rfl⟩)
            refine XOps.s rfl rfl rfl (Q.assign_vs rfl) ?_
            refine XOps.s rfl rfl rfl (Q.assign_d rfl) ?_
            refine XOps.nil ?_
            refine W.ret ?_
            exact ⟨_, (id, .lst 2 ((delS l c.key).map SR.enc)) :: hs, rfl, HLe.cons' (by unfold delS; rw [List.map_append, List.map_take, List.map_drop]) (HLe.skip _ (HLe.refl _)), id, congrArg (fun z => AV.tup [AV.vs id 0 z 2, .d (.int .i64 0)]) (by unfold delS; simp; omega), rfl⟩
          · skip
            have h72 : ¬ isS l c.key = true := by rw [hc71]; simp
            have hV : oneL l c = l := by unfold oneL; rw [if_neg (by omega), if_neg h61, if_neg h72]
            rw [hE, hV]
            refine W.skip ?_
            refine W.reg ?_
            refine XOps.s rfl rfl rfl (Q.move_vs rfl) ?_
            refine XOps.s rfl rfl rfl (Q.assign_vs rfl) ?_
            refine XOps.s rfl rfl rfl (Q.assign_d rfl) ?_
            refine XOps.nil ?_
            refine W.ret ?_
            exact ⟨_, (id, .lst 2 (l.map SR.enc)) :: hs, rfl, HLe.cons _ (HLe.skip _ (HLe.refl _)), id, rfl, rfl⟩

theorem appF_step {cs : List SC} {k : Nat} {c : SC} (h : cs[k]? = some c) (l : List SR) : appF l (cs.drop k) = if oneE l c ≠ 0 then (oneE l c, []) else appF (oneL l c) (cs.drop (k + 1)) := by
  obtain ⟨hk, rfl⟩ := List.getElem?_eq_some_iff.1 h
  rw [List.drop_eq_getElem_cons hk, appF]

set_option maxHeartbeats 4000000 in
set_option maxRecDepth 100000 in
theorem apply_c (l : List SR) (cs : List SC) (hs : Hp) (hL : l.length ≤ 4398046511104) (hz : szR l) (hC : cs.length ≤ 4398046511104) (hzc : szC cs) : AC P 22 [.d (.sl 2 (l.map SR.enc)), .d (.sl 5 (cs.map SC.enc))] hs (fun r h => r = .tup [.d (.sl 2 ((appL l cs).map SR.enc)), .d (.int .i64 (appE l cs))] ∧ h = hs) := by
  refine AC.of 40 Tryz.func22 rfl rfl rfl ?_
  refine W.reg ?_
  refine XOps.s rfl rfl rfl (Q.assign_nilsl rfl) ?_
  refine XOps.s rfl rfl rfl (Q.assign_d rfl) ?_
  refine XOps.nil ?_
  refine W.seq ?_
  refine W.reg ?_
  refine XOps.s rfl rfl rfl (Q.move_d rfl) ?_
  refine XOps.s rfl rfl rfl (Q.call rfl Tryz.func21 go21 rfl (check_c l _ (by omega) hz)) ?_
  refine XOps.s rfl rfl rfl (Q.assign_d rfl) ?_
  refine XOps.nil ?_
  refine W.reg ?_
  refine XOps.s rfl rfl rfl (Q.move_d rfl) ?_
  refine XOps.s rfl rfl rfl (Q.neq rfl rfl) ?_
  refine XOps.nil ?_
  refine W.cond rfl (fun hc13 => ?_) (fun hc13 => ?_)
  · try simp only [Bool.or_eq_true, Bool.or_eq_false_iff, Bool.and_eq_true, Bool.and_eq_false_iff, decide_eq_true_eq, decide_eq_false_iff_not, Bool.not_eq_true', Bool.not_eq_false', Int.not_lt, Int.not_le, List.length_map] at hc13
    have h12 : checkL l ≠ 0 := by simpa using hc13
    have hE : appE l cs = checkL l := if_pos h12
    have hV : appL l cs = [] := if_pos (by omega)
    rw [hE, hV]
    refine W.reg ?_
    refine XOps.s rfl rfl rfl (Q.move_d rfl) ?_
    refine XOps.s rfl rfl rfl (Q.assign_nilsl rfl) ?_
    refine XOps.s rfl rfl rfl (Q.assign_d rfl) ?_
    refine XOps.nil ?_
    refine W.nild 4 2 rfl ?_
    refine W.ret ?_
    refine ⟨_, hs, rfl, by repeat (first | exact HLe.refl _ | refine HLe.skip _ ?_), ?_, rfl⟩
    rfl
  · try simp only [Bool.or_eq_true, Bool.or_eq_false_iff, Bool.and_eq_true, Bool.and_eq_false_iff, decide_eq_true_eq, decide_eq_false_iff_not, Bool.not_eq_true', Bool.not_eq_false', Int.not_lt, Int.not_le, List.length_map] at hc13
    have h0 : checkL l = 0 := by simpa using hc13
    have h12 := checkL_zero.1 h0
    refine W.skip ?_
    refine W.seq ?_
    refine W.reg ?_
    refine XOps.s rfl rfl rfl (Q.move_d rfl) ?_
    refine XOps.s rfl rfl rfl (Q.len_sl isl69 rfl) ?_
    refine XOps.s rfl rfl rfl (Q.gtr rfl rfl) ?_
    refine XOps.nil ?_
    refine W.cond rfl (fun hc17 => ?_) (fun hc17 => ?_)
    · try simp only [Bool.or_eq_true, Bool.or_eq_false_iff, Bool.and_eq_true, Bool.and_eq_false_iff, decide_eq_true_eq, decide_eq_false_iff_not, Bool.not_eq_true', Bool.not_eq_false', Int.not_lt, Int.not_le, List.length_map] at hc17
      have hE : appE l cs = 2 := by unfold appE; rw [if_neg (by omega), if_pos (by omega)]
      have hV : appL l cs = [] := if_pos (by omega)
      rw [hE, hV]
      refine W.reg ?_
      refine XOps.s rfl rfl rfl (Q.assign_nilsl rfl) ?_
      refine XOps.s rfl rfl rfl (Q.assign_d rfl) ?_
      refine XOps.nil ?_
      refine W.nild 4 2 rfl ?_
      refine W.ret ?_
      refine ⟨_, hs, rfl, by repeat (first | exact HLe.refl _ | refine HLe.skip _ ?_), ?_, rfl⟩
      rfl
    · try simp only [Bool.or_eq_true, Bool.or_eq_false_iff, Bool.and_eq_true, Bool.and_eq_false_iff, decide_eq_true_eq, decide_eq_false_iff_not, Bool.not_eq_true', Bool.not_eq_false', Int.not_lt, Int.not_le, List.length_map] at hc17
      have h17 : ¬ 256 < cs.length := by omega
      refine W.skip ?_
      refine W.reg ?_
      refine XOps.s rfl rfl rfl (Q.move_d rfl) ?_
      (refine XOps.loud rfl (L.call rfl Tryz.func34 go34 rfl (cloneS_c l _ (by omega)) rfl) ?_; rintro _ _ ⟨_, rfl, v19, rfl, rfl⟩)
      refine XOps.s rfl rfl rfl (Q.assign_vs rfl) ?_
      refine XOps.nil ?_
      refine W.seq ?_
      refine W.reg ?_
      refine XOps.s rfl rfl rfl (Q.move_d rfl) ?_
      refine XOps.s rfl rfl rfl (Q.len_sl isl69 rfl) ?_
      refine XOps.s rfl rfl rfl (Q.move_d rfl) ?_
      refine XOps.nil ?_
      refine W.block ?_
      refine W.loop (ι := Nat × Nat × List SR) (fun p => [(0, .vs p.2.1 0 p.2.2.length 2), (20, .d (.sl 5 (cs.map SC.enc))), (21, .d (.int .i64 cs.length)), (22, .d (.int .i64 (p.1 : Nat)))]) (fun p => (p.2.1, .lst 2 (p.2.2.map SR.enc)) :: hs) (fun p => p.1 ≤ cs.length ∧ appF p.2.2 (cs.drop p.1) = appF l cs ∧ okS p.2.2 ∧ p.2.2.length ≤ 64 + p.1) (fun p => cs.length - p.1) (0, v19, l) ?_ ?_ ?_ ?_
      · exact ⟨Nat.zero_le _, rfl, h12.1, by simp; omega⟩
      · exact ⟨by first | rfl | exact int_eq (by omega) | exact len_eq (by simp) | exact int_eq (by simp; done), by first | rfl | exact int_eq (by omega) | exact len_eq (by simp) | exact int_eq (by simp; done), by first | rfl | exact int_eq (by omega) | exact len_eq (by simp) | exact int_eq (by simp; done), by first | rfl | exact int_eq (by omega) | exact len_eq (by simp) | exact int_eq (by simp; done), trivial⟩
      · repeat (first | exact HLe.refl _ | refine HLe.cons' (by first | rfl | (simp; done)) ?_ | refine HLe.pick 1 rfl (by first | rfl | (simp; done)) ?_ | refine HLe.pick 2 rfl (by first | rfl | (simp; done)) ?_ | refine HLe.pick 3 rfl (by first | rfl | (simp; done)) ?_ | refine HLe.pick 4 rfl (by first | rfl | (simp; done)) ?_ | refine HLe.pick 5 rfl (by first | rfl | (simp; done)) ?_ | refine HLe.skip _ ?_)
      · rintro ⟨k, id, q⟩ ⟨hk, hI2, hI3, hI4⟩
        dsimp only at hk hI2 hI3 hI4 ⊢
        refine W.reg ?_
        refine XOps.s rfl rfl rfl (Q.lss rfl rfl) ?_
        refine XOps.nil ?_
        refine W.seq ?_
        refine W.cond rfl (fun hc23 => ?_) (fun hc23 => ?_)
        · try simp only [Bool.or_eq_true, Bool.or_eq_false_iff, Bool.and_eq_true, Bool.and_eq_false_iff, decide_eq_true_eq, decide_eq_false_iff_not, Bool.not_eq_true', Bool.not_eq_false', Int.not_lt, Int.not_le, List.length_map] at hc23
          obtain ⟨c, hc⟩ : ∃ c, cs[k]? = some c := ⟨_, List.getElem?_eq_getElem (by omega)⟩
          obtain ⟨hc1, hc2⟩ := hzc c (List.mem_of_getElem? hc)
          have hst := appF_step hc q
          refine W.skip ?_
          refine W.seq ?_
          refine W.block ?_
          refine W.reg ?_
          refine XOps.s rfl rfl rfl (Q.idx_sl sl69 (by decide) rfl rfl (by first | omega | (simp only [List.length_map]; omega)) (by exact map_at hc)) ?_
          refine XOps.s rfl rfl rfl (Q.ld_dpn ag72 rfl rfl) ?_
          (refine XOps.loud rfl (L.alloc tz72 rfl rfl) ?_; rintro _ _ ⟨b8, rfl, rfl⟩)
          refine XOps.loud rfl (L.storen (k := 0) ag72 rfl rfl rfl rfl rfl) ?_
          rintro _ _ ⟨rfl, rfl⟩
          refine XOps.nil ?_
          refine W.reg ?_
          refine XOps.s rfl rfl rfl (Q.assign_d rfl) ?_
          refine XOps.nil ?_
          refine W.reg ?_
          refine XOps.s rfl rfl rfl (Q.move_vs rfl) ?_
          refine XOps.s rfl rfl rfl (Q.ld_ptrn (k := 0) ag72 rfl rfl rfl) ?_
          (refine XOps.loud rfl (L.call rfl Tryz.func35 go35 rfl (AC.le (one_c id q c ((b8, .cells (c.enc.map .d)) :: hs) hI3 (by omega) hc1 hc2) (HLe.pick 1 rfl rfl (HLe.refl _))) rfl) ?_; rintro _ _ ⟨_, rfl, m, rfl, rfl⟩)
          refine XOps.s rfl rfl rfl (Q.move_tup rfl) ?_
          refine XOps.s rfl rfl rfl (Q.extract rfl rfl) ?_
          refine XOps.s rfl rfl rfl (Q.extract rfl rfl) ?_
          refine XOps.s rfl rfl rfl (Q.assign_vs rfl) ?_
          refine XOps.s rfl rfl rfl (Q.assign_d rfl) ?_
          refine XOps.nil ?_
          refine W.reg ?_
          refine XOps.s rfl rfl rfl (Q.move_d rfl) ?_
          refine XOps.s rfl rfl rfl (Q.neq rfl rfl) ?_
          refine XOps.nil ?_
          refine W.cond rfl (fun hc33 => ?_) (fun hc33 => ?_)
          · try simp only [Bool.or_eq_true, Bool.or_eq_false_iff, Bool.and_eq_true, Bool.and_eq_false_iff, decide_eq_true_eq, decide_eq_false_iff_not, Bool.not_eq_true', Bool.not_eq_false', Int.not_lt, Int.not_le, List.length_map] at hc33
            rw [if_pos hc33] at hst
            rw [hst] at hI2
            have hE : appE l cs = oneE q c := by unfold appE; rw [if_neg (by omega), if_neg h17, ← hI2, if_pos hc33]
            have hV : appL l cs = [] := if_pos (by omega)
            rw [hE, hV]
            refine W.reg ?_
            refine XOps.s rfl rfl rfl (Q.move_d rfl) ?_
            refine XOps.s rfl rfl rfl (Q.assign_nilsl rfl) ?_
            refine XOps.s rfl rfl rfl (Q.assign_d rfl) ?_
            refine XOps.nil ?_
            refine W.nild 4 2 rfl ?_
            refine W.ret ?_
            refine ⟨_, hs, rfl, by repeat (first | exact HLe.refl _ | refine HLe.skip _ ?_), ?_, rfl⟩
            rfl
          · try simp only [Bool.or_eq_true, Bool.or_eq_false_iff, Bool.and_eq_true, Bool.and_eq_false_iff, decide_eq_true_eq, decide_eq_false_iff_not, Bool.not_eq_true', Bool.not_eq_false', Int.not_lt, Int.not_le, List.length_map] at hc33
            have h33 : oneE q c = 0 := by omega
            rw [if_neg (by omega)] at hst
            obtain ⟨ho1, _, ho3⟩ := one_ok hI3 h33
            refine W.skip ?_
            refine W.region ?_
            refine XOps.s rfl rfl rfl (Q.add rfl rfl (wi64 (by first | omega | (dsimp only; omega) | (simp only [List.length_map]; omega)) (by first | omega | (dsimp only; omega) | (simp only [List.length_map]; omega)))) ?_
            refine XOps.s rfl rfl rfl (Q.move_d rfl) ?_
            refine XOps.nil ?_
            refine ⟨(k + 1, m, oneL q c), ?_, ?_, ?_, ?_⟩
            · exact ⟨by dsimp only; omega, by dsimp only; rw [← hst]; exact hI2, ho1, by dsimp only; omega⟩
            · show cs.length - (k + 1) < cs.length - k; omega
            · exact ⟨by first | rfl | exact int_eq (by omega) | exact len_eq (by simp) | exact int_eq (by simp; done), by first | rfl | exact int_eq (by omega) | exact len_eq (by simp) | exact int_eq (by simp; done), by first | rfl | exact int_eq (by omega) | exact len_eq (by simp) | exact int_eq (by simp; done), by first | rfl | exact int_eq (by omega) | exact len_eq (by simp) | exact int_eq (by simp; done), trivial⟩
            · repeat (first | exact HLe.refl _ | refine HLe.cons' (by first | rfl | (simp; done)) ?_ | refine HLe.pick 1 rfl (by first | rfl | (simp; done)) ?_ | refine HLe.pick 2 rfl (by first | rfl | (simp; done)) ?_ | refine HLe.pick 3 rfl (by first | rfl | (simp; done)) ?_ | refine HLe.pick 4 rfl (by first | rfl | (simp; done)) ?_ | refine HLe.pick 5 rfl (by first | rfl | (simp; done)) ?_ | refine HLe.skip _ ?_)
        · try simp only [Bool.or_eq_true, Bool.or_eq_false_iff, Bool.and_eq_true, Bool.and_eq_false_iff, decide_eq_true_eq, decide_eq_false_iff_not, Bool.not_eq_true', Bool.not_eq_false', Int.not_lt, Int.not_le, List.length_map] at hc23
          have hkl : k = cs.length := by omega
          rw [hkl, List.drop_length] at hI2
          have hf1 : (appF l cs).1 = 0 := by rw [← hI2]; rfl
          have hf2 : (appF l cs).2 = q := by rw [← hI2]; rfl
          refine W.exit ?_
          refine W.seq ?_
          refine W.reg ?_
          refine XOps.s rfl rfl rfl (Q.move_vs rfl) ?_
          refine XOps.s rfl rfl rfl (Q.len_vs isl28 rfl) ?_
          refine XOps.s rfl rfl rfl (Q.gtr rfl rfl) ?_
          refine XOps.nil ?_
          refine W.cond rfl (fun hc38 => ?_) (fun hc38 => ?_)
          · try simp only [Bool.or_eq_true, Bool.or_eq_false_iff, Bool.and_eq_true, Bool.and_eq_false_iff, decide_eq_true_eq, decide_eq_false_iff_not, Bool.not_eq_true', Bool.not_eq_false', Int.not_lt, Int.not_le, List.length_map] at hc38
            have hE : appE l cs = 9 := by unfold appE; rw [if_neg (by omega), if_neg h17, if_neg (by omega), hf2, if_pos (by omega)]
            have hV : appL l cs = [] := if_pos (by omega)
            rw [hE, hV]
            refine W.reg ?_
            refine XOps.s rfl rfl rfl (Q.assign_nilsl rfl) ?_
            refine XOps.s rfl rfl rfl (Q.assign_d rfl) ?_
            refine XOps.nil ?_
            refine W.nild 4 2 rfl ?_
            refine W.ret ?_
            refine ⟨_, hs, rfl, by repeat (first | exact HLe.refl _ | refine HLe.skip _ ?_), ?_, rfl⟩
            rfl
          · try simp only [Bool.or_eq_true, Bool.or_eq_false_iff, Bool.and_eq_true, Bool.and_eq_false_iff, decide_eq_true_eq, decide_eq_false_iff_not, Bool.not_eq_true', Bool.not_eq_false', Int.not_lt, Int.not_le, List.length_map] at hc38
            have hE : appE l cs = 0 := by unfold appE; rw [if_neg (by omega), if_neg h17, if_neg (by omega), hf2, if_neg (by omega)]
            have hV : appL l cs = q := by unfold appL; rw [if_neg (by omega), hf2]
            rw [hE, hV]
            refine W.skip ?_
            refine W.reg ?_
            refine XOps.s rfl rfl rfl (Q.move_vs rfl) ?_
            refine XOps.s rfl rfl rfl (Q.assign_vs rfl) ?_
            refine XOps.s rfl rfl rfl (Q.assign_d rfl) ?_
            refine XOps.nil ?_
            refine W.freeze 4 0 rfl rfl (by simp) ?_
            refine W.ret ?_
            refine ⟨_, hs, rfl, by repeat (first | exact HLe.refl _ | refine HLe.skip _ ?_), ?_, rfl⟩
            rfl
end Go.Proofs.YtodbcbojkfndiaaGreatDoorA
