/- Who is responsible: Begin, End, Offer, Accept, Of. -/
import Derived.Test.YtaegeaajhbfkgaaGreatDoorFrB
import Derived.Test.YtaegeaajhbfkgaaGreatDoorCeG
set_option linter.unusedVariables false
set_option linter.unusedSimpArgs false
set_option linter.unnecessarySimpa false
namespace Go.Proofs.YtaegeaajhbfkgaaGreatDoorA.FCeH
open Go
theorem ag57 : tAgg P 57 = some ((true, 3)) := by kernel_rfl
theorem ag9 : tAgg P 9 = some ((false, 1)) := by kernel_rfl
theorem fl57_1 : tFld P 57 1 = some (1) := by kernel_rfl
theorem fl57_2 : tFld P 57 2 = some (2) := by kernel_rfl
theorem go110 : callGo Go.Proofs.Tryz.f110 = true := by kernel_rfl
theorem go111 : callGo Go.Proofs.Tryz.f111 = true := by kernel_rfl
theorem go112 : callGo Go.Proofs.Tryz.f112 = true := by kernel_rfl
theorem go45 : callGo Go.Proofs.Tryz.f45 = true := by kernel_rfl
theorem go96 : callGo Go.Proofs.Tryz.f96 = true := by kernel_rfl
theorem go97 : callGo Go.Proofs.Tryz.f97 = true := by kernel_rfl
theorem go98 : callGo Go.Proofs.Tryz.f98 = true := by kernel_rfl
theorem go99 : callGo Go.Proofs.Tryz.f99 = true := by kernel_rfl
theorem isl55 : isSl P 55 = true := by kernel_rfl
theorem pl57 : tPl P 57 = some ([(0, 1), (1, 1), (2, 1)]) := by kernel_rfl
theorem sl55 : tSl P 55 = some (3) := by kernel_rfl
theorem tz57 : tZero P 57 = some ([.string ⟨#[]⟩, .string ⟨#[]⟩, .string ⟨#[]⟩]) := by kernel_rfl
theorem tzd57 : cellsD [.string ⟨#[]⟩, .string ⟨#[]⟩, .string ⟨#[]⟩] = some ([.str ⟨#[]⟩, .str ⟨#[]⟩, .str ⟨#[]⟩]) := rfl
theorem zr55 : tZrow P 55 = some ([.string ⟨#[]⟩, .string ⟨#[]⟩, .string ⟨#[]⟩]) := by kernel_rfl
theorem zrd55 : cellsD [.string ⟨#[]⟩, .string ⟨#[]⟩, .string ⟨#[]⟩] = some ([.str ⟨#[]⟩, .str ⟨#[]⟩, .str ⟨#[]⟩]) := rfl
end Go.Proofs.YtaegeaajhbfkgaaGreatDoorA.FCeH
namespace Go.Proofs.YtaegeaajhbfkgaaGreatDoorA
open Go FCeH
attribute [local irreducible] XOps Quiet Loud W AC GQ DT
set_option maxHeartbeats 4000000 in
set_option maxRecDepth 100000 in
theorem ochg_c (l : List OE) (i : Nat) (x y : OE) (hs : Hp) (hx : l[i]? = some y) (hl : l.length ≤ 1000) : AC P 112 [.d (.sl 3 ((l).map OE.enc)), .d (.int .i64 (i : Nat)), .d (.agg x.enc)] hs (fun r h => r = .d (.sl 3 ((l.set i x).map OE.enc)) ∧ h = hs) := by
  have hil := (List.getElem?_eq_some_iff.1 hx).1
  refine AC.of 15 Tryz.func112 rfl rfl rfl ?_
  refine W.reg ?_
  refine XOps.loud rfl (L.boxn rfl rfl) ?_
  rintro _ _ ⟨b5, rfl, rfl⟩
  refine XOps.s rfl rfl rfl (Q.assign_nilsl rfl) ?_
  refine XOps.nil ?_
  refine W.reg ?_
  refine XOps.s rfl rfl rfl (Q.move_d rfl) ?_
  (refine XOps.loud rfl (L.call rfl Tryz.func45 go45 rfl (AC.le (cloneO_c l ((b5, .cells (x.enc.map .d)) :: hs) (by omega)) (HLe.refl _)) rfl) ?_; rintro _ _ ⟨_, rfl, v7, rfl, rfl⟩)
  refine XOps.s rfl rfl rfl (Q.assign_vs rfl) ?_
  refine XOps.nil ?_
  refine W.reg ?_
  refine XOps.s rfl rfl rfl (Q.move_vs rfl) ?_
  refine XOps.s rfl rfl rfl (Q.move_d rfl) ?_
  refine XOps.s rfl rfl rfl (Q.ld_ptrn (k := 1) ag57 rfl rfl rfl) ?_
  refine XOps.s rfl rfl rfl (Q.idx_vs (kk := 0) sl55 rfl rfl rfl (by omega) (by omega)) ?_
  (refine XOps.loud rfl (L.storen_ep (k := 0) ag57 rfl rfl (map_at0 hx) rfl rfl rfl) ?_; rintro _ _ ⟨rfl, rfl⟩)
  refine XOps.nil ?_
  refine W.heap ((v7, .lst 3 ((l.set i x).map OE.enc)) :: (b5, .cells (x.enc.map .d)) :: hs) (HLe.cons' (congrArg (HO.lst 3) (by rw [Nat.zero_add, Int.toNat_natCast, List.map_set]; rfl)) (HLe.refl _)) ?_
  refine W.freeze 7 0 rfl rfl (by simp) ?_
  refine W.reg ?_
  refine XOps.s rfl rfl rfl (Q.move_d rfl) ?_
  refine XOps.s rfl rfl rfl (Q.assign_d rfl) ?_
  refine XOps.nil ?_
  refine W.ret ?_
  exact ⟨_, hs, rfl, HLe.skip _ (HLe.refl _), rfl, rfl⟩
set_option maxHeartbeats 4000000 in
set_option maxRecDepth 100000 in
theorem beg_c (l : List OE) (c b : ByteArray) (hs : Hp) (o : OwOk l) (zc : c.size ≤ 4611686018427387904) (zb : b.size ≤ 4611686018427387904) : AC P 78 [.d (.sl 3 ((l).map OE.enc)), .d (.str c), .d (.str b)] hs (fun r h => r = .tup [.d (.sl 3 ((begL l c b).map OE.enc)), .d (.int .i64 (begE l c b))] ∧ h = hs) := by
  have hlen := o.len
  have hple := pos_le (key := OE.call) l c
  have hml : (l.map OE.enc).length = l.length := List.length_map _
  refine AC.of 42 Tryz.func78 rfl rfl rfl ?_
  refine W.reg ?_
  refine XOps.s rfl rfl rfl (Q.assign_nilsl rfl) ?_
  refine XOps.s rfl rfl rfl (Q.assign_d rfl) ?_
  refine XOps.nil ?_
  refine W.seq ?_
  refine W.reg ?_
  refine XOps.s rfl rfl rfl (Q.move_d rfl) ?_
  refine XOps.s rfl rfl rfl (Q.call rfl Tryz.func96 go96 rfl (ochk_c l _ o)) ?_
  refine XOps.s rfl rfl rfl (Q.assign_d rfl) ?_
  refine XOps.nil ?_
  refine W.reg ?_
  refine XOps.s rfl rfl rfl (Q.move_d rfl) ?_
  refine XOps.s rfl rfl rfl (Q.neq rfl rfl) ?_
  refine XOps.nil ?_
  refine W.cond_f rfl ?_
  refine W.skip ?_
  refine W.seq ?_
  refine W.reg ?_
  refine XOps.s rfl rfl rfl (Q.move_d rfl) ?_
  refine XOps.s rfl rfl rfl (Q.call rfl Tryz.func97 go97 rfl (name_c c _ zc)) ?_
  refine XOps.s rfl rfl rfl (Q.not rfl) ?_
  refine XOps.s rfl rfl rfl (Q.move_d rfl) ?_
  refine XOps.gs rfl rfl rfl rfl rfl rfl rfl (fun hg => Q.move_d rfl) ?_
  refine XOps.gs rfl rfl rfl rfl rfl rfl rfl (fun hg => Quiet.open 20 hg rfl (Q.call rfl Tryz.func97 go97 rfl (name_c b _ zb))) ?_
  refine XOps.gs rfl rfl rfl rfl rfl rfl rfl (fun hg => Quiet.open 21 hg rfl (Q.not rfl)) ?_
  refine XOps.s rfl rfl rfl (Q.pick_or rfl rfl rfl (fun h => by first | (rw [h]; rfl) | (rw [hg, h]; rfl) | (simp [h, hg]; done))) ?_
  refine XOps.nil ?_
  refine W.cond rfl (fun hc23 => ?_) (fun hc23 => ?_)
  · try simp only [Bool.or_eq_true, Bool.or_eq_false_iff, Bool.and_eq_true, Bool.and_eq_false_iff, decide_eq_true_eq, decide_eq_false_iff_not, Bool.not_eq_true', Bool.not_eq_false', Int.not_lt, Int.not_le, List.length_map] at hc23
    have h23 : nameS c = false ∨ nameS b = false := by simpa using hc23
    have hE : begE l c b = 3 := if_pos h23
    have hV : begL l c b = [] := if_pos (by omega)
    rw [hE, hV]
    refine W.reg ?_
    refine XOps.s rfl rfl rfl (Q.assign_nilsl rfl) ?_
    refine XOps.s rfl rfl rfl (Q.assign_d rfl) ?_
    refine XOps.nil ?_
    refine W.nild 6 3 rfl ?_
    refine W.ret ?_
    exact ⟨_, hs, rfl, HLe.refl _, rfl, rfl⟩
  · try simp only [Bool.or_eq_true, Bool.or_eq_false_iff, Bool.and_eq_true, Bool.and_eq_false_iff, decide_eq_true_eq, decide_eq_false_iff_not, Bool.not_eq_true', Bool.not_eq_false', Int.not_lt, Int.not_le, List.length_map] at hc23
    have h23 : ¬ (nameS c = false ∨ nameS b = false) := by simpa using hc23
    refine W.skip ?_
    refine W.reg ?_
    refine XOps.s rfl rfl rfl (Q.move_d rfl) ?_
    refine XOps.s rfl rfl rfl (Q.move_d rfl) ?_
    refine XOps.s rfl rfl rfl (Q.call rfl Tryz.func98 go98 rfl (ofind_c l c _ o)) ?_
    refine XOps.s rfl rfl rfl (Q.move_tup rfl) ?_
    refine XOps.s rfl rfl rfl (Q.extract rfl rfl) ?_
    refine XOps.s rfl rfl rfl (Q.extract rfl rfl) ?_
    refine XOps.s rfl rfl rfl (Q.assign_d rfl) ?_
    refine XOps.s rfl rfl rfl (Q.assign_d rfl) ?_
    refine XOps.nil ?_
    refine W.seq ?_
    refine W.reg ?_
    refine XOps.s rfl rfl rfl (Q.move_d rfl) ?_
    refine XOps.nil ?_
    refine W.cond rfl (fun hc30 => ?_) (fun hc30 => ?_)
    · try simp only [Bool.or_eq_true, Bool.or_eq_false_iff, Bool.and_eq_true, Bool.and_eq_false_iff, decide_eq_true_eq, decide_eq_false_iff_not, Bool.not_eq_true', Bool.not_eq_false', Int.not_lt, Int.not_le, List.length_map] at hc30
      have hE : begE l c b = 7 := by unfold begE; rw [if_neg h23, if_pos hc30]
      have hV : begL l c b = [] := if_pos (by omega)
      rw [hE, hV]
      refine W.reg ?_
      refine XOps.s rfl rfl rfl (Q.assign_nilsl rfl) ?_
      refine XOps.s rfl rfl rfl (Q.assign_d rfl) ?_
      refine XOps.nil ?_
      refine W.nild 6 3 rfl ?_
      refine W.ret ?_
      exact ⟨_, hs, rfl, HLe.refl _, rfl, rfl⟩
    · try simp only [Bool.or_eq_true, Bool.or_eq_false_iff, Bool.and_eq_true, Bool.and_eq_false_iff, decide_eq_true_eq, decide_eq_false_iff_not, Bool.not_eq_true', Bool.not_eq_false', Int.not_lt, Int.not_le, List.length_map] at hc30
      have h30 : ¬ hasO l c = true := by simpa using hc30
      refine W.skip ?_
      refine W.seq ?_
      refine W.reg ?_
      refine XOps.s rfl rfl rfl (Q.move_d rfl) ?_
      refine XOps.s rfl rfl rfl (Q.len_sl isl55 rfl) ?_
      refine XOps.s rfl rfl rfl (Q.eql rfl rfl) ?_
      refine XOps.nil ?_
      refine W.cond rfl (fun hc33 => ?_) (fun hc33 => ?_)
      · try simp only [Bool.or_eq_true, Bool.or_eq_false_iff, Bool.and_eq_true, Bool.and_eq_false_iff, decide_eq_true_eq, decide_eq_false_iff_not, Bool.not_eq_true', Bool.not_eq_false', Int.not_lt, Int.not_le, List.length_map] at hc33
        have hE : begE l c b = 9 := by unfold begE; rw [if_neg h23, if_neg h30, if_pos (by omega)]
        have hV : begL l c b = [] := if_pos (by omega)
        rw [hE, hV]
        refine W.reg ?_
        refine XOps.s rfl rfl rfl (Q.assign_nilsl rfl) ?_
        refine XOps.s rfl rfl rfl (Q.assign_d rfl) ?_
        refine XOps.nil ?_
        refine W.nild 6 3 rfl ?_
        refine W.ret ?_
        exact ⟨_, hs, rfl, HLe.refl _, rfl, rfl⟩
      · try simp only [Bool.or_eq_true, Bool.or_eq_false_iff, Bool.and_eq_true, Bool.and_eq_false_iff, decide_eq_true_eq, decide_eq_false_iff_not, Bool.not_eq_true', Bool.not_eq_false', Int.not_lt, Int.not_le, List.length_map] at hc33
        have hE : begE l c b = 0 := by unfold begE; rw [if_neg h23, if_neg h30, if_neg (by omega)]
        have hV : begL l c b = insX l (posO l c) ⟨c, b, emB⟩ := if_neg (by omega)
        rw [hE, hV]
        refine W.skip ?_
        refine W.reg ?_
        refine XOps.s rfl rfl rfl (Q.move_d rfl) ?_
        (refine XOps.loud rfl (L.call rfl Tryz.func45 go45 rfl (cloneO_c l hs (by omega)) rfl) ?_; rintro _ _ ⟨_, rfl, v35, rfl, rfl⟩)
        refine XOps.s rfl rfl rfl (Q.move_d rfl) ?_
        refine XOps.s rfl rfl rfl (Q.move_d rfl) ?_
        refine XOps.s rfl rfl rfl (Q.move_d rfl) ?_
        refine XOps.s rfl rfl rfl (Q.build pl57 tz57 tzd57 rfl) ?_
        (refine XOps.loud rfl (L.bslo sl55 (by decide) zr55 rfl zrd55 (by decide) rfl rfl rfl) ?_; rintro _ _ ⟨v40, rfl, rfl⟩)
        (refine XOps.loud rfl (L.call rfl Tryz.func99 go99 rfl (insO_c v40 v35 (posO l c) ⟨c, b, emB⟩ l hs hple (by omega)) rfl) ?_; rintro _ _ ⟨_, rfl, id2, rfl, rfl⟩)
        refine XOps.s rfl rfl rfl (Q.assign_vs rfl) ?_
        refine XOps.s rfl rfl rfl (Q.assign_d rfl) ?_
        refine XOps.nil ?_
        refine W.freeze 6 0 rfl rfl (by simp; omega) ?_
        refine W.ret ?_
        exact ⟨_, hs, rfl, HLe.refl _, rfl, rfl⟩
set_option maxHeartbeats 4000000 in
set_option maxRecDepth 100000 in
theorem oend_c (l : List OE) (c b : ByteArray) (hs : Hp) (o : OwOk l) : AC P 86 [.d (.sl 3 ((l).map OE.enc)), .d (.str c), .d (.str b)] hs (fun r h => r = .tup [.d (.sl 3 ((endL l c b).map OE.enc)), .d (.int .i64 (endE l c b))] ∧ h = hs) := by
  have hlen := o.len
  have hml : (l.map OE.enc).length = l.length := List.length_map _
  refine AC.of 32 Tryz.func86 rfl rfl rfl ?_
  refine W.reg ?_
  refine XOps.s rfl rfl rfl (Q.assign_nilsl rfl) ?_
  refine XOps.s rfl rfl rfl (Q.assign_d rfl) ?_
  refine XOps.nil ?_
  refine W.reg ?_
  refine XOps.s rfl rfl rfl (Q.move_d rfl) ?_
  refine XOps.s rfl rfl rfl (Q.move_d rfl) ?_
  refine XOps.s rfl rfl rfl (Q.call rfl Tryz.func110 go110 rfl (oat_c l c _ o)) ?_
  refine XOps.s rfl rfl rfl (Q.move_tup rfl) ?_
  refine XOps.s rfl rfl rfl (Q.extract rfl rfl) ?_
  refine XOps.s rfl rfl rfl (Q.extract rfl rfl) ?_
  refine XOps.s rfl rfl rfl (Q.assign_d rfl) ?_
  refine XOps.s rfl rfl rfl (Q.assign_d rfl) ?_
  refine XOps.nil ?_
  refine W.seq ?_
  refine W.reg ?_
  refine XOps.s rfl rfl rfl (Q.move_d rfl) ?_
  refine XOps.s rfl rfl rfl (Q.neq rfl rfl) ?_
  refine XOps.nil ?_
  refine W.cond rfl (fun hc17 => ?_) (fun hc17 => ?_)
  · skip
    have h17 : hasO l c = false := by
      cases h : hasO l c with
      | false => rfl
      | true => exact absurd hc17 (by rw [h]; simp)
    have hE : endE l c b = 8 := if_pos h17
    have hV : endL l c b = [] := if_pos (by omega)
    rw [hE, hV, h17]
    refine W.reg ?_
    refine XOps.s rfl rfl rfl (Q.move_d rfl) ?_
    refine XOps.s rfl rfl rfl (Q.assign_nilsl rfl) ?_
    refine XOps.s rfl rfl rfl (Q.assign_d rfl) ?_
    refine XOps.nil ?_
    refine W.nild 6 3 rfl ?_
    refine W.ret ?_
    exact ⟨_, hs, rfl, HLe.refl _, rfl, rfl⟩
  · skip
    have h17 : hasO l c = true := by
      cases h : hasO l c with
      | true => rfl
      | false => exact absurd hc17 (by rw [h]; simp)
    obtain ⟨hx, hcx⟩ := atO_get h17
    have hpl := (List.getElem?_eq_some_iff.1 hx).1
    rw [h17, if_pos rfl]
    refine W.skip ?_
    refine W.seq ?_
    refine W.reg ?_
    refine XOps.s rfl rfl rfl (Q.move_d rfl) ?_
    refine XOps.s rfl rfl rfl (Q.move_d rfl) ?_
    refine XOps.s rfl rfl rfl (Q.idx_sl sl55 (by decide) rfl rfl (by first | omega | (simp only [List.length_map]; omega)) (by exact map_at hx)) ?_
    refine XOps.s rfl rfl rfl (Q.fld_dp fl57_1 rfl) ?_
    refine XOps.s rfl rfl rfl (Q.ld_dp ag9 rfl rfl) ?_
    refine XOps.s rfl rfl rfl (Q.move_d rfl) ?_
    refine XOps.s rfl rfl rfl (Q.neq_str rfl rfl) ?_
    refine XOps.nil ?_
    refine W.cond rfl (fun hc25 => ?_) (fun hc25 => ?_)
    · skip
      have h25 : (atO l c).own ≠ b := fun h => by rw [h] at hc25; simp at hc25
      have hE : endE l c b = 16 := by unfold endE; rw [if_neg (by simp [h17]), if_pos h25]
      have hV : endL l c b = [] := if_pos (by omega)
      rw [hE, hV]
      refine W.reg ?_
      refine XOps.s rfl rfl rfl (Q.assign_nilsl rfl) ?_
      refine XOps.s rfl rfl rfl (Q.assign_d rfl) ?_
      refine XOps.nil ?_
      refine W.nild 6 3 rfl ?_
      refine W.ret ?_
      exact ⟨_, hs, rfl, HLe.refl _, rfl, rfl⟩
    · skip
      have h25 : (atO l c).own = b := by
        have h := hc25
        rw [Bool.not_eq_false'] at h
        exact (seq_iff _ _).1 h
      have hE : endE l c b = 0 := by unfold endE; rw [if_neg (by simp [h17]), if_neg (by simp [h25])]
      have hV : endL l c b = delX l (posO l c) := if_neg (by omega)
      rw [hE, hV]
      refine W.skip ?_
      refine W.reg ?_
      refine XOps.s rfl rfl rfl (Q.move_d rfl) ?_
      (refine XOps.loud rfl (L.call rfl Tryz.func45 go45 rfl (cloneO_c l hs (by omega)) rfl) ?_; rintro _ _ ⟨_, rfl, v27, rfl, rfl⟩)
      refine XOps.s rfl rfl rfl (Q.move_d rfl) ?_
      refine XOps.s rfl rfl rfl (Q.move_d rfl) ?_
      refine XOps.s rfl rfl rfl (Q.add rfl rfl (wi64 (by first | omega | (dsimp only; omega) | (simp only [List.length_map]; omega)) (by first | omega | (dsimp only; omega) | (simp only [List.length_map]; omega)))) ?_
      (refine XOps.loud rfl (L.call rfl Tryz.func111 go111 (by show [AV.vs v27 0 l.length 3, AV.d (.int .i64 (posO l c : Nat)), AV.d (.int .i64 ((posO l c : Int) + 1))] = [AV.vs v27 0 (l.map OE.enc).length 3, AV.d (.int .i64 (posO l c : Nat)), AV.d (.int .i64 ((posO l c + 1 : Nat) : Int))]; rw [List.length_map]; rfl) (delO_c v27 (posO l c) (posO l c + 1) (l.map OE.enc) hs (by omega) (by simp; omega) (by simp; omega)) rfl) ?_; rintro _ _ ⟨_, rfl, rfl, rfl⟩)
      refine XOps.s rfl rfl rfl (Q.assign_vs rfl) ?_
      refine XOps.s rfl rfl rfl (Q.assign_d rfl) ?_
      refine XOps.nil ?_
      refine W.freeze 6 0 rfl rfl (by simp; omega) ?_
      refine W.ret ?_
      (refine ⟨_, hs, rfl, HLe.refl _, ?_, rfl⟩; unfold delX; rw [List.map_append, List.map_take, List.map_drop]; rfl)
set_option maxHeartbeats 4000000 in
set_option maxRecDepth 100000 in
theorem acc_c (l : List OE) (c b : ByteArray) (hs : Hp) (o : OwOk l) : AC P 88 [.d (.sl 3 ((l).map OE.enc)), .d (.str c), .d (.str b)] hs (fun r h => r = .tup [.d (.sl 3 ((accL l c b).map OE.enc)), .d (.int .i64 (accE l c b))] ∧ h = hs) := by
  have hlen := o.len
  have hml : (l.map OE.enc).length = l.length := List.length_map _
  refine AC.of 39 Tryz.func88 rfl rfl rfl ?_
  refine W.reg ?_
  refine XOps.s rfl rfl rfl (Q.assign_nilsl rfl) ?_
  refine XOps.s rfl rfl rfl (Q.assign_d rfl) ?_
  refine XOps.nil ?_
  refine W.reg ?_
  refine XOps.s rfl rfl rfl (Q.move_d rfl) ?_
  refine XOps.s rfl rfl rfl (Q.move_d rfl) ?_
  refine XOps.s rfl rfl rfl (Q.call rfl Tryz.func110 go110 rfl (oat_c l c _ o)) ?_
  refine XOps.s rfl rfl rfl (Q.move_tup rfl) ?_
  refine XOps.s rfl rfl rfl (Q.extract rfl rfl) ?_
  refine XOps.s rfl rfl rfl (Q.extract rfl rfl) ?_
  refine XOps.s rfl rfl rfl (Q.assign_d rfl) ?_
  refine XOps.s rfl rfl rfl (Q.assign_d rfl) ?_
  refine XOps.nil ?_
  refine W.seq ?_
  refine W.reg ?_
  refine XOps.s rfl rfl rfl (Q.move_d rfl) ?_
  refine XOps.s rfl rfl rfl (Q.neq rfl rfl) ?_
  refine XOps.nil ?_
  refine W.cond rfl (fun hc18 => ?_) (fun hc18 => ?_)
  · skip
    have h17 : hasO l c = false := by
      cases h : hasO l c with
      | false => rfl
      | true => exact absurd hc18 (by rw [h]; simp)
    have hE : accE l c b = 8 := if_pos h17
    have hV : accL l c b = [] := if_pos (by omega)
    rw [hE, hV, h17]
    refine W.reg ?_
    refine XOps.s rfl rfl rfl (Q.move_d rfl) ?_
    refine XOps.s rfl rfl rfl (Q.assign_nilsl rfl) ?_
    refine XOps.s rfl rfl rfl (Q.assign_d rfl) ?_
    refine XOps.nil ?_
    refine W.nild 6 3 rfl ?_
    refine W.ret ?_
    exact ⟨_, hs, rfl, HLe.refl _, rfl, rfl⟩
  · skip
    have h17 : hasO l c = true := by
      cases h : hasO l c with
      | true => rfl
      | false => exact absurd hc18 (by rw [h]; simp)
    obtain ⟨hx, hcx⟩ := atO_get h17
    have hpl := (List.getElem?_eq_some_iff.1 hx).1
    rw [h17, if_pos rfl]
    refine W.skip ?_
    refine W.reg ?_
    refine XOps.s rfl rfl rfl (Q.move_d rfl) ?_
    refine XOps.s rfl rfl rfl (Q.move_d rfl) ?_
    refine XOps.s rfl rfl rfl (Q.idx_sl sl55 (by decide) rfl rfl (by first | omega | (simp only [List.length_map]; omega)) (by exact map_at hx)) ?_
    refine XOps.s rfl rfl rfl (Q.ld_dpn ag57 rfl rfl) ?_
    (refine XOps.loud rfl (L.alloc tz57 rfl rfl) ?_; rintro _ _ ⟨b10, rfl, rfl⟩)
    refine XOps.loud rfl (L.storen (k := 0) ag57 rfl rfl rfl rfl rfl) ?_
    rintro _ _ ⟨rfl, rfl⟩
    refine XOps.nil ?_
    refine W.seq ?_
    refine W.block ?_
    refine W.reg ?_
    refine XOps.s rfl rfl rfl (Q.fld_ptr fl57_2 rfl) ?_
    refine XOps.s rfl rfl rfl (Q.ld_ptr (k := 0) ag9 rfl rfl rfl) ?_
    refine XOps.s rfl rfl rfl (Q.eql_str rfl rfl) ?_
    refine XOps.s rfl rfl rfl (Q.assign_d rfl) ?_
    refine XOps.nil ?_
    refine W.cond rfl (fun hc24 => ?_) (fun hc24 => ?_)
    · skip
      have h24 : (atO l c).off = emB := (seq_iff _ _).1 hc24
      have hE : accE l c b = 11 := by unfold accE; rw [if_neg (by simp [h17]), if_pos h24]
      have hV : accL l c b = [] := if_pos (by omega)
      rw [hE, hV]
      refine W.reg ?_
      refine XOps.s rfl rfl rfl (Q.assign_nilsl rfl) ?_
      refine XOps.s rfl rfl rfl (Q.assign_d rfl) ?_
      refine XOps.nil ?_
      refine W.nild 6 3 rfl ?_
      refine W.ret ?_
      exact ⟨_, hs, rfl, HLe.skip _ (HLe.refl _), rfl, rfl⟩
    · skip
      have h24 : ¬ (atO l c).off = emB := fun h => by have h2 : seq (atO l c).off emB = false := hc24; rw [h, seq_refl] at h2; cases h2
      refine W.reg ?_
      refine XOps.s rfl rfl rfl (Q.fld_ptr fl57_2 rfl) ?_
      refine XOps.s rfl rfl rfl (Q.ld_ptr (k := 0) ag9 rfl rfl rfl) ?_
      refine XOps.s rfl rfl rfl (Q.move_d rfl) ?_
      refine XOps.s rfl rfl rfl (Q.neq_str rfl rfl) ?_
      refine XOps.s rfl rfl rfl (Q.assign_d rfl) ?_
      refine XOps.nil ?_
      refine W.cond rfl (fun hc28 => ?_) (fun hc28 => ?_)
      · skip
        have h28 : (atO l c).off ≠ b := fun h => by rw [h] at hc28; simp at hc28
        have hE : accE l c b = 16 := by unfold accE; rw [if_neg (by simp [h17]), if_neg h24, if_pos h28]
        have hV : accL l c b = [] := if_pos (by omega)
        rw [hE, hV]
        refine W.reg ?_
        refine XOps.s rfl rfl rfl (Q.assign_nilsl rfl) ?_
        refine XOps.s rfl rfl rfl (Q.assign_d rfl) ?_
        refine XOps.nil ?_
        refine W.nild 6 3 rfl ?_
        refine W.ret ?_
        exact ⟨_, hs, rfl, HLe.skip _ (HLe.refl _), rfl, rfl⟩
      · skip
        have h28 : (atO l c).off = b := by
          have h := hc28
          rw [Bool.not_eq_false'] at h
          exact (seq_iff _ _).1 h
        have hE : accE l c b = 0 := by unfold accE; rw [if_neg (by simp [h17]), if_neg h24, if_neg (by simp [h28])]
        have hV : accL l c b = l.set (posO l c) ⟨c, b, emB⟩ := if_neg (by omega)
        rw [hE, hV]
        refine W.skip ?_
        refine W.reg ?_
        refine XOps.s rfl rfl rfl (Q.move_d rfl) ?_
        refine XOps.s rfl rfl rfl (Q.move_d rfl) ?_
        refine XOps.s rfl rfl rfl (Q.move_d rfl) ?_
        refine XOps.s rfl rfl rfl (Q.move_d rfl) ?_
        refine XOps.s rfl rfl rfl (Q.build pl57 tz57 tzd57 rfl) ?_
        refine XOps.s rfl rfl rfl (Q.call rfl Tryz.func112 go112 rfl (ochg_c l (posO l c) ⟨c, b, emB⟩ (atO l c) _ hx (by omega))) ?_
        refine XOps.s rfl rfl rfl (Q.assign_d rfl) ?_
        refine XOps.s rfl rfl rfl (Q.assign_d rfl) ?_
        refine XOps.nil ?_
        refine W.ret ?_
        exact ⟨_, hs, rfl, HLe.skip _ (HLe.refl _), rfl, rfl⟩
set_option maxHeartbeats 8000000 in
set_option maxRecDepth 100000 in
theorem off_c (l : List OE) (c b t : ByteArray) (hs : Hp) (o : OwOk l) (zt : t.size ≤ 4611686018427387904) : AC P 89 [.d (.sl 3 ((l).map OE.enc)), .d (.str c), .d (.str b), .d (.str t)] hs (fun r h => r = .tup [.d (.sl 3 ((offL l c b t).map OE.enc)), .d (.int .i64 (offE l c b t))] ∧ h = hs) := by
  have hlen := o.len
  have hml : (l.map OE.enc).length = l.length := List.length_map _
  refine AC.of 49 Tryz.func89 rfl rfl rfl ?_
  refine W.reg ?_
  refine XOps.s rfl rfl rfl (Q.assign_nilsl rfl) ?_
  refine XOps.s rfl rfl rfl (Q.assign_d rfl) ?_
  refine XOps.nil ?_
  refine W.reg ?_
  refine XOps.s rfl rfl rfl (Q.move_d rfl) ?_
  refine XOps.s rfl rfl rfl (Q.move_d rfl) ?_
  refine XOps.s rfl rfl rfl (Q.call rfl Tryz.func110 go110 rfl (oat_c l c _ o)) ?_
  refine XOps.s rfl rfl rfl (Q.move_tup rfl) ?_
  refine XOps.s rfl rfl rfl (Q.extract rfl rfl) ?_
  refine XOps.s rfl rfl rfl (Q.extract rfl rfl) ?_
  refine XOps.s rfl rfl rfl (Q.assign_d rfl) ?_
  refine XOps.s rfl rfl rfl (Q.assign_d rfl) ?_
  refine XOps.nil ?_
  refine W.seq ?_
  refine W.reg ?_
  refine XOps.s rfl rfl rfl (Q.move_d rfl) ?_
  refine XOps.s rfl rfl rfl (Q.neq rfl rfl) ?_
  refine XOps.nil ?_
  refine W.cond rfl (fun hc20 => ?_) (fun hc20 => ?_)
  · skip
    have h17 : hasO l c = false := by
      cases h : hasO l c with
      | false => rfl
      | true => exact absurd hc20 (by rw [h]; simp)
    have hE : offE l c b t = 8 := if_pos h17
    have hV : offL l c b t = [] := if_pos (by omega)
    rw [hE, hV, h17]
    refine W.reg ?_
    refine XOps.s rfl rfl rfl (Q.move_d rfl) ?_
    refine XOps.s rfl rfl rfl (Q.assign_nilsl rfl) ?_
    refine XOps.s rfl rfl rfl (Q.assign_d rfl) ?_
    refine XOps.nil ?_
    refine W.nild 8 3 rfl ?_
    refine W.ret ?_
    exact ⟨_, hs, rfl, HLe.refl _, rfl, rfl⟩
  · skip
    have h17 : hasO l c = true := by
      cases h : hasO l c with
      | true => rfl
      | false => exact absurd hc20 (by rw [h]; simp)
    obtain ⟨hx, hcx⟩ := atO_get h17
    have hpl := (List.getElem?_eq_some_iff.1 hx).1
    rw [h17, if_pos rfl]
    refine W.skip ?_
    refine W.reg ?_
    refine XOps.s rfl rfl rfl (Q.move_d rfl) ?_
    refine XOps.s rfl rfl rfl (Q.move_d rfl) ?_
    refine XOps.s rfl rfl rfl (Q.idx_sl sl55 (by decide) rfl rfl (by first | omega | (simp only [List.length_map]; omega)) (by exact map_at hx)) ?_
    refine XOps.s rfl rfl rfl (Q.ld_dpn ag57 rfl rfl) ?_
    (refine XOps.loud rfl (L.alloc tz57 rfl rfl) ?_; rintro _ _ ⟨b12, rfl, rfl⟩)
    refine XOps.loud rfl (L.storen (k := 0) ag57 rfl rfl rfl rfl rfl) ?_
    rintro _ _ ⟨rfl, rfl⟩
    refine XOps.nil ?_
    refine W.seq ?_
    refine W.block ?_
    refine W.reg ?_
    refine XOps.s rfl rfl rfl (Q.fld_ptr fl57_1 rfl) ?_
    refine XOps.s rfl rfl rfl (Q.ld_ptr (k := 0) ag9 rfl rfl rfl) ?_
    refine XOps.s rfl rfl rfl (Q.move_d rfl) ?_
    refine XOps.s rfl rfl rfl (Q.neq_str rfl rfl) ?_
    refine XOps.s rfl rfl rfl (Q.assign_d rfl) ?_
    refine XOps.nil ?_
    refine W.cond rfl (fun hc26 => ?_) (fun hc26 => ?_)
    · skip
      have h26 : (atO l c).own ≠ b := fun h => by rw [h] at hc26; simp at hc26
      have hE : offE l c b t = 16 := by unfold offE; rw [if_neg (by simp [h17]), if_pos h26]
      have hV : offL l c b t = [] := if_pos (by omega)
      rw [hE, hV]
      refine W.reg ?_
      refine XOps.s rfl rfl rfl (Q.assign_nilsl rfl) ?_
      refine XOps.s rfl rfl rfl (Q.assign_d rfl) ?_
      refine XOps.nil ?_
      refine W.nild 8 3 rfl ?_
      refine W.ret ?_
      exact ⟨_, hs, rfl, HLe.skip _ (HLe.refl _), rfl, rfl⟩
    · skip
      have h26 : (atO l c).own = b := by
        have h := hc26
        rw [Bool.not_eq_false'] at h
        exact (seq_iff _ _).1 h
      refine W.reg ?_
      refine XOps.s rfl rfl rfl (Q.fld_ptr fl57_2 rfl) ?_
      refine XOps.s rfl rfl rfl (Q.ld_ptr (k := 0) ag9 rfl rfl rfl) ?_
      refine XOps.s rfl rfl rfl (Q.neq_str rfl rfl) ?_
      refine XOps.s rfl rfl rfl (Q.assign_d rfl) ?_
      refine XOps.nil ?_
      refine W.cond rfl (fun hc31 => ?_) (fun hc31 => ?_)
      · skip
        have h31 : (atO l c).off ≠ emB := fun h => by have h2 : (!seq (atO l c).off emB) = true := hc31; rw [h, seq_refl] at h2; cases h2
        have hE : offE l c b t = 11 := by unfold offE; rw [if_neg (by simp [h17]), if_neg (by simp [h26]), if_pos h31]
        have hV : offL l c b t = [] := if_pos (by omega)
        rw [hE, hV]
        refine W.reg ?_
        refine XOps.s rfl rfl rfl (Q.assign_nilsl rfl) ?_
        refine XOps.s rfl rfl rfl (Q.assign_d rfl) ?_
        refine XOps.nil ?_
        refine W.nild 8 3 rfl ?_
        refine W.ret ?_
        exact ⟨_, hs, rfl, HLe.skip _ (HLe.refl _), rfl, rfl⟩
      · skip
        have h31 : (atO l c).off = emB := by
          have h : (!seq (atO l c).off emB) = false := hc31
          rw [Bool.not_eq_false'] at h
          exact (seq_iff _ _).1 h
        refine W.reg ?_
        refine XOps.s rfl rfl rfl (Q.move_d rfl) ?_
        refine XOps.s rfl rfl rfl (Q.call rfl Tryz.func97 go97 rfl (name_c t _ zt)) ?_
        refine XOps.s rfl rfl rfl (Q.not rfl) ?_
        refine XOps.s rfl rfl rfl (Q.assign_d rfl) ?_
        refine XOps.nil ?_
        refine W.cond rfl (fun hc35 => ?_) (fun hc35 => ?_)
        · skip
          have h35 : nameS t = false := by simpa using hc35
          have hE : offE l c b t = 3 := by unfold offE; rw [if_neg (by simp [h17]), if_neg (by simp [h26]), if_neg (by simp [h31]), if_pos h35]
          have hV : offL l c b t = [] := if_pos (by omega)
          rw [hE, hV]
          refine W.reg ?_
          refine XOps.s rfl rfl rfl (Q.assign_nilsl rfl) ?_
          refine XOps.s rfl rfl rfl (Q.assign_d rfl) ?_
          refine XOps.nil ?_
          refine W.nild 8 3 rfl ?_
          refine W.ret ?_
          exact ⟨_, hs, rfl, HLe.skip _ (HLe.refl _), rfl, rfl⟩
        · skip
          have h35 : ¬ nameS t = false := by simpa using hc35
          refine W.reg ?_
          refine XOps.s rfl rfl rfl (Q.move_d rfl) ?_
          refine XOps.s rfl rfl rfl (Q.move_d rfl) ?_
          refine XOps.s rfl rfl rfl (Q.eql_str rfl rfl) ?_
          refine XOps.s rfl rfl rfl (Q.assign_d rfl) ?_
          refine XOps.nil ?_
          refine W.cond rfl (fun hc39 => ?_) (fun hc39 => ?_)
          · skip
            have h39 : t = b := (seq_iff _ _).1 hc39
            have hE : offE l c b t = 1 := by unfold offE; rw [if_neg (by simp [h17]), if_neg (by simp [h26]), if_neg (by simp [h31]), if_neg h35, if_pos h39]
            have hV : offL l c b t = [] := if_pos (by omega)
            rw [hE, hV]
            refine W.reg ?_
            refine XOps.s rfl rfl rfl (Q.assign_nilsl rfl) ?_
            refine XOps.s rfl rfl rfl (Q.assign_d rfl) ?_
            refine XOps.nil ?_
            refine W.nild 8 3 rfl ?_
            refine W.ret ?_
            exact ⟨_, hs, rfl, HLe.skip _ (HLe.refl _), rfl, rfl⟩
          · skip
            have h39 : ¬ t = b := fun h => by have h2 : seq t b = false := hc39; rw [h, seq_refl] at h2; cases h2
            have hE : offE l c b t = 0 := by unfold offE; rw [if_neg (by simp [h17]), if_neg (by simp [h26]), if_neg (by simp [h31]), if_neg h35, if_neg h39]
            have hV : offL l c b t = l.set (posO l c) ⟨(atO l c).call, (atO l c).own, t⟩ := if_neg (by omega)
            rw [hE, hV]
            refine W.skip ?_
            refine W.reg ?_
            refine XOps.s rfl rfl rfl (Q.move_d rfl) ?_
            refine XOps.s rfl rfl rfl (Q.fld_ptr fl57_2 rfl) ?_
            refine XOps.loud rfl (L.store (k := 0) ag9 rfl rfl rfl rfl rfl) ?_
            rintro _ _ ⟨rfl, rfl⟩
            refine XOps.nil ?_
            refine W.reg ?_
            refine XOps.s rfl rfl rfl (Q.move_d rfl) ?_
            refine XOps.s rfl rfl rfl (Q.move_d rfl) ?_
            refine XOps.s rfl rfl rfl (Q.ld_ptrn (k := 0) ag57 rfl rfl rfl) ?_
            refine XOps.s rfl rfl rfl (Q.call rfl Tryz.func112 go112 rfl (ochg_c l (posO l c) ⟨(atO l c).call, (atO l c).own, t⟩ (atO l c) _ hx (by omega))) ?_
            refine XOps.s rfl rfl rfl (Q.assign_d rfl) ?_
            refine XOps.s rfl rfl rfl (Q.assign_d rfl) ?_
            refine XOps.nil ?_
            refine W.ret ?_
            exact ⟨_, hs, rfl, HLe.skip _ (HLe.refl _), rfl, rfl⟩
set_option maxHeartbeats 1000000 in
set_option maxRecDepth 100000 in
theorem of_c (l : List OE) (c : ByteArray) (hs : Hp) (o : OwOk l) : AC P 85 [.d (.sl 3 ((l).map OE.enc)), .d (.str c)] hs (fun r h => r = .tup [.d (.str (ofV l c)), .d (.int .i64 (ofE l c))] ∧ h = hs) := by
  have hlen := o.len
  have hml : (l.map OE.enc).length = l.length := List.length_map _
  refine AC.of 22 Tryz.func85 rfl rfl rfl ?_
  refine W.reg ?_
  refine XOps.s rfl rfl rfl (Q.assign_d rfl) ?_
  refine XOps.s rfl rfl rfl (Q.assign_d rfl) ?_
  refine XOps.nil ?_
  refine W.reg ?_
  refine XOps.s rfl rfl rfl (Q.move_d rfl) ?_
  refine XOps.s rfl rfl rfl (Q.move_d rfl) ?_
  refine XOps.s rfl rfl rfl (Q.call rfl Tryz.func110 go110 rfl (oat_c l c _ o)) ?_
  refine XOps.s rfl rfl rfl (Q.move_tup rfl) ?_
  refine XOps.s rfl rfl rfl (Q.extract rfl rfl) ?_
  refine XOps.s rfl rfl rfl (Q.extract rfl rfl) ?_
  refine XOps.s rfl rfl rfl (Q.assign_d rfl) ?_
  refine XOps.s rfl rfl rfl (Q.assign_d rfl) ?_
  refine XOps.nil ?_
  refine W.seq ?_
  refine W.reg ?_
  refine XOps.s rfl rfl rfl (Q.move_d rfl) ?_
  refine XOps.s rfl rfl rfl (Q.neq rfl rfl) ?_
  refine XOps.nil ?_
  refine W.cond rfl (fun hc15 => ?_) (fun hc15 => ?_)
  · skip
    have h17 : hasO l c = false := by
      cases h : hasO l c with
      | false => rfl
      | true => exact absurd hc15 (by rw [h]; simp)
    have hE : ofE l c = 8 := if_pos h17
    have hV : ofV l c = ⟨#[]⟩ := if_pos h17
    rw [hE, hV, h17]
    refine W.reg ?_
    refine XOps.s rfl rfl rfl (Q.move_d rfl) ?_
    refine XOps.s rfl rfl rfl (Q.assign_d rfl) ?_
    refine XOps.s rfl rfl rfl (Q.assign_d rfl) ?_
    refine XOps.nil ?_
    refine W.ret ?_
    exact ⟨_, hs, rfl, HLe.refl _, rfl, rfl⟩
  · skip
    have h17 : hasO l c = true := by
      cases h : hasO l c with
      | true => rfl
      | false => exact absurd hc15 (by rw [h]; simp)
    obtain ⟨hx, hcx⟩ := atO_get h17
    have hpl := (List.getElem?_eq_some_iff.1 hx).1
    rw [h17, if_pos rfl]
    refine W.skip ?_
    have hE : ofE l c = 0 := if_neg (by simp [h17])
    have hV : ofV l c = (atO l c).own := if_neg (by simp [h17])
    rw [hE, hV]
    refine W.reg ?_
    refine XOps.s rfl rfl rfl (Q.move_d rfl) ?_
    refine XOps.s rfl rfl rfl (Q.move_d rfl) ?_
    refine XOps.s rfl rfl rfl (Q.idx_sl sl55 (by decide) rfl rfl (by first | omega | (simp only [List.length_map]; omega)) (by exact map_at hx)) ?_
    refine XOps.s rfl rfl rfl (Q.fld_dp fl57_1 rfl) ?_
    refine XOps.s rfl rfl rfl (Q.ld_dp ag9 rfl rfl) ?_
    refine XOps.s rfl rfl rfl (Q.assign_d rfl) ?_
    refine XOps.s rfl rfl rfl (Q.assign_d rfl) ?_
    refine XOps.nil ?_
    refine W.ret ?_
    exact ⟨_, hs, rfl, HLe.refl _, rfl, rfl⟩
end Go.Proofs.YtaegeaajhbfkgaaGreatDoorA

