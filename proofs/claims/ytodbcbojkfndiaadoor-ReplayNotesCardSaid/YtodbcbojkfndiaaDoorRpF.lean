/- The laws ReplayNotes and ReplayParts. -/
import Derived.Test.YtodbcbojkfndiaaDoorFrB
import Derived.Test.YtodbcbojkfndiaaDoorRpD
set_option linter.unusedVariables false
set_option linter.unusedSimpArgs false
set_option linter.unnecessarySimpa false
namespace Go.Proofs.YtodbcbojkfndiaaDoorA.FRpF
open Go
theorem ag3 : tAgg P 3 = some ((false, 1)) := by kernel_rfl
theorem ag36 : tAgg P 36 = some ((true, 4)) := by kernel_rfl
theorem ag9 : tAgg P 9 = some ((false, 1)) := by kernel_rfl
theorem ap23 : tApp P 23 = some ((4, 48)) := by kernel_rfl
theorem fl36_0 : tFld P 36 0 = some (0) := by kernel_rfl
theorem fl36_2 : tFld P 36 2 = some (2) := by kernel_rfl
theorem go10 : callGo Go.Proofs.Tryd.f10 = true := by kernel_rfl
theorem go11 : callGo Go.Proofs.Tryd.f11 = true := by kernel_rfl
theorem go7 : callGo Go.Proofs.Tryd.f7 = true := by kernel_rfl
theorem go8 : callGo Go.Proofs.Tryd.f8 = true := by kernel_rfl
theorem go9 : callGo Go.Proofs.Tryd.f9 = true := by kernel_rfl
theorem isl22 : isSl P 22 = true := by kernel_rfl
theorem isl23 : isSl P 23 = true := by kernel_rfl
theorem sl23 : tSl P 23 = some (4) := by kernel_rfl
theorem tz36 : tZero P 36 = some ([.int .i64 0, .int .i64 0, .string ⟨#[]⟩, .string ⟨#[]⟩]) := by kernel_rfl
theorem zr23 : tZrow P 23 = some ([.int .i64 0, .int .i64 0, .string ⟨#[]⟩, .string ⟨#[]⟩]) := by kernel_rfl
theorem zrd23 : cellsD [.int .i64 0, .int .i64 0, .string ⟨#[]⟩, .string ⟨#[]⟩] = some ([.int .i64 0, .int .i64 0, .str ⟨#[]⟩, .str ⟨#[]⟩]) := rfl
end Go.Proofs.YtodbcbojkfndiaaDoorA.FRpF
namespace Go.Proofs.YtodbcbojkfndiaaDoorA
open Go FRpF
attribute [local irreducible] XOps Quiet Loud W AC GQ DT
theorem onlyF_push : ∀ (a : List EN) (m : Nat) (x : EN), onlyF m (a ++ [x]) = onlyF m a ++ (if mineK x.kind = true then [⟨((m + (onlyF m a).length : Nat) : Int) + 1, x.tm, x.kind, x.text⟩] else [])
  | [], m, x => by
    simp only [List.nil_append, onlyF]
    split <;> simp
  | y :: a, m, x => by
    rw [List.cons_append, onlyF, onlyF]
    split
    · rw [onlyF_push a (m + 1) x, List.cons_append, List.length_cons, show m + 1 + (onlyF (m + 1) a).length = m + ((onlyF (m + 1) a).length + 1) by omega]
    · exact onlyF_push a m x
theorem onlyF_mem : ∀ {es : List EN} {m : Nat} {x : EN}, x ∈ onlyF m es → ∃ y ∈ es, x.kind = y.kind ∧ x.text = y.text
  | [], m, x, h => by cases h
  | y :: es, m, x, h => by
    rw [onlyF] at h
    split at h
    · rcases List.mem_cons.1 h with rfl | h
      · exact ⟨y, by simp, rfl, rfl⟩
      · obtain ⟨z, hz, e1, e2⟩ := onlyF_mem h; exact ⟨z, by simp [hz], e1, e2⟩
    · obtain ⟨z, hz, e1, e2⟩ := onlyF_mem h; exact ⟨z, by simp [hz], e1, e2⟩
theorem szE_num {es : List EN} (h : szE es) : szE (numL es) := fun x hx => by
  obtain ⟨y, hy, e1, e2⟩ := numL_mem hx
  rw [e1, e2]; exact h y hy
theorem szE_only {es : List EN} {m : Nat} (h : szE es) : szE (onlyF m es) := fun x hx => by
  obtain ⟨y, hy, e1, e2⟩ := onlyF_mem hx
  rw [e1, e2]; exact h y hy
theorem notes_fin {l : List SR} {es : List EN} (hl : es.length ≤ 500) : (true && (!decide ((runV l es).2.2 = 0) || decide ((runV l (onlyF 0 es)).2.2 = 0) && decide ((runV l es).1 = (runV l (onlyF 0 es)).1))) = true := by
  by_cases h0 : (runV l es).2.2 = 0
  · obtain ⟨h1, h2⟩ := notes hl h0
    rw [decide_eq_true h1, decide_eq_true h2]; simp
  · rw [decide_eq_false h0]; rfl
theorem parts_len (es : List EN) (k : Nat) : (onlyF 0 ((numL es).take k)).length ≤ 12 := by
  have := onlyF_len ((numL es).take k) 0
  have h2 := numL_len es
  rw [List.length_take] at this; omega

set_option maxHeartbeats 8000000 in
set_option maxRecDepth 100000 in
theorem notes_c (l : List SR) (es : List EN) (gd gs gr : Nat) (ves ver : Value) (o1 : okE ves) (o2 : okE ver) (hs : Hp) (hL : l.length ≤ 4398046511104) (hz : szR l) (hx : szE es) : AC P 6 [.d (.sl 2 (l.map SR.enc)), .d (.sl 4 (es.map EN.enc))] (gH gd gs gr ves ver hs) (fun r h => r = .d (.bool true)) := by
  have hnl := numL_len es
  refine AC.of 72 Tryd.func6 rfl rfl rfl ?_
  refine W.reg ?_
  refine XOps.s rfl rfl rfl (Q.assign_d rfl) ?_
  refine XOps.nil ?_
  refine W.reg ?_
  refine XOps.s rfl rfl rfl (Q.move_d rfl) ?_
  refine XOps.s rfl rfl rfl (Q.call rfl Tryd.func7 go7 rfl (numb_c es _)) ?_
  refine XOps.s rfl rfl rfl (Q.assign_d rfl) ?_
  refine XOps.nil ?_
  refine W.reg ?_
  refine XOps.s rfl rfl rfl (Q.assign_nilsl rfl) ?_
  refine XOps.nil ?_
  refine W.ghost 5 4 (by decide) rfl rfl (fun v5 => ?_)
  refine W.seq ?_
  refine W.reg ?_
  refine XOps.s rfl rfl rfl (Q.move_d rfl) ?_
  refine XOps.s rfl rfl rfl (Q.len_sl isl23 rfl) ?_
  refine XOps.s rfl rfl rfl (Q.move_d rfl) ?_
  refine XOps.nil ?_
  refine W.block ?_
  refine W.loop (ι := Nat × Nat) (fun p => [(0, .d (.sl 2 (l.map SR.enc))), (1, .d (.sl 4 ((numL es).map EN.enc))), (5, .vs p.2 0 (onlyF 0 ((numL es).take p.1)).length 4), (16, .d (.sl 4 ((numL es).map EN.enc))), (17, .d (.int .i64 (numL es).length)), (18, .d (.int .i64 (p.1 : Nat)))]) (fun p => (p.2, .lst 4 ((onlyF 0 ((numL es).take p.1)).map EN.enc)) :: gH gd gs gr ves ver hs) (fun p => p.1 ≤ (numL es).length) (fun p => (numL es).length - p.1) (0, v5) ?_ ?_ ?_ ?_
  · exact Nat.zero_le _
  · exact ⟨by first | rfl | exact int_eq (by omega) | exact len_eq (by simp) | exact int_eq (by simp; done), by first | rfl | exact int_eq (by omega) | exact len_eq (by simp) | exact int_eq (by simp; done), by first | rfl | exact int_eq (by omega) | exact len_eq (by simp) | exact int_eq (by simp; done), by first | rfl | exact int_eq (by omega) | exact len_eq (by simp) | exact int_eq (by simp; done), by exact int_eq (by rw [List.length_map]), by first | rfl | exact int_eq (by omega) | exact len_eq (by simp) | exact int_eq (by simp; done), trivial⟩
  · exact HLe.refl _
  · rintro ⟨k, v⟩ hk
    dsimp only at hk ⊢
    refine W.reg ?_
    refine XOps.s rfl rfl rfl (Q.lss rfl rfl) ?_
    refine XOps.nil ?_
    refine W.seq ?_
    refine W.cond rfl (fun hc19 => ?_) (fun hc19 => ?_)
    · try simp only [Bool.or_eq_true, Bool.or_eq_false_iff, Bool.and_eq_true, Bool.and_eq_false_iff, decide_eq_true_eq, decide_eq_false_iff_not, Bool.not_eq_true', Bool.not_eq_false', Int.not_lt, Int.not_le, List.length_map] at hc19
      obtain ⟨x, hx2⟩ : ∃ x, (numL es)[k]? = some x := ⟨_, List.getElem?_eq_getElem (by omega)⟩
      have htk : (numL es).take (k + 1) = (numL es).take k ++ [x] := by
        obtain ⟨q1, q2⟩ := List.getElem?_eq_some_iff.1 hx2
        rw [List.take_succ_eq_append_getElem q1, q2]
      have hpu := onlyF_push ((numL es).take k) 0 x
      rw [← htk] at hpu
      have hpl := parts_len es k
      refine W.skip ?_
      refine W.seq ?_
      refine W.block ?_
      refine W.reg ?_
      refine XOps.s rfl rfl rfl (Q.idx_sl sl23 (by decide) rfl rfl (by first | omega | (simp only [List.length_map]; omega)) (by exact map_at hx2)) ?_
      refine XOps.s rfl rfl rfl (Q.ld_dpn ag36 rfl rfl) ?_
      (refine XOps.loud rfl (L.alloc tz36 rfl rfl) ?_; rintro _ _ ⟨b7, rfl, rfl⟩)
      refine XOps.loud rfl (L.storen (k := 0) ag36 rfl rfl rfl rfl rfl) ?_
      rintro _ _ ⟨rfl, rfl⟩
      refine XOps.nil ?_
      refine W.reg ?_
      refine XOps.s rfl rfl rfl (Q.fld_ptr fl36_2 rfl) ?_
      refine XOps.s rfl rfl rfl (Q.ld_ptr (k := 0) ag9 rfl rfl rfl) ?_
      refine XOps.s rfl rfl rfl (Q.eql_str rfl rfl) ?_
      refine XOps.s rfl rfl rfl (Q.move_d rfl) ?_
      refine XOps.gs rfl rfl rfl rfl rfl rfl rfl (fun hg => Q.fld_ptr fl36_2 rfl) ?_
      refine XOps.gs rfl rfl rfl rfl rfl rfl rfl (fun hg => Quiet.open 26 hg rfl (Q.ld_ptr (k := 0) ag9 rfl rfl rfl)) ?_
      refine XOps.gs rfl rfl rfl rfl rfl rfl rfl (fun hg => Quiet.open 27 hg rfl (Q.eql_str rfl rfl)) ?_
      refine XOps.s rfl rfl rfl (Q.pick_or rfl rfl rfl (fun h => by first | (rw [h]; rfl) | (rw [hg, h]; rfl) | (simp [h, hg]; done))) ?_
      refine XOps.s rfl rfl rfl (Q.move_d rfl) ?_
      refine XOps.gs rfl rfl rfl rfl rfl rfl rfl (fun hg => Q.fld_ptr fl36_2 rfl) ?_
      refine XOps.gs rfl rfl rfl rfl rfl rfl rfl (fun hg => Quiet.open 31 hg rfl (Q.ld_ptr (k := 0) ag9 rfl rfl rfl)) ?_
      refine XOps.gs rfl rfl rfl rfl rfl rfl rfl (fun hg => Quiet.open 32 hg rfl (Q.eql_str rfl rfl)) ?_
      refine XOps.s rfl rfl rfl (Q.pick_or rfl rfl rfl (fun h => by first | (rw [h]; rfl) | (rw [hg, h]; rfl) | (simp [h, hg]; done))) ?_
      refine XOps.nil ?_
      refine W.cond rfl (fun hc34 => ?_) (fun hc34 => ?_)
      · try simp only [Bool.or_eq_true, Bool.or_eq_false_iff, Bool.and_eq_true, Bool.and_eq_false_iff, decide_eq_true_eq, decide_eq_false_iff_not, Bool.not_eq_true', Bool.not_eq_false', Int.not_lt, Int.not_le, List.length_map] at hc34
        have hm : mineK x.kind = true := by
          unfold mineK setK cutK growK seq
          rcases hc34 with (h | h) | h <;> rw [h] <;> simp
        rw [if_pos hm, Nat.zero_add] at hpu
        refine W.reg ?_
        refine XOps.s rfl rfl rfl (Q.move_vs rfl) ?_
        refine XOps.s rfl rfl rfl (Q.len_vs isl23 rfl) ?_
        refine XOps.s rfl rfl rfl (Q.add rfl rfl (wi64 (by first | omega | (dsimp only; omega) | (simp only [List.length_map]; omega)) (by first | omega | (dsimp only; omega) | (simp only [List.length_map]; omega)))) ?_
        refine XOps.s rfl rfl rfl (Q.fld_ptr fl36_0 rfl) ?_
        refine XOps.loud rfl (L.store (k := 0) ag3 rfl rfl rfl rfl rfl) ?_
        rintro _ _ ⟨rfl, rfl⟩
        refine XOps.nil ?_
        refine W.region ?_
        refine XOps.s rfl rfl rfl (Q.move_vs rfl) ?_
        refine XOps.s rfl rfl rfl (Q.ld_ptrn (k := 0) ag36 rfl rfl rfl) ?_
        refine XOps.s rfl rfl rfl (Q.bsl1n sl23 (by decide) zr23 rfl zrd23 rfl rfl (by decide)) ?_
        refine XOps.loud rfl (L.app (k := 1) ap23 rfl rfl (by first | rfl | (simp; done)) rfl (by simp; omega) rfl) ?_
        rintro _ _ ⟨v42, rfl, rfl⟩
        refine XOps.s rfl rfl rfl (Q.assign_vs rfl) ?_
        refine XOps.nil ?_
        refine W.region ?_
        refine XOps.s rfl rfl rfl (Q.add rfl rfl (wi64 (by first | omega | (dsimp only; omega) | (simp only [List.length_map]; omega)) (by first | omega | (dsimp only; omega) | (simp only [List.length_map]; omega)))) ?_
        refine XOps.s rfl rfl rfl (Q.move_d rfl) ?_
        refine XOps.nil ?_
        refine ⟨(k + 1, v42), ?_, ?_, ?_, ?_⟩
        · exact (show k + 1 ≤ _ by omega)
        · dsimp only; omega
        · exact ⟨by first | rfl | exact int_eq (by omega) | exact len_eq (by simp) | exact int_eq (by simp; done), by first | rfl | exact int_eq (by omega) | exact len_eq (by simp) | exact int_eq (by simp; done), by first | exact vs_eq (by dsimp only; rw [hpu]; simp) | exact vs_eq (by dsimp only; rw [hpu]), by first | rfl | exact int_eq (by omega) | exact len_eq (by simp) | exact int_eq (by simp; done), by first | rfl | exact int_eq (by omega) | exact len_eq (by simp) | exact int_eq (by simp; done), by first | rfl | exact int_eq (by omega) | exact len_eq (by simp) | exact int_eq (by simp; done), trivial⟩
        · (dsimp only; rw [hpu]; first | exact HLe.skip _ (HLe.refl _) | exact HLe.cons' (by simp [EN.enc]) (HLe.skip _ (HLe.refl _)) | exact HLe.cons' (by simp [EN.enc]) (HLe.refl _))
      · try simp only [Bool.or_eq_true, Bool.or_eq_false_iff, Bool.and_eq_true, Bool.and_eq_false_iff, decide_eq_true_eq, decide_eq_false_iff_not, Bool.not_eq_true', Bool.not_eq_false', Int.not_lt, Int.not_le, List.length_map] at hc34
        have hm : ¬ mineK x.kind = true := by
          unfold mineK setK cutK growK seq
          obtain ⟨⟨a, b⟩, c⟩ := hc34
          rw [a, b, c]; simp
        rw [if_neg hm, List.append_nil] at hpu
        refine W.skip ?_
        refine W.region ?_
        refine XOps.s rfl rfl rfl (Q.add rfl rfl (wi64 (by first | omega | (dsimp only; omega) | (simp only [List.length_map]; omega)) (by first | omega | (dsimp only; omega) | (simp only [List.length_map]; omega)))) ?_
        refine XOps.s rfl rfl rfl (Q.move_d rfl) ?_
        refine XOps.nil ?_
        refine ⟨(k + 1, v), ?_, ?_, ?_, ?_⟩
        · exact (show k + 1 ≤ _ by omega)
        · dsimp only; omega
        · exact ⟨by first | rfl | exact int_eq (by omega) | exact len_eq (by simp) | exact int_eq (by simp; done), by first | rfl | exact int_eq (by omega) | exact len_eq (by simp) | exact int_eq (by simp; done), by first | exact vs_eq (by dsimp only; rw [hpu]; simp) | exact vs_eq (by dsimp only; rw [hpu]), by first | rfl | exact int_eq (by omega) | exact len_eq (by simp) | exact int_eq (by simp; done), by first | rfl | exact int_eq (by omega) | exact len_eq (by simp) | exact int_eq (by simp; done), by first | rfl | exact int_eq (by omega) | exact len_eq (by simp) | exact int_eq (by simp; done), trivial⟩
        · (dsimp only; rw [hpu]; first | exact HLe.skip _ (HLe.refl _) | exact HLe.cons' (by simp [EN.enc]) (HLe.skip _ (HLe.refl _)) | exact HLe.cons' (by simp [EN.enc]) (HLe.refl _))
    · try simp only [Bool.or_eq_true, Bool.or_eq_false_iff, Bool.and_eq_true, Bool.and_eq_false_iff, decide_eq_true_eq, decide_eq_false_iff_not, Bool.not_eq_true', Bool.not_eq_false', Int.not_lt, Int.not_le, List.length_map] at hc19
      obtain rfl : k = (numL es).length := by omega
      rw [List.take_length]
      refine W.exit ?_
      refine W.freeze 5 0 rfl rfl (by simp) ?_
      refine W.reg ?_
      refine XOps.s rfl rfl rfl (Q.move_d rfl) ?_
      refine XOps.s rfl rfl rfl (Q.move_d rfl) ?_
      refine XOps.s rfl rfl rfl (Q.call rfl Tryd.func9 go9 rfl (run_c l (numL es) gd gs gr ves ver o1 o2 hs hL hz (by omega) (szE_num hx))) ?_
      refine XOps.s rfl rfl rfl (Q.move_tup rfl) ?_
      refine XOps.s rfl rfl rfl (Q.extract rfl rfl) ?_
      refine XOps.s rfl rfl rfl (Q.extract rfl rfl) ?_
      refine XOps.s rfl rfl rfl (Q.extract rfl rfl) ?_
      refine XOps.s rfl rfl rfl (Q.assign_d rfl) ?_
      refine XOps.s rfl rfl rfl (Q.assign_d rfl) ?_
      refine XOps.s rfl rfl rfl (Q.assign_d rfl) ?_
      refine XOps.nil ?_
      refine W.reg ?_
      refine XOps.s rfl rfl rfl (Q.move_d rfl) ?_
      refine XOps.s rfl rfl rfl (Q.move_d rfl) ?_
      refine XOps.s rfl rfl rfl (Q.call rfl Tryd.func9 go9 rfl (run_c l (onlyF 0 (numL es)) gd gs gr ves ver o1 o2 hs hL hz (by have := onlyF_len (numL es) 0; omega) (szE_only (szE_num hx)))) ?_
      refine XOps.s rfl rfl rfl (Q.move_tup rfl) ?_
      refine XOps.s rfl rfl rfl (Q.extract rfl rfl) ?_
      refine XOps.s rfl rfl rfl (Q.extract rfl rfl) ?_
      refine XOps.s rfl rfl rfl (Q.extract rfl rfl) ?_
      refine XOps.s rfl rfl rfl (Q.assign_d rfl) ?_
      refine XOps.s rfl rfl rfl (Q.assign_d rfl) ?_
      refine XOps.s rfl rfl rfl (Q.assign_d rfl) ?_
      refine XOps.nil ?_
      refine W.reg ?_
      refine XOps.s rfl rfl rfl (Q.call rfl Tryd.func10 go10 rfl (pfact_c gd gs gr ves ver o1 o2 hs)) ?_
      refine XOps.s rfl rfl rfl (Q.move_d rfl) ?_
      refine XOps.gs rfl rfl rfl rfl rfl rfl rfl (fun hg => Q.move_d rfl) ?_
      refine XOps.gs rfl rfl rfl rfl rfl rfl rfl (fun hg => Quiet.open 60 hg rfl (Q.neq rfl rfl)) ?_
      refine XOps.gs rfl rfl rfl rfl rfl rfl rfl (fun hg => Quiet.open 61 hg rfl (Q.move_d rfl)) ?_
      refine XOps.gsw rfl rfl rfl rfl rfl rfl rfl (fun hg => Q.move_d rfl) ?_
      refine XOps.gsw rfl rfl rfl rfl rfl rfl rfl (fun hg => Quiet.open 63 hg rfl (Q.eql rfl rfl)) ?_
      refine XOps.gsw rfl rfl rfl rfl rfl rfl rfl (fun hg => Quiet.open 64 hg rfl (Q.move_d rfl)) ?_
      refine XOps.gsw rfl rfl rfl rfl rfl rfl rfl (fun hg => Q.move_d rfl) ?_
      refine XOps.gsw rfl rfl rfl rfl rfl rfl rfl (fun hg => Q.move_d rfl) ?_
      refine XOps.gsw rfl rfl rfl rfl rfl rfl rfl (fun hg => Quiet.open 66 hg rfl (Quiet.open 67 hg rfl (Q.call rfl Tryd.func11 go11 rfl (same_c (runV l (numL es)).1 (runV l (onlyF 0 (numL es))).1 _ (by have := (sz_ok (runV_ok l (numL es))).2; omega))))) ?_
      refine XOps.gsw rfl rfl rfl rfl rfl rfl rfl (fun hg => Quiet.open 65 hg rfl (Q.pick_and rfl rfl rfl (fun h => by first | (rw [h]; rfl) | (rw [hg, h]; rfl) | (simp [h, hg]; done)))) ?_
      refine XOps.gs rfl rfl rfl rfl rfl rfl rfl (fun hg => Quiet.open 62 hg rfl (Q.pick_or rfl rfl rfl (fun h => by first | (rw [h]; rfl) | (rw [hg, h]; rfl) | (simp [h, hg]; done)))) ?_
      refine XOps.s rfl rfl rfl (Q.pick_and rfl rfl rfl (fun h => by first | (rw [h]; rfl) | (rw [hg, h]; rfl) | (simp [h, hg]; done))) ?_
      refine XOps.s rfl rfl rfl (Q.assign_d rfl) ?_
      refine XOps.nil ?_
      refine W.ret ?_
      refine ⟨_, _, rfl, HLe.refl _, ?_⟩
      show AV.d (.bool _) = _
      refine congrArg (fun b => AV.d (D.bool b)) ?_
      exact notes_fin (by omega)

theorem cut_front {es : List EN} {j : Nat} : ((es.take ((j : Nat) : Int).toNat).drop (0 : Int).toNat) = es.take j := by rw [Int.toNat_natCast]; rfl
theorem cut_back {es : List EN} {j : Nat} : ((es.take (((es.map EN.enc).length : Nat) : Int).toNat).drop ((j : Nat) : Int).toNat) = es.drop j := by rw [Int.toNat_natCast, Int.toNat_natCast, List.length_map, List.take_length]
theorem runF_idx : ∀ (es : List EN) (l : List SR) (k : Nat) (p : Option Int), (runF l k p es).2.1 ≤ k + es.length
  | [], l, k, p => Nat.zero_le _
  | x :: es, l, k, p => by
    rw [runF, List.length_cons]
    split
    · dsimp only; omega
    · split
      · dsimp only; omega
      · have := runF_idx es (stepL l x) (k + 1) (some x.num); omega
theorem runV_idx (l : List SR) (es : List EN) : (runV l es).2.1 ≤ es.length := by
  unfold runV
  split
  · exact Nat.zero_le _
  · split
    · exact Nat.zero_le _
    · have := runF_idx es l 0 none; omega
theorem szE_take {es : List EN} (h : szE es) (k : Nat) : szE (es.take k) := fun x hx => h x (List.mem_of_mem_take hx)
theorem szE_drop {es : List EN} (h : szE es) (k : Nat) : szE (es.drop k) := fun x hx => h x (List.mem_of_mem_drop hx)

set_option maxHeartbeats 8000000 in
set_option maxRecDepth 100000 in
theorem parts_c (l : List SR) (es : List EN) (m : Int) (gd gs gr : Nat) (ves ver : Value) (o1 : okE ves) (o2 : okE ver) (hs : Hp) (hL : l.length ≤ 4398046511104) (hz : szR l) (hx : szE es) : AC P 3 [.d (.sl 2 (l.map SR.enc)), .d (.sl 4 (es.map EN.enc)), .d (.int .i64 m)] (gH gd gs gr ves ver hs) (fun r h => r = .d (.bool true)) := by
  have hnl := numL_len es
  refine AC.of 89 Tryd.func3 rfl rfl rfl ?_
  refine W.reg ?_
  refine XOps.s rfl rfl rfl (Q.assign_d rfl) ?_
  refine XOps.nil ?_
  refine W.reg ?_
  refine XOps.s rfl rfl rfl (Q.move_d rfl) ?_
  refine XOps.s rfl rfl rfl (Q.call rfl Tryd.func7 go7 rfl (numb_c es _)) ?_
  refine XOps.s rfl rfl rfl (Q.assign_d rfl) ?_
  refine XOps.nil ?_
  refine W.reg ?_
  refine XOps.s rfl rfl rfl (Q.move_d rfl) ?_
  refine XOps.s rfl rfl rfl (Q.move_d rfl) ?_
  refine XOps.s rfl rfl rfl (Quiet.to (v' := .d (.int .i64 (numL es).length)) (Q.len_sl isl23 rfl) (fun _ _ _ _ h => by rw [List.length_map] at h; exact h)) ?_
  refine XOps.s rfl rfl rfl (Q.call rfl Tryd.func8 go8 rfl (rcut_c m 0 ((numL es).length : Nat) _ (by omega) (by omega) (by omega))) ?_
  refine XOps.s rfl rfl rfl (Q.assign_d rfl) ?_
  refine XOps.nil ?_
  obtain ⟨j, hj, hjl⟩ : ∃ j : Nat, cutI m 0 (((numL es).length : Nat) : Int) = j ∧ j ≤ (numL es).length := by
    have := cutI_bounds m (lo := 0) (hi := (((numL es).length : Nat) : Int)) (by omega)
    exact ⟨(cutI m 0 (((numL es).length : Nat) : Int)).toNat, by omega, by omega⟩
  rw [hj]
  obtain ⟨hP1, hP2⟩ := parts (l := l) (es := es) j hjl
  have hbz := sz_ok (runV_ok l ((numL es).take j))
  refine W.reg ?_
  refine XOps.s rfl rfl rfl (Q.move_d rfl) ?_
  refine XOps.s rfl rfl rfl (Q.move_d rfl) ?_
  refine XOps.s rfl rfl rfl (Q.call rfl Tryd.func9 go9 rfl (run_c l (numL es) gd gs gr ves ver o1 o2 hs hL hz (by omega) (szE_num hx))) ?_
  refine XOps.s rfl rfl rfl (Q.move_tup rfl) ?_
  refine XOps.s rfl rfl rfl (Q.extract rfl rfl) ?_
  refine XOps.s rfl rfl rfl (Q.extract rfl rfl) ?_
  refine XOps.s rfl rfl rfl (Q.extract rfl rfl) ?_
  refine XOps.s rfl rfl rfl (Q.assign_d rfl) ?_
  refine XOps.s rfl rfl rfl (Q.assign_d rfl) ?_
  refine XOps.s rfl rfl rfl (Q.assign_d rfl) ?_
  refine XOps.nil ?_
  refine W.reg ?_
  refine XOps.s rfl rfl rfl (Q.move_d rfl) ?_
  refine XOps.s rfl rfl rfl (Q.move_d rfl) ?_
  refine XOps.s rfl rfl rfl (Q.move_d rfl) ?_
  refine XOps.s rfl rfl rfl (Quiet.to (v' := .d (.sl 4 (((numL es).take j).map EN.enc))) (Q.cut_slm (l := (numL es)) (f := EN.enc) sl23 rfl rfl rfl (by omega) (by first | omega | (simp; done) | (simp; omega)) (by first | omega | (simp; done) | (simp; omega))) (fun _ _ _ _ h => by rw [cut_front] at h; exact h)) ?_
  refine XOps.s rfl rfl rfl (Q.call rfl Tryd.func9 go9 rfl (run_c l ((numL es).take j) gd gs gr ves ver o1 o2 hs hL hz (by simp; omega) (szE_take (szE_num hx) j))) ?_
  refine XOps.s rfl rfl rfl (Q.move_tup rfl) ?_
  refine XOps.s rfl rfl rfl (Q.extract rfl rfl) ?_
  refine XOps.s rfl rfl rfl (Q.extract rfl rfl) ?_
  refine XOps.s rfl rfl rfl (Q.extract rfl rfl) ?_
  refine XOps.s rfl rfl rfl (Q.assign_d rfl) ?_
  refine XOps.s rfl rfl rfl (Q.assign_d rfl) ?_
  refine XOps.s rfl rfl rfl (Q.assign_d rfl) ?_
  refine XOps.nil ?_
  refine W.seq ?_
  refine W.reg ?_
  refine XOps.s rfl rfl rfl (Q.move_d rfl) ?_
  refine XOps.s rfl rfl rfl (Q.neq rfl rfl) ?_
  refine XOps.nil ?_
  refine W.cond rfl (fun hc39 => ?_) (fun hc39 => ?_)
  · try simp only [Bool.or_eq_true, Bool.or_eq_false_iff, Bool.and_eq_true, Bool.and_eq_false_iff, decide_eq_true_eq, decide_eq_false_iff_not, Bool.not_eq_true', Bool.not_eq_false', Int.not_lt, Int.not_le, List.length_map] at hc39
    have h39 : (runV l ((numL es).take j)).2.2 ≠ 0 := by first | exact hc39 | (simpa using hc39)
    obtain ⟨p1, p2, p3, p4⟩ := hP1 h39
    rw [p3, p4, p1, p2]
    refine W.reg ?_
    refine XOps.s rfl rfl rfl (Q.call rfl Tryd.func10 go10 rfl (pfact_c gd gs gr ves ver o1 o2 hs)) ?_
    refine XOps.s rfl rfl rfl (Q.move_d rfl) ?_
    refine XOps.gs rfl rfl rfl rfl rfl rfl rfl (fun hg => Q.move_d rfl) ?_
    refine XOps.gs rfl rfl rfl rfl rfl rfl rfl (fun hg => Q.move_d rfl) ?_
    refine XOps.gs rfl rfl rfl rfl rfl rfl rfl (fun hg => Quiet.open 42 hg rfl (Quiet.open 43 hg rfl (Q.eql rfl rfl))) ?_
    refine XOps.s rfl rfl rfl (Q.pick_and rfl rfl rfl (fun h => by first | (rw [h]; rfl) | (rw [hg, h]; rfl) | (simp [h, hg]; done))) ?_
    refine XOps.s rfl rfl rfl (Q.move_d rfl) ?_
    refine XOps.gs rfl rfl rfl rfl rfl rfl rfl (fun hg => Q.move_d rfl) ?_
    refine XOps.gs rfl rfl rfl rfl rfl rfl rfl (fun hg => Q.move_d rfl) ?_
    refine XOps.gs rfl rfl rfl rfl rfl rfl rfl (fun hg => Quiet.open 47 hg rfl (Quiet.open 48 hg rfl (Q.eql rfl rfl))) ?_
    refine XOps.s rfl rfl rfl (Q.pick_and rfl rfl rfl (fun h => by first | (rw [h]; rfl) | (rw [hg, h]; rfl) | (simp [h, hg]; done))) ?_
    refine XOps.s rfl rfl rfl (Q.move_d rfl) ?_
    refine XOps.gs rfl rfl rfl rfl rfl rfl rfl (fun hg => Q.move_d rfl) ?_
    refine XOps.gs rfl rfl rfl rfl rfl rfl rfl (fun hg => Quiet.open 52 hg rfl (Q.len_sl isl22 rfl)) ?_
    refine XOps.gs rfl rfl rfl rfl rfl rfl rfl (fun hg => Q.move_d rfl) ?_
    refine XOps.gs rfl rfl rfl rfl rfl rfl rfl (fun hg => Quiet.open 54 hg rfl (Q.len_sl isl22 rfl)) ?_
    refine XOps.gs rfl rfl rfl rfl rfl rfl rfl (fun hg => Quiet.open 53 hg rfl (Quiet.open 55 hg rfl (Q.add rfl rfl rfl))) ?_
    refine XOps.gs rfl rfl rfl rfl rfl rfl rfl (fun hg => Quiet.open 56 hg rfl (Q.eql rfl rfl)) ?_
    refine XOps.s rfl rfl rfl (Q.pick_and rfl rfl rfl (fun h => by first | (rw [h]; rfl) | (rw [hg, h]; rfl) | (simp [h, hg]; done))) ?_
    refine XOps.s rfl rfl rfl (Q.assign_d rfl) ?_
    refine XOps.nil ?_
    refine W.ret ?_
    refine ⟨_, _, rfl, HLe.refl _, ?_⟩
    show AV.d (.bool _) = _
    refine congrArg (fun b => AV.d (D.bool b)) ?_
    (simp; rfl)
  · try simp only [Bool.or_eq_true, Bool.or_eq_false_iff, Bool.and_eq_true, Bool.and_eq_false_iff, decide_eq_true_eq, decide_eq_false_iff_not, Bool.not_eq_true', Bool.not_eq_false', Int.not_lt, Int.not_le, List.length_map] at hc39
    have h39 : (runV l ((numL es).take j)).2.2 = 0 := by first | exact hc39 | (simpa using hc39)
    obtain ⟨p1, p2, p3⟩ := hP2 h39
    refine W.skip ?_
    refine W.reg ?_
    refine XOps.s rfl rfl rfl (Q.move_d rfl) ?_
    refine XOps.s rfl rfl rfl (Q.move_d rfl) ?_
    refine XOps.s rfl rfl rfl (Q.move_d rfl) ?_
    refine XOps.s rfl rfl rfl (Quiet.to (v' := .d (.sl 4 (((numL es).drop j).map EN.enc))) (Q.cut_slm (l := (numL es)) (f := EN.enc) sl23 rfl rfl rfl (by omega) (by first | omega | (simp; done) | (simp; omega)) (by first | omega | (simp; done) | (simp; omega))) (fun _ _ _ _ h => by rw [cut_back] at h; exact h)) ?_
    refine XOps.s rfl rfl rfl (Q.call rfl Tryd.func9 go9 rfl (run_c (runV l ((numL es).take j)).1 ((numL es).drop j) gd gs gr ves ver o1 o2 hs (by omega) hbz.1 (by simp; omega) (szE_drop (szE_num hx) j))) ?_
    refine XOps.s rfl rfl rfl (Q.move_tup rfl) ?_
    refine XOps.s rfl rfl rfl (Q.extract rfl rfl) ?_
    refine XOps.s rfl rfl rfl (Q.extract rfl rfl) ?_
    refine XOps.s rfl rfl rfl (Q.extract rfl rfl) ?_
    refine XOps.s rfl rfl rfl (Q.assign_d rfl) ?_
    refine XOps.s rfl rfl rfl (Q.assign_d rfl) ?_
    refine XOps.s rfl rfl rfl (Q.assign_d rfl) ?_
    refine XOps.nil ?_
    refine W.seq ?_
    refine W.reg ?_
    refine XOps.s rfl rfl rfl (Q.move_d rfl) ?_
    refine XOps.s rfl rfl rfl (Q.neq rfl rfl) ?_
    refine XOps.nil ?_
    refine W.cond rfl (fun hc69 => ?_) (fun hc69 => ?_)
    · try simp only [Bool.or_eq_true, Bool.or_eq_false_iff, Bool.and_eq_true, Bool.and_eq_false_iff, decide_eq_true_eq, decide_eq_false_iff_not, Bool.not_eq_true', Bool.not_eq_false', Int.not_lt, Int.not_le, List.length_map] at hc69
      have h69 : (runV (runV l ((numL es).take j)).1 ((numL es).drop j)).2.2 ≠ 0 := by first | exact hc69 | (simpa using hc69)
      rw [if_pos h69] at p2
      have hix := runV_idx (runV l ((numL es).take j)).1 ((numL es).drop j)
      rw [List.length_drop] at hix
      refine W.region ?_
      refine XOps.s rfl rfl rfl (Q.move_d rfl) ?_
      refine XOps.s rfl rfl rfl (Q.move_d rfl) ?_
      refine XOps.s rfl rfl rfl (Q.add rfl rfl (wi64 (by first | omega | (dsimp only; omega) | (simp only [List.length_map]; omega)) (by first | omega | (dsimp only; omega) | (simp only [List.length_map]; omega)))) ?_
      refine XOps.s rfl rfl rfl (Q.assign_d rfl) ?_
      refine XOps.nil ?_
      refine W.reg ?_
      refine XOps.s rfl rfl rfl (Q.call rfl Tryd.func10 go10 rfl (pfact_c gd gs gr ves ver o1 o2 hs)) ?_
      refine XOps.s rfl rfl rfl (Q.move_d rfl) ?_
      refine XOps.gs rfl rfl rfl rfl rfl rfl rfl (fun hg => Q.move_d rfl) ?_
      refine XOps.gs rfl rfl rfl rfl rfl rfl rfl (fun hg => Q.move_d rfl) ?_
      refine XOps.gs rfl rfl rfl rfl rfl rfl rfl (fun hg => Quiet.open 75 hg rfl (Quiet.open 76 hg rfl (Q.eql rfl rfl))) ?_
      refine XOps.s rfl rfl rfl (Q.pick_and rfl rfl rfl (fun h => by first | (rw [h]; rfl) | (rw [hg, h]; rfl) | (simp [h, hg]; done))) ?_
      refine XOps.s rfl rfl rfl (Q.move_d rfl) ?_
      refine XOps.gs rfl rfl rfl rfl rfl rfl rfl (fun hg => Q.move_d rfl) ?_
      refine XOps.gs rfl rfl rfl rfl rfl rfl rfl (fun hg => Q.move_d rfl) ?_
      refine XOps.gs rfl rfl rfl rfl rfl rfl rfl (fun hg => Quiet.open 80 hg rfl (Quiet.open 81 hg rfl (Q.eql rfl rfl))) ?_
      refine XOps.s rfl rfl rfl (Q.pick_and rfl rfl rfl (fun h => by first | (rw [h]; rfl) | (rw [hg, h]; rfl) | (simp [h, hg]; done))) ?_
      refine XOps.s rfl rfl rfl (Q.move_d rfl) ?_
      refine XOps.gs rfl rfl rfl rfl rfl rfl rfl (fun hg => Q.move_d rfl) ?_
      refine XOps.gs rfl rfl rfl rfl rfl rfl rfl (fun hg => Q.move_d rfl) ?_
      refine XOps.gs rfl rfl rfl rfl rfl rfl rfl (fun hg => Quiet.open 85 hg rfl (Quiet.open 86 hg rfl (Q.call rfl Tryd.func11 go11 rfl (same_c (runV l (numL es)).1 (runV (runV l ((numL es).take j)).1 ((numL es).drop j)).1 _ (by have := (sz_ok (runV_ok l (numL es))).2; omega))))) ?_
      refine XOps.s rfl rfl rfl (Q.pick_and rfl rfl rfl (fun h => by first | (rw [h]; rfl) | (rw [hg, h]; rfl) | (simp [h, hg]; done))) ?_
      refine XOps.s rfl rfl rfl (Q.assign_d rfl) ?_
      refine XOps.nil ?_
      refine W.ret ?_
      refine ⟨_, _, rfl, HLe.refl _, ?_⟩
      show AV.d (.bool _) = _
      refine congrArg (fun b => AV.d (D.bool b)) ?_
      (rw [p1, p2, p3]; simp; omega)
    · try simp only [Bool.or_eq_true, Bool.or_eq_false_iff, Bool.and_eq_true, Bool.and_eq_false_iff, decide_eq_true_eq, decide_eq_false_iff_not, Bool.not_eq_true', Bool.not_eq_false', Int.not_lt, Int.not_le, List.length_map] at hc69
      have h69 : ¬ (runV (runV l ((numL es).take j)).1 ((numL es).drop j)).2.2 ≠ 0 := by first | (intro h; exact h hc69) | (simpa using hc69)
      rw [if_neg h69] at p2
      refine W.skip ?_
      refine W.reg ?_
      refine XOps.s rfl rfl rfl (Q.call rfl Tryd.func10 go10 rfl (pfact_c gd gs gr ves ver o1 o2 hs)) ?_
      refine XOps.s rfl rfl rfl (Q.move_d rfl) ?_
      refine XOps.gs rfl rfl rfl rfl rfl rfl rfl (fun hg => Q.move_d rfl) ?_
      refine XOps.gs rfl rfl rfl rfl rfl rfl rfl (fun hg => Q.move_d rfl) ?_
      refine XOps.gs rfl rfl rfl rfl rfl rfl rfl (fun hg => Quiet.open 75 hg rfl (Quiet.open 76 hg rfl (Q.eql rfl rfl))) ?_
      refine XOps.s rfl rfl rfl (Q.pick_and rfl rfl rfl (fun h => by first | (rw [h]; rfl) | (rw [hg, h]; rfl) | (simp [h, hg]; done))) ?_
      refine XOps.s rfl rfl rfl (Q.move_d rfl) ?_
      refine XOps.gs rfl rfl rfl rfl rfl rfl rfl (fun hg => Q.move_d rfl) ?_
      refine XOps.gs rfl rfl rfl rfl rfl rfl rfl (fun hg => Q.move_d rfl) ?_
      refine XOps.gs rfl rfl rfl rfl rfl rfl rfl (fun hg => Quiet.open 80 hg rfl (Quiet.open 81 hg rfl (Q.eql rfl rfl))) ?_
      refine XOps.s rfl rfl rfl (Q.pick_and rfl rfl rfl (fun h => by first | (rw [h]; rfl) | (rw [hg, h]; rfl) | (simp [h, hg]; done))) ?_
      refine XOps.s rfl rfl rfl (Q.move_d rfl) ?_
      refine XOps.gs rfl rfl rfl rfl rfl rfl rfl (fun hg => Q.move_d rfl) ?_
      refine XOps.gs rfl rfl rfl rfl rfl rfl rfl (fun hg => Q.move_d rfl) ?_
      refine XOps.gs rfl rfl rfl rfl rfl rfl rfl (fun hg => Quiet.open 85 hg rfl (Quiet.open 86 hg rfl (Q.call rfl Tryd.func11 go11 rfl (same_c (runV l (numL es)).1 (runV (runV l ((numL es).take j)).1 ((numL es).drop j)).1 _ (by have := (sz_ok (runV_ok l (numL es))).2; omega))))) ?_
      refine XOps.s rfl rfl rfl (Q.pick_and rfl rfl rfl (fun h => by first | (rw [h]; rfl) | (rw [hg, h]; rfl) | (simp [h, hg]; done))) ?_
      refine XOps.s rfl rfl rfl (Q.assign_d rfl) ?_
      refine XOps.nil ?_
      refine W.ret ?_
      refine ⟨_, _, rfl, HLe.refl _, ?_⟩
      show AV.d (.bool _) = _
      refine congrArg (fun b => AV.d (D.bool b)) ?_
      (rw [p1, p2, p3]; simp; done)
end Go.Proofs.YtodbcbojkfndiaaDoorA
