/- The fact of package strip; the law StripChanged. -/
import Derived.Test.YtlfapbkaknikpaaDoorFrB
import Derived.Test.YtlfapbkaknikpaaDoorSpD
import Derived.Test.YtlfapbkaknikpaaDoorSt3
import Derived.Test.YtlfapbkaknikpaaDoorFrC
set_option linter.unusedVariables false
set_option linter.unusedSimpArgs false
set_option linter.unnecessarySimpa false
namespace Go.Proofs.YtlfapbkaknikpaaDoorA.FSpE
open Go
theorem ag24 : tAgg P 24 = some ((true, 5)) := by kernel_rfl
theorem ag9 : tAgg P 9 = some ((false, 1)) := by kernel_rfl
theorem ap22 : tApp P 22 = some ((5, 56)) := by kernel_rfl
theorem eqt24 : tEq P 24 = some ([.str, .str, .int .i64, .int .i64, .int .i64]) := by kernel_rfl
theorem fl24_0 : tFld P 24 0 = some (0) := by kernel_rfl
theorem go16 : callGo Go.Proofs.Tryd.f16 = true := by kernel_rfl
theorem go5 : callGo Go.Proofs.Tryd.f5 = true := by kernel_rfl
theorem go6 : callGo Go.Proofs.Tryd.f6 = true := by kernel_rfl
theorem go7 : callGo Go.Proofs.Tryd.f7 = true := by kernel_rfl
theorem go8 : callGo Go.Proofs.Tryd.f8 = true := by kernel_rfl
theorem go9 : callGo Go.Proofs.Tryd.f9 = true := by kernel_rfl
theorem ipt25 : isPtr P 25 = true := by kernel_rfl
theorem isl22 : isSl P 22 = true := by kernel_rfl
theorem pl24 : tPl P 24 = some ([(0, 1), (1, 1), (2, 1), (3, 1), (4, 1)]) := by kernel_rfl
theorem sl22 : tSl P 22 = some (5) := by kernel_rfl
theorem tz24 : tZero P 24 = some ([.string ⟨#[]⟩, .string ⟨#[]⟩, .int .i64 0, .int .i64 0, .int .i64 0]) := by kernel_rfl
theorem tzd24 : cellsD [.string ⟨#[]⟩, .string ⟨#[]⟩, .int .i64 0, .int .i64 0, .int .i64 0] = some ([.str ⟨#[]⟩, .str ⟨#[]⟩, .int .i64 0, .int .i64 0, .int .i64 0]) := rfl
theorem zr22 : tZrow P 22 = some ([.string ⟨#[]⟩, .string ⟨#[]⟩, .int .i64 0, .int .i64 0, .int .i64 0]) := by kernel_rfl
theorem zrd22 : cellsD [.string ⟨#[]⟩, .string ⟨#[]⟩, .int .i64 0, .int .i64 0, .int .i64 0] = some ([.str ⟨#[]⟩, .str ⟨#[]⟩, .int .i64 0, .int .i64 0, .int .i64 0]) := rfl
end Go.Proofs.YtlfapbkaknikpaaDoorA.FSpE
namespace Go.Proofs.YtlfapbkaknikpaaDoorA
open Go FSpE
attribute [local irreducible] XOps Quiet Loud W AC GQ DT
set_option maxHeartbeats 4000000 in
set_option maxRecDepth 100000 in
theorem sfact_c (gd : Nat) (hs : Hp) : AC P 6 [] ((gd, p10G) :: hs) (fun r h => r = .d (.bool true) ∧ h = (gd, p10G) :: hs) := by
  refine AC.of 16 Tryd.func6 rfl rfl rfl ?_
  refine W.reg ?_
  refine XOps.s rfl rfl rfl (Q.assign_d rfl) ?_
  refine XOps.nil ?_
  refine W.reg ?_
  (refine XOps.loud rfl (L.call rfl Tryd.func5 go5 rfl (snew_c ((gd, p10G) :: hs)) rfl) ?_; rintro _ _ ⟨_, rfl, b, f, rfl, rfl⟩)
  refine XOps.s rfl rfl rfl (Q.assign_ptr rfl) ?_
  refine XOps.nil ?_
  refine W.reg ?_
  refine XOps.s rfl rfl rfl (Q.move_ptr rfl) ?_
  refine XOps.s rfl rfl rfl (Q.neq_ptr ipt25 rfl rfl) ?_
  refine XOps.s rfl rfl rfl (Q.move_d rfl) ?_
  refine XOps.gs rfl rfl rfl rfl rfl rfl rfl (fun hg => Q.move_ptr rfl) ?_
  refine XOps.gs rfl rfl rfl rfl rfl rfl rfl (fun hg => Q.build pl24 tz24 tzd24 rfl) ?_
  refine XOps.gl (.d (.int .i64 0)) rfl rfl rfl rfl rfl rfl (fun hg => Loud.open 6 hg rfl (Loud.open 7 hg rfl (L.call rfl Tryd.func7 go7 rfl (put_c b [] f x0 ((gd, p10G) :: hs) (by simp) (by decide) (by decide)) rfl))) (fun hg => ?_) (fun hg => ?_)
  · rintro _ _ ⟨f2, rfl, rfl⟩
    have hgt : _ = true := hg
    have hp0 : pBE [] x0 = 0 := by decide +kernel
    have hpl : pBL [] x0 = [x0] := if_neg (by rw [hp0]; simp)
    rw [hpl, hp0]
    refine XOps.gs rfl rfl rfl rfl rfl rfl rfl (fun hg => Quiet.open 8 hg rfl (Q.eql rfl rfl)) ?_
    refine XOps.s rfl rfl rfl (Q.pick_and rfl rfl rfl (fun h => by first | (rw [h]; rfl) | (rw [hg, h]; rfl) | (simp [h, hg]; done))) ?_
    refine XOps.s rfl rfl rfl (Q.move_d rfl) ?_
    refine XOps.gs rfl rfl rfl rfl rfl rfl rfl (fun hg => Q.move_ptr rfl) ?_
    refine XOps.gl (.d (.int .i64 0)) rfl rfl rfl rfl rfl rfl (fun hg => Loud.open 12 hg rfl (L.call rfl Tryd.func16 go16 rfl (AC.le (text_c b [x0] f2 gd hs (by simp) (fun x hx => by simp at hx; subst hx; decide +kernel)) (HLe.pick 2 rfl rfl (HLe.refl _))) rfl)) (fun hg => ?_) (fun hg => ?_)
    · rintro _ _ ⟨T, hT, rfl, rfl⟩
      have hgt : _ = true := hg
      have hTT := fact_text hT
      subst hTT
      refine XOps.gs rfl rfl rfl rfl rfl rfl rfl (fun hg => Quiet.open 13 hg rfl (Q.eql_str rfl rfl)) ?_
      refine XOps.s rfl rfl rfl (Q.pick_and rfl rfl rfl (fun h => by first | (rw [h]; rfl) | (rw [hg, h]; rfl) | (simp [h, hg]; done))) ?_
      refine XOps.s rfl rfl rfl (Q.assign_d rfl) ?_
      refine XOps.nil ?_
      refine W.ret ?_
      refine ⟨_, (gd, p10G) :: hs, rfl, HLe.cons _ (HLe.skip _ (HLe.skip _ (HLe.refl _))), ?_, rfl⟩
      show AV.d (.bool _) = _
      refine congrArg (fun b => AV.d (D.bool b)) ?_
      decide +kernel
    · have hgf : _ = false := hg
      exact absurd hg (by decide) --done
  · have hgf : _ = false := hg
    exact absurd hg (by decide) --done

set_option maxHeartbeats 8000000 in
set_option maxRecDepth 100000 in
theorem changed_c (xs : List ST) (s : ST) (gd : Nat) (hs : Hp) (hx : ∀ x ∈ xs, x.call.size ≤ 140737488351232 ∧ x.fix.size ≤ 140737488351232) (h1 : s.call.size ≤ 140737488351232) (h2 : s.fix.size ≤ 140737488351232) : AC P 3 [.d (.sl 5 (xs.map ST.enc)), .d (.agg s.enc)] ((gd, p10G) :: hs) (fun r h => r = .d (.bool true)) := by
  have hyl : (xs.take 8).length ≤ 8 := by simp; omega
  refine AC.of 74 Tryd.func3 rfl rfl rfl ?_
  refine W.reg ?_
  refine XOps.loud rfl (L.boxn rfl rfl) ?_
  rintro _ _ ⟨b3, rfl, rfl⟩
  refine XOps.s rfl rfl rfl (Q.assign_d rfl) ?_
  refine XOps.nil ?_
  refine W.reg ?_
  (refine XOps.loud rfl (L.call rfl Tryd.func5 go5 rfl (snew_c ((b3, .cells (s.enc.map .d)) :: (gd, p10G) :: hs)) rfl) ?_; rintro _ _ ⟨_, rfl, b, f, rfl, rfl⟩)
  refine XOps.s rfl rfl rfl (Q.assign_ptr rfl) ?_
  refine XOps.nil ?_
  refine W.seq ?_
  refine W.heap ((gd, p10G) :: stH b ([]) f ((b3, .cells (s.enc.map .d)) :: hs)) (HLe.pick 3 rfl rfl (HLe.refl _)) ?_
  refine W.reg ?_
  refine XOps.s rfl rfl rfl (Q.move_ptr rfl) ?_
  refine XOps.s rfl rfl rfl (Q.eql_ptr ipt25 rfl rfl) ?_
  refine XOps.s rfl rfl rfl (Q.move_d rfl) ?_
  refine XOps.gs rfl rfl rfl rfl rfl rfl rfl (fun hg => Q.call rfl Tryd.func6 go6 rfl (sfact_c gd (stH b ([]) f ((b3, .cells (s.enc.map .d)) :: hs)))) ?_
  refine XOps.gs rfl rfl rfl rfl rfl rfl rfl (fun hg => Quiet.open 18 hg rfl (Q.not rfl)) ?_
  refine XOps.s rfl rfl rfl (Q.pick_or rfl rfl rfl (fun h => by first | (rw [h]; rfl) | (rw [hg, h]; rfl) | (simp [h, hg]; done))) ?_
  refine XOps.nil ?_
  refine W.cond rfl (fun hc20 => ?_) (fun hc20 => ?_)
  · try simp only [Bool.or_eq_true, Bool.or_eq_false_iff, Bool.and_eq_true, Bool.and_eq_false_iff, decide_eq_true_eq, decide_eq_false_iff_not, Bool.not_eq_true', Bool.not_eq_false', Int.not_lt, Int.not_le, List.length_map] at hc20
    exact absurd hc20 (by decide)
  · try simp only [Bool.or_eq_true, Bool.or_eq_false_iff, Bool.and_eq_true, Bool.and_eq_false_iff, decide_eq_true_eq, decide_eq_false_iff_not, Bool.not_eq_true', Bool.not_eq_false', Int.not_lt, Int.not_le, List.length_map] at hc20
    refine W.skip ?_
    refine W.reg ?_
    refine XOps.s rfl rfl rfl (Q.assign_nilsl rfl) ?_
    refine XOps.nil ?_
    refine W.ghost 6 5 (by decide) rfl rfl (fun v6 => ?_)
    refine W.seq ?_
    refine W.reg ?_
    refine XOps.s rfl rfl rfl (Q.move_d rfl) ?_
    refine XOps.s rfl rfl rfl (Q.move_d rfl) ?_
    refine XOps.s rfl rfl rfl (Q.len_sl isl22 rfl) ?_
    refine XOps.s rfl rfl rfl (Q.mini rfl rfl) ?_
    refine XOps.s rfl rfl rfl (Quiet.to (v' := .d (.sl 5 ((xs.take 8).map ST.enc))) (Q.cut_slm sl22 rfl rfl rfl (by omega) (by omega) (by simp; omega)) (fun _ _ _ _ h => by rw [take8] at h; exact h)) ?_
    refine XOps.s rfl rfl rfl (Q.len_sl isl22 rfl) ?_
    refine XOps.s rfl rfl rfl (Q.move_d rfl) ?_
    refine XOps.nil ?_
    refine W.block ?_
    refine W.loop (ι := Nat × List ST × Nat × Nat) (fun p => [(3, .ptr b3 0), (5, .ptr b 0), (6, .vs p.2.2.2 0 p.2.1.length 5), (25, .d (.sl 5 ((xs.take 8).map ST.enc))), (26, .d (.int .i64 (xs.take 8).length)), (27, .d (.int .i64 (p.1 : Nat)))]) (fun p => (p.2.2.2, .lst 5 (p.2.1.map ST.enc)) :: (gd, p10G) :: stH b (p.2.1) p.2.2.1 ((b3, .cells (s.enc.map .d)) :: hs)) (fun p => p.1 ≤ (xs.take 8).length ∧ Uni p.2.1 ∧ p.2.1.length ≤ p.1) (fun p => (xs.take 8).length - p.1) (0, [], f, v6) ?_ ?_ ?_ ?_
    · exact ⟨Nat.zero_le _, uni_nil, Nat.le_refl _⟩
    · exact ⟨by first | rfl | exact int_eq (by omega) | exact len_eq (by simp) | exact int_eq (by simp; done), by first | rfl | exact int_eq (by omega) | exact len_eq (by simp) | exact int_eq (by simp; done), by first | rfl | exact int_eq (by omega) | exact len_eq (by simp) | exact int_eq (by simp; done), by first | rfl | exact int_eq (by omega) | exact len_eq (by simp) | exact int_eq (by simp; done), by exact int_eq (by rw [List.length_map]), by first | rfl | exact int_eq (by omega) | exact len_eq (by simp) | exact int_eq (by simp; done), trivial⟩
    · exact HLe.refl _
    · rintro ⟨k, B, f, v⟩ ⟨hk, hu, hBl⟩
      dsimp only at hk hu hBl ⊢
      refine W.reg ?_
      refine XOps.s rfl rfl rfl (Q.lss rfl rfl) ?_
      refine XOps.nil ?_
      refine W.seq ?_
      refine W.cond rfl (fun hc28 => ?_) (fun hc28 => ?_)
      · try simp only [Bool.or_eq_true, Bool.or_eq_false_iff, Bool.and_eq_true, Bool.and_eq_false_iff, decide_eq_true_eq, decide_eq_false_iff_not, Bool.not_eq_true', Bool.not_eq_false', Int.not_lt, Int.not_le, List.length_map] at hc28
        obtain ⟨x, hx2⟩ : ∃ x, (xs.take 8)[k]? = some x := ⟨_, List.getElem?_eq_getElem (by omega)⟩
        have hxs := hx x (List.mem_of_mem_take (List.mem_of_getElem? hx2))
        refine W.skip ?_
        refine W.seq ?_
        refine W.block ?_
        refine W.reg ?_
        refine XOps.s rfl rfl rfl (Q.idx_sl sl22 (by decide) rfl rfl (by first | omega | (simp only [List.length_map]; omega)) (by first | exact map_at hx2 | exact map_at hx3)) ?_
        refine XOps.s rfl rfl rfl (Q.ld_dpn ag24 rfl rfl) ?_
        (refine XOps.loud rfl (L.alloc tz24 rfl rfl) ?_; rintro _ _ ⟨b8, rfl, rfl⟩)
        refine XOps.loud rfl (L.storen (k := 0) ag24 rfl rfl rfl rfl rfl) ?_
        rintro _ _ ⟨rfl, rfl⟩
        refine XOps.nil ?_
        refine W.reg ?_
        refine XOps.s rfl rfl rfl (Q.move_ptr rfl) ?_
        refine XOps.s rfl rfl rfl (Q.ld_ptrn (k := 0) ag24 rfl rfl rfl) ?_
        (refine XOps.loud rfl (L.call rfl Tryd.func7 go7 rfl (AC.le (put_c b B f x ((b8, .cells (x.enc.map .d)) :: (v, .lst 5 (B.map ST.enc)) :: (gd, p10G) :: (b3, .cells (s.enc.map .d)) :: hs) (by omega) hxs.1 hxs.2) (HLe.pick 3 rfl rfl (HLe.pick 3 rfl rfl (HLe.refl _)))) rfl) ?_; rintro _ _ ⟨_, rfl, f2, rfl, rfl⟩)
        refine XOps.s rfl rfl rfl (Q.eql rfl rfl) ?_
        refine XOps.nil ?_
        refine W.cond rfl (fun hc34 => ?_) (fun hc34 => ?_)
        · try simp only [Bool.or_eq_true, Bool.or_eq_false_iff, Bool.and_eq_true, Bool.and_eq_false_iff, decide_eq_true_eq, decide_eq_false_iff_not, Bool.not_eq_true', Bool.not_eq_false', Int.not_lt, Int.not_le, List.length_map] at hc34
          have h34 : pBE B x = 0 := by first | exact hc34 | (simpa using hc34)
          obtain ⟨p1, p2, p3⟩ := put_zero h34
          rw [p3]
          refine W.region ?_
          refine XOps.s rfl rfl rfl (Q.move_vs rfl) ?_
          refine XOps.s rfl rfl rfl (Q.ld_ptrn (k := 2) ag24 rfl rfl rfl) ?_
          refine XOps.s rfl rfl rfl (Q.bsl1n sl22 (by decide) zr22 rfl zrd22 rfl rfl (by decide)) ?_
          refine XOps.loud rfl (L.app (k := 3) ap22 rfl rfl (by first | rfl | (simp [List.length_map]; done)) rfl (by simp; omega) rfl) ?_
          rintro _ _ ⟨v38, rfl, rfl⟩
          refine XOps.s rfl rfl rfl (Q.assign_vs rfl) ?_
          refine XOps.nil ?_
          refine W.region ?_
          refine XOps.s rfl rfl rfl (Q.add rfl rfl (wi64 (by first | omega | (dsimp only; omega) | (simp only [List.length_map]; omega)) (by first | omega | (dsimp only; omega) | (simp only [List.length_map]; omega)))) ?_
          refine XOps.s rfl rfl rfl (Q.move_d rfl) ?_
          refine XOps.nil ?_
          refine ⟨(k + 1, B ++ [x], f2, v38), ?_, ?_, ?_, ?_⟩
          · exact ⟨by dsimp only; omega, uni_put hu p2, by dsimp only; simp; omega⟩
          · dsimp only; omega
          · exact ⟨by first | rfl | exact int_eq (by omega) | exact len_eq (by simp) | exact int_eq (by simp; done), by first | rfl | exact int_eq (by omega) | exact len_eq (by simp) | exact int_eq (by simp; done), by first | exact vs_eq (by dsimp only; simp) | rfl, by first | rfl | exact int_eq (by omega) | exact len_eq (by simp) | exact int_eq (by simp; done), by first | rfl | exact int_eq (by omega) | exact len_eq (by simp) | exact int_eq (by simp; done), by first | rfl | exact int_eq (by omega) | exact len_eq (by simp) | exact int_eq (by simp; done), trivial⟩
          · exact HLe.cons' (by simp [ST.enc]) (HLe.pick 3 rfl rfl (HLe.pick 0 rfl rfl (HLe.pick 0 rfl rfl (HLe.skip _ (HLe.refl _)))))
        · try simp only [Bool.or_eq_true, Bool.or_eq_false_iff, Bool.and_eq_true, Bool.and_eq_false_iff, decide_eq_true_eq, decide_eq_false_iff_not, Bool.not_eq_true', Bool.not_eq_false', Int.not_lt, Int.not_le, List.length_map] at hc34
          have h34 : pBE B x ≠ 0 := by first | exact hc34 | (simpa using hc34)
          have p3 : pBL B x = B := if_pos h34
          rw [p3]
          refine W.skip ?_
          refine W.region ?_
          refine XOps.s rfl rfl rfl (Q.add rfl rfl (wi64 (by first | omega | (dsimp only; omega) | (simp only [List.length_map]; omega)) (by first | omega | (dsimp only; omega) | (simp only [List.length_map]; omega)))) ?_
          refine XOps.s rfl rfl rfl (Q.move_d rfl) ?_
          refine XOps.nil ?_
          refine ⟨(k + 1, B, f2, v), ?_, ?_, ?_, ?_⟩
          · exact ⟨by dsimp only; omega, hu, by dsimp only; omega⟩
          · dsimp only; omega
          · exact ⟨by first | rfl | exact int_eq (by omega) | exact len_eq (by simp) | exact int_eq (by simp; done), by first | rfl | exact int_eq (by omega) | exact len_eq (by simp) | exact int_eq (by simp; done), by first | exact vs_eq (by dsimp only; simp) | rfl, by first | rfl | exact int_eq (by omega) | exact len_eq (by simp) | exact int_eq (by simp; done), by first | rfl | exact int_eq (by omega) | exact len_eq (by simp) | exact int_eq (by simp; done), by first | rfl | exact int_eq (by omega) | exact len_eq (by simp) | exact int_eq (by simp; done), trivial⟩
          · exact HLe.pick 3 rfl rfl (HLe.pick 3 rfl rfl (HLe.pick 0 rfl rfl (HLe.pick 0 rfl rfl (HLe.skip _ (HLe.refl _)))))
      · try simp only [Bool.or_eq_true, Bool.or_eq_false_iff, Bool.and_eq_true, Bool.and_eq_false_iff, decide_eq_true_eq, decide_eq_false_iff_not, Bool.not_eq_true', Bool.not_eq_false', Int.not_lt, Int.not_le, List.length_map] at hc28
        refine W.exit ?_
        refine W.reg ?_
        refine XOps.s rfl rfl rfl (Q.move_ptr rfl) ?_
        refine XOps.s rfl rfl rfl (Q.ld_ptrn (k := 4) ag24 rfl rfl rfl) ?_
        (refine XOps.loud rfl (L.call rfl Tryd.func8 go8 rfl (AC.le (change_c b B f s ((v, .lst 5 (B.map ST.enc)) :: (gd, p10G) :: (b3, .cells (s.enc.map .d)) :: hs) (by omega) h1 h2) (HLe.pick 2 rfl rfl (HLe.pick 2 rfl rfl (HLe.refl _)))) rfl) ?_; rintro _ _ ⟨_, rfl, rfl, rfl⟩)
        refine XOps.s rfl rfl rfl (Q.assign_d rfl) ?_
        refine XOps.nil ?_
        refine W.seq ?_
        refine W.freeze 6 2 rfl rfl (by simp) ?_
        refine W.reg ?_
        refine XOps.s rfl rfl rfl (Q.move_d rfl) ?_
        refine XOps.s rfl rfl rfl (Q.len_sl isl22 rfl) ?_
        refine XOps.s rfl rfl rfl (Q.move_d rfl) ?_
        refine XOps.nil ?_
        refine W.block ?_
        refine W.loop (ι := Nat) (fun k => [(3, .ptr b3 0), (5, .ptr b 0), (9, .d (.int .i64 (chgE B s))), (43, .d (.sl 5 (B.map ST.enc))), (44, .d (.int .i64 B.length)), (45, .d (.int .i64 (k : Nat)))]) (fun k => stH b (chgL B s) f ((gd, p10G) :: (b3, .cells (s.enc.map .d)) :: hs)) (fun k => k ≤ B.length) (fun k => B.length - k) 0 ?_ ?_ ?_ ?_
        · exact Nat.zero_le _
        · exact ⟨by first | rfl | exact int_eq (by omega) | exact len_eq (by simp) | exact int_eq (by simp; done), by first | rfl | exact int_eq (by omega) | exact len_eq (by simp) | exact int_eq (by simp; done), by first | rfl | exact int_eq (by omega) | exact len_eq (by simp) | exact int_eq (by simp; done), by first | rfl | exact int_eq (by omega) | exact len_eq (by simp) | exact int_eq (by simp; done), by exact int_eq (by rw [List.length_map]), by first | rfl | exact int_eq (by omega) | exact len_eq (by simp) | exact int_eq (by simp; done), trivial⟩
        · exact HLe.refl _
        · rintro k hk2
          try dsimp only
          refine W.reg ?_
          refine XOps.s rfl rfl rfl (Q.lss rfl rfl) ?_
          refine XOps.nil ?_
          refine W.seq ?_
          refine W.cond rfl (fun hc46 => ?_) (fun hc46 => ?_)
          · try simp only [Bool.or_eq_true, Bool.or_eq_false_iff, Bool.and_eq_true, Bool.and_eq_false_iff, decide_eq_true_eq, decide_eq_false_iff_not, Bool.not_eq_true', Bool.not_eq_false', Int.not_lt, Int.not_le, List.length_map] at hc46
            obtain ⟨x, hx3⟩ : ∃ x, B[k]? = some x := ⟨_, List.getElem?_eq_getElem (by omega)⟩
            obtain ⟨hg1, hg2⟩ := changed (s := s) hu hx3
            refine W.skip ?_
            refine W.seq ?_
            refine W.block ?_
            refine W.reg ?_
            refine XOps.s rfl rfl rfl (Q.idx_sl sl22 (by decide) rfl rfl (by first | omega | (simp only [List.length_map]; omega)) (by first | exact map_at hx2 | exact map_at hx3)) ?_
            refine XOps.s rfl rfl rfl (Q.ld_dpn ag24 rfl rfl) ?_
            (refine XOps.loud rfl (L.alloc tz24 rfl rfl) ?_; rintro _ _ ⟨b11, rfl, rfl⟩)
            refine XOps.loud rfl (L.storen (k := 0) ag24 rfl rfl rfl rfl rfl) ?_
            rintro _ _ ⟨rfl, rfl⟩
            refine XOps.nil ?_
            refine W.reg ?_
            refine XOps.s rfl rfl rfl (Q.move_ptr rfl) ?_
            refine XOps.s rfl rfl rfl (Q.fld_ptr fl24_0 rfl) ?_
            refine XOps.s rfl rfl rfl (Q.ld_ptr (k := 0) ag9 rfl rfl rfl) ?_
            (refine XOps.loud rfl (L.call rfl Tryd.func9 go9 rfl (AC.le (get_c b (chgL B s) f x.call ((b11, .cells (x.enc.map .d)) :: (gd, p10G) :: (b3, .cells (s.enc.map .d)) :: hs) (by rw [chg_len]; omega)) (HLe.pick 1 rfl rfl (HLe.pick 1 rfl rfl (HLe.refl _)))) rfl) ?_; rintro _ _ ⟨_, rfl, rfl, rfl⟩)
            refine XOps.s rfl rfl rfl (Q.move_tup rfl) ?_
            refine XOps.s rfl rfl rfl (Q.extract rfl rfl) ?_
            refine XOps.s rfl rfl rfl (Q.extract rfl rfl) ?_
            (refine XOps.loud rfl (L.alloc tz24 rfl rfl) ?_; rintro _ _ ⟨b12, rfl, rfl⟩)
            refine XOps.loud rfl (L.storen (k := 0) ag24 rfl rfl rfl rfl rfl) ?_
            rintro _ _ ⟨rfl, rfl⟩
            refine XOps.s rfl rfl rfl (Q.assign_d rfl) ?_
            refine XOps.nil ?_
            rw [hg1]
            refine W.seq ?_
            refine W.reg ?_
            refine XOps.s rfl rfl rfl (Q.fld_ptr fl24_0 rfl) ?_
            refine XOps.s rfl rfl rfl (Q.ld_ptr (k := 3) ag9 rfl rfl rfl) ?_
            refine XOps.s rfl rfl rfl (Q.fld_ptr fl24_0 rfl) ?_
            refine XOps.s rfl rfl rfl (Q.ld_ptr (k := 5) ag9 rfl rfl rfl) ?_
            refine XOps.s rfl rfl rfl (Q.eql_str rfl rfl) ?_
            refine XOps.s rfl rfl rfl (Q.move_d rfl) ?_
            refine XOps.gs rfl rfl rfl rfl rfl rfl rfl (fun hg => Q.move_d rfl) ?_
            refine XOps.gs rfl rfl rfl rfl rfl rfl rfl (fun hg => Quiet.open 62 hg rfl (Q.eql rfl rfl)) ?_
            refine XOps.s rfl rfl rfl (Q.pick_and rfl rfl rfl (fun h => by first | (rw [h]; rfl) | (rw [hg, h]; rfl) | (simp [h, hg]; done))) ?_
            refine XOps.nil ?_
            refine W.cond rfl (fun hc64 => ?_) (fun hc64 => ?_)
            · try simp only [Bool.or_eq_true, Bool.or_eq_false_iff, Bool.and_eq_true, Bool.and_eq_false_iff, decide_eq_true_eq, decide_eq_false_iff_not, Bool.not_eq_true', Bool.not_eq_false', Int.not_lt, Int.not_le, List.length_map] at hc64
              rw [if_pos ⟨by simpa [seq] using hc64.1, hc64.2⟩] at hg2
              rw [hg2]
              refine W.region ?_
              refine XOps.s rfl rfl rfl (Q.ld_ptrn (k := 5) ag24 rfl rfl rfl) ?_
              refine XOps.loud rfl (L.storen (k := 3) ag24 rfl rfl rfl rfl rfl) ?_
              rintro _ _ ⟨rfl, rfl⟩
              refine XOps.nil ?_
              refine W.reg ?_
              refine XOps.s rfl rfl rfl (Q.move_d rfl) ?_
              refine XOps.s rfl rfl rfl (Q.neq rfl rfl) ?_
              refine XOps.s rfl rfl rfl (Q.move_d rfl) ?_
              refine XOps.gs rfl rfl rfl rfl rfl rfl rfl (fun hg => Q.ld_ptrn (k := 0) ag24 rfl rfl rfl) ?_
              refine XOps.gs rfl rfl rfl rfl rfl rfl rfl (fun hg => Q.ld_ptrn (k := 3) ag24 rfl rfl rfl) ?_
              refine XOps.gs rfl rfl rfl rfl rfl rfl rfl (fun hg => Quiet.open 69 hg rfl (Quiet.open 70 hg rfl (Q.neq_agg eqt24 rfl rfl rfl rfl rfl))) ?_
              refine XOps.s rfl rfl rfl (Q.pick_or rfl rfl rfl (fun h => by first | (rw [h]; rfl) | (rw [hg, h]; rfl) | (simp [h, hg]; done))) ?_
              refine XOps.nil ?_
              refine W.cond rfl (fun hc72 => ?_) (fun hc72 => ?_)
              · try simp only [Bool.or_eq_true, Bool.or_eq_false_iff, Bool.and_eq_true, Bool.and_eq_false_iff, decide_eq_true_eq, decide_eq_false_iff_not, Bool.not_eq_true', Bool.not_eq_false', Int.not_lt, Int.not_le, List.length_map] at hc72
                exfalso
                have hs1 := same_st s s
                have hs2 := same_st x x
                rw [decide_eq_true rfl] at hs1 hs2
                rcases hc72 with h | h
                · first | exact h trivial | exact h rfl
                · first | exact absurd (hs1.symm.trans h) (by decide) | exact absurd (hs2.symm.trans h) (by decide) --done
              · try simp only [Bool.or_eq_true, Bool.or_eq_false_iff, Bool.and_eq_true, Bool.and_eq_false_iff, decide_eq_true_eq, decide_eq_false_iff_not, Bool.not_eq_true', Bool.not_eq_false', Int.not_lt, Int.not_le, List.length_map] at hc72
                refine W.skip ?_
                refine W.region ?_
                refine XOps.s rfl rfl rfl (Q.add rfl rfl (wi64 (by first | omega | (dsimp only; omega) | (simp only [List.length_map]; omega)) (by first | omega | (dsimp only; omega) | (simp only [List.length_map]; omega)))) ?_
                refine XOps.s rfl rfl rfl (Q.move_d rfl) ?_
                refine XOps.nil ?_
                refine ⟨k + 1, ?_, ?_, ?_, ?_⟩
                · omega
                · omega
                · exact ⟨by first | rfl | exact int_eq (by omega) | exact len_eq (by simp) | exact int_eq (by simp; done), by first | rfl | exact int_eq (by omega) | exact len_eq (by simp) | exact int_eq (by simp; done), by first | rfl | exact int_eq (by omega) | exact len_eq (by simp) | exact int_eq (by simp; done), by first | rfl | exact int_eq (by omega) | exact len_eq (by simp) | exact int_eq (by simp; done), by first | rfl | exact int_eq (by omega) | exact len_eq (by simp) | exact int_eq (by simp; done), by first | rfl | exact int_eq (by omega) | exact len_eq (by simp) | exact int_eq (by simp; done), trivial⟩
                · exact HLe.pick 1 rfl rfl (HLe.pick 1 rfl rfl (HLe.skip _ (HLe.skip _ (HLe.refl _))))
            · try simp only [Bool.or_eq_true, Bool.or_eq_false_iff, Bool.and_eq_true, Bool.and_eq_false_iff, decide_eq_true_eq, decide_eq_false_iff_not, Bool.not_eq_true', Bool.not_eq_false', Int.not_lt, Int.not_le, List.length_map] at hc64
              have hno : ¬ (seq x.call s.call = true ∧ chgE B s = 0) := by
                rintro ⟨a, b⟩
                rcases hc64 with h | h
                · unfold seq at a; rw [a] at h; cases h
                · exact h b
              rw [if_neg hno] at hg2
              rw [hg2]
              refine W.skip ?_
              refine W.reg ?_
              refine XOps.s rfl rfl rfl (Q.move_d rfl) ?_
              refine XOps.s rfl rfl rfl (Q.neq rfl rfl) ?_
              refine XOps.s rfl rfl rfl (Q.move_d rfl) ?_
              refine XOps.gs rfl rfl rfl rfl rfl rfl rfl (fun hg => Q.ld_ptrn (k := 0) ag24 rfl rfl rfl) ?_
              refine XOps.gs rfl rfl rfl rfl rfl rfl rfl (fun hg => Q.ld_ptrn (k := 3) ag24 rfl rfl rfl) ?_
              refine XOps.gs rfl rfl rfl rfl rfl rfl rfl (fun hg => Quiet.open 69 hg rfl (Quiet.open 70 hg rfl (Q.neq_agg eqt24 rfl rfl rfl rfl rfl))) ?_
              refine XOps.s rfl rfl rfl (Q.pick_or rfl rfl rfl (fun h => by first | (rw [h]; rfl) | (rw [hg, h]; rfl) | (simp [h, hg]; done))) ?_
              refine XOps.nil ?_
              refine W.cond rfl (fun hc72 => ?_) (fun hc72 => ?_)
              · try simp only [Bool.or_eq_true, Bool.or_eq_false_iff, Bool.and_eq_true, Bool.and_eq_false_iff, decide_eq_true_eq, decide_eq_false_iff_not, Bool.not_eq_true', Bool.not_eq_false', Int.not_lt, Int.not_le, List.length_map] at hc72
                exfalso
                have hs1 := same_st s s
                have hs2 := same_st x x
                rw [decide_eq_true rfl] at hs1 hs2
                rcases hc72 with h | h
                · first | exact h trivial | exact h rfl
                · first | exact absurd (hs1.symm.trans h) (by decide) | exact absurd (hs2.symm.trans h) (by decide) --done
              · try simp only [Bool.or_eq_true, Bool.or_eq_false_iff, Bool.and_eq_true, Bool.and_eq_false_iff, decide_eq_true_eq, decide_eq_false_iff_not, Bool.not_eq_true', Bool.not_eq_false', Int.not_lt, Int.not_le, List.length_map] at hc72
                refine W.skip ?_
                refine W.region ?_
                refine XOps.s rfl rfl rfl (Q.add rfl rfl (wi64 (by first | omega | (dsimp only; omega) | (simp only [List.length_map]; omega)) (by first | omega | (dsimp only; omega) | (simp only [List.length_map]; omega)))) ?_
                refine XOps.s rfl rfl rfl (Q.move_d rfl) ?_
                refine XOps.nil ?_
                refine ⟨k + 1, ?_, ?_, ?_, ?_⟩
                · omega
                · omega
                · exact ⟨by first | rfl | exact int_eq (by omega) | exact len_eq (by simp) | exact int_eq (by simp; done), by first | rfl | exact int_eq (by omega) | exact len_eq (by simp) | exact int_eq (by simp; done), by first | rfl | exact int_eq (by omega) | exact len_eq (by simp) | exact int_eq (by simp; done), by first | rfl | exact int_eq (by omega) | exact len_eq (by simp) | exact int_eq (by simp; done), by first | rfl | exact int_eq (by omega) | exact len_eq (by simp) | exact int_eq (by simp; done), by first | rfl | exact int_eq (by omega) | exact len_eq (by simp) | exact int_eq (by simp; done), trivial⟩
                · exact HLe.pick 1 rfl rfl (HLe.pick 1 rfl rfl (HLe.skip _ (HLe.skip _ (HLe.refl _))))
          · try simp only [Bool.or_eq_true, Bool.or_eq_false_iff, Bool.and_eq_true, Bool.and_eq_false_iff, decide_eq_true_eq, decide_eq_false_iff_not, Bool.not_eq_true', Bool.not_eq_false', Int.not_lt, Int.not_le, List.length_map] at hc46
            refine W.exit ?_
            refine W.reg ?_
            refine XOps.s rfl rfl rfl (Q.assign_d rfl) ?_
            refine XOps.nil ?_
            refine W.ret ?_
            refine ⟨_, _, rfl, HLe.refl _, rfl⟩
end Go.Proofs.YtlfapbkaknikpaaDoorA
