/- Bays of package strip. -/
import Derived.Test.YtlfapbkaknikpaaDoorFrB
import Derived.Test.YtlfapbkaknikpaaDoorSpA
import Derived.Test.YtlfapbkaknikpaaDoorSt2
import Derived.Test.YtlfapbkaknikpaaDoorSt0
import Derived.Test.YtlfapbkaknikpaaDoorStrA
import Derived.Test.YtlfapbkaknikpaaDoorFrC
set_option linter.unusedVariables false
set_option linter.unusedSimpArgs false
set_option linter.unnecessarySimpa false
namespace Go.Proofs.YtlfapbkaknikpaaDoorA.FSpC
open Go
theorem ag22 : tAgg P 22 = some ((false, 1)) := by kernel_rfl
theorem ag24 : tAgg P 24 = some ((true, 5)) := by kernel_rfl
theorem ag3 : tAgg P 3 = some ((false, 1)) := by kernel_rfl
theorem ag9 : tAgg P 9 = some ((false, 1)) := by kernel_rfl
theorem ap22 : tApp P 22 = some ((5, 56)) := by kernel_rfl
theorem fl24_0 : tFld P 24 0 = some (0) := by kernel_rfl
theorem fl24_2 : tFld P 24 2 = some (2) := by kernel_rfl
theorem fl24_4 : tFld P 24 4 = some (4) := by kernel_rfl
theorem fl44_0 : tFld P 44 0 = some (0) := by kernel_rfl
theorem go21 : callGo Go.Proofs.Tryd.f21 = true := by kernel_rfl
theorem go22 : callGo Go.Proofs.Tryd.f22 = true := by kernel_rfl
theorem go23 : callGo Go.Proofs.Tryd.f23 = true := by kernel_rfl
theorem go24 : callGo Go.Proofs.Tryd.f24 = true := by kernel_rfl
theorem go25 : callGo Go.Proofs.Tryd.f25 = true := by kernel_rfl
theorem go38 : callGo Go.Proofs.Tryd.f38 = true := by kernel_rfl
theorem isl22 : isSl P 22 = true := by kernel_rfl
theorem isl33 : isSl P 33 = true := by kernel_rfl
theorem sl22 : tSl P 22 = some (5) := by kernel_rfl
theorem sl33 : tSl P 33 = some (1) := by kernel_rfl
theorem tz24 : tZero P 24 = some ([.string ⟨#[]⟩, .string ⟨#[]⟩, .int .i64 0, .int .i64 0, .int .i64 0]) := by kernel_rfl
theorem zr22 : tZrow P 22 = some ([.string ⟨#[]⟩, .string ⟨#[]⟩, .int .i64 0, .int .i64 0, .int .i64 0]) := by kernel_rfl
theorem zr33 : tZrow P 33 = some ([.int .i64 0]) := by kernel_rfl
theorem zrd22 : cellsD [.string ⟨#[]⟩, .string ⟨#[]⟩, .int .i64 0, .int .i64 0, .int .i64 0] = some ([.str ⟨#[]⟩, .str ⟨#[]⟩, .int .i64 0, .int .i64 0, .int .i64 0]) := rfl
theorem zrd33 : cellsD [.int .i64 0] = some ([.int .i64 0]) := rfl
end Go.Proofs.YtlfapbkaknikpaaDoorA.FSpC
namespace Go.Proofs.YtlfapbkaknikpaaDoorA
open Go FSpC
attribute [local irreducible] XOps Quiet Loud W AC GQ DT
set_option maxHeartbeats 1000000 in
set_option maxRecDepth 100000 in
theorem nan_c (x : Int) (hs : Hp) : AC P 38 [.d (.int .i64 x)] hs (fun r h => r = .d (.bool false) ∧ h = hs) := by
  refine AC.of 6 Tryd.func38 rfl rfl rfl ?_
  refine W.reg ?_
  refine XOps.s rfl rfl rfl (Q.assign_d rfl) ?_
  refine XOps.nil ?_
  refine W.reg ?_
  refine XOps.s rfl rfl rfl (Q.move_d rfl) ?_
  refine XOps.s rfl rfl rfl (Q.move_d rfl) ?_
  refine XOps.s rfl rfl rfl (Q.neq rfl rfl) ?_
  refine XOps.s rfl rfl rfl (Q.assign_d rfl) ?_
  refine XOps.nil ?_
  refine W.ret ?_
  refine ⟨_, hs, rfl, HLe.refl _, ?_, rfl⟩
  show AV.d (.bool _) = _
  simp

set_option maxHeartbeats 1000000 in
set_option maxRecDepth 100000 in
theorem cmpI_c (x y : Int) (hs : Hp) : AC P 24 [.d (.int .i64 x), .d (.int .i64 y)] hs (fun r h => r = .d (.int .i64 (cmpI x y)) ∧ h = hs) := by
  refine AC.of 20 Tryd.func24 rfl rfl rfl ?_
  refine W.reg ?_
  refine XOps.s rfl rfl rfl (Q.assign_d rfl) ?_
  refine XOps.nil ?_
  refine W.reg ?_
  refine XOps.s rfl rfl rfl (Q.move_d rfl) ?_
  refine XOps.s rfl rfl rfl (Q.call rfl Tryd.func38 go38 rfl (nan_c x _)) ?_
  refine XOps.s rfl rfl rfl (Q.assign_d rfl) ?_
  refine XOps.nil ?_
  refine W.reg ?_
  refine XOps.s rfl rfl rfl (Q.move_d rfl) ?_
  refine XOps.s rfl rfl rfl (Q.call rfl Tryd.func38 go38 rfl (nan_c y _)) ?_
  refine XOps.s rfl rfl rfl (Q.assign_d rfl) ?_
  refine XOps.nil ?_
  refine W.seq ?_
  refine W.reg ?_
  refine XOps.s rfl rfl rfl (Q.move_d rfl) ?_
  refine XOps.nil ?_
  refine W.cond_f rfl ?_
  refine W.skip ?_
  refine W.seq ?_
  refine W.reg ?_
  refine XOps.s rfl rfl rfl (Q.move_d rfl) ?_
  refine XOps.nil ?_
  refine W.cond_f rfl ?_
  refine W.skip ?_
  refine W.seq ?_
  refine W.reg ?_
  refine XOps.s rfl rfl rfl (Q.move_d rfl) ?_
  refine XOps.s rfl rfl rfl (Q.move_d rfl) ?_
  refine XOps.s rfl rfl rfl (Q.lss rfl rfl) ?_
  refine XOps.nil ?_
  refine W.cond rfl (fun hc16 => ?_) (fun hc16 => ?_)
  · try simp only [Bool.or_eq_true, Bool.or_eq_false_iff, Bool.and_eq_true, Bool.and_eq_false_iff, decide_eq_true_eq, decide_eq_false_iff_not, Bool.not_eq_true', Bool.not_eq_false', Int.not_lt, Int.not_le, List.length_map] at hc16
    have hE : cmpI x y = -1 := if_pos (by omega)
    rw [hE]
    refine W.reg ?_
    refine XOps.s rfl rfl rfl (Q.assign_d rfl) ?_
    refine XOps.nil ?_
    refine W.ret ?_
    exact ⟨_, hs, rfl, HLe.refl _, rfl, rfl⟩
  · try simp only [Bool.or_eq_true, Bool.or_eq_false_iff, Bool.and_eq_true, Bool.and_eq_false_iff, decide_eq_true_eq, decide_eq_false_iff_not, Bool.not_eq_true', Bool.not_eq_false', Int.not_lt, Int.not_le, List.length_map] at hc16
    refine W.skip ?_
    refine W.seq ?_
    refine W.reg ?_
    refine XOps.s rfl rfl rfl (Q.move_d rfl) ?_
    refine XOps.s rfl rfl rfl (Q.move_d rfl) ?_
    refine XOps.s rfl rfl rfl (Q.gtr rfl rfl) ?_
    refine XOps.nil ?_
    refine W.cond rfl (fun hc19 => ?_) (fun hc19 => ?_)
    · try simp only [Bool.or_eq_true, Bool.or_eq_false_iff, Bool.and_eq_true, Bool.and_eq_false_iff, decide_eq_true_eq, decide_eq_false_iff_not, Bool.not_eq_true', Bool.not_eq_false', Int.not_lt, Int.not_le, List.length_map] at hc19
      have hE : cmpI x y = 1 := by unfold cmpI; rw [if_neg (by omega), if_pos (by omega)]
      rw [hE]
      refine W.reg ?_
      refine XOps.s rfl rfl rfl (Q.assign_d rfl) ?_
      refine XOps.nil ?_
      refine W.ret ?_
      exact ⟨_, hs, rfl, HLe.refl _, rfl, rfl⟩
    · try simp only [Bool.or_eq_true, Bool.or_eq_false_iff, Bool.and_eq_true, Bool.and_eq_false_iff, decide_eq_true_eq, decide_eq_false_iff_not, Bool.not_eq_true', Bool.not_eq_false', Int.not_lt, Int.not_le, List.length_map] at hc19
      have hE : cmpI x y = 0 := by unfold cmpI; rw [if_neg (by omega), if_neg (by omega)]
      rw [hE]
      refine W.skip ?_
      refine W.reg ?_
      refine XOps.s rfl rfl rfl (Q.assign_d rfl) ?_
      refine XOps.nil ?_
      refine W.ret ?_
      exact ⟨_, hs, rfl, HLe.refl _, rfl, rfl⟩

set_option maxHeartbeats 1000000 in
set_option maxRecDepth 100000 in
theorem or_c (u v : Int) (hs : Hp) : AC P 23 [.d (.sl 1 [[.int .i64 u], [.int .i64 v]])] hs (fun r h => r = .d (.int .i64 (if u ≠ 0 then u else v)) ∧ h = hs) := by
  refine AC.of 18 Tryd.func23 rfl rfl rfl ?_
  refine W.reg ?_
  refine XOps.s rfl rfl rfl (Q.assign_d rfl) ?_
  refine XOps.nil ?_
  refine W.reg ?_
  refine XOps.s rfl rfl rfl (Q.assign_d rfl) ?_
  refine XOps.nil ?_
  refine W.seq ?_
  refine W.reg ?_
  refine XOps.s rfl rfl rfl (Q.move_d rfl) ?_
  refine XOps.s rfl rfl rfl (Q.len_sl isl33 rfl) ?_
  refine XOps.s rfl rfl rfl (Q.move_d rfl) ?_
  refine XOps.nil ?_
  refine W.block ?_
  refine W.loop (ι := Nat) (fun z => [(3, .d (.int .i64 0)), (6, .d (.sl 1 [[.int .i64 u], [.int .i64 v]])), (7, .d (.int .i64 2)), (8, .d (.int .i64 (z : Nat)))]) (fun z => hs) (fun z => z ≤ 2 ∧ (0 < z → u = 0) ∧ (1 < z → v = 0)) (fun z => 2 - z) 0 ?_ ?_ ?_ ?_
  · exact ⟨by omega, by omega, by omega⟩
  · exact ⟨by first | rfl | exact int_eq (by omega) | exact len_eq (by simp) | exact int_eq (by simp; done), by first | rfl | exact int_eq (by omega) | exact len_eq (by simp) | exact int_eq (by simp; done), by rfl, by first | rfl | exact int_eq (by omega) | exact len_eq (by simp) | exact int_eq (by simp; done), trivial⟩
  · exact HLe.refl _
  · rintro z hI
    try dsimp only
    rcases (show z = 0 ∨ z = 1 ∨ z = 2 by omega) with rfl | rfl | rfl
    · skip
      refine W.reg ?_
      refine XOps.s rfl rfl rfl (Q.lss rfl rfl) ?_
      refine XOps.nil ?_
      refine W.seq ?_
      refine W.cond_t rfl ?_
      refine W.skip ?_
      refine W.seq ?_
      refine W.block ?_
      refine W.reg ?_
      refine XOps.s rfl rfl rfl (Q.idx_sl sl33 (by decide) rfl rfl (by first | omega | (simp only [List.length_map]; omega)) (by rfl)) ?_
      refine XOps.s rfl rfl rfl (Q.ld_dp ag3 rfl rfl) ?_
      refine XOps.s rfl rfl rfl (Q.assign_d rfl) ?_
      refine XOps.nil ?_
      refine W.reg ?_
      refine XOps.s rfl rfl rfl (Q.move_d rfl) ?_
      refine XOps.s rfl rfl rfl (Q.move_d rfl) ?_
      refine XOps.s rfl rfl rfl (Q.neq rfl rfl) ?_
      refine XOps.nil ?_
      refine W.cond rfl (fun hc14 => ?_) (fun hc14 => ?_)
      · try simp only [Bool.or_eq_true, Bool.or_eq_false_iff, Bool.and_eq_true, Bool.and_eq_false_iff, decide_eq_true_eq, decide_eq_false_iff_not, Bool.not_eq_true', Bool.not_eq_false', Int.not_lt, Int.not_le, List.length_map] at hc14
        refine W.reg ?_
        refine XOps.s rfl rfl rfl (Q.move_d rfl) ?_
        refine XOps.s rfl rfl rfl (Q.assign_d rfl) ?_
        refine XOps.nil ?_
        refine W.ret ?_
        refine ⟨_, hs, rfl, HLe.refl _, ?_, rfl⟩
        (rw [if_pos (show u ≠ 0 from hc14)]; rfl)
      · try simp only [Bool.or_eq_true, Bool.or_eq_false_iff, Bool.and_eq_true, Bool.and_eq_false_iff, decide_eq_true_eq, decide_eq_false_iff_not, Bool.not_eq_true', Bool.not_eq_false', Int.not_lt, Int.not_le, List.length_map] at hc14
        first | have h14 : u = 0 := by simpa using hc14 | have h14 : v = 0 := by simpa using hc14
        refine W.skip ?_
        refine W.region ?_
        refine XOps.s rfl rfl rfl (Q.add rfl rfl (wi64 (by first | omega | (dsimp only; omega) | (simp only [List.length_map]; omega)) (by first | omega | (dsimp only; omega) | (simp only [List.length_map]; omega)))) ?_
        refine XOps.s rfl rfl rfl (Q.move_d rfl) ?_
        refine XOps.nil ?_
        refine ⟨1, ?_, ?_, ?_, ?_⟩
        · exact ⟨by omega, by omega, by omega⟩
        · omega
        · exact ⟨by first | rfl | exact int_eq (by omega) | exact len_eq (by simp) | exact int_eq (by simp; done), by first | rfl | exact int_eq (by omega) | exact len_eq (by simp) | exact int_eq (by simp; done), by first | rfl | exact int_eq (by omega) | exact len_eq (by simp) | exact int_eq (by simp; done), by first | rfl | exact int_eq (by omega) | exact len_eq (by simp) | exact int_eq (by simp; done), trivial⟩
        · exact HLe.refl _
    · skip
      refine W.reg ?_
      refine XOps.s rfl rfl rfl (Q.lss rfl rfl) ?_
      refine XOps.nil ?_
      refine W.seq ?_
      refine W.cond_t rfl ?_
      refine W.skip ?_
      refine W.seq ?_
      refine W.block ?_
      refine W.reg ?_
      refine XOps.s rfl rfl rfl (Q.idx_sl sl33 (by decide) rfl rfl (by first | omega | (simp only [List.length_map]; omega)) (by rfl)) ?_
      refine XOps.s rfl rfl rfl (Q.ld_dp ag3 rfl rfl) ?_
      refine XOps.s rfl rfl rfl (Q.assign_d rfl) ?_
      refine XOps.nil ?_
      refine W.reg ?_
      refine XOps.s rfl rfl rfl (Q.move_d rfl) ?_
      refine XOps.s rfl rfl rfl (Q.move_d rfl) ?_
      refine XOps.s rfl rfl rfl (Q.neq rfl rfl) ?_
      refine XOps.nil ?_
      refine W.cond rfl (fun hc14 => ?_) (fun hc14 => ?_)
      · try simp only [Bool.or_eq_true, Bool.or_eq_false_iff, Bool.and_eq_true, Bool.and_eq_false_iff, decide_eq_true_eq, decide_eq_false_iff_not, Bool.not_eq_true', Bool.not_eq_false', Int.not_lt, Int.not_le, List.length_map] at hc14
        refine W.reg ?_
        refine XOps.s rfl rfl rfl (Q.move_d rfl) ?_
        refine XOps.s rfl rfl rfl (Q.assign_d rfl) ?_
        refine XOps.nil ?_
        refine W.ret ?_
        refine ⟨_, hs, rfl, HLe.refl _, ?_, rfl⟩
        (rw [if_neg (show ¬ u ≠ 0 from fun h => h (hI.2.1 (by omega)))]; rfl)
      · try simp only [Bool.or_eq_true, Bool.or_eq_false_iff, Bool.and_eq_true, Bool.and_eq_false_iff, decide_eq_true_eq, decide_eq_false_iff_not, Bool.not_eq_true', Bool.not_eq_false', Int.not_lt, Int.not_le, List.length_map] at hc14
        first | have h14 : u = 0 := by simpa using hc14 | have h14 : v = 0 := by simpa using hc14
        refine W.skip ?_
        refine W.region ?_
        refine XOps.s rfl rfl rfl (Q.add rfl rfl (wi64 (by first | omega | (dsimp only; omega) | (simp only [List.length_map]; omega)) (by first | omega | (dsimp only; omega) | (simp only [List.length_map]; omega)))) ?_
        refine XOps.s rfl rfl rfl (Q.move_d rfl) ?_
        refine XOps.nil ?_
        refine ⟨2, ?_, ?_, ?_, ?_⟩
        · exact ⟨by omega, by omega, by omega⟩
        · omega
        · exact ⟨by first | rfl | exact int_eq (by omega) | exact len_eq (by simp) | exact int_eq (by simp; done), by first | rfl | exact int_eq (by omega) | exact len_eq (by simp) | exact int_eq (by simp; done), by first | rfl | exact int_eq (by omega) | exact len_eq (by simp) | exact int_eq (by simp; done), by first | rfl | exact int_eq (by omega) | exact len_eq (by simp) | exact int_eq (by simp; done), trivial⟩
        · exact HLe.refl _
    · skip
      refine W.reg ?_
      refine XOps.s rfl rfl rfl (Q.lss rfl rfl) ?_
      refine XOps.nil ?_
      refine W.seq ?_
      refine W.cond_f rfl ?_
      refine W.exit ?_
      refine W.reg ?_
      refine XOps.s rfl rfl rfl (Q.move_d rfl) ?_
      refine XOps.s rfl rfl rfl (Q.assign_d rfl) ?_
      refine XOps.nil ?_
      refine W.ret ?_
      refine ⟨_, hs, rfl, HLe.refl _, ?_, rfl⟩
      (have h1 : u = 0 := hI.2.1 (by omega); have h2 : v = 0 := hI.2.2 (by omega); subst h1 h2; rfl)

set_option maxHeartbeats 1000000 in
set_option maxRecDepth 100000 in
theorem cf_c (x y : ST) (hs : Hp) : AC P 22 [.d (.agg x.enc), .d (.agg y.enc)] hs (fun r h => r = .d (.int .i64 (cfS x y)) ∧ h = hs) := by
  refine AC.of 17 Tryd.func22 rfl rfl rfl ?_
  refine W.reg ?_
  refine XOps.loud rfl (L.boxn rfl rfl) ?_
  rintro _ _ ⟨b2, rfl, rfl⟩
  refine XOps.loud rfl (L.boxn rfl rfl) ?_
  rintro _ _ ⟨b3, rfl, rfl⟩
  refine XOps.s rfl rfl rfl (Q.assign_d rfl) ?_
  refine XOps.nil ?_
  refine W.drawreg 12 follows (by kernel_rfl) ?_
  refine Chain.cons _ (GQ.q rfl (Q.fld_ptr fl24_2 rfl)) rfl ?_
  refine Chain.cons _ (GQ.q rfl (Q.ld_ptr (k := 1) ag3 rfl rfl rfl)) rfl ?_
  refine Chain.cons _ (GQ.q rfl (Q.fld_ptr fl24_2 rfl)) rfl ?_
  refine Chain.cons _ (GQ.q rfl (Q.ld_ptr (k := 0) ag3 rfl rfl rfl)) rfl ?_
  refine Chain.cons _ (GQ.q rfl (Q.call rfl Tryd.func24 go24 rfl (cmpI_c x.tm y.tm _))) rfl ?_
  refine Chain.cons _ (GQ.q rfl (Q.fld_ptr fl24_0 rfl)) rfl ?_
  refine Chain.cons _ (GQ.q rfl (Q.ld_ptr (k := 1) ag9 rfl rfl rfl)) rfl ?_
  refine Chain.cons _ (GQ.q rfl (Q.fld_ptr fl24_0 rfl)) rfl ?_
  refine Chain.cons _ (GQ.q rfl (Q.ld_ptr (k := 0) ag9 rfl rfl rfl)) rfl ?_
  refine Chain.cons _ (GQ.q rfl (Q.call rfl Tryd.func25 go25 rfl (compare_c x.call y.call _))) rfl ?_
  refine Chain.cons _ (GQ.q rfl (Q.bsl sl33 (by decide) zr33 rfl zrd33 (by decide) rfl rfl)) rfl ?_
  refine Chain.cons _ (GQ.q rfl (Q.call rfl Tryd.func23 go23 rfl (or_c (cmpI x.tm y.tm) (cmpB x.call y.call) _))) rfl ?_
  refine Chain.nil ?_
  refine XOps.s rfl rfl rfl (Q.assign_d rfl) ?_
  refine XOps.nil ?_
  refine W.ret ?_
  exact ⟨_, hs, rfl, HLe.skip _ (HLe.skip _ (HLe.refl _)), rfl, rfl⟩

theorem st_plain (x : ST) : ∀ d ∈ x.enc, d.plain = true := by
  intro d hd
  unfold ST.enc at hd
  simp only [List.mem_cons, List.mem_nil_iff, or_false] at hd
  rcases hd with rfl | rfl | rfl | rfl | rfl <;> rfl
theorem sort_c (l : List ST) (hn : l.length ≤ 1000) (id : Nat) (hs : Hp) : AC P 21 [.vs id 0 l.length 5, .fn 22 []] ((id, .lst 5 (l.map ST.enc)) :: hs)
    (fun r h => r = .tup [] ∧ ∃ s : List ST, s.Perm l ∧ (∀ (i j : Nat) x y, i < j → s[i]? = some x → s[j]? = some y → ¬ cfS y x < 0) ∧ h = (id, .lst 5 (s.map ST.enc)) :: hs) := by
  by_cases h0 : l = []
  · subst h0
    exact (AC.sortK0 (P := P) Tryd.sortK).mono fun r h ⟨h1, h2⟩ => ⟨h1, [], List.Perm.refl _, fun i j x y _ h => by simp at h, h2⟩
  · exact AC.sortK (P := P) Tryd.sortK (sz := 5) (fun w => (tAgg_spec ag24 w).1) (fun w => (tAgg_spec ag24 w).2) (encD := ST.enc) (fun _ => rfl) st_plain cfS swo_st Tryd.func22 go22 (caps := []) (capsB := []) (hs := hs) (id := id) (fun _ => .nil) (fun x y => cf_c x y []) l h0 (by omega)

set_option maxHeartbeats 4000000 in
set_option maxRecDepth 100000 in
theorem bay_own (b : Nat) (l : List ST) (f : Nat) (q : Nat) (hs : Hp) (hl : l.length ≤ 900) : AC P 12 [.ptr b 0, .d (.int .i64 (q : Nat))] (stH b l f hs) (fun r h => ∃ v out, IsBay l q out ∧ r = .vs v 0 out.length 5 ∧ h = (v, .lst 5 (out.map ST.enc)) :: stH b l f hs) := by
  refine AC.of 29 Tryd.func12 rfl rfl rfl ?_
  refine W.reg ?_
  refine XOps.s rfl rfl rfl (Q.assign_nilsl rfl) ?_
  refine XOps.nil ?_
  refine W.reg ?_
  refine XOps.s rfl rfl rfl (Q.assign_nilsl rfl) ?_
  refine XOps.nil ?_
  refine W.ghost 5 5 (by decide) rfl rfl (fun v5 => ?_)
  refine W.seq ?_
  refine W.reg ?_
  refine XOps.s rfl rfl rfl (Q.move_ptr rfl) ?_
  refine XOps.s rfl rfl rfl (Q.nil_ptr rfl) ?_
  refine XOps.s rfl rfl rfl (Q.fld_ptr fl44_0 rfl) ?_
  refine XOps.s rfl rfl rfl (Q.ld_ptr (k := 1) ag22 rfl rfl rfl) ?_
  refine XOps.s rfl rfl rfl (Q.len_vs isl22 rfl) ?_
  refine XOps.s rfl rfl rfl (Q.move_d rfl) ?_
  refine XOps.nil ?_
  refine W.block ?_
  refine W.loop (ι := Nat × Nat) (fun p => [(1, .d (.int .i64 (q : Nat))), (5, .vs p.2 0 (((l.take p.1).filter fun s => decide (s.bay = (q : Int)))).length 5), (11, .vs f 0 l.length 5), (12, .d (.int .i64 l.length)), (13, .d (.int .i64 (p.1 : Nat)))]) (fun p => (p.2, .lst 5 ((((l.take p.1).filter fun s => decide (s.bay = (q : Int)))).map ST.enc)) :: stH b l f hs) (fun p => p.1 ≤ l.length) (fun p => l.length - p.1) (0, v5) ?_ ?_ ?_ ?_
  · exact Nat.zero_le _
  · exact ⟨by first | rfl | exact int_eq (by omega) | exact len_eq (by simp) | exact int_eq (by simp; done), by first | rfl | exact int_eq (by omega) | exact len_eq (by simp) | exact int_eq (by simp; done), by first | rfl | exact int_eq (by omega) | exact len_eq (by simp) | exact int_eq (by simp; done), by first | rfl | exact int_eq (by omega) | exact len_eq (by simp) | exact int_eq (by simp; done), by first | rfl | exact int_eq (by omega) | exact len_eq (by simp) | exact int_eq (by simp; done), trivial⟩
  · exact HLe.refl _
  · rintro ⟨k, v⟩ hk
    dsimp only at hk ⊢
    refine W.reg ?_
    refine XOps.s rfl rfl rfl (Q.lss rfl rfl) ?_
    refine XOps.nil ?_
    refine W.seq ?_
    refine W.cond rfl (fun hc14 => ?_) (fun hc14 => ?_)
    · try simp only [Bool.or_eq_true, Bool.or_eq_false_iff, Bool.and_eq_true, Bool.and_eq_false_iff, decide_eq_true_eq, decide_eq_false_iff_not, Bool.not_eq_true', Bool.not_eq_false', Int.not_lt, Int.not_le, List.length_map] at hc14
      obtain ⟨x, hx⟩ : ∃ x, l[k]? = some x := ⟨_, List.getElem?_eq_getElem (by omega)⟩
      have htk : l.take (k + 1) = l.take k ++ [x] := by
        obtain ⟨q1, q2⟩ := List.getElem?_eq_some_iff.1 hx
        rw [List.take_succ_eq_append_getElem q1, q2]
      have hfl := List.length_filter_le (fun s : ST => decide (s.bay = (q : Int))) (l.take k)
      rw [List.length_take] at hfl
      refine W.skip ?_
      refine W.seq ?_
      refine W.block ?_
      refine W.reg ?_
      refine XOps.s rfl rfl rfl (Q.idx_vs (kk := 2) sl22 rfl rfl rfl (by first | omega | (simp at hg; omega)) (by first | omega | (dsimp only; omega))) ?_
      refine XOps.s rfl rfl rfl (Q.ld_epn (k := 2) ag24 rfl rfl (by exact map_at0 hx) rfl) ?_
      (refine XOps.loud rfl (L.alloc tz24 rfl rfl) ?_; rintro _ _ ⟨b7, rfl, rfl⟩)
      refine XOps.loud rfl (L.storen (k := 0) ag24 rfl rfl rfl rfl rfl) ?_
      rintro _ _ ⟨rfl, rfl⟩
      refine XOps.nil ?_
      refine W.reg ?_
      refine XOps.s rfl rfl rfl (Q.fld_ptr fl24_4 rfl) ?_
      refine XOps.s rfl rfl rfl (Q.ld_ptr (k := 0) ag3 rfl rfl rfl) ?_
      refine XOps.s rfl rfl rfl (Q.move_d rfl) ?_
      refine XOps.s rfl rfl rfl (Q.eql rfl rfl) ?_
      refine XOps.nil ?_
      refine W.cond rfl (fun hc20 => ?_) (fun hc20 => ?_)
      · try simp only [Bool.or_eq_true, Bool.or_eq_false_iff, Bool.and_eq_true, Bool.and_eq_false_iff, decide_eq_true_eq, decide_eq_false_iff_not, Bool.not_eq_true', Bool.not_eq_false', Int.not_lt, Int.not_le, List.length_map] at hc20
        have hpu : ((l.take (k + 1)).filter fun s => decide (s.bay = (q : Int))) = ((l.take k).filter fun s => decide (s.bay = (q : Int))) ++ [x] := by rw [htk, List.filter_append]; simp; omega
        refine W.region ?_
        refine XOps.s rfl rfl rfl (Q.move_vs rfl) ?_
        refine XOps.s rfl rfl rfl (Q.ld_ptrn (k := 0) ag24 rfl rfl rfl) ?_
        refine XOps.s rfl rfl rfl (Q.bsl1n sl22 (by decide) zr22 rfl zrd22 rfl rfl (by decide)) ?_
        refine XOps.loud rfl (L.app (k := 1) ap22 rfl rfl (by first | rfl | (simp [List.length_map]; done)) rfl (by simp; omega) rfl) ?_
        rintro _ _ ⟨v24, rfl, rfl⟩
        refine XOps.s rfl rfl rfl (Q.assign_vs rfl) ?_
        refine XOps.nil ?_
        refine W.region ?_
        refine XOps.s rfl rfl rfl (Q.add rfl rfl (wi64 (by first | omega | (dsimp only; omega) | (simp only [List.length_map]; omega)) (by first | omega | (dsimp only; omega) | (simp only [List.length_map]; omega)))) ?_
        refine XOps.s rfl rfl rfl (Q.move_d rfl) ?_
        refine XOps.nil ?_
        refine ⟨(k + 1, v24), ?_, ?_, ?_, ?_⟩
        · exact (show k + 1 ≤ _ by omega)
        · dsimp only; omega
        · exact ⟨by first | rfl | exact int_eq (by omega) | exact len_eq (by simp) | exact int_eq (by simp; done), by first | exact vs_eq (by dsimp only; rw [hpu]; simp) | exact vs_eq (by dsimp only; rw [hpu]), by first | rfl | exact int_eq (by omega) | exact len_eq (by simp) | exact int_eq (by simp; done), by first | rfl | exact int_eq (by omega) | exact len_eq (by simp) | exact int_eq (by simp; done), by first | rfl | exact int_eq (by omega) | exact len_eq (by simp) | exact int_eq (by simp; done), trivial⟩
        · (dsimp only; rw [hpu]; first | exact HLe.skip _ (HLe.refl _) | exact HLe.cons' (by simp [ST.enc]) (HLe.skip _ (HLe.refl _)) | exact HLe.cons' (by simp [ST.enc]) (HLe.refl _))
      · try simp only [Bool.or_eq_true, Bool.or_eq_false_iff, Bool.and_eq_true, Bool.and_eq_false_iff, decide_eq_true_eq, decide_eq_false_iff_not, Bool.not_eq_true', Bool.not_eq_false', Int.not_lt, Int.not_le, List.length_map] at hc20
        have hpu : ((l.take (k + 1)).filter fun s => decide (s.bay = (q : Int))) = ((l.take k).filter fun s => decide (s.bay = (q : Int))) := by rw [htk, List.filter_append]; simp; omega
        refine W.skip ?_
        refine W.region ?_
        refine XOps.s rfl rfl rfl (Q.add rfl rfl (wi64 (by first | omega | (dsimp only; omega) | (simp only [List.length_map]; omega)) (by first | omega | (dsimp only; omega) | (simp only [List.length_map]; omega)))) ?_
        refine XOps.s rfl rfl rfl (Q.move_d rfl) ?_
        refine XOps.nil ?_
        refine ⟨(k + 1, v), ?_, ?_, ?_, ?_⟩
        · exact (show k + 1 ≤ _ by omega)
        · dsimp only; omega
        · exact ⟨by first | rfl | exact int_eq (by omega) | exact len_eq (by simp) | exact int_eq (by simp; done), by first | exact vs_eq (by dsimp only; rw [hpu]; simp) | exact vs_eq (by dsimp only; rw [hpu]), by first | rfl | exact int_eq (by omega) | exact len_eq (by simp) | exact int_eq (by simp; done), by first | rfl | exact int_eq (by omega) | exact len_eq (by simp) | exact int_eq (by simp; done), by first | rfl | exact int_eq (by omega) | exact len_eq (by simp) | exact int_eq (by simp; done), trivial⟩
        · (dsimp only; rw [hpu]; first | exact HLe.skip _ (HLe.refl _) | exact HLe.cons' (by simp [ST.enc]) (HLe.skip _ (HLe.refl _)) | exact HLe.cons' (by simp [ST.enc]) (HLe.refl _))
    · try simp only [Bool.or_eq_true, Bool.or_eq_false_iff, Bool.and_eq_true, Bool.and_eq_false_iff, decide_eq_true_eq, decide_eq_false_iff_not, Bool.not_eq_true', Bool.not_eq_false', Int.not_lt, Int.not_le, List.length_map] at hc14
      obtain rfl : k = l.length := by omega
      rw [List.take_length]
      refine W.exit ?_
      refine W.reg ?_
      refine XOps.s rfl rfl rfl (Q.move_vs rfl) ?_
      (refine XOps.loud rfl (L.call rfl Tryd.func21 go21 rfl (sort_c (l.filter fun s => decide (s.bay = (q : Int))) (Nat.le_trans (List.length_filter_le _ _) (by omega)) v (stH b l f hs)) rfl) ?_; rintro _ _ ⟨_, rfl, rfl, out, hp, hsd, rfl⟩)
      refine XOps.nil ?_
      refine W.reg ?_
      refine XOps.s rfl rfl rfl (Q.move_vs rfl) ?_
      refine XOps.s rfl rfl rfl (Q.assign_vs rfl) ?_
      refine XOps.nil ?_
      refine W.ret ?_
      refine ⟨_, (v, .lst 5 (out.map ST.enc)) :: stH b l f hs, rfl, HLe.refl _, v, out, ⟨hp, hsd⟩, ?_, rfl⟩
      exact vs_eq hp.length_eq.symm
end Go.Proofs.YtlfapbkaknikpaaDoorA
