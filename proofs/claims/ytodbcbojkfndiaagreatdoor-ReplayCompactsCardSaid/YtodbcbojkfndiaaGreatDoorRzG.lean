/- Entries applied; the fact of package replay. -/
import Derived.Test.YtodbcbojkfndiaaGreatDoorFrB
import Derived.Test.YtodbcbojkfndiaaGreatDoorRzF
import Derived.Test.YtodbcbojkfndiaaGreatDoorFrC
import Derived.Test.YtodbcbojkfndiaaGreatDoorRep3
set_option linter.unusedVariables false
set_option linter.unusedSimpArgs false
set_option linter.unnecessarySimpa false
namespace Go.Proofs.YtodbcbojkfndiaaGreatDoorA.FRzG
open Go
theorem ag3 : tAgg P 3 = some ((false, 1)) := by kernel_rfl
theorem ag38 : tAgg P 38 = some ((true, 4)) := by kernel_rfl
theorem ag50 : tAgg P 50 = some ((true, 2)) := by kernel_rfl
theorem eqt50 : tEq P 50 = some ([.str, .str]) := by kernel_rfl
theorem fl38_0 : tFld P 38 0 = some (0) := by kernel_rfl
theorem go18 : callGo Go.Proofs.Tryz.f18 = true := by kernel_rfl
theorem go21 : callGo Go.Proofs.Tryz.f21 = true := by kernel_rfl
theorem go22 : callGo Go.Proofs.Tryz.f22 = true := by kernel_rfl
theorem isl22 : isSl P 22 = true := by kernel_rfl
theorem isl28 : isSl P 28 = true := by kernel_rfl
theorem pl38 : tPl P 38 = some ([(0, 1), (1, 1), (2, 1), (3, 1)]) := by kernel_rfl
theorem pl50 : tPl P 50 = some ([(0, 1), (1, 1)]) := by kernel_rfl
theorem sl22 : tSl P 22 = some (4) := by kernel_rfl
theorem sl28 : tSl P 28 = some (2) := by kernel_rfl
theorem tz38 : tZero P 38 = some ([.int .i64 0, .int .i64 0, .string ⟨#[]⟩, .string ⟨#[]⟩]) := by kernel_rfl
theorem tz50 : tZero P 50 = some ([.string ⟨#[]⟩, .string ⟨#[]⟩]) := by kernel_rfl
theorem tzd38 : cellsD [.int .i64 0, .int .i64 0, .string ⟨#[]⟩, .string ⟨#[]⟩] = some ([.int .i64 0, .int .i64 0, .str ⟨#[]⟩, .str ⟨#[]⟩]) := rfl
theorem tzd50 : cellsD [.string ⟨#[]⟩, .string ⟨#[]⟩] = some ([.str ⟨#[]⟩, .str ⟨#[]⟩]) := rfl
theorem zr28 : tZrow P 28 = some ([.string ⟨#[]⟩, .string ⟨#[]⟩]) := by kernel_rfl
theorem zrd28 : cellsD [.string ⟨#[]⟩, .string ⟨#[]⟩] = some ([.str ⟨#[]⟩, .str ⟨#[]⟩]) := rfl
end Go.Proofs.YtodbcbojkfndiaaGreatDoorA.FRzG
namespace Go.Proofs.YtodbcbojkfndiaaGreatDoorA
open Go FRzG
attribute [local irreducible] XOps Quiet Loud W AC GQ DT
def runF_at (l : List SR) (k : Nat) (p : Option Int) (es : List EN) := runF l k p es
def prevN (es : List EN) (k : Nat) : Option Int := if k = 0 then none else (es[k - 1]?).map EN.num
theorem prevN_row {es : List EN} {k : Nat} (hk : k ≤ es.length) (h0 : 0 < k) : (es.map EN.enc)[((k : Int) - 1).toNat]? = some (es.getD (k - 1) EN.zero).enc ∧ prevN es k = some (es.getD (k - 1) EN.zero).num := by
  have h1 : es[k - 1]? = some (es.getD (k - 1) EN.zero) := by rw [List.getD_eq_getElem?_getD, List.getElem?_eq_getElem (by omega)]; rfl
  refine ⟨by rw [show ((k : Int) - 1).toNat = k - 1 by omega, List.getElem?_map, h1]; rfl, ?_⟩
  unfold prevN
  rw [if_neg (by omega), h1]; rfl
theorem runF_step {es : List EN} {k : Nat} {x : EN} {l : List SR} {p : Option Int} (h : es[k]? = some x) : runF l k p (es.drop k) = if lostB p x.num = true then ([], k, 21) else if stepE l x ≠ 0 then ([], k, stepE l x) else runF (stepL l x) (k + 1) (some x.num) (es.drop (k + 1)) := by
  obtain ⟨h1, h2⟩ := List.getElem?_eq_some_iff.1 h
  rw [List.drop_eq_getElem_cons h1, h2, runF]
def szE (es : List EN) : Prop := ∀ x ∈ es, x.kind.size ≤ 140737488355000 ∧ x.text.size ≤ 140737488355000
theorem szE_one {a : EN} (h : a.kind.size ≤ 140737488355000 ∧ a.text.size ≤ 140737488355000) : szE [a] := fun x hx => by simp at hx; subst hx; exact h
theorem szE_two {a b : EN} (h : a.kind.size ≤ 140737488355000 ∧ a.text.size ≤ 140737488355000) (h2 : b.kind.size ≤ 140737488355000 ∧ b.text.size ≤ 140737488355000) : szE [a, b] := fun x hx => by
  simp at hx
  rcases hx with rfl | rfl
  · exact h
  · exact h2

set_option maxHeartbeats 8000000 in
set_option maxRecDepth 100000 in
theorem run_c (l : List SR) (es : List EN) (gd gs gr : Nat) (ves ver : Value) (o1 : okE ves) (o2 : okE ver) (hs : Hp) (hL : l.length ≤ 4398046511104) (hz : szR l) (hE2 : es.length ≤ 4398046511104) (hx : szE es) : AC P 11 [.d (.sl 2 (l.map SR.enc)), .d (.sl 4 (es.map EN.enc))] (gH gd gs gr ves ver hs) (fun r h => r = .tup [.d (.sl 2 ((runV l es).1.map SR.enc)), .d (.int .i64 ((runV l es).2.1 : Nat)), .d (.int .i64 (runV l es).2.2)] ∧ h = gH gd gs gr ves ver hs) := by
  refine AC.of 62 Tryz.func11 rfl rfl rfl ?_
  refine W.reg ?_
  refine XOps.s rfl rfl rfl (Q.assign_nilsl rfl) ?_
  refine XOps.s rfl rfl rfl (Q.assign_d rfl) ?_
  refine XOps.s rfl rfl rfl (Q.assign_d rfl) ?_
  refine XOps.nil ?_
  refine W.seq ?_
  refine W.reg ?_
  refine XOps.s rfl rfl rfl (Q.move_d rfl) ?_
  refine XOps.s rfl rfl rfl (Q.call rfl Tryz.func21 go21 rfl (check_c l _ (by omega) hz)) ?_
  refine XOps.s rfl rfl rfl (Q.assign_d rfl) ?_
  refine XOps.nil ?_
  refine W.reg ?_
  refine XOps.s rfl rfl rfl (Q.move_d rfl) ?_
  refine XOps.s rfl rfl rfl (Q.neq rfl rfl) ?_
  refine XOps.nil ?_
  refine W.cond rfl (fun hc17 => ?_) (fun hc17 => ?_)
  · try simp only [Bool.or_eq_true, Bool.or_eq_false_iff, Bool.and_eq_true, Bool.and_eq_false_iff, decide_eq_true_eq, decide_eq_false_iff_not, Bool.not_eq_true', Bool.not_eq_false', Int.not_lt, Int.not_le, List.length_map] at hc17
    have h17 : checkL l ≠ 0 := by first | exact hc17 | (simpa using hc17)
    have hV : runV l es = ([], 0, checkL l) := if_pos h17
    rw [hV]
    refine W.reg ?_
    refine XOps.s rfl rfl rfl (Q.move_d rfl) ?_
    refine XOps.s rfl rfl rfl (Q.assign_nilsl rfl) ?_
    refine XOps.s rfl rfl rfl (Q.assign_d rfl) ?_
    refine XOps.s rfl rfl rfl (Q.assign_d rfl) ?_
    refine XOps.nil ?_
    refine W.nild 4 2 rfl ?_
    refine W.ret ?_
    exact ⟨_, gH gd gs gr ves ver hs, rfl, HLe.refl _, rfl, rfl⟩
  · try simp only [Bool.or_eq_true, Bool.or_eq_false_iff, Bool.and_eq_true, Bool.and_eq_false_iff, decide_eq_true_eq, decide_eq_false_iff_not, Bool.not_eq_true', Bool.not_eq_false', Int.not_lt, Int.not_le, List.length_map] at hc17
    have h17 : checkL l = 0 := by first | exact hc17 | (simpa using hc17)
    refine W.skip ?_
    refine W.seq ?_
    refine W.reg ?_
    refine XOps.s rfl rfl rfl (Q.move_d rfl) ?_
    refine XOps.s rfl rfl rfl (Q.len_sl isl22 rfl) ?_
    refine XOps.s rfl rfl rfl (Q.gtr rfl rfl) ?_
    refine XOps.nil ?_
    refine W.cond rfl (fun hc21 => ?_) (fun hc21 => ?_)
    · try simp only [Bool.or_eq_true, Bool.or_eq_false_iff, Bool.and_eq_true, Bool.and_eq_false_iff, decide_eq_true_eq, decide_eq_false_iff_not, Bool.not_eq_true', Bool.not_eq_false', Int.not_lt, Int.not_le, List.length_map] at hc21
      have hV : runV l es = ([], 0, 2) := by unfold runV; rw [if_neg (by omega), if_pos (by omega)]
      rw [hV]
      refine W.reg ?_
      refine XOps.s rfl rfl rfl (Q.assign_nilsl rfl) ?_
      refine XOps.s rfl rfl rfl (Q.assign_d rfl) ?_
      refine XOps.s rfl rfl rfl (Q.assign_d rfl) ?_
      refine XOps.nil ?_
      refine W.nild 4 2 rfl ?_
      refine W.ret ?_
      exact ⟨_, gH gd gs gr ves ver hs, rfl, HLe.refl _, rfl, rfl⟩
    · try simp only [Bool.or_eq_true, Bool.or_eq_false_iff, Bool.and_eq_true, Bool.and_eq_false_iff, decide_eq_true_eq, decide_eq_false_iff_not, Bool.not_eq_true', Bool.not_eq_false', Int.not_lt, Int.not_le, List.length_map] at hc21
      have hV : runV l es = runF l 0 none es := by unfold runV; rw [if_neg (by omega), if_neg (by omega)]
      rw [hV]
      refine W.skip ?_
      refine W.reg ?_
      refine XOps.s rfl rfl rfl (Q.move_d rfl) ?_
      refine XOps.s rfl rfl rfl (Q.call rfl Tryz.func22 go22 rfl (copy_c l _ hL hz)) ?_
      refine XOps.s rfl rfl rfl (Q.move_tup rfl) ?_
      refine XOps.s rfl rfl rfl (Q.extract rfl rfl) ?_
      refine XOps.s rfl rfl rfl (Q.extract rfl rfl) ?_
      refine XOps.s rfl rfl rfl (Q.assign_d rfl) ?_
      refine XOps.s rfl rfl rfl (Q.assign_d rfl) ?_
      refine XOps.nil ?_
      rw [(app_nil h17).1, (app_nil h17).2]
      refine W.seq ?_
      refine W.reg ?_
      refine XOps.s rfl rfl rfl (Q.move_d rfl) ?_
      refine XOps.s rfl rfl rfl (Q.len_sl isl22 rfl) ?_
      refine XOps.s rfl rfl rfl (Q.move_d rfl) ?_
      refine XOps.nil ?_
      refine W.block ?_
      refine W.loop (ι := Nat × List SR) (fun p => [(1, .d (.sl 4 (es.map EN.enc))), (8, .d (.sl 2 (p.2.map SR.enc))), (27, .d (.sl 4 (es.map EN.enc))), (28, .d (.int .i64 es.length)), (29, .d (.int .i64 (p.1 : Nat)))]) (fun p => gH gd gs gr ves ver hs) (fun p => p.1 ≤ es.length ∧ checkL p.2 = 0 ∧ runF p.2 p.1 (prevN es p.1) (es.drop p.1) = runF l 0 none es ∧ ∀ i x, i < p.1 → es[i]? = some x → checkN x = 0) (fun p => es.length - p.1) (0, l) ?_ ?_ ?_ ?_
      · exact ⟨Nat.zero_le _, h17, rfl, fun i x h => absurd h (Nat.not_lt_zero _)⟩
      · exact ⟨by first | rfl | exact int_eq (by omega) | exact len_eq (by simp) | exact int_eq (by simp; done), by first | rfl | exact int_eq (by omega) | exact len_eq (by simp) | exact int_eq (by simp; done), by first | rfl | exact int_eq (by omega) | exact len_eq (by simp) | exact int_eq (by simp; done), by exact int_eq (by rw [List.length_map]), by first | rfl | exact int_eq (by omega) | exact len_eq (by simp) | exact int_eq (by simp; done), trivial⟩
      · exact HLe.refl _
      · rintro ⟨k, out⟩ ⟨hk, hout, hI, hch⟩
        dsimp only at hk hout hI hch ⊢
        refine W.reg ?_
        refine XOps.s rfl rfl rfl (Q.lss rfl rfl) ?_
        refine XOps.nil ?_
        refine W.seq ?_
        refine W.cond rfl (fun hc30 => ?_) (fun hc30 => ?_)
        · try simp only [Bool.or_eq_true, Bool.or_eq_false_iff, Bool.and_eq_true, Bool.and_eq_false_iff, decide_eq_true_eq, decide_eq_false_iff_not, Bool.not_eq_true', Bool.not_eq_false', Int.not_lt, Int.not_le, List.length_map] at hc30
          obtain ⟨x, hx2⟩ : ∃ x, es[k]? = some x := ⟨_, List.getElem?_eq_getElem (by omega)⟩
          have hxs := hx x (List.mem_of_getElem? hx2)
          have hoz := sz_ok hout
          have hst := runF_step (l := out) (p := prevN es k) hx2
          rw [hst] at hI
          have hprev : 0 < k → 1 ≤ (es.getD (k - 1) EN.zero).num ∧ (es.getD (k - 1) EN.zero).num ≤ 500 := fun h0 => by
            have h1 : es[k - 1]? = some (es.getD (k - 1) EN.zero) := by rw [List.getD_eq_getElem?_getD, List.getElem?_eq_getElem (by omega)]; rfl
            exact (checkN_zero.1 (hch (k - 1) _ (by omega) h1)).num
          refine W.skip ?_
          refine W.seq ?_
          refine W.block ?_
          refine W.reg ?_
          refine XOps.s rfl rfl rfl (Q.move_d rfl) ?_
          refine XOps.s rfl rfl rfl (Q.idx_sl sl22 (by decide) rfl rfl (by first | omega | (simp only [List.length_map]; omega)) (by exact map_at hx2)) ?_
          refine XOps.s rfl rfl rfl (Q.ld_dpn ag38 rfl rfl) ?_
          (refine XOps.loud rfl (L.alloc tz38 rfl rfl) ?_; rintro _ _ ⟨b11, rfl, rfl⟩)
          refine XOps.s rfl rfl rfl (Q.assign_d rfl) ?_
          refine XOps.loud rfl (L.storen (k := 0) ag38 rfl rfl rfl rfl rfl) ?_
          rintro _ _ ⟨rfl, rfl⟩
          refine XOps.nil ?_
          refine W.seq ?_
          refine W.drawreg 14 follows (by kernel_rfl) ?_
          refine Chain.cons _ (GQ.q rfl (Q.move_d rfl)) rfl ?_
          refine Chain.cons _ (GQ.q rfl (Q.gtr rfl rfl)) rfl ?_
          refine Chain.cons _ (GQ.q rfl (Q.move_d rfl)) rfl ?_
          refine Chain.cons _ (GQ.g rfl rfl rfl rfl rfl (fun hg => Q.fld_ptr fl38_0 rfl)) rfl ?_
          refine Chain.cons _ (GQ.g rfl rfl rfl rfl rfl (fun hg => Quiet.open 37 hg rfl (Q.ld_ptr (k := 0) ag3 rfl rfl rfl))) rfl ?_
          refine Chain.cons _ (GQ.g rfl rfl rfl rfl rfl (fun hg => Q.move_d rfl)) rfl ?_
          refine Chain.cons _ (GQ.g rfl rfl rfl rfl rfl (fun hg => Q.move_d rfl)) rfl ?_
          refine Chain.cons _ (GQ.g rfl rfl rfl rfl rfl (fun hg => Quiet.open 40 hg rfl (Q.sub rfl rfl (wi64 (by first | omega | (dsimp only; omega) | (simp only [List.length_map]; omega)) (by first | omega | (dsimp only; omega) | (simp only [List.length_map]; omega)))))) rfl ?_
          refine Chain.cons _ (GQ.g rfl rfl rfl rfl rfl (fun hg => Quiet.open 39 hg rfl (Quiet.open 41 hg rfl (Q.idx_sl sl22 (by decide) rfl rfl (by simp at hg; omega) (prevN_row hk (by simp at hg; omega)).1)))) rfl ?_
          refine Chain.cons _ (GQ.g rfl rfl rfl rfl rfl (fun hg => Quiet.open 42 hg rfl (Q.fld_dp fl38_0 rfl))) rfl ?_
          refine Chain.cons _ (GQ.g rfl rfl rfl rfl rfl (fun hg => Quiet.open 43 hg rfl (Q.ld_dp ag3 rfl rfl))) rfl ?_
          refine Chain.cons _ (GQ.g rfl rfl rfl rfl rfl (fun hg => Quiet.open 44 hg rfl (Q.add rfl rfl (wi64 (by have := hprev (by simp at hg; omega); omega) (by have := hprev (by simp at hg; omega); omega))))) rfl ?_
          refine Chain.cons _ (GQ.g rfl rfl rfl rfl rfl (fun hg => Quiet.open 38 hg rfl (Quiet.open 45 hg rfl (Q.neq rfl rfl)))) rfl ?_
          refine Chain.cons _ (GQ.q rfl (Q.pick_and rfl rfl rfl (fun h => by first | (rw [h]; rfl) | (rw [hg, h]; rfl) | (simp [h, hg]; done)))) rfl ?_
          refine Chain.nil ?_
          refine XOps.nil ?_
          refine W.cond rfl (fun hc47 => ?_) (fun hc47 => ?_)
          · try simp only [Bool.or_eq_true, Bool.or_eq_false_iff, Bool.and_eq_true, Bool.and_eq_false_iff, decide_eq_true_eq, decide_eq_false_iff_not, Bool.not_eq_true', Bool.not_eq_false', Int.not_lt, Int.not_le, List.length_map] at hc47
            have h47 : lostB (prevN es k) x.num = true := by
              rw [(prevN_row hk (by omega)).2]
              unfold lostB
              exact decide_eq_true (by have := hc47.2; omega)
            rw [if_pos h47] at hI
            rw [← hI]
            refine W.reg ?_
            refine XOps.s rfl rfl rfl (Q.move_d rfl) ?_
            refine XOps.s rfl rfl rfl (Q.assign_nilsl rfl) ?_
            refine XOps.s rfl rfl rfl (Q.assign_d rfl) ?_
            refine XOps.s rfl rfl rfl (Q.assign_d rfl) ?_
            refine XOps.nil ?_
            refine W.nild 4 2 rfl ?_
            refine W.ret ?_
            exact ⟨_, gH gd gs gr ves ver hs, rfl, HLe.skip _ (HLe.refl _), rfl, rfl⟩
          · try simp only [Bool.or_eq_true, Bool.or_eq_false_iff, Bool.and_eq_true, Bool.and_eq_false_iff, decide_eq_true_eq, decide_eq_false_iff_not, Bool.not_eq_true', Bool.not_eq_false', Int.not_lt, Int.not_le, List.length_map] at hc47
            have h47 : ¬ lostB (prevN es k) x.num = true := by
              by_cases h0 : k = 0
              · subst h0; simp [prevN, lostB]
              · rw [(prevN_row hk (by omega)).2]
                unfold lostB
                rcases hc47 with h | h
                · exact absurd h (by omega)
                · rw [decide_eq_true_eq]; omega
            rw [if_neg h47] at hI
            refine W.skip ?_
            refine W.reg ?_
            refine XOps.s rfl rfl rfl (Q.move_d rfl) ?_
            refine XOps.s rfl rfl rfl (Q.ld_ptrn (k := 0) ag38 rfl rfl rfl) ?_
            (refine XOps.loud rfl (L.call rfl Tryz.func18 go18 rfl (AC.le (step_c out x gd gs gr ves ver o1 o2 hs (by omega) hoz.1 hxs.1 hxs.2) (HLe.skip _ (HLe.refl _))) rfl) ?_; rintro _ _ ⟨_, rfl, rfl, rfl⟩)
            refine XOps.s rfl rfl rfl (Q.move_tup rfl) ?_
            refine XOps.s rfl rfl rfl (Q.extract rfl rfl) ?_
            refine XOps.s rfl rfl rfl (Q.extract rfl rfl) ?_
            refine XOps.s rfl rfl rfl (Q.assign_d rfl) ?_
            refine XOps.s rfl rfl rfl (Q.assign_d rfl) ?_
            refine XOps.nil ?_
            refine W.seq ?_
            refine W.reg ?_
            refine XOps.s rfl rfl rfl (Q.move_d rfl) ?_
            refine XOps.s rfl rfl rfl (Q.neq rfl rfl) ?_
            refine XOps.nil ?_
            refine W.cond rfl (fun hc56 => ?_) (fun hc56 => ?_)
            · try simp only [Bool.or_eq_true, Bool.or_eq_false_iff, Bool.and_eq_true, Bool.and_eq_false_iff, decide_eq_true_eq, decide_eq_false_iff_not, Bool.not_eq_true', Bool.not_eq_false', Int.not_lt, Int.not_le, List.length_map] at hc56
              have h56 : stepE out x ≠ 0 := by first | exact hc56 | (simpa using hc56)
              rw [if_pos h56] at hI
              rw [← hI]
              refine W.reg ?_
              refine XOps.s rfl rfl rfl (Q.move_d rfl) ?_
              refine XOps.s rfl rfl rfl (Q.move_d rfl) ?_
              refine XOps.s rfl rfl rfl (Q.assign_nilsl rfl) ?_
              refine XOps.s rfl rfl rfl (Q.assign_d rfl) ?_
              refine XOps.s rfl rfl rfl (Q.assign_d rfl) ?_
              refine XOps.nil ?_
              refine W.nild 4 2 rfl ?_
              refine W.ret ?_
              exact ⟨_, gH gd gs gr ves ver hs, rfl, HLe.refl _, rfl, rfl⟩
            · try simp only [Bool.or_eq_true, Bool.or_eq_false_iff, Bool.and_eq_true, Bool.and_eq_false_iff, decide_eq_true_eq, decide_eq_false_iff_not, Bool.not_eq_true', Bool.not_eq_false', Int.not_lt, Int.not_le, List.length_map] at hc56
              have h56 : stepE out x = 0 := by first | exact hc56 | (simpa using hc56)
              rw [if_neg (by omega)] at hI
              have hso := step_ok h56
              have hpn : prevN es (k + 1) = some x.num := by unfold prevN; rw [if_neg (by omega), show k + 1 - 1 = k by omega, hx2]; rfl
              refine W.skip ?_
              refine W.region ?_
              refine XOps.s rfl rfl rfl (Q.move_d rfl) ?_
              refine XOps.s rfl rfl rfl (Q.assign_d rfl) ?_
              refine XOps.nil ?_
              refine W.region ?_
              refine XOps.s rfl rfl rfl (Q.add rfl rfl (wi64 (by first | omega | (dsimp only; omega) | (simp only [List.length_map]; omega)) (by first | omega | (dsimp only; omega) | (simp only [List.length_map]; omega)))) ?_
              refine XOps.s rfl rfl rfl (Q.move_d rfl) ?_
              refine XOps.nil ?_
              refine ⟨(k + 1, stepL out x), ?_, ?_, ?_, ?_⟩
              · refine ⟨by dsimp only; omega, hso.2.2, by dsimp only; rw [hpn]; exact hI, fun i y hi hy => ?_⟩
                dsimp only at hi
                by_cases he : i = k
                · subst he; rw [hx2] at hy; obtain rfl := Option.some.inj hy; exact hso.2.1
                · exact hch i y (by omega) hy
              · dsimp only; omega
              · exact ⟨by first | rfl | exact int_eq (by omega) | exact len_eq (by simp) | exact int_eq (by simp; done), by first | rfl | exact int_eq (by omega) | exact len_eq (by simp) | exact int_eq (by simp; done), by first | rfl | exact int_eq (by omega) | exact len_eq (by simp) | exact int_eq (by simp; done), by first | rfl | exact int_eq (by omega) | exact len_eq (by simp) | exact int_eq (by simp; done), by first | rfl | exact int_eq (by omega) | exact len_eq (by simp) | exact int_eq (by simp; done), trivial⟩
              · exact HLe.refl _
        · try simp only [Bool.or_eq_true, Bool.or_eq_false_iff, Bool.and_eq_true, Bool.and_eq_false_iff, decide_eq_true_eq, decide_eq_false_iff_not, Bool.not_eq_true', Bool.not_eq_false', Int.not_lt, Int.not_le, List.length_map] at hc30
          have hkk : k = es.length := by omega
          rw [hkk, List.drop_length] at hI
          rw [← hI]
          refine W.exit ?_
          refine W.reg ?_
          refine XOps.s rfl rfl rfl (Q.move_d rfl) ?_
          refine XOps.s rfl rfl rfl (Q.assign_d rfl) ?_
          refine XOps.s rfl rfl rfl (Q.assign_d rfl) ?_
          refine XOps.s rfl rfl rfl (Q.assign_d rfl) ?_
          refine XOps.nil ?_
          refine W.ret ?_
          exact ⟨_, gH gd gs gr ves ver hs, rfl, HLe.refl _, rfl, rfl⟩

set_option maxHeartbeats 1000000 in
set_option maxRecDepth 100000 in
theorem same_c (a b : List SR) (hs : Hp) (hl : a.length ≤ 4611686018427387904) : AC P 12 [.d (.sl 2 (a.map SR.enc)), .d (.sl 2 (b.map SR.enc))] hs (fun r h => r = .d (.bool (decide (a = b))) ∧ h = hs) := by
  refine AC.of 26 Tryz.func12 rfl rfl rfl ?_
  refine W.reg ?_
  refine XOps.s rfl rfl rfl (Q.assign_d rfl) ?_
  refine XOps.nil ?_
  refine W.seq ?_
  refine W.reg ?_
  refine XOps.s rfl rfl rfl (Q.move_d rfl) ?_
  refine XOps.s rfl rfl rfl (Q.len_sl isl28 rfl) ?_
  refine XOps.s rfl rfl rfl (Q.move_d rfl) ?_
  refine XOps.s rfl rfl rfl (Q.len_sl isl28 rfl) ?_
  refine XOps.s rfl rfl rfl (Q.neq rfl rfl) ?_
  refine XOps.nil ?_
  refine W.cond rfl (fun hc10 => ?_) (fun hc10 => ?_)
  · try simp only [decide_eq_true_eq, decide_eq_false_iff_not, Int.not_lt, Int.not_le, Bool.not_eq_true', Bool.not_eq_false', List.length_map] at hc10
    have hr : decide (a = b) = false := decide_eq_false fun h => by subst h; simp at hc10
    refine W.reg ?_
    refine XOps.s rfl rfl rfl (Q.assign_d rfl) ?_
    refine XOps.nil ?_
    refine W.ret ?_
    refine ⟨_, hs, rfl, by repeat (first | exact HLe.refl _ | refine HLe.cons' (by first | rfl | (simp; done)) ?_ | refine HLe.pick 1 rfl (by first | rfl | (simp; done)) ?_ | refine HLe.pick 2 rfl (by first | rfl | (simp; done)) ?_ | refine HLe.pick 3 rfl (by first | rfl | (simp; done)) ?_ | refine HLe.pick 4 rfl (by first | rfl | (simp; done)) ?_ | refine HLe.pick 5 rfl (by first | rfl | (simp; done)) ?_ | refine HLe.skip _ ?_), ?_, rfl⟩
    rw [hr]; rfl
  · try simp only [decide_eq_true_eq, decide_eq_false_iff_not, Int.not_lt, Int.not_le, Bool.not_eq_true', Bool.not_eq_false', List.length_map] at hc10
    have hlen : a.length = b.length := by omega
    refine W.skip ?_
    refine W.seq ?_
    refine W.reg ?_
    refine XOps.s rfl rfl rfl (Q.move_d rfl) ?_
    refine XOps.s rfl rfl rfl (Q.len_sl isl28 rfl) ?_
    refine XOps.s rfl rfl rfl (Q.move_d rfl) ?_
    refine XOps.nil ?_
    refine W.block ?_
    refine W.loop (ι := Nat) (fun k => [(0, .d (.sl 2 (a.map SR.enc))), (1, .d (.sl 2 (b.map SR.enc))), (12, .d (.int .i64 a.length)), (13, .d (.int .i64 k))]) (fun k => hs) (fun k => k ≤ a.length ∧ ∀ i, i < k → a[i]? = b[i]?) (fun k => a.length - k) 0 ?_ ?_ ?_ ?_
    · exact ⟨Nat.zero_le _, fun i hi => absurd hi (Nat.not_lt_zero _)⟩
    · exact ⟨by first | rfl | exact int_eq (by omega) | exact len_eq (by simp) | exact int_eq (by simp; done), by first | rfl | exact int_eq (by omega) | exact len_eq (by simp) | exact int_eq (by simp; done), by first | rfl | exact int_eq (by omega) | exact len_eq (by simp) | exact int_eq (by simp; done), by first | rfl | exact int_eq (by omega) | exact len_eq (by simp) | exact int_eq (by simp; done), trivial⟩
    · repeat (first | exact HLe.refl _ | refine HLe.cons' (by first | rfl | (simp; done)) ?_ | refine HLe.pick 1 rfl (by first | rfl | (simp; done)) ?_ | refine HLe.pick 2 rfl (by first | rfl | (simp; done)) ?_ | refine HLe.pick 3 rfl (by first | rfl | (simp; done)) ?_ | refine HLe.pick 4 rfl (by first | rfl | (simp; done)) ?_ | refine HLe.pick 5 rfl (by first | rfl | (simp; done)) ?_ | refine HLe.skip _ ?_)
    · rintro k ⟨hk, hI⟩
      try dsimp only
      refine W.reg ?_
      refine XOps.s rfl rfl rfl (Q.lss rfl rfl) ?_
      refine XOps.nil ?_
      refine W.seq ?_
      refine W.cond rfl (fun hc14 => ?_) (fun hc14 => ?_)
      · try simp only [decide_eq_true_eq, decide_eq_false_iff_not, Int.not_lt, Int.not_le, Bool.not_eq_true', Bool.not_eq_false', List.length_map] at hc14
        obtain ⟨u, hu⟩ : ∃ u, a[k]? = some u := ⟨_, List.getElem?_eq_getElem (by omega)⟩
        obtain ⟨v, hv⟩ : ∃ v, b[k]? = some v := ⟨_, List.getElem?_eq_getElem (by omega)⟩
        have hsm : allD (u.enc.take 2) (v.enc.take 2) = decide (u = v) := same_sr u v
        refine W.skip ?_
        refine W.seq ?_
        refine W.block ?_
        refine W.reg ?_
        refine XOps.s rfl rfl rfl (Q.move_d rfl) ?_
        refine XOps.s rfl rfl rfl (Q.assign_d rfl) ?_
        refine XOps.nil ?_
        refine W.drawreg 9 follows (by kernel_rfl) ?_
        refine Chain.cons _ (GQ.q rfl (Q.move_d rfl)) rfl ?_
        refine Chain.cons _ (GQ.q rfl (Q.move_d rfl)) rfl ?_
        refine Chain.cons _ (GQ.q rfl (Q.idx_sl sl28 (by decide) rfl rfl (by first | omega | (simp only [List.length_map]; omega)) (by first | exact map_at hu | exact map_at hv))) rfl ?_
        refine Chain.cons _ (GQ.q rfl (Q.ld_dpn ag50 rfl rfl)) rfl ?_
        refine Chain.cons _ (GQ.q rfl (Q.move_d rfl)) rfl ?_
        refine Chain.cons _ (GQ.q rfl (Q.move_d rfl)) rfl ?_
        refine Chain.cons _ (GQ.q rfl (Q.idx_sl sl28 (by decide) rfl rfl (by first | omega | (simp only [List.length_map]; omega)) (by first | exact map_at hu | exact map_at hv))) rfl ?_
        refine Chain.cons _ (GQ.q rfl (Q.ld_dpn ag50 rfl rfl)) rfl ?_
        refine Chain.cons _ (GQ.q rfl (Q.neq_agg eqt50 rfl rfl rfl rfl rfl)) rfl ?_
        refine Chain.nil ?_
        refine XOps.nil ?_
        refine W.cond rfl (fun hc24 => ?_) (fun hc24 => ?_)
        · try simp only [decide_eq_true_eq, decide_eq_false_iff_not, Int.not_lt, Int.not_le, Bool.not_eq_true', Bool.not_eq_false', List.length_map] at hc24
          rw [hsm] at hc24
          have hr : decide (a = b) = false := decide_eq_false fun h => by subst h; rw [hu] at hv; obtain rfl := Option.some.inj hv; simp at hc24
          refine W.reg ?_
          refine XOps.s rfl rfl rfl (Q.assign_d rfl) ?_
          refine XOps.nil ?_
          refine W.ret ?_
          refine ⟨_, hs, rfl, by repeat (first | exact HLe.refl _ | refine HLe.cons' (by first | rfl | (simp; done)) ?_ | refine HLe.pick 1 rfl (by first | rfl | (simp; done)) ?_ | refine HLe.pick 2 rfl (by first | rfl | (simp; done)) ?_ | refine HLe.pick 3 rfl (by first | rfl | (simp; done)) ?_ | refine HLe.pick 4 rfl (by first | rfl | (simp; done)) ?_ | refine HLe.pick 5 rfl (by first | rfl | (simp; done)) ?_ | refine HLe.skip _ ?_), ?_, rfl⟩
          rw [hr]; rfl
        · try simp only [decide_eq_true_eq, decide_eq_false_iff_not, Int.not_lt, Int.not_le, Bool.not_eq_true', Bool.not_eq_false', List.length_map] at hc24
          rw [hsm] at hc24
          have huv : u = v := by simpa using hc24
          refine W.skip ?_
          refine W.region ?_
          refine XOps.s rfl rfl rfl (Q.add rfl rfl (wi64 (by first | omega | (dsimp only; omega) | (simp only [List.length_map]; omega)) (by first | omega | (dsimp only; omega) | (simp only [List.length_map]; omega)))) ?_
          refine XOps.s rfl rfl rfl (Q.move_d rfl) ?_
          refine XOps.nil ?_
          refine ⟨k + 1, ?_, ?_, ?_, ?_⟩
          · refine ⟨by omega, fun i hi => ?_⟩
            by_cases h : i = k
            · subst h; rw [hu, hv, huv]
            · exact hI i (by omega)
          · omega
          · exact ⟨by first | rfl | exact int_eq (by omega) | exact len_eq (by simp) | exact int_eq (by simp; done), by first | rfl | exact int_eq (by omega) | exact len_eq (by simp) | exact int_eq (by simp; done), by first | rfl | exact int_eq (by omega) | exact len_eq (by simp) | exact int_eq (by simp; done), by first | rfl | exact int_eq (by omega) | exact len_eq (by simp) | exact int_eq (by simp; done), trivial⟩
          · repeat (first | exact HLe.refl _ | refine HLe.cons' (by first | rfl | (simp; done)) ?_ | refine HLe.pick 1 rfl (by first | rfl | (simp; done)) ?_ | refine HLe.pick 2 rfl (by first | rfl | (simp; done)) ?_ | refine HLe.pick 3 rfl (by first | rfl | (simp; done)) ?_ | refine HLe.pick 4 rfl (by first | rfl | (simp; done)) ?_ | refine HLe.pick 5 rfl (by first | rfl | (simp; done)) ?_ | refine HLe.skip _ ?_)
      · try simp only [decide_eq_true_eq, decide_eq_false_iff_not, Int.not_lt, Int.not_le, Bool.not_eq_true', Bool.not_eq_false', List.length_map] at hc14
        have hr : decide (a = b) = true := decide_eq_true (List.ext_getElem? fun i => by
          rcases Nat.lt_or_ge i k with h | h
          · exact hI i h
          · rw [List.getElem?_eq_none (by omega), List.getElem?_eq_none (by omega)])
        refine W.exit ?_
        refine W.reg ?_
        refine XOps.s rfl rfl rfl (Q.assign_d rfl) ?_
        refine XOps.nil ?_
        refine W.ret ?_
        refine ⟨_, hs, rfl, by repeat (first | exact HLe.refl _ | refine HLe.cons' (by first | rfl | (simp; done)) ?_ | refine HLe.pick 1 rfl (by first | rfl | (simp; done)) ?_ | refine HLe.pick 2 rfl (by first | rfl | (simp; done)) ?_ | refine HLe.pick 3 rfl (by first | rfl | (simp; done)) ?_ | refine HLe.pick 4 rfl (by first | rfl | (simp; done)) ?_ | refine HLe.pick 5 rfl (by first | rfl | (simp; done)) ?_ | refine HLe.skip _ ?_), ?_, rfl⟩
        rw [hr]; rfl

theorem fact_s : stepE [⟨⟨#[97]⟩, ⟨#[51]⟩⟩] ⟨1, 0, ⟨#[103, 114, 111, 119]⟩, ⟨#[97, 32, 50]⟩⟩ = 0 ∧ stepL [⟨⟨#[97]⟩, ⟨#[51]⟩⟩] ⟨1, 0, ⟨#[103, 114, 111, 119]⟩, ⟨#[97, 32, 50]⟩⟩ = [⟨⟨#[97]⟩, ⟨#[53]⟩⟩] := by
  have d3 : bs (Lib.itoa 3) = ⟨#[51]⟩ := bl_inj (by rw [bl_itoa, if_neg (by decide), decL_small (by decide)]; rfl)
  have d2 : bs (Lib.itoa 2) = ⟨#[50]⟩ := bl_inj (by rw [bl_itoa, if_neg (by decide), decL_small (by decide)]; rfl)
  have d5 : bs (Lib.itoa (3 + 2)) = ⟨#[53]⟩ := bl_inj (by rw [bl_itoa, if_neg (by decide), decL_small (by decide)]; rfl)
  have h := grow_one (K := ⟨#[97]⟩) (by decide +kernel) (a := 3) (b := 2) (by decide) (by decide) (x := ⟨1, 0, growK, ⟨#[97, 32, 50]⟩⟩) (by decide +kernel) rfl (by rw [d2]; rfl)
  rw [d3, d5] at h
  exact h

set_option maxHeartbeats 1000000 in
set_option maxRecDepth 100000 in
theorem pfact_c (gd gs gr : Nat) (ves ver : Value) (o1 : okE ves) (o2 : okE ver) (hs : Hp) : AC P 6 [] (gH gd gs gr ves ver hs) (fun r h => r = .d (.bool true) ∧ h = gH gd gs gr ves ver hs) := by
  refine AC.of 24 Tryz.func6 rfl rfl rfl ?_
  refine W.reg ?_
  refine XOps.s rfl rfl rfl (Q.assign_d rfl) ?_
  refine XOps.nil ?_
  refine W.reg ?_
  refine XOps.s rfl rfl rfl (Q.build pl50 tz50 tzd50 rfl) ?_
  refine XOps.s rfl rfl rfl (Q.bsl1n sl28 (by decide) zr28 rfl zrd28 rfl rfl (by decide)) ?_
  refine XOps.s rfl rfl rfl (Q.build pl38 tz38 tzd38 rfl) ?_
  refine XOps.s rfl rfl rfl (Q.call rfl Tryz.func18 go18 rfl (step_c [⟨⟨#[97]⟩, ⟨#[51]⟩⟩] ⟨1, 0, ⟨#[103, 114, 111, 119]⟩, ⟨#[97, 32, 50]⟩⟩ gd gs gr ves ver o1 o2 hs (by decide) (fun x hx => by simp at hx; subst hx; exact ⟨by decide, by decide⟩) (by decide) (by decide))) ?_
  refine XOps.s rfl rfl rfl (Q.move_tup rfl) ?_
  refine XOps.s rfl rfl rfl (Q.extract rfl rfl) ?_
  refine XOps.s rfl rfl rfl (Q.extract rfl rfl) ?_
  refine XOps.s rfl rfl rfl (Q.assign_d rfl) ?_
  refine XOps.s rfl rfl rfl (Q.assign_d rfl) ?_
  refine XOps.nil ?_
  rw [fact_s.1, fact_s.2]
  refine W.reg ?_
  refine XOps.s rfl rfl rfl (Q.move_d rfl) ?_
  refine XOps.s rfl rfl rfl (Q.eql rfl rfl) ?_
  refine XOps.s rfl rfl rfl (Q.move_d rfl) ?_
  refine XOps.gs rfl rfl rfl rfl rfl rfl rfl (fun hg => Q.move_d rfl) ?_
  refine XOps.gs rfl rfl rfl rfl rfl rfl rfl (fun hg => Quiet.open 13 hg rfl (Q.len_sl isl28 rfl)) ?_
  refine XOps.gs rfl rfl rfl rfl rfl rfl rfl (fun hg => Quiet.open 14 hg rfl (Q.eql rfl rfl)) ?_
  refine XOps.s rfl rfl rfl (Q.pick_and rfl rfl rfl (fun h => by first | (rw [h]; rfl) | (rw [hg, h]; rfl) | (simp [h, hg]; done))) ?_
  refine XOps.s rfl rfl rfl (Q.move_d rfl) ?_
  refine XOps.gs rfl rfl rfl rfl rfl rfl rfl (fun hg => Q.move_d rfl) ?_
  refine XOps.gs rfl rfl rfl rfl rfl rfl rfl (fun hg => Quiet.open 18 hg rfl (Q.idx_sl sl28 (by decide) rfl rfl (by first | omega | (simp only [List.length_map]; omega)) (by first | rfl | exact rfl))) ?_
  refine XOps.gs rfl rfl rfl rfl rfl rfl rfl (fun hg => Quiet.open 19 hg rfl (Q.ld_dpn ag50 rfl rfl)) ?_
  refine XOps.gs rfl rfl rfl rfl rfl rfl rfl (fun hg => Q.build pl50 tz50 tzd50 rfl) ?_
  refine XOps.gs rfl rfl rfl rfl rfl rfl rfl (fun hg => Quiet.open 20 hg rfl (Quiet.open 21 hg rfl (Q.eql_agg eqt50 rfl rfl rfl rfl rfl))) ?_
  refine XOps.s rfl rfl rfl (Q.pick_and rfl rfl rfl (fun h => by first | (rw [h]; rfl) | (rw [hg, h]; rfl) | (simp [h, hg]; done))) ?_
  refine XOps.s rfl rfl rfl (Q.assign_d rfl) ?_
  refine XOps.nil ?_
  refine W.ret ?_
  refine ⟨_, gH gd gs gr ves ver hs, rfl, HLe.refl _, ?_, rfl⟩
  show AV.d (.bool _) = _
  refine congrArg (fun b => AV.d (D.bool b)) ?_
  decide +kernel
end Go.Proofs.YtodbcbojkfndiaaGreatDoorA
