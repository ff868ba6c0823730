/- Entries applied. -/
import Derived.Test.YtodbcbojkfndiaaDoorFrB
import Derived.Test.YtodbcbojkfndiaaDoorRpB
set_option linter.unusedVariables false
set_option linter.unusedSimpArgs false
set_option linter.unnecessarySimpa false
namespace Go.Proofs.YtodbcbojkfndiaaDoorA.FRpC
open Go
theorem ag3 : tAgg P 3 = some ((false, 1)) := by kernel_rfl
theorem ag36 : tAgg P 36 = some ((true, 4)) := by kernel_rfl
theorem fl36_0 : tFld P 36 0 = some (0) := by kernel_rfl
theorem go16 : callGo Go.Proofs.Tryd.f16 = true := by kernel_rfl
theorem go17 : callGo Go.Proofs.Tryd.f17 = true := by kernel_rfl
theorem go18 : callGo Go.Proofs.Tryd.f18 = true := by kernel_rfl
theorem isl23 : isSl P 23 = true := by kernel_rfl
theorem sl23 : tSl P 23 = some (4) := by kernel_rfl
theorem tz36 : tZero P 36 = some ([.int .i64 0, .int .i64 0, .string ⟨#[]⟩, .string ⟨#[]⟩]) := by kernel_rfl
end Go.Proofs.YtodbcbojkfndiaaDoorA.FRpC
namespace Go.Proofs.YtodbcbojkfndiaaDoorA
open Go FRpC
attribute [local irreducible] XOps Quiet Loud W AC GQ DT
def runF_at (l : List SR) (k : Nat) (p : Option Int) (es : List EN) := runF l k p es
def prevN (es : List EN) (k : Nat) : Option Int := if k = 0 then none else (es[k - 1]?).map EN.num
theorem prevN_row {es : List EN} {k : Nat} (hk : k ≤ es.length) (h0 : 0 < k) : (es.map EN.enc)[((k : Int) - 1).toNat]? = some (es.getD (k - 1) EN.zero).enc ∧ prevN es k = some (es.getD (k - 1) EN.zero).num := by
  have h1 : es[k - 1]? = some (es.getD (k - 1) EN.zero) := by rw [List.getD_eq_getElem?_getD, List.getElem?_eq_getElem (by omega)]; rfl
  refine ⟨by rw [show ((k : Int) - 1).toNat = k - 1 by omega, List.getElem?_map, h1]; rfl, ?_⟩
  unfold prevN
  rw [if_neg (by omega), h1]; rfl
theorem runF_step {es : List EN} {k : Nat} {x : EN} {l : List SR} {p : Option Int} (h : es[k]? = some x) : runF l k p (es.drop k) = if lostB p x.num = true then ([], k, 21) else if stepE l x ≠ 0 then ([], k, stepE l x) else runF (stepL l x) (k + 1) (some x.num) (es.drop (k + 1)) := by
  obtain ⟨h1, h2⟩ := List.getElem?_eq_some_iff.1 h
  rw [List.drop_eq_getElem_cons h1, h2, runF]
def szE (es : List EN) : Prop := ∀ x ∈ es, x.kind.size ≤ 140737488355000 ∧ x.text.size ≤ 140737488355000
theorem szE_one {a : EN} (h : a.kind.size ≤ 140737488355000 ∧ a.text.size ≤ 140737488355000) : szE [a] := fun x hx => by simp at hx; subst hx; exact h
theorem szE_two {a b : EN} (h : a.kind.size ≤ 140737488355000 ∧ a.text.size ≤ 140737488355000) (h2 : b.kind.size ≤ 140737488355000 ∧ b.text.size ≤ 140737488355000) : szE [a, b] := fun x hx => by
  simp at hx
  rcases hx with rfl | rfl
  · exact h
  · exact h2

set_option maxHeartbeats 8000000 in
set_option maxRecDepth 100000 in
theorem run_c (l : List SR) (es : List EN) (gd gs gr : Nat) (ves ver : Value) (o1 : okE ves) (o2 : okE ver) (hs : Hp) (hL : l.length ≤ 4398046511104) (hz : szR l) (hE2 : es.length ≤ 4398046511104) (hx : szE es) : AC P 9 [.d (.sl 2 (l.map SR.enc)), .d (.sl 4 (es.map EN.enc))] (gH gd gs gr ves ver hs) (fun r h => r = .tup [.d (.sl 2 ((runV l es).1.map SR.enc)), .d (.int .i64 ((runV l es).2.1 : Nat)), .d (.int .i64 (runV l es).2.2)] ∧ h = gH gd gs gr ves ver hs) := by
  refine AC.of 62 Tryd.func9 rfl rfl rfl ?_
  refine W.reg ?_
  refine XOps.s rfl rfl rfl (Q.assign_nilsl rfl) ?_
  refine XOps.s rfl rfl rfl (Q.assign_d rfl) ?_
  refine XOps.s rfl rfl rfl (Q.assign_d rfl) ?_
  refine XOps.nil ?_
  refine W.seq ?_
  refine W.reg ?_
  refine XOps.s rfl rfl rfl (Q.move_d rfl) ?_
  refine XOps.s rfl rfl rfl (Q.call rfl Tryd.func16 go16 rfl (check_c l _ (by omega) hz)) ?_
  refine XOps.s rfl rfl rfl (Q.assign_d rfl) ?_
  refine XOps.nil ?_
  refine W.reg ?_
  refine XOps.s rfl rfl rfl (Q.move_d rfl) ?_
  refine XOps.s rfl rfl rfl (Q.neq rfl rfl) ?_
  refine XOps.nil ?_
  refine W.cond rfl (fun hc17 => ?_) (fun hc17 => ?_)
  · try simp only [Bool.or_eq_true, Bool.or_eq_false_iff, Bool.and_eq_true, Bool.and_eq_false_iff, decide_eq_true_eq, decide_eq_false_iff_not, Bool.not_eq_true', Bool.not_eq_false', Int.not_lt, Int.not_le, List.length_map] at hc17
    have h17 : checkL l ≠ 0 := by first | exact hc17 | (simpa using hc17)
    have hV : runV l es = ([], 0, checkL l) := if_pos h17
    rw [hV]
    refine W.reg ?_
    refine XOps.s rfl rfl rfl (Q.move_d rfl) ?_
    refine XOps.s rfl rfl rfl (Q.assign_nilsl rfl) ?_
    refine XOps.s rfl rfl rfl (Q.assign_d rfl) ?_
    refine XOps.s rfl rfl rfl (Q.assign_d rfl) ?_
    refine XOps.nil ?_
    refine W.nild 4 2 rfl ?_
    refine W.ret ?_
    exact ⟨_, gH gd gs gr ves ver hs, rfl, HLe.refl _, rfl, rfl⟩
  · try simp only [Bool.or_eq_true, Bool.or_eq_false_iff, Bool.and_eq_true, Bool.and_eq_false_iff, decide_eq_true_eq, decide_eq_false_iff_not, Bool.not_eq_true', Bool.not_eq_false', Int.not_lt, Int.not_le, List.length_map] at hc17
    have h17 : checkL l = 0 := by first | exact hc17 | (simpa using hc17)
    refine W.skip ?_
    refine W.seq ?_
    refine W.reg ?_
    refine XOps.s rfl rfl rfl (Q.move_d rfl) ?_
    refine XOps.s rfl rfl rfl (Q.len_sl isl23 rfl) ?_
    refine XOps.s rfl rfl rfl (Q.gtr rfl rfl) ?_
    refine XOps.nil ?_
    refine W.cond rfl (fun hc21 => ?_) (fun hc21 => ?_)
    · try simp only [Bool.or_eq_true, Bool.or_eq_false_iff, Bool.and_eq_true, Bool.and_eq_false_iff, decide_eq_true_eq, decide_eq_false_iff_not, Bool.not_eq_true', Bool.not_eq_false', Int.not_lt, Int.not_le, List.length_map] at hc21
      have hV : runV l es = ([], 0, 2) := by unfold runV; rw [if_neg (by omega), if_pos (by omega)]
      rw [hV]
      refine W.reg ?_
      refine XOps.s rfl rfl rfl (Q.assign_nilsl rfl) ?_
      refine XOps.s rfl rfl rfl (Q.assign_d rfl) ?_
      refine XOps.s rfl rfl rfl (Q.assign_d rfl) ?_
      refine XOps.nil ?_
      refine W.nild 4 2 rfl ?_
      refine W.ret ?_
      exact ⟨_, gH gd gs gr ves ver hs, rfl, HLe.refl _, rfl, rfl⟩
    · try simp only [Bool.or_eq_true, Bool.or_eq_false_iff, Bool.and_eq_true, Bool.and_eq_false_iff, decide_eq_true_eq, decide_eq_false_iff_not, Bool.not_eq_true', Bool.not_eq_false', Int.not_lt, Int.not_le, List.length_map] at hc21
      have hV : runV l es = runF l 0 none es := by unfold runV; rw [if_neg (by omega), if_neg (by omega)]
      rw [hV]
      refine W.skip ?_
      refine W.reg ?_
      refine XOps.s rfl rfl rfl (Q.move_d rfl) ?_
      refine XOps.s rfl rfl rfl (Q.call rfl Tryd.func17 go17 rfl (copy_c l _ hL hz)) ?_
      refine XOps.s rfl rfl rfl (Q.move_tup rfl) ?_
      refine XOps.s rfl rfl rfl (Q.extract rfl rfl) ?_
      refine XOps.s rfl rfl rfl (Q.extract rfl rfl) ?_
      refine XOps.s rfl rfl rfl (Q.assign_d rfl) ?_
      refine XOps.s rfl rfl rfl (Q.assign_d rfl) ?_
      refine XOps.nil ?_
      rw [(app_nil h17).1, (app_nil h17).2]
      refine W.seq ?_
      refine W.reg ?_
      refine XOps.s rfl rfl rfl (Q.move_d rfl) ?_
      refine XOps.s rfl rfl rfl (Q.len_sl isl23 rfl) ?_
      refine XOps.s rfl rfl rfl (Q.move_d rfl) ?_
      refine XOps.nil ?_
      refine W.block ?_
      refine W.loop (ι := Nat × List SR) (fun p => [(1, .d (.sl 4 (es.map EN.enc))), (8, .d (.sl 2 (p.2.map SR.enc))), (27, .d (.sl 4 (es.map EN.enc))), (28, .d (.int .i64 es.length)), (29, .d (.int .i64 (p.1 : Nat)))]) (fun p => gH gd gs gr ves ver hs) (fun p => p.1 ≤ es.length ∧ checkL p.2 = 0 ∧ runF p.2 p.1 (prevN es p.1) (es.drop p.1) = runF l 0 none es ∧ ∀ i x, i < p.1 → es[i]? = some x → checkN x = 0) (fun p => es.length - p.1) (0, l) ?_ ?_ ?_ ?_
      · exact ⟨Nat.zero_le _, h17, rfl, fun i x h => absurd h (Nat.not_lt_zero _)⟩
      · exact ⟨by first | rfl | exact int_eq (by omega) | exact len_eq (by simp) | exact int_eq (by simp; done), by first | rfl | exact int_eq (by omega) | exact len_eq (by simp) | exact int_eq (by simp; done), by first | rfl | exact int_eq (by omega) | exact len_eq (by simp) | exact int_eq (by simp; done), by exact int_eq (by rw [List.length_map]), by first | rfl | exact int_eq (by omega) | exact len_eq (by simp) | exact int_eq (by simp; done), trivial⟩
      · exact HLe.refl _
      · rintro ⟨k, out⟩ ⟨hk, hout, hI, hch⟩
        dsimp only at hk hout hI hch ⊢
        refine W.reg ?_
        refine XOps.s rfl rfl rfl (Q.lss rfl rfl) ?_
        refine XOps.nil ?_
        refine W.seq ?_
        refine W.cond rfl (fun hc30 => ?_) (fun hc30 => ?_)
        · try simp only [Bool.or_eq_true, Bool.or_eq_false_iff, Bool.and_eq_true, Bool.and_eq_false_iff, decide_eq_true_eq, decide_eq_false_iff_not, Bool.not_eq_true', Bool.not_eq_false', Int.not_lt, Int.not_le, List.length_map] at hc30
          obtain ⟨x, hx2⟩ : ∃ x, es[k]? = some x := ⟨_, List.getElem?_eq_getElem (by omega)⟩
          have hxs := hx x (List.mem_of_getElem? hx2)
          have hoz := sz_ok hout
          have hst := runF_step (l := out) (p := prevN es k) hx2
          rw [hst] at hI
          have hprev : 0 < k → 1 ≤ (es.getD (k - 1) EN.zero).num ∧ (es.getD (k - 1) EN.zero).num ≤ 500 := fun h0 => by
            have h1 : es[k - 1]? = some (es.getD (k - 1) EN.zero) := by rw [List.getD_eq_getElem?_getD, List.getElem?_eq_getElem (by omega)]; rfl
            exact (checkN_zero.1 (hch (k - 1) _ (by omega) h1)).num
          refine W.skip ?_
          refine W.seq ?_
          refine W.block ?_
          refine W.reg ?_
          refine XOps.s rfl rfl rfl (Q.move_d rfl) ?_
          refine XOps.s rfl rfl rfl (Q.idx_sl sl23 (by decide) rfl rfl (by first | omega | (simp only [List.length_map]; omega)) (by exact map_at hx2)) ?_
          refine XOps.s rfl rfl rfl (Q.ld_dpn ag36 rfl rfl) ?_
          (refine XOps.loud rfl (L.alloc tz36 rfl rfl) ?_; rintro _ _ ⟨b11, rfl, rfl⟩)
          refine XOps.s rfl rfl rfl (Q.assign_d rfl) ?_
          refine XOps.loud rfl (L.storen (k := 0) ag36 rfl rfl rfl rfl rfl) ?_
          rintro _ _ ⟨rfl, rfl⟩
          refine XOps.nil ?_
          refine W.seq ?_
          refine W.drawreg 14 follows (by kernel_rfl) ?_
          refine Chain.cons _ (GQ.q rfl (Q.move_d rfl)) rfl ?_
          refine Chain.cons _ (GQ.q rfl (Q.gtr rfl rfl)) rfl ?_
          refine Chain.cons _ (GQ.q rfl (Q.move_d rfl)) rfl ?_
          refine Chain.cons _ (GQ.g rfl rfl rfl rfl rfl (fun hg => Q.fld_ptr fl36_0 rfl)) rfl ?_
          refine Chain.cons _ (GQ.g rfl rfl rfl rfl rfl (fun hg => Quiet.open 37 hg rfl (Q.ld_ptr (k := 0) ag3 rfl rfl rfl))) rfl ?_
          refine Chain.cons _ (GQ.g rfl rfl rfl rfl rfl (fun hg => Q.move_d rfl)) rfl ?_
          refine Chain.cons _ (GQ.g rfl rfl rfl rfl rfl (fun hg => Q.move_d rfl)) rfl ?_
          refine Chain.cons _ (GQ.g rfl rfl rfl rfl rfl (fun hg => Quiet.open 40 hg rfl (Q.sub rfl rfl (wi64 (by first | omega | (dsimp only; omega) | (simp only [List.length_map]; omega)) (by first | omega | (dsimp only; omega) | (simp only [List.length_map]; omega)))))) rfl ?_
          refine Chain.cons _ (GQ.g rfl rfl rfl rfl rfl (fun hg => Quiet.open 39 hg rfl (Quiet.open 41 hg rfl (Q.idx_sl sl23 (by decide) rfl rfl (by simp at hg; omega) (prevN_row hk (by simp at hg; omega)).1)))) rfl ?_
          refine Chain.cons _ (GQ.g rfl rfl rfl rfl rfl (fun hg => Quiet.open 42 hg rfl (Q.fld_dp fl36_0 rfl))) rfl ?_
          refine Chain.cons _ (GQ.g rfl rfl rfl rfl rfl (fun hg => Quiet.open 43 hg rfl (Q.ld_dp ag3 rfl rfl))) rfl ?_
          refine Chain.cons _ (GQ.g rfl rfl rfl rfl rfl (fun hg => Quiet.open 44 hg rfl (Q.add rfl rfl (wi64 (by have := hprev (by simp at hg; omega); omega) (by have := hprev (by simp at hg; omega); omega))))) rfl ?_
          refine Chain.cons _ (GQ.g rfl rfl rfl rfl rfl (fun hg => Quiet.open 38 hg rfl (Quiet.open 45 hg rfl (Q.neq rfl rfl)))) rfl ?_
          refine Chain.cons _ (GQ.q rfl (Q.pick_and rfl rfl rfl (fun h => by first | (rw [h]; rfl) | (rw [hg, h]; rfl) | (simp [h, hg]; done)))) rfl ?_
          refine Chain.nil ?_
          refine XOps.nil ?_
          refine W.cond rfl (fun hc47 => ?_) (fun hc47 => ?_)
          · try simp only [Bool.or_eq_true, Bool.or_eq_false_iff, Bool.and_eq_true, Bool.and_eq_false_iff, decide_eq_true_eq, decide_eq_false_iff_not, Bool.not_eq_true', Bool.not_eq_false', Int.not_lt, Int.not_le, List.length_map] at hc47
            have h47 : lostB (prevN es k) x.num = true := by
              rw [(prevN_row hk (by omega)).2]
              unfold lostB
              exact decide_eq_true (by have := hc47.2; omega)
            rw [if_pos h47] at hI
            rw [← hI]
            refine W.reg ?_
            refine XOps.s rfl rfl rfl (Q.move_d rfl) ?_
            refine XOps.s rfl rfl rfl (Q.assign_nilsl rfl) ?_
            refine XOps.s rfl rfl rfl (Q.assign_d rfl) ?_
            refine XOps.s rfl rfl rfl (Q.assign_d rfl) ?_
            refine XOps.nil ?_
            refine W.nild 4 2 rfl ?_
            refine W.ret ?_
            exact ⟨_, gH gd gs gr ves ver hs, rfl, HLe.skip _ (HLe.refl _), rfl, rfl⟩
          · try simp only [Bool.or_eq_true, Bool.or_eq_false_iff, Bool.and_eq_true, Bool.and_eq_false_iff, decide_eq_true_eq, decide_eq_false_iff_not, Bool.not_eq_true', Bool.not_eq_false', Int.not_lt, Int.not_le, List.length_map] at hc47
            have h47 : ¬ lostB (prevN es k) x.num = true := by
              by_cases h0 : k = 0
              · subst h0; simp [prevN, lostB]
              · rw [(prevN_row hk (by omega)).2]
                unfold lostB
                rcases hc47 with h | h
                · exact absurd h (by omega)
                · rw [decide_eq_true_eq]; omega
            rw [if_neg h47] at hI
            refine W.skip ?_
            refine W.reg ?_
            refine XOps.s rfl rfl rfl (Q.move_d rfl) ?_
            refine XOps.s rfl rfl rfl (Q.ld_ptrn (k := 0) ag36 rfl rfl rfl) ?_
            (refine XOps.loud rfl (L.call rfl Tryd.func18 go18 rfl (AC.le (step_c out x gd gs gr ves ver o1 o2 hs (by omega) hoz.1 hxs.1 hxs.2) (HLe.skip _ (HLe.refl _))) rfl) ?_; rintro _ _ ⟨_, rfl, rfl, rfl⟩)
            refine XOps.s rfl rfl rfl (Q.move_tup rfl) ?_
            refine XOps.s rfl rfl rfl (Q.extract rfl rfl) ?_
            refine XOps.s rfl rfl rfl (Q.extract rfl rfl) ?_
            refine XOps.s rfl rfl rfl (Q.assign_d rfl) ?_
            refine XOps.s rfl rfl rfl (Q.assign_d rfl) ?_
            refine XOps.nil ?_
            refine W.seq ?_
            refine W.reg ?_
            refine XOps.s rfl rfl rfl (Q.move_d rfl) ?_
            refine XOps.s rfl rfl rfl (Q.neq rfl rfl) ?_
            refine XOps.nil ?_
            refine W.cond rfl (fun hc56 => ?_) (fun hc56 => ?_)
            · try simp only [Bool.or_eq_true, Bool.or_eq_false_iff, Bool.and_eq_true, Bool.and_eq_false_iff, decide_eq_true_eq, decide_eq_false_iff_not, Bool.not_eq_true', Bool.not_eq_false', Int.not_lt, Int.not_le, List.length_map] at hc56
              have h56 : stepE out x ≠ 0 := by first | exact hc56 | (simpa using hc56)
              rw [if_pos h56] at hI
              rw [← hI]
              refine W.reg ?_
              refine XOps.s rfl rfl rfl (Q.move_d rfl) ?_
              refine XOps.s rfl rfl rfl (Q.move_d rfl) ?_
              refine XOps.s rfl rfl rfl (Q.assign_nilsl rfl) ?_
              refine XOps.s rfl rfl rfl (Q.assign_d rfl) ?_
              refine XOps.s rfl rfl rfl (Q.assign_d rfl) ?_
              refine XOps.nil ?_
              refine W.nild 4 2 rfl ?_
              refine W.ret ?_
              exact ⟨_, gH gd gs gr ves ver hs, rfl, HLe.refl _, rfl, rfl⟩
            · try simp only [Bool.or_eq_true, Bool.or_eq_false_iff, Bool.and_eq_true, Bool.and_eq_false_iff, decide_eq_true_eq, decide_eq_false_iff_not, Bool.not_eq_true', Bool.not_eq_false', Int.not_lt, Int.not_le, List.length_map] at hc56
              have h56 : stepE out x = 0 := by first | exact hc56 | (simpa using hc56)
              rw [if_neg (by omega)] at hI
              have hso := step_ok h56
              have hpn : prevN es (k + 1) = some x.num := by unfold prevN; rw [if_neg (by omega), show k + 1 - 1 = k by omega, hx2]; rfl
              refine W.skip ?_
              refine W.region ?_
              refine XOps.s rfl rfl rfl (Q.move_d rfl) ?_
              refine XOps.s rfl rfl rfl (Q.assign_d rfl) ?_
              refine XOps.nil ?_
              refine W.region ?_
              refine XOps.s rfl rfl rfl (Q.add rfl rfl (wi64 (by first | omega | (dsimp only; omega) | (simp only [List.length_map]; omega)) (by first | omega | (dsimp only; omega) | (simp only [List.length_map]; omega)))) ?_
              refine XOps.s rfl rfl rfl (Q.move_d rfl) ?_
              refine XOps.nil ?_
              refine ⟨(k + 1, stepL out x), ?_, ?_, ?_, ?_⟩
              · refine ⟨by dsimp only; omega, hso.2.2, by dsimp only; rw [hpn]; exact hI, fun i y hi hy => ?_⟩
                dsimp only at hi
                by_cases he : i = k
                · subst he; rw [hx2] at hy; obtain rfl := Option.some.inj hy; exact hso.2.1
                · exact hch i y (by omega) hy
              · dsimp only; omega
              · exact ⟨by first | rfl | exact int_eq (by omega) | exact len_eq (by simp) | exact int_eq (by simp; done), by first | rfl | exact int_eq (by omega) | exact len_eq (by simp) | exact int_eq (by simp; done), by first | rfl | exact int_eq (by omega) | exact len_eq (by simp) | exact int_eq (by simp; done), by first | rfl | exact int_eq (by omega) | exact len_eq (by simp) | exact int_eq (by simp; done), by first | rfl | exact int_eq (by omega) | exact len_eq (by simp) | exact int_eq (by simp; done), trivial⟩
              · exact HLe.refl _
        · try simp only [Bool.or_eq_true, Bool.or_eq_false_iff, Bool.and_eq_true, Bool.and_eq_false_iff, decide_eq_true_eq, decide_eq_false_iff_not, Bool.not_eq_true', Bool.not_eq_false', Int.not_lt, Int.not_le, List.length_map] at hc30
          have hkk : k = es.length := by omega
          rw [hkk, List.drop_length] at hI
          rw [← hI]
          refine W.exit ?_
          refine W.reg ?_
          refine XOps.s rfl rfl rfl (Q.move_d rfl) ?_
          refine XOps.s rfl rfl rfl (Q.assign_d rfl) ?_
          refine XOps.s rfl rfl rfl (Q.assign_d rfl) ?_
          refine XOps.s rfl rfl rfl (Q.assign_d rfl) ?_
          refine XOps.nil ?_
          refine W.ret ?_
          exact ⟨_, gH gd gs gr ves ver hs, rfl, HLe.refl _, rfl, rfl⟩
end Go.Proofs.YtodbcbojkfndiaaDoorA
