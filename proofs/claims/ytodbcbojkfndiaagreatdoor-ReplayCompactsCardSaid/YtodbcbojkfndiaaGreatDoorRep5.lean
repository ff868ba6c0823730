/- A log applied in two parts. -/
import Derived.Test.YtodbcbojkfndiaaGreatDoorRep2
namespace Go.Proofs.YtodbcbojkfndiaaGreatDoorA
open Go
set_option linter.unusedVariables false
set_option linter.unusedSimpArgs false
set_option linter.unnecessarySimpa false

theorem partsG {l : List SR} {es : List EN} (hnum : ∀ (k : Nat) (x : EN), es[k]? = some x → x.num = (k : Int) + 1) (hL : es.length ≤ 500) (n : Nat) (hn : n ≤ es.length) :
    ((runV l (es.take n)).2.2 ≠ 0 → (runV l es).2.2 = (runV l (es.take n)).2.2 ∧ (runV l es).2.1 = (runV l (es.take n)).2.1 ∧ (runV l es).1 = [] ∧ (runV l (es.take n)).1 = []) ∧
    ((runV l (es.take n)).2.2 = 0 → (runV l es).2.2 = (runV (runV l (es.take n)).1 (es.drop n)).2.2 ∧
      (runV l es).2.1 = (if (runV (runV l (es.take n)).1 (es.drop n)).2.2 ≠ 0 then n + (runV (runV l (es.take n)).1 (es.drop n)).2.1 else (runV (runV l (es.take n)).1 (es.drop n)).2.1) ∧
      (runV l es).1 = (runV (runV l (es.take n)).1 (es.drop n)).1) := by
  by_cases hc : checkL l = 0
  · have e1 : runV l es = runF l 0 none es := by unfold runV; rw [if_neg (by omega), if_neg (by omega)]
    have e2 : runV l (es.take n) = runF l 0 none (es.take n) := by unfold runV; rw [if_neg (by omega), if_neg (by simp; omega)]
    have hap : runF l 0 none es = if (runF l 0 none (es.take n)).2.2 ≠ 0 then runF l 0 none (es.take n) else runF (runF l 0 none (es.take n)).1 (0 + (es.take n).length) (endP none (es.take n)) (es.drop n) := by
      conv => lhs; rw [← List.take_append_drop n es]
      exact runF_app _ _ _ _ _
    rw [e1, e2]
    constructor
    · intro h
      rw [hap, if_pos h]
      exact ⟨rfl, rfl, runF_err _ _ _ _ h, runF_err _ _ _ _ h⟩
    · intro h
      rw [if_neg (by omega)] at hap
      have hok := runF_ok (es.take n) l 0 none hc
      generalize hb : (runF l 0 none (es.take n)).1 = b at hap hok ⊢
      have e3 : runV b (es.drop n) = runF b 0 none (es.drop n) := by unfold runV; rw [if_neg (by omega), if_neg (by simp; omega)]
      have hfr := runF_from (es.drop n) b n 0 (endP none (es.take n)) (fun x hx => by
        unfold endP
        cases hl : (es.take n).getLast? with
        | none => rfl
        | some y =>
          have hy : es[n - 1]? = some y := by
            rw [List.getLast?_eq_getElem?, List.length_take, List.getElem?_take] at hl
            split at hl
            · rw [show min n es.length - 1 = n - 1 by omega] at hl; exact hl
            · cases hl
          have hx2 : es[n]? = some x := by rw [List.head?_drop] at hx; exact hx
          have hn0 : n ≠ 0 := fun h0 => by subst h0; simp at hl
          have a1 := hnum _ _ hy
          have a2 := hnum _ _ hx2
          unfold lostB
          exact decide_eq_false (by rw [a1, a2]; omega))
      rw [Nat.add_zero] at hfr
      rw [hap, e3, show 0 + (es.take n).length = n by simp; omega, hfr]
      refine ⟨rfl, ?_, rfl⟩
      dsimp only
      split
      · rfl
      · rename_i h0
        have : ∀ (es : List EN) (l : List SR) (k : Nat) (p : Option Int), (runF l k p es).2.2 = 0 → (runF l k p es).2.1 = 0 := by
          intro es
          induction es with
          | nil => intro l k p h; rfl
          | cons x es ih =>
            intro l k p h
            rw [runF] at h ⊢
            split at h
            · simp at h
            · rename_i q1
              rw [if_neg q1]
              split at h
              · exact absurd h ‹_›
              · rename_i q2; rw [if_neg q2]; exact ih _ _ _ h
        exact (this _ _ _ _ (by omega)).symm
  · have e1 : ∀ es, runV l es = ([], 0, checkL l) := fun es => if_pos hc
    rw [e1, e1]
    exact ⟨fun _ => ⟨rfl, rfl, rfl, rfl⟩, fun h => absurd h hc⟩
end Go.Proofs.YtodbcbojkfndiaaGreatDoorA
