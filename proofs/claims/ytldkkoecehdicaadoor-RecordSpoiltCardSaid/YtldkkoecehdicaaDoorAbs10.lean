/- More rules: another reading of what a slot holds. -/
import Derived.Test.YtldkkoecehdicaaDoorAbs8
namespace Go.Proofs.YtldkkoecehdicaaDoorA
open Go
set_option linter.unusedVariables false
set_option linter.unusedSimpArgs false
section
variable {P : Program} {N : Nm} {σ : Env} {hs : Hp} {Q : Post} {d : Option Tmp} {ty : TypeId} {pos : String} {af : Array Edge} {g : Option (Nat × Bool)}

/-- A slot read in another way. -/
theorem W.as {c : Code} (t : Nat) {v v' : AV} (htN : Nat.blt t N.n = true) (hv : eget σ t = v) (h : ∀ κ w O u, RepA κ w O u v → RepA κ w O u v') (hw : W P N c Q ((t, v') :: σ) hs) : W P N c Q σ hs := fun κ a w s => by
  refine hw κ a w ⟨s.1, s.2, s.3, fun u => ?_⟩
  by_cases hu : u = t
  · subst hu
    rw [eget_same]
    exact h _ _ _ _ (hv ▸ s.4 u)
  · rw [eget_ne _ _ (fun he => hu he.symm)]
    exact s.4 u

theorem nilsl_sl {κ : Kap} {w : World} {O : Nat → Prop} {u : Value} (sz : Nat) (h : RepA κ w O u .nilsl) : RepA κ w O u (.d (.sl sz [])) := by
  cases h
  exact .d (.sl none 0 0 sz [] (fun _ _ => .nilIface) rfl (Nat.le_refl _) (by simp) (by simp) (by simp) (by simp))

theorem dcut_sl {κ : Kap} {w : World} {O : Nat → Prop} {u : Value} {sz : Nat} {rows : List (List D)} (h : RepA κ w O u (.dcut sz rows)) : RepA κ w O u (.d (.sl sz rows)) := by
  cases h with
  | dcut a n sz rows h => exact .d h

theorem Quiet.to {o : Oper} {v v' : AV} (h : Quiet P N σ hs o v) (k : ∀ κ w O u, RepA κ w O u v → RepA κ w O u v') : Quiet P N σ hs o v' :=
  fun κ a w s K Q hK => h κ a w s K Q fun κ' w' u h1 e hv => hK κ' w' u h1 e (k _ _ _ _ hv)

theorem Q.assign_nil {x : Operand} (sz : Nat) (hx : oev σ x = .nilsl) : Quiet P N σ hs ⟨d, .assign x, ty, pos, af, g⟩ (.d (.sl sz [])) :=
  (Q.assign hx).to fun _ _ _ _ h => nilsl_sl sz h
end
end Go.Proofs.YtldkkoecehdicaaDoorA
