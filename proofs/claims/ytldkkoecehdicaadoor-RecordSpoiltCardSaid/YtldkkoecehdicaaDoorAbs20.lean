/- A guarded operation that changes objects: two ways on. -/
import Derived.Test.YtldkkoecehdicaaDoorAbs19
namespace Go.Proofs.YtldkkoecehdicaaDoorA
open Go
set_option linter.unusedVariables false
set_option linter.unusedSimpArgs false
section
variable {P : Program} {N : Nm} {σ : Env} {hs : Hp} {ops : Array Oper} {l : List Oper} {R : Env → Hp → Prop} {Rp : AV → Hp → Prop}

theorem Sim.swap {κ : Kap} {w : World} {a : Act} {σ' : Env} (s : Sim N κ hs w σ a) (h : ∀ t u, RepA κ w (Own κ hs) u (eget σ t) → RepA κ w (Own κ hs) u (eget σ' t)) : Sim N κ hs w σ' a :=
  ⟨s.heap, s.size, s.defers, fun t => h t _ (s.get t)⟩

/-- What was yielded behind a guard that holds. -/
theorem Loud.open {o : Oper} {x : AV} {g : Bool} (t : Nat) (hg : g = true) (ht : eget σ t = .when g x) (h : Loud P N ((t, x) :: σ) hs o (fun σ' hs' => ∃ v, σ' = putE o.dst v ((t, x) :: σ) ∧ Rp v hs')) :
    Loud P N σ hs o (fun σ' hs' => ∃ v, σ' = putE o.dst v σ ∧ Rp v hs') := by
  intro κ a w s K Q hK
  have s1 : Sim N κ hs w ((t, x) :: σ) a := ⟨s.heap, s.size, s.defers, fun i => by
    by_cases hi : t = i
    · subst hi
      rw [eget_same]
      have hv := s.get t
      rw [ht] at hv
      generalize a.tmps.getD t undef = u at hv
      cases hv with | when _ _ _ h _ => exact h hg
    · rw [eget_ne σ _ hi]; exact s.get i⟩
  refine h κ a w s1 K Q fun κ' a' w' σ' hs' s' e ⟨v, hσ, hr⟩ => ?_
  subst hσ
  refine hK κ' a' w' _ hs' (s'.swap fun i u hu => ?_) e ⟨v, rfl, hr⟩
  rw [putE_get] at hu ⊢
  split
  · rename_i hd; rw [if_pos hd] at hu; exact hu
  · rename_i hd
    rw [if_neg hd] at hu
    by_cases hi : t = i
    · subst hi
      rw [eget_same] at hu
      rw [ht]
      exact .when _ _ _ (fun _ => hu) fun hf => by rw [hg] at hf; cases hf
    · rw [eget_ne σ _ hi] at hu; exact hu

theorem XOps.gl (X : AV) {o oj : Oper} {j t : Nat} {b want : Bool} (hg : o.guard = some (j, want)) (hj : ops[j]? = some oj) (hjd : oj.dst = some t) (hb : eget σ t = .d (.bool b)) (htN : Nat.blt t N.n = true) (hdN : dstOk N o.dst = true)
    (h : (b == want) = true → Loud P N σ hs o (fun σ' hs' => ∃ v, σ' = putE o.dst v σ ∧ Rp v hs')) (hl1 : (b == want) = true → ∀ v hs', Rp v hs' → XOps P N ops l (putE o.dst (.when (b == want) v) σ) hs' R)
    (hl2 : (b == want) = false → XOps P N ops l (putE o.dst (.when (b == want) X) σ) hs R) : XOps P N ops (o :: l) σ hs R := by
  intro κ a w s Q hQ
  have hv := s.get t
  rw [hb] at hv
  have htl : t < a.tmps.size := by rw [s.size]; simpa [Nat.blt_eq] using htN
  have hv2 := hv.bool_inv
  have hy : yielded ops a.tmps j = some b := by
    have hv3 : a.tmps[t]? = some (.bool b) := by
      rw [Array.getElem?_eq_getElem htl]
      rw [show a.tmps.getD t undef = a.tmps[t] from by simp [htl]] at hv2
      rw [hv2]
    simp [yielded, hj, hjd, hv3]
  have hw : Region.wanted o (yielded ops a.tmps) = (b == want) := by
    simp only [Region.wanted, hg, hy]
    cases b <;> cases want <;> rfl
  simp only [wpL, hw]
  cases hbw : (b == want) with
  | true =>
    rw [if_pos rfl]
    refine h hbw κ a w s _ Q fun κ' a' w' σ' hs' s' e ⟨v, hσ, hr⟩ => ?_
    subst hσ
    refine hl1 hbw v hs' hr κ' a' w' (s'.swap fun i u hu => ?_) Q fun κ₂ a₂ w₂ σ₂ hs₂ s₂ e₂ h₂ => hQ κ₂ a₂ w₂ σ₂ hs₂ s₂ (e.trans e₂) h₂
    rw [putE_get] at hu ⊢
    split
    · rename_i hd; rw [if_pos hd] at hu
      exact .when _ _ _ (fun _ => hu) fun hf => by rw [hbw] at hf; cases hf
    · rename_i hd; rw [if_neg hd] at hu; exact hu
  | false =>
    rw [if_neg (by simp)]
    exact hl2 hbw κ _ w (s.putO (.refl _ _ _) s.heap hdN (.when _ _ _ (fun h => by rw [hbw] at h; cases h) fun _ => rfl)) Q hQ
end
end Go.Proofs.YtldkkoecehdicaaDoorA
