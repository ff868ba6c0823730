/- The sorts at no element. -/
import Derived.Test.YtjmadiegikbjpaaAbs33
import Derived.Shelf.SlSortCmp.NoneTotal
import Derived.Shelf.Slices.In.SortNone
namespace Go.Proofs.YtjmadiegikbjpaaA
open Go Go.Sort Go.Shelf
set_option linter.unusedVariables false
set_option linter.unusedSimpArgs false

section
variable {P : Program} {ρ : Ren}
theorem AC.sort0 (L : Go.Proofs.SlLaysF.n6 P ρ) {g : FuncId} {caps : List AV} {hs : Hp} {id sz : Nat} :
    AC P (ρ.f 6) [.vs id 0 0 sz, .fn g caps] hs (fun r h => r = .tup [] ∧ h = hs) := by
  intro κ vals w h1 h2 h3
  obtain ⟨v0, v1, rfl⟩ := two_vals h2
  have r0 := h3 0 v0 _ rfl rfl
  obtain ⟨ob, cap, p, hκ, hle, hp, rfl⟩ := r0.vs_inv
  refine (Go.Proofs.AnyF.slices_SortFunc_none { L with } p (cap - 0) v1 w).mono ?_
  rintro e w' ⟨rfl, rfl⟩
  exact ⟨κ, hs, _, .tup [], rfl, h1, .refl _ _ _, .tup _ _ rfl (fun i v x hi => by simp at hi), rfl, rfl⟩
theorem AC.sortN0 (L : Lays.n189 P ρ) {hs : Hp} {id sz : Nat} :
    AC P (ρ.f 189) [.vs id 0 0 sz] hs (fun r h => r = .tup [] ∧ h = hs) := by
  intro κ vals w h1 h2 h3
  obtain ⟨v0, rfl⟩ : ∃ v0, vals = #[v0] := by
    have hsz : vals.size = 1 := h2
    refine ⟨vals[0], ?_⟩
    apply Array.ext
    · exact hsz
    · intro i hi hi'
      obtain rfl : i = 0 := by omega
      rfl
  have r0 := h3 0 v0 _ rfl rfl
  obtain ⟨ob, cap, p, hκ, hle, hp, rfl⟩ := r0.vs_inv
  refine (Go.Proofs.Any.slices_Sort_int_none L p (cap - 0) w).mono ?_
  rintro e w' ⟨rfl, rfl⟩
  exact ⟨κ, hs, _, .tup [], rfl, h1, .refl _ _ _, .tup _ _ rfl (fun i v x hi => by simp at hi), rfl, rfl⟩
end
end Go.Proofs.YtjmadiegikbjpaaA
