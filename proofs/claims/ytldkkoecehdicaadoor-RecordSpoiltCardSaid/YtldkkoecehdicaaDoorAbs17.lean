/- Plain facts about lists of ints and searches, shared by the walks of library functions. -/
import Derived.Test.YtldkkoecehdicaaDoorAbs16
namespace Go.Proofs.YtldkkoecehdicaaDoorA
open Go
set_option linter.unusedVariables false

/-- R.Cut -/
def cutI (n lo hi : Int) : Int := lo + n % (hi - lo + 1)
theorem cutI_bounds (n : Int) {lo hi : Int} (h : lo ≤ hi) : lo ≤ cutI n lo hi ∧ cutI n lo hi ≤ hi := by
  have h1 := Int.emod_nonneg n (show hi - lo + 1 ≠ 0 by omega)
  have h2 := Int.emod_lt_of_pos n (show 0 < hi - lo + 1 by omega)
  unfold cutI
  omega
def nE (n : Int) : List D := [.int .i64 n]
def slN (l : List Int) : D := .sl 1 (l.map nE)
def sE (s : ByteArray) : List D := [.str s]

/-- slices.IndexFunc -/
def idxP {α : Type} (p : α → Bool) (l : List α) : Int := match l.findIdx? p with | some i => (i : Int) | none => -1
theorem idxP_some {α : Type} {p : α → Bool} {l : List α} {k : Nat} {x : α} (hx : l[k]? = some x) (hp : p x = true) (hI : ∀ (i : Nat) y, i < k → l[i]? = some y → p y = false) : idxP p l = k := by
  have : l.findIdx? p = some k := by
    obtain ⟨hlt, he⟩ := List.getElem?_eq_some_iff.1 hx
    rw [List.findIdx?_eq_some_iff_getElem]
    refine ⟨hlt, by rw [he]; exact hp, fun j hj => ?_⟩
    have := hI j _ hj (List.getElem?_eq_getElem (by omega))
    simp [this]
  rw [idxP, this]
theorem idxP_none {α : Type} {p : α → Bool} {l : List α} (hI : ∀ (i : Nat) y, l[i]? = some y → p y = false) : idxP p l = -1 := by
  have : l.findIdx? p = none := List.findIdx?_eq_none_iff.2 fun x hx => by
    obtain ⟨i, hi⟩ := List.getElem?_of_mem hx
    exact hI i x hi
  rw [idxP, this]
theorem idxP_any {α : Type} (p : α → Bool) (l : List α) : AV.d (.bool (decide ((0 : Int) ≤ idxP p l))) = .d (.bool (l.any p)) := by
  congr 2
  unfold idxP
  cases h : l.findIdx? p with
  | none =>
    have := List.findIdx?_eq_none_iff.1 h
    simp only [show ¬ ((0 : Int) ≤ -1) by omega, decide_false]
    symm
    rw [List.any_eq_false]
    intro x hx
    rw [this x hx]; simp
  | some i =>
    obtain ⟨hlt, he, _⟩ := List.findIdx?_eq_some_iff_getElem.1 h
    simp only [show ((0 : Int) ≤ (i : Int)) by omega, decide_true]
    symm
    rw [List.any_eq_true]
    exact ⟨_, List.getElem_mem hlt, he⟩
theorem idxP_at {α : Type} {p : α → Bool} {l : List α} {i : Nat} (h : idxP p l = i) : ∃ x, l[i]? = some x ∧ p x = true ∧ ∀ (j : Nat) y, j < i → l[j]? = some y → p y = false := by
  unfold idxP at h
  cases h2 : l.findIdx? p with
  | none => rw [h2] at h; simp only at h; omega
  | some j =>
    rw [h2] at h
    obtain rfl : j = i := by simp only at h; omega
    obtain ⟨hlt, he, hn⟩ := List.findIdx?_eq_some_iff_getElem.1 h2
    refine ⟨_, List.getElem?_eq_getElem hlt, he, fun q y hq hy => ?_⟩
    obtain ⟨_, he2⟩ := List.getElem?_eq_some_iff.1 hy
    have := hn q hq
    rw [he2] at this
    simpa using this
end Go.Proofs.YtldkkoecehdicaaDoorA
