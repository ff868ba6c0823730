/- slices.Sort of strings, by the kit's contract. -/
import Derived.Test.YtlfapbkaknikpaaDoorSt0
import Derived.Test.YtlfapbkaknikpaaDoorStr
import Derived.Test.YtlfapbkaknikpaaDoorAbs33
import Derived.Shelf.Slices.In.SortNone
namespace Go.Proofs.YtlfapbkaknikpaaDoorA
open Go Go.Sort Go.Shelf
set_option linter.unusedVariables false
set_option linter.unusedSimpArgs false

def fS (l : List UInt8) : D := .str (bs l)
def sortB (l : List ByteArray) : List ByteArray := ((l.map bl).mergeSort fun x y => decide (x ≤ y)).map bs
theorem one_sE (l : List (List UInt8)) : l.map (one1 fS) = (l.map bs).map sE := by rw [List.map_map]; rfl
theorem bs_bl_map (l : List ByteArray) : (l.map bl).map bs = l := by rw [List.map_map]; exact List.map_id _
section
variable {P : Program} {ρ : Ren}
theorem AC.sortS (L : Lays.n190 P ρ) {hs : Hp} {id : Nat} (l : List ByteArray) (hL : l.length < 4611686018427387904) :
    AC P (ρ.f 190) [.vs id 0 l.length 1] ((id, .lst 1 (l.map sE)) :: hs) (fun r h => r = .tup [] ∧ h = (id, .lst 1 ((sortB l).map sE)) :: hs) := by
  intro κ vals w h1 h2 h3
  obtain ⟨v0, rfl⟩ : ∃ v0, vals = #[v0] := by
    have hsz : vals.size = 1 := h2
    refine ⟨vals[0], ?_⟩
    apply Array.ext
    · exact hsz
    · intro i hi hi'
      obtain rfl : i = 0 := by omega
      rfl
  have r0 := h3 0 v0 _ rfl rfl
  obtain ⟨ob, cap, p, hκ, hle, hp, rfl⟩ := r0.vs_inv
  by_cases h0 : l = []
  · subst h0
    refine (Go.Proofs.Any.slices_Sort_string_none L p (cap - 0) w).mono ?_
    rintro e w' ⟨rfl, rfl⟩
    exact ⟨κ, _, _, .tup [], rfl, h1, .refl _ _ _, .tup _ _ rfl (fun i v x hi => by simp at hi), rfl, by simp [sortB]⟩
  have hpos : 0 < l.length := List.length_pos_iff.2 h0
  have hbk : ∃ b, ob = some b := by
    obtain ⟨y, hy, hok⟩ := h1.ok id _ (List.mem_cons_self ..)
    rw [hκ] at hy
    obtain rfl := Option.some.inj hy
    cases ob with
    | none => exact absurd (hok.2.2.2.2.2.1 rfl) (by have := hok.1; rw [List.length_map] at this; omega)
    | some b => exact ⟨b, rfl⟩
  obtain ⟨b, rfl⟩ := hbk
  have hpe : p = some ⟨b, 0, none⟩ := by rw [hp (by omega)]; simp
  subst hpe
  have hblt : b < w.heap.size := h1.block_lt (List.mem_cons_self ..) hκ
  have hrow : l.map sE = (l.map bl).map (one1 fS) := by rw [one_sE, bs_bl_map]
  rw [hrow] at h1
  have hcon := Go.Proofs.Any.slices_Sort_string L b 0 (cap - 0) (l.map bl) w (holds_one (f := fS) (fun _ => rfl) h1 hκ) hblt (by rw [List.length_map]; exact hL)
  rw [List.length_map] at hcon
  refine hcon.mono ?_
  rintro e w' ⟨rfl, n, os, rfl⟩
  obtain ⟨h7, h8⟩ := sort_back (encD := one1 fS) (l' := (l.map bl).mergeSort fun x y => decide (x ≤ y)) (fun _ => rfl) (fun x d hd => by rw [List.mem_singleton.1 hd]; rfl) (List.length_mergeSort _) h1 hκ n os
  rw [one1_dvl, sw_one] at h7 h8
  have hout : ((l.map bl).mergeSort fun x y => decide (x ≤ y)).map (one1 fS) = (sortB l).map sE := one_sE _
  rw [hout] at h7 h8
  rw [← hrow] at h8
  exact ⟨κ, _, _, .tup [], rfl, h7, h8, .tup _ _ rfl (fun i v x hi => by simp at hi), rfl, rfl⟩
end
theorem sortB_len (l : List ByteArray) : (sortB l).length = l.length := by unfold sortB; rw [List.length_map, List.length_mergeSort, List.length_map]
theorem sortB_perm {a b : List ByteArray} (h : a.Perm b) : sortB a = sortB b := by
  unfold sortB
  congr 1
  have tr : ∀ a b c : List UInt8, decide (a ≤ b) = true → decide (b ≤ c) = true → decide (a ≤ c) = true := fun a b c h1 h2 => decide_eq_true (List.le_trans (of_decide_eq_true h1) (of_decide_eq_true h2))
  have to : ∀ a b : List UInt8, (decide (a ≤ b) || decide (b ≤ a)) = true := fun a b => by
    rcases List.le_total a b with h | h
    · rw [decide_eq_true h]; rfl
    · rw [decide_eq_true h]; simp
  refine List.Perm.eq_of_pairwise (le := fun x y => decide (x ≤ y) = true) (fun a b _ _ h1 h2 => List.le_antisymm (of_decide_eq_true h1) (of_decide_eq_true h2)) (List.pairwise_mergeSort tr to _) (List.pairwise_mergeSort tr to _) ?_
  exact (List.mergeSort_perm _ _).trans ((h.map bl).trans (List.mergeSort_perm _ _).symm)
end Go.Proofs.YtlfapbkaknikpaaDoorA
