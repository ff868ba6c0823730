/- slices.SortFunc and slices.Sort on own lists of one cell an element, by the kit's contracts. -/
import Derived.Test.YtlfapbkaknikpaaDoorAbs26
import Derived.Test.YtlfapbkaknikpaaDoorFrC
import Derived.Shelf.SlSortCmp.Whole1
import Derived.Shelf.Sort.Plain
namespace Go.Proofs.YtlfapbkaknikpaaDoorA
open Go Go.Sort Go.Shelf
set_option linter.unusedVariables false
set_option linter.unusedSimpArgs false

section
variable {P : Program} {α : Type} [Inhabited α]
theorem flat_one (f : α → Value) (d : Array α) : flatK (fun x => [f x]) 1 d = d.map f := by
  apply Array.ext
  · simp
  · intro i h1 h2
    have h3 : i < d.size := by simpa using h2
    have h4 := get_flatK (fun x => [f x]) 1 d i (by omega)
    rw [getElem!_pos _ i h1] at h4
    rw [h4, Array.getElem_map, Nat.div_one, Nat.mod_one, getElem!_pos d i h3]
    rfl
theorem sw_one (f : α → Value) (w : World) (b n : Nat) (d : Array α) (os : Array Obj) : sortWorldK (fun x => [f x]) 1 w b 0 n d os = sortWorld f w b 0 n d os := by
  unfold sortWorldK sortWorld putRowK
  congr 1
  unfold putRow
  congr 1
  rw [flat_one]
  funext c
  unfold putCells
  congr 1
  funext k x
  have hs : (d.map f).size = d.size := by simp
  rw [hs]
  split
  · rename_i h
    have h3 : k - 0 < d.size := by omega
    rw [getElem!_pos _ _ (by rw [hs]; exact h3), getElem!_pos d _ h3, Array.getElem_map]
    rfl
  · rfl
/-- An element's one cell. -/
def one1 (f : α → D) (x : α) : List D := [f x]
theorem one1_dvl {β : Type} (f : β → D) : (fun x => (one1 f x).map dvl) = fun x => [dvl (f x)] := rfl

theorem holds_one {κ : Kap} {w : World} {hs : Hp} {id b cap : Nat} {f : α → D} (hpl : ∀ x, (f x).plain = true) {l : List α}
    (h : HS κ w ((id, .lst 1 (l.map (one1 f))) :: hs)) (hκ : κ id = some (some b, cap)) : Holds (fun x => dvl (f x)) w b 0 l.toArray := by
  have hh := holds_lst (encD := one1 f) (fun _ => rfl) (fun x d hd => by rw [List.mem_singleton.1 hd]; exact hpl x) h hκ
  intro j hj
  have := hh j (by rw [size_flatK, Nat.mul_one]; exact hj)
  rw [one1_dvl, flat_one, getElem!_pos _ j (by simpa using hj), Array.getElem_map] at this
  rw [getElem!_pos _ j hj]
  exact this
theorem cmp_lays1 {κ : Kap} {w : World} {hs : Hp} {id b cap g : Nat} {f : α → D} (hpl : ∀ x, (f x).plain = true) {l : List α} {cf : α → α → Int}
    (h : HS κ w ((id, .lst 1 (l.map (one1 f))) :: hs)) (hκ : κ id = some (some b, cap)) {caps capsB : List AV} {cb : Array Value} (hcs : cb.size = caps.length)
    (hcr : ∀ (i : Nat) (v : Value) (x : AV), cb[i]? = some v → caps[i]? = some x → RepA κ w (Own κ ((id, .lst 1 (l.map (one1 f))) :: hs)) v x)
    (hb : ∀ rows : List (List D), BrwA ((id, .lst 1 rows) :: hs) caps capsB)
    (hcl : ∀ x y, AC P g ([.d (f x), .d (f y)] ++ capsB) [] (fun r h => r = .d (.int .i64 (cf x y)) ∧ h = [])) :
    Go.Proofs.CmpLays1 P g cb (fun x => dvl (f x)) cf b 0 l.toArray.size w := by
  intro m os dk hdk x y
  have hdl : dk.toList.length = l.length := by simpa using hdk
  obtain ⟨h1, e1⟩ := sort_back (encD := one1 f) (fun _ => rfl) (fun x d hd => by rw [List.mem_singleton.1 hd]; exact hpl x) hdl h hκ m os
  rw [show dk.toList.toArray = dk from by simp, one1_dvl, sw_one] at h1 e1
  obtain ⟨h0, _⟩ := h1.sublist (List.nil_sublist _)
  obtain ⟨hl2, hget⟩ := (hb (dk.toList.map (one1 f))).get
  refine (hcl x y κ _ _ h0 ?_ fun i v z hv hz => ?_).mono ?_
  · simp [hcs, hl2]; omega
  · rw [Array.getElem?_append] at hv
    split at hv
    · rename_i hlt
      have hi : i = 0 ∨ i = 1 := by simp at hlt; omega
      rcases hi with rfl | rfl
      · simp at hv hz
        subst hv hz
        exact .d (plain_rep _ _ (hpl x))
      · simp at hv hz
        subst hv hz
        exact .d (plain_rep _ _ (hpl y))
    · rename_i hge
      have h2 : (#[dvl (f x), dvl (f y)] : Array Value).size = 2 := rfl
      rw [h2] at hv hge
      obtain ⟨j, rfl⟩ : ∃ j, i = j + 2 := ⟨i - 2, by omega⟩
      rw [show j + 2 - 2 = j by omega] at hv
      have hz' : capsB[j]? = some z := by simpa using hz
      have hjl : j < caps.length := by rw [hl2]; exact (List.getElem?_eq_some_iff.1 hz').1
      have hx := List.getElem?_eq_getElem hjl
      have h5 := (hcr j v _ hv hx).ext e1
      exact (hget j _ z hx hz').rep h1 h5 fun b ⟨_, _, _, hi, _⟩ => by cases hi
  · rintro e w' ⟨κ', hs', u, r, rfl, h3, h4, h5, rfl, rfl⟩
    obtain rfl := h5.int_inv
    exact ⟨rfl, ext_grow h4⟩

variable {ρ : Ren}
/-- slices.SortFunc at elements of one cell: a permutation, sorted. -/
theorem AC.sort1 (L : Go.Proofs.SlLaysF.n6 P ρ) {f : α → D} (hpl : ∀ x, (f x).plain = true)
    (cf : α → α → Int) (hO : SWO (Go.Proofs.ltOf cf)) {g : FuncId} {fn : Func} (hf : P.funcs[g]? = some fn) (hg : callGo fn = true) {caps capsB : List AV} {hs : Hp} {id : Nat} (hb : ∀ rows : List (List D), BrwA ((id, .lst 1 rows) :: hs) caps capsB)
    (hcl : ∀ x y, AC P g ([.d (f x), .d (f y)] ++ capsB) [] (fun r h => r = .d (.int .i64 (cf x y)) ∧ h = []))
    (l : List α) (h0 : l ≠ []) (hL : l.length < 4611686018427387904) :
    AC P (ρ.f 6) [.vs id 0 l.length 1, .fn g caps] ((id, .lst 1 (l.map (one1 f))) :: hs) (fun r h => r = .tup [] ∧ ∃ l' : List α, l'.Perm l ∧ (∀ (i j : Nat) x y, i < j → l'[i]? = some x → l'[j]? = some y → ¬ cf y x < 0) ∧ h = (id, .lst 1 (l'.map (one1 f))) :: hs) := by
  intro κ vals w h1 h2 h3
  obtain ⟨v0, v1, rfl⟩ := two_vals h2
  have r0 := h3 0 v0 _ rfl rfl
  have r1 := h3 1 v1 _ rfl rfl
  obtain ⟨ob, cap, p, hκ, hle, hp, rfl⟩ := r0.vs_inv
  obtain ⟨cb, rfl, hcs, hcr⟩ := r1.fn_inv
  have hpos : 0 < l.length := List.length_pos_iff.2 h0
  have hbk : ∃ b, ob = some b := by
    obtain ⟨y, hy, hok⟩ := h1.ok id _ (List.mem_cons_self ..)
    rw [hκ] at hy
    obtain rfl := Option.some.inj hy
    cases ob with
    | none => exact absurd (hok.2.2.2.2.2.1 rfl) (by have := hok.1; rw [List.length_map] at this; omega)
    | some b => exact ⟨b, rfl⟩
  obtain ⟨b, rfl⟩ := hbk
  have hpe : p = some ⟨b, 0, none⟩ := by rw [hp (by omega)]; simp
  subst hpe
  have hblt : b < w.heap.size := h1.block_lt (List.mem_cons_self ..) hκ
  have eg : ∀ args w, (callFunc g args).run P w = .ok (.enter g args) w := callFunc_run hf hg
  have hcon := Go.Proofs.Any.slices_SortFunc L (fun x => dvl (f x)) (fun x => by
      have := hpl x
      show (dvl (f x)).oneCell' = true
      cases hfx : f x <;> rw [hfx] at this <;> first | (simp [D.plain] at this; done) | rfl) cf hO g cb b 0 (cap - 0) l.toArray w eg (cmp_lays1 hpl h1 hκ hcs hcr hb hcl) (holds_one hpl h1 hκ) hblt (by simpa using hL)
  rw [show l.toArray.size = l.length by simp] at hcon
  refine hcon.mono ?_
  rintro e w' ⟨rfl, d', n, os, hpm, hsd, rfl⟩
  obtain ⟨h5, h6⟩ := sorted_perm (cf := cf) (by simpa using hpm) (by simpa using hsd)
  obtain ⟨h7, h8⟩ := sort_back (encD := one1 f) (fun _ => rfl) (fun x d hd => by rw [List.mem_singleton.1 hd]; exact hpl x) h5.length_eq h1 hκ n os
  rw [show d'.toList.toArray = d' from by simp, one1_dvl, sw_one] at h7 h8
  exact ⟨κ, _, _, .tup [], rfl, h7, h8, .tup _ _ rfl (fun i v x hi => by simp at hi), rfl, d'.toList, h5, h6, rfl⟩

/-- slices.Sort of ints. -/
theorem AC.sortN (L : Lays.n189 P ρ) {hs : Hp} {id : Nat} (l : List Int) (h0 : l ≠ []) (hL : l.length < 4611686018427387904) :
    AC P (ρ.f 189) [.vs id 0 l.length 1] ((id, .lst 1 (l.map nE)) :: hs) (fun r h => r = .tup [] ∧ h = (id, .lst 1 ((l.mergeSort fun x y => decide (x ≤ y)).map nE)) :: hs) := by
  intro κ vals w h1 h2 h3
  obtain ⟨v0, rfl⟩ : ∃ v0, vals = #[v0] := by
    have hsz : vals.size = 1 := h2
    refine ⟨vals[0], ?_⟩
    apply Array.ext
    · exact hsz
    · intro i hi hi'
      obtain rfl : i = 0 := by omega
      rfl
  have r0 := h3 0 v0 _ rfl rfl
  obtain ⟨ob, cap, p, hκ, hle, hp, rfl⟩ := r0.vs_inv
  have hpos : 0 < l.length := List.length_pos_iff.2 h0
  have hbk : ∃ b, ob = some b := by
    obtain ⟨y, hy, hok⟩ := h1.ok id _ (List.mem_cons_self ..)
    rw [hκ] at hy
    obtain rfl := Option.some.inj hy
    cases ob with
    | none => exact absurd (hok.2.2.2.2.2.1 rfl) (by have := hok.1; rw [List.length_map] at this; omega)
    | some b => exact ⟨b, rfl⟩
  obtain ⟨b, rfl⟩ := hbk
  have hpe : p = some ⟨b, 0, none⟩ := by rw [hp (by omega)]; simp
  subst hpe
  have hblt : b < w.heap.size := h1.block_lt (List.mem_cons_self ..) hκ
  have hcon := Go.Proofs.Any.slices_Sort_int L b 0 (cap - 0) l w (holds_one (f := fun n => .int .i64 n) (fun _ => rfl) h1 hκ) hblt hL
  refine hcon.mono ?_
  rintro e w' ⟨rfl, n, os, rfl⟩
  obtain ⟨h7, h8⟩ := sort_back (encD := one1 fun n => .int .i64 n) (l' := l.mergeSort fun x y => decide (x ≤ y)) (fun _ => rfl) (fun x d hd => by rw [List.mem_singleton.1 hd]; rfl) (List.length_mergeSort _) h1 hκ n os
  rw [one1_dvl, sw_one] at h7 h8
  exact ⟨κ, _, _, .tup [], rfl, h7, h8, .tup _ _ rfl (fun i v x hi => by simp at hi), rfl, rfl⟩
end
end Go.Proofs.YtlfapbkaknikpaaDoorA
