/- What the kit's sort asks of a comparing function, out of a contract. -/
import Derived.Test.YtlfapbkaknikpaaDoorAbs24
import Derived.Shelf.SlSortCmp.InsertionK
namespace Go.Proofs.YtlfapbkaknikpaaDoorA
open Go Go.Sort
set_option linter.unusedVariables false
set_option linter.unusedSimpArgs false

section
variable {P : Program} {α : Type} [Inhabited α]
theorem dvl_agg {w : World} {O : Nat → Prop} {ds : List D} (hpl : ∀ d ∈ ds, d.plain = true) : RepD w O (.agg (ds.map dvl).toArray) (.agg ds) := by
  refine .agg _ _ (by simp) (fun d hd => plain_one (hpl d hd)) (fun i v d hv hd => ?_)
  rw [List.getElem?_toArray, List.getElem?_map, hd] at hv
  obtain rfl := Option.some.inj hv
  exact plain_rep _ _ (hpl d (List.mem_of_getElem? hd))

/-- Behind a call that owns nothing: blocks are laid, answers are drawn. -/
theorem ext_grow {κ κ' : Kap} {w w' : World} {hs' : Hp} (e : Ext κ [] w κ' hs' w') : ∃ q os', w' = grow (w.drewN q) os' := by
  refine ⟨w'.drawn - w.drawn, w'.heap.extract w.heap.size, ?_⟩
  have hh : w'.heap = w.heap ++ w'.heap.extract w.heap.size := by
    apply Array.ext_getElem?
    intro i
    rw [Array.getElem?_append]
    split
    · rename_i hlt
      exact e.same i hlt (fun ⟨_, _, _, hi, _⟩ => by cases hi)
    · rename_i hge
      rw [Array.getElem?_extract]
      by_cases h2 : i < w'.heap.size
      · rw [if_pos (by omega), show w.heap.size + (i - w.heap.size) = i by omega]
      · rw [if_neg (by omega), Array.getElem?_eq_none (by omega)]
  have hd := e.drawn trivial
  have h1 := e.os
  have h2 := e.tape
  have h3 := e.output
  cases w with | mk heap tape drawn os output =>
  cases w' with | mk heap' tape' drawn' os' output' =>
  simp only at hh hd h1 h2 h3
  subst h1 h2 h3
  unfold grow World.drewN
  simp only [World.mk.injEq, and_true, true_and]
  exact ⟨hh, by omega⟩

theorem cmp_lays {κ : Kap} {w : World} {hs : Hp} {id sz b cap g : Nat} {encD : α → List D} (hlen : ∀ x, (encD x).length = sz) (hpl : ∀ x, ∀ d ∈ encD x, d.plain = true) {l : List α} {cf : α → α → Int}
    (h : HS κ w ((id, .lst sz (l.map encD)) :: hs)) (hκ : κ id = some (some b, cap)) {caps capsB : List AV} {cb : Array Value} (hcs : cb.size = caps.length)
    (hcr : ∀ (i : Nat) (v : Value) (x : AV), cb[i]? = some v → caps[i]? = some x → RepA κ w (Own κ ((id, .lst sz (l.map encD)) :: hs)) v x)
    (hb : ∀ rows : List (List D), BrwA ((id, .lst sz rows) :: hs) caps capsB)
    (hcl : ∀ x y, AC P g ([.d (.agg (encD x)), .d (.agg (encD y))] ++ capsB) [] (fun r h => r = .d (.int .i64 (cf x y)) ∧ h = [])) :
    Go.Proofs.CmpLays P g cb (fun x => (encD x).map dvl) sz cf b 0 l.toArray.size w := by
  intro m os dk hdk x y
  have hdl : dk.toList.length = l.length := by simpa using hdk
  obtain ⟨h1, e1⟩ := sort_back hlen hpl hdl h hκ m os
  rw [show dk.toList.toArray = dk from by simp] at h1 e1
  obtain ⟨h0, _⟩ := h1.sublist (List.nil_sublist _)
  obtain ⟨hl2, hget⟩ := (hb (dk.toList.map encD)).get
  refine (hcl x y κ _ _ h0 ?_ fun i v z hv hz => ?_).mono ?_
  · simp [hcs, hl2]; omega
  · rw [Array.getElem?_append] at hv
    split at hv
    · rename_i hlt
      have hi : i = 0 ∨ i = 1 := by simp at hlt; omega
      rcases hi with rfl | rfl
      · simp at hv hz
        subst hv hz
        exact .d (by simpa using dvl_agg (hpl x))
      · simp at hv hz
        subst hv hz
        exact .d (by simpa using dvl_agg (hpl y))
    · rename_i hge
      have h2 : (#[Value.agg (((encD x).map dvl).toArray), Value.agg (((encD y).map dvl).toArray)] : Array Value).size = 2 := rfl
      rw [h2] at hv hge
      obtain ⟨j, rfl⟩ : ∃ j, i = j + 2 := ⟨i - 2, by omega⟩
      rw [show j + 2 - 2 = j by omega] at hv
      have hz' : capsB[j]? = some z := by simpa using hz
      have hjl : j < caps.length := by rw [hl2]; exact (List.getElem?_eq_some_iff.1 hz').1
      have hx := List.getElem?_eq_getElem hjl
      have h5 := (hcr j v _ hv hx).ext e1
      exact (hget j _ z hx hz').rep h1 h5 fun b ⟨_, _, _, hi, _⟩ => by cases hi
  · rintro e w' ⟨κ', hs', u, r, rfl, h3, h4, h5, rfl, rfl⟩
    obtain rfl := h5.int_inv
    exact ⟨rfl, ext_grow h4⟩
end
end Go.Proofs.YtlfapbkaknikpaaDoorA
