/- slices.SortFunc on an own list of several cells an element, by the kit's contract. -/
import Derived.Test.YtlfapbkaknikpaaDoorAbs25
import Derived.Shelf.SlSortCmp.WholeK
namespace Go.Proofs.YtlfapbkaknikpaaDoorA
open Go Go.Sort Go.Shelf
set_option linter.unusedVariables false
set_option linter.unusedSimpArgs false

section
variable {P : Program} {ρ : Ren} {α : Type} [Inhabited α]
theorem holds_lst {κ : Kap} {w : World} {hs : Hp} {id sz b cap : Nat} {encD : α → List D} (hlen : ∀ x, (encD x).length = sz) (hpl : ∀ x, ∀ d ∈ encD x, d.plain = true) {l : List α}
    (h : HS κ w ((id, .lst sz (l.map encD)) :: hs)) (hκ : κ id = some (some b, cap)) : HoldsK (fun x => (encD x).map dvl) sz w b 0 l.toArray := by
  obtain ⟨y, hy, hok⟩ := h.ok id _ (List.mem_cons_self ..)
  rw [hκ] at hy
  obtain rfl := Option.some.inj hy
  obtain ⟨g0, g0', g1, g2, g3, g4, g5⟩ := hok
  obtain ⟨cs, T, hw, hcs, hr⟩ := g5 b rfl
  rw [List.length_map] at g0
  intro t ht
  rw [size_flatK] at ht
  have ht' : t < l.length * sz := by simpa using ht
  have hi : t / sz < l.length := Nat.div_lt_of_lt_mul (by rw [Nat.mul_comm]; exact ht')
  have hj : t % sz < sz := Nat.mod_lt _ g1
  have hdm : t / sz * sz + t % sz = t := by rw [Nat.mul_comm]; exact Nat.div_add_mod t sz
  obtain ⟨x, hx⟩ : ∃ x, l[t / sz]? = some x := ⟨_, List.getElem?_eq_getElem hi⟩
  obtain ⟨d, hd⟩ : ∃ d, (encD x)[t % sz]? = some d := ⟨_, List.getElem?_eq_getElem (by rw [hlen]; exact hj)⟩
  obtain ⟨v, hv, hrep⟩ := hr (t / sz) (t % sz) (encD x) d (by rw [List.getElem?_map, hx]; rfl) hd
  rw [hdm] at hv
  have hvd := hrep.plain (hpl x d (List.mem_of_getElem? hd))
  have hfl : (flatK (fun x => (encD x).map dvl) sz l.toArray)[t]! = dvl d := by
    have := flat_at (fun x => (encD x).map dvl) sz (fun x => by rw [List.length_map]; exact hlen x) l.toArray (i := t / sz) (j := t % sz) (by simpa using hi) hj
    rw [hdm] at this
    rw [this]
    have hxi : l.toArray[t / sz]! = x := by
      rw [getElem!_pos l.toArray (t / sz) (by simpa using hi)]
      have := (List.getElem?_eq_some_iff.1 hx).2
      simpa using this
    rw [hxi]
    have hj2 : ((encD x).map dvl)[t % sz]? = some (dvl d) := by rw [List.getElem?_map, hd]; rfl
    rw [List.getElem!_eq_getElem?_getD, hj2]; rfl
  have hcs2 : t < cs.size := (Array.getElem?_eq_some_iff.1 hv).1
  refine ⟨?_, ?_⟩
  · show w.cell? ⟨b, 0 + t, none⟩ = some (flatK _ _ _)[t]!
    rw [hfl, Nat.zero_add, ← hvd]
    simp [World.cell?, hw, hv]
  · show w.frozen? ⟨b, 0 + t, none⟩ = false
    simp [World.frozen?, hw]

theorem sorted_perm {cf : α → α → Int} {l : List α} {d' : Array α} (hp : PermIn 0 l.toArray.size l.toArray d') (hs : SortedIn (Go.Proofs.ltOf cf) 0 l.toArray.size d') :
    d'.toList.Perm l ∧ ∀ (i j : Nat) x y, i < j → d'.toList[i]? = some x → d'.toList[j]? = some y → ¬ cf y x < 0 := by
  obtain ⟨h1, _, h3⟩ := hp
  have e1 : (d'.extract 0 l.toArray.size).toList = d'.toList := by rw [← h1, Array.extract_size]
  have e2 : (l.toArray.extract 0 l.toArray.size).toList = l := by rw [Array.extract_size]
  rw [e1, e2] at h3
  refine ⟨h3, fun i j x y hij hx hy => ?_⟩
  have hil := (List.getElem?_eq_some_iff.1 hx).1
  have hjl := (List.getElem?_eq_some_iff.1 hy).1
  have hil' : i < d'.size := by simpa using hil
  have hjl' : j < d'.size := by simpa using hjl
  have := hs i j (Nat.zero_le _) hij (by rw [← h1]; exact hjl')
  have hx2 : d'[i]! = x := by
    rw [getElem!_pos d' i hil']
    have := (List.getElem?_eq_some_iff.1 hx).2
    simpa using this
  have hy2 : d'[j]! = y := by
    rw [getElem!_pos d' j hjl']
    have := (List.getElem?_eq_some_iff.1 hy).2
    simpa using this
  rw [hx2, hy2] at this
  unfold Go.Proofs.ltOf at this
  simpa using this

/-- slices.SortFunc: a permutation, sorted. -/
theorem AC.sortK (L : Go.Proofs.SlLaysF0.n6 P ρ) {sz : Nat} (aE : ∀ w, (isAgg (ρ.t 24)).run P w = .ok true w) (zE : ∀ w, (Go.sizeOf (ρ.t 24)).run P w = .ok sz w) {encD : α → List D} (hlen : ∀ x, (encD x).length = sz) (hpl : ∀ x, ∀ d ∈ encD x, d.plain = true)
    (cf : α → α → Int) (hO : SWO (Go.Proofs.ltOf cf)) {g : FuncId} {fn : Func} (hf : P.funcs[g]? = some fn) (hg : callGo fn = true) {caps capsB : List AV} {hs : Hp} {id : Nat} (hb : ∀ rows : List (List D), BrwA ((id, .lst sz rows) :: hs) caps capsB)
    (hcl : ∀ x y, AC P g ([.d (.agg (encD x)), .d (.agg (encD y))] ++ capsB) [] (fun r h => r = .d (.int .i64 (cf x y)) ∧ h = []))
    (l : List α) (h0 : l ≠ []) (hL : l.length < 4611686018427387904) :
    AC P (ρ.f 6) [.vs id 0 l.length sz, .fn g caps] ((id, .lst sz (l.map encD)) :: hs) (fun r h => r = .tup [] ∧ ∃ l' : List α, l'.Perm l ∧ (∀ (i j : Nat) x y, i < j → l'[i]? = some x → l'[j]? = some y → ¬ cf y x < 0) ∧ h = (id, .lst sz (l'.map encD)) :: hs) := by
  intro κ vals w h1 h2 h3
  obtain ⟨v0, v1, rfl⟩ : ∃ v0 v1, vals = #[v0, v1] := by
    have hsz : vals.size = 2 := h2
    refine ⟨vals[0], vals[1], ?_⟩
    apply Array.ext
    · exact hsz
    · intro i hi hi'
      have h01 : i = 0 ∨ i = 1 := by omega
      rcases h01 with h | h
      · subst h; rfl
      · subst h; rfl
  have r0 := h3 0 v0 _ rfl rfl
  have r1 := h3 1 v1 _ rfl rfl
  obtain ⟨ob, cap, p, hκ, hle, hp, rfl⟩ := r0.vs_inv
  obtain ⟨cb, rfl, hcs, hcr⟩ := r1.fn_inv
  have hpos : 0 < l.length := List.length_pos_iff.2 h0
  have hbk : ∃ b, ob = some b := by
    obtain ⟨y, hy, hok⟩ := h1.ok id _ (List.mem_cons_self ..)
    rw [hκ] at hy
    obtain rfl := Option.some.inj hy
    cases ob with
    | none => exact absurd (hok.2.2.2.2.2.1 rfl) (by have := hok.1; rw [List.length_map] at this; omega)
    | some b => exact ⟨b, rfl⟩
  obtain ⟨b, rfl⟩ := hbk
  have hpe : p = some ⟨b, 0, none⟩ := by rw [hp (by omega)]; simp
  subst hpe
  have hblt : b < w.heap.size := h1.block_lt (List.mem_cons_self ..) hκ
  have eg : ∀ args w, (callFunc g args).run P w = .ok (.enter g args) w := callFunc_run hf hg
  have hcon := Go.Proofs.AnyQ.slices_SortFunc L sz aE zE (fun x => (encD x).map dvl) (fun x => by rw [List.length_map]; exact hlen x) (fun x v hv => by
      obtain ⟨d, hd, rfl⟩ := List.mem_map.1 hv
      have := hpl x d hd
      cases d <;> first | (simp [D.plain] at this; done) | rfl) cf hO g cb b 0 (cap - 0) l.toArray w eg (cmp_lays hlen hpl h1 hκ hcs hcr hb hcl) (holds_lst hlen hpl h1 hκ) hblt (by simpa using hL)
  rw [show l.toArray.size = l.length by simp] at hcon
  refine hcon.mono ?_
  rintro e w' ⟨rfl, d', n, os, hpm, hsd, rfl⟩
  obtain ⟨h5, h6⟩ := sorted_perm (cf := cf) (by simpa using hpm) (by simpa using hsd)
  obtain ⟨h7, h8⟩ := sort_back hlen hpl h5.length_eq h1 hκ n os
  rw [show d'.toList.toArray = d' from by simp] at h7 h8
  exact ⟨κ, _, _, .tup [], rfl, h7, h8, .tup _ _ rfl (fun i v x hi => by simp at hi), rfl, d'.toList, h5, h6, rfl⟩
end
end Go.Proofs.YtlfapbkaknikpaaDoorA
