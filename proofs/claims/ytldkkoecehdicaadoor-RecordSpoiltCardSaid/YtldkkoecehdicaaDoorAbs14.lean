/- An append to a slice without room whose result is never written again: data at once. -/
import Derived.Test.YtldkkoecehdicaaDoorAbs13
namespace Go.Proofs.YtldkkoecehdicaaDoorA
open Go
set_option linter.unusedVariables false
set_option linter.unusedSimpArgs false
section
variable {P : Program} {N : Nm} {σ : Env} {hs : Hp} {ty : TypeId} {pos : String} {af : Array Edge} {g : Option (Nat × Bool)} {Q : Post}

theorem Q.app_d {d : Tmp} {t sz bytes : Nat} {rows rows2 : List (List D)} {x y : Operand} (ht : tApp P t = some (sz, bytes)) (hx : oev σ x = .dcut sz rows ∨ oev σ x = .nilsl ∧ rows = []) (hne : rows = [] ∨ rows2 ≠ [])
    (hy : oev σ y = .d (.sl sz rows2)) (hb : (rows.length + rows2.length) * bytes ≤ 140737488355328) :
    Quiet P N σ hs ⟨some d, .call ⟨.builtin .append, #[x, y], #[t, t]⟩, ty, pos, af, g⟩ (.d (.sl sz (rows ++ rows2))) := by
  intro κ a w s K Q hK
  obtain ⟨e, inf, z, hu, hi, hz, h1, h2, h3, hsz, hbb⟩ := tApp_spec ht
  have hx1 := s.oev x
  have hy1 := s.oev y; rw [hy] at hy1
  obtain ⟨q, c, news, hv2, hqc, hl2, hn2, hr2, ho2⟩ := src_cells (κ := κ) hsz hy1.d_inv
  have hx2 : ∃ p, a.eval x = .slice p rows.length rows.length ∧ RepD w (Own κ hs) (.slice p rows.length rows.length) (.sl sz rows) := by
    rcases hx with hx | ⟨hx, rfl⟩
    · rw [hx] at hx1
      generalize hv : a.eval x = v at hx1
      cases hx1 with
      | dcut p n _ _ h => cases h with
        | sl _ _ _ _ _ c hl hc hr h1 hm hd => subst hl; exact ⟨p, rfl, .sl _ _ _ _ _ c rfl hc hr h1 hm hd⟩
    · rw [hx] at hx1
      generalize hv : a.eval x = v at hx1
      cases hx1
      exact ⟨none, rfl, .sl none 0 0 sz [] (fun _ _ => undef) rfl (Nat.le_refl _) (by simp) (by simp) (by simp) (by simp)⟩
  obtain ⟨p, hv, hrep⟩ := hx2
  obtain ⟨p', c', olds, hv3, _, hl1, holds, hr1, ho1⟩ := src_cells (κ := κ) hsz hrep
  obtain ⟨rfl, _, _⟩ := Value.slice.inj hv3
  have hrr : ∀ r ∈ rows ++ rows2, r.length = sz := fun r hr => (List.mem_append.1 hr).elim (hr1 r) (hr2 r)
  have hoo : ∀ r ∈ rows ++ rows2, ∀ x ∈ r, x.one = true := fun r hr => (List.mem_append.1 hr).elim (ho1 r) (ho2 r)
  by_cases hm : rows2 = []
  · subst hm
    have hr0 : rows = [] := hne.resolve_right (by simp)
    subst hr0
    have hrun := app_op (P := P) (ty := ty) (pos := pos) (af := af) (g := g) (d := d) (t := t) hv hv2 (app0_run (P := P) (w := w) (ty := ty) hu hi (c := c) (Nat.le_refl _))
    unfold oWp
    rw [hrun]
    exact hK κ w _ s.heap (.refl _ _ _) (.d hrep)
  · have hmpos : 0 < rows2.length := List.length_pos_iff.2 hm
    have hp0 : p = none → rows.length = 0 := fun h => Classical.byContradiction fun hc => by
      have hlt : 0 < olds.length := by rw [hl1.1]; exact Nat.mul_pos (by omega) hsz
      obtain ⟨ad, he, _⟩ := holds 0 olds[0] (List.getElem?_eq_getElem hlt)
      rw [h] at he; cases he
    obtain ⟨ncap, rest, hrun, hge, hmx, hrest⟩ := grow_run (P := P) (w := w) (ty := ty) hu hi hz h1 h2 h3 olds hl1.1 (Nat.le_refl _) hp0 holds (c := c) news hl2.1 hn2 hmpos hsz (by omega) hb hbb
    obtain ⟨id', κ', h6, e6, hκ'⟩ := new_lst s.heap (cap := ncap) (rest := rest) e hsz (hl1.append hl2 hr1) hrr hoo (by simpa using hge) hmx (by simpa using hrest)
    obtain ⟨h7, e7⟩ := h6.sublist (List.sublist_cons_self _ _)
    unfold oWp
    rw [app_op hv hv2 hrun]
    refine hK κ' _ _ h7 (e6.trans e7) (vs_frz (k := 0) (id := id') (n := rows.length + rows2.length) h6 rfl ?_ (by simp))
    have := RepA.vs (κ := κ') (w := w.drew.alloc (.cells ((olds ++ news) ++ rest).toArray e)) (O := Own κ' ((id', HO.lst sz (rows ++ rows2)) :: hs)) (some w.heap.size) ncap (some ⟨w.heap.size, 0, none⟩) id' 0 (rows.length + rows2.length) sz hκ' (by omega) (fun _ => by simp)
    simpa using this
theorem Q.cut3_full {d : Option Tmp} {t sz : Nat} {rows : List (List D)} {x hi mx : Operand} {j : Int} (ht : tSl P t = some sz) (hx : oev σ x = .d (.sl sz rows)) (hh : oev σ hi = .d (.int .i64 j)) (hmx : oev σ mx = .d (.int .i64 j))
    (hj : j = rows.length) : Quiet P N σ hs ⟨d, .slice t x none (some hi) (some mx), ty, pos, af, g⟩ (.dcut sz rows) := by
  subst hj
  have h := Q.cut3_sl (P := P) (N := N) (hs := hs) (d := d) (ty := ty) (pos := pos) (af := af) (g := g) (lo := none) ht hx rfl hh hmx (by omega) (by omega) rfl (Int.le_refl _)
  simpa using h

theorem Q.app1 {α : Type} {f : α → List D} {l : List α} {z : α} {d : Tmp} {t sz bytes : Nat} {x y : Operand} (ht : tApp P t = some (sz, bytes)) (hx : oev σ x = .dcut sz (l.map f)) (hy : oev σ y = .d (.sl sz [f z])) (hb : (l.length + 1) * bytes ≤ 140737488355328) :
    Quiet P N σ hs ⟨some d, .call ⟨.builtin .append, #[x, y], #[t, t]⟩, ty, pos, af, g⟩ (.d (.sl sz ((l ++ [z]).map f))) := by
  have h := Q.app_d (P := P) (N := N) (hs := hs) (d := d) (ty := ty) (pos := pos) (af := af) (g := g) ht (.inl hx) (.inr (by simp)) hy (by simpa using hb)
  rw [List.map_append]
  exact h

/-- A result that is nil or a list that is not empty. -/
def resO (sz : Nat) : Option (List (List D)) → AV
  | none => .nilsl
  | some rows => .d (.sl sz rows)

theorem Q.neqnil_opt {d : Option Tmp} {t sz : Nat} {t' : TypeId} {o : Option (List (List D))} {x y : Operand} (ht : tSl P t = some sz) (hz : 0 < sz) (hx : oev σ x = resO sz o) (hy : oev σ y = .nilsl) (hne : ∀ r, o = some r → r ≠ []) :
    Quiet P N σ hs ⟨d, .binOp .neq t x y t', ty, pos, af, g⟩ (.d (.bool o.isSome)) := by
  cases o with
  | none => exact Q.neqnil_nil ht hx hy
  | some r => exact Q.neqnil ht hz hx hy (hne r rfl)
theorem Q.eqnil_opt {d : Option Tmp} {t sz : Nat} {t' : TypeId} {o : Option (List (List D))} {x y : Operand} (ht : tSl P t = some sz) (hz : 0 < sz) (hx : oev σ x = resO sz o) (hy : oev σ y = .nilsl) (hne : ∀ r, o = some r → r ≠ []) :
    Quiet P N σ hs ⟨d, .binOp .eql t x y t', ty, pos, af, g⟩ (.d (.bool o.isNone)) := by
  cases o with
  | none => exact Q.eqnil_nil ht hx hy
  | some r => exact Q.eqnil_cons ht hz hx hy (hne r rfl)

/-- Arguments read in another way. -/
inductive Wk : List AV → List AV → Prop
  | nil : Wk [] []
  | same {x l m} (h : Wk l m) : Wk (x :: l) (x :: m)
  | nilsl {l m} (sz) (h : Wk l m) : Wk (.nilsl :: l) (.d (.sl sz []) :: m)
  | dcut {sz rows l m} (h : Wk l m) : Wk (.dcut sz rows :: l) (.d (.sl sz rows) :: m)
theorem Wk.get {l m : List AV} (h : Wk l m) : l.length = m.length ∧ ∀ (κ : Kap) (w : World) (O : Nat → Prop) (i : Nat) (v : Value) (x y : AV), l[i]? = some x → m[i]? = some y → RepA κ w O v x → RepA κ w O v y := by
  induction h with
  | nil => exact ⟨rfl, by simp⟩
  | same h ih =>
    refine ⟨by simp [ih.1], fun κ w O i v x y hx hy hv => ?_⟩
    cases i with
    | zero => simp at hx hy; subst hx; subst hy; exact hv
    | succ i => exact ih.2 κ w O i v x y (by simpa using hx) (by simpa using hy) hv
  | nilsl sz h ih =>
    refine ⟨by simp [ih.1], fun κ w O i v x y hx hy hv => ?_⟩
    cases i with
    | zero => simp at hx hy; subst hx; subst hy; exact nilsl_sl sz hv
    | succ i => exact ih.2 κ w O i v x y (by simpa using hx) (by simpa using hy) hv
  | dcut h ih =>
    refine ⟨by simp [ih.1], fun κ w O i v x y hx hy hv => ?_⟩
    cases i with
    | zero => simp at hx hy; subst hx; subst hy; exact dcut_sl hv
    | succ i => exact ih.2 κ w O i v x y (by simpa using hx) (by simpa using hy) hv
theorem AC.args {f : FuncId} {xs ys : List AV} {R : AV → Hp → Prop} (h : AC P f ys hs R) (hk : Wk xs ys) : AC P f xs hs R := fun κ vals w h1 h2 h3 =>
  h κ vals w h1 (h2.trans hk.get.1) fun i v y hi hy => by
    obtain ⟨x, hx⟩ : ∃ x, xs[i]? = some x := ⟨_, List.getElem?_eq_getElem (by rw [hk.get.1]; exact (List.getElem?_eq_some_iff.1 hy).1)⟩
    exact hk.get.2 κ w _ i v x y hx hy (h3 i v x hi hx)
end
end Go.Proofs.YtldkkoecehdicaaDoorA
