/- Owned lists that a call hands back, read as data; lists changed in place from the front; R.Cut's remainder. -/
import Derived.Test.YtldkkoecehdicaaDoorAbs10
namespace Go.Proofs.YtldkkoecehdicaaDoorA
open Go
set_option linter.unusedVariables false
set_option linter.unusedSimpArgs false

theorem vs_frz {κ : Kap} {w : World} {hs : Hp} {k id n sz : Nat} {rows : List (List D)} {u : Value} (h : HS κ w hs) (hk : hs[k]? = some (id, .lst sz rows)) (hv : RepA κ w (Own κ hs) u (.vs id 0 n sz)) (hn : n = rows.length) :
    RepA κ w (Own κ (hs.eraseIdx k)) u (.d (.sl sz rows)) := by
  obtain ⟨h1, e⟩ := h.sublist (List.eraseIdx_sublist hs k)
  have hmem : (id, HO.lst sz rows) ∈ hs := List.mem_of_getElem? hk
  cases hv with
  | vs ob cap p _ _ _ _ hkk hle hp =>
    obtain ⟨x, hx, hok⟩ := h.ok id _ hmem
    rw [hkk] at hx
    obtain rfl := Option.some.inj hx
    obtain ⟨g0, _, g1, g2, g3, g4, g5⟩ := hok
    have hnot : ∀ b, ob = some b → ¬ Own κ (hs.eraseIdx k) b := by
      rintro b rfl ⟨id', o', c', hi', hk'⟩
      have : id' = id := h.inj id' id o' _ b c' cap ((List.eraseIdx_sublist hs k).subset hi') hmem hk' hkk
      subst this
      have hnd := h.nodup
      have h3 := ((erase_perm hs k _ hk).map (·.1)).nodup_iff.2 hnd
      rw [List.map_cons, List.nodup_cons] at h3
      exact h3.1 (List.mem_map.2 ⟨_, hi', rfl⟩)
    cases ob with
    | none =>
      have hc0 : cap = 0 := g4 rfl
      subst hc0
      have hr0 : rows = [] := List.eq_nil_of_length_eq_zero (by omega)
      subst hr0
      exact .d (.sl _ _ _ _ _ (fun _ _ => undef) hn (by simp at hn; omega) (by simp) (by simp) (by simp) (by simp))
    | some b =>
      obtain ⟨cs, T, hw, hsz, hr⟩ := g5 b rfl
      have hpp : rows ≠ [] → p = some ⟨b, 0, none⟩ := fun hne => by
        have h0 : 0 < rows.length := List.length_pos_iff.2 hne
        have := hp (by omega)
        simpa using this
      refine .d (.sl p n (cap - 0) sz rows (fun i j => cs.getD (i * sz + j) undef) hn (by omega) g2 g3 (fun i j r d hi hj => ?_) (fun i j r d hi hj => ?_))
      · obtain ⟨v, hv, _⟩ := hr i j r d hi hj
        have hne : rows ≠ [] := by rintro rfl; simp at hi
        refine ⟨_, hpp hne, hnot b rfl, ?_⟩
        have hadd : (⟨b, 0, none⟩ : Addr).add (i * sz + j) = ⟨b, i * sz + j, none⟩ := by unfold Addr.add; split <;> simp_all
        rw [hadd]
        simp [World.cell?, hw, hv]
      · obtain ⟨v, hv, hd⟩ := hr i j r d hi hj
        have : cs.getD (i * sz + j) undef = v := by simp [hv]
        rw [this]
        exact hd.mono (fun b _ ho => e.own b ‹_› ho) (fun _ _ _ => rfl)

/-- One part of a result, read with the list 'id' as data. -/
inductive Fz (id sz : Nat) (rows : List (List D)) : AV → AV → Prop
  | same (x) : Fz id sz rows x x
  | vs {n} (hn : n = rows.length) : Fz id sz rows (.vs id 0 n sz) (.d (.sl sz rows))

theorem Fz.rep {κ : Kap} {w : World} {hs : Hp} {id sz : Nat} {rows : List (List D)} {v : Value} {x y : AV} (f : Fz id sz rows x y) (h : HS κ w ((id, .lst sz rows) :: hs)) (hv : RepA κ w (Own κ ((id, .lst sz rows) :: hs)) v x) : RepA κ w (Own κ hs) v y := by
  cases f with
  | same x => exact hv.ext (h.sublist (List.sublist_cons_self _ _)).2
  | vs hn => exact vs_frz (k := 0) h rfl hv hn

theorem AC.frz {P : Program} {f : FuncId} {args : List AV} {hs : Hp} {sz : Nat} {rows : List (List D)} {v : AV} (h : AC P f args hs (fun r h' => ∃ id, h' = (id, .lst sz rows) :: hs ∧ Fz id sz rows r v)) :
    AC P f args hs (fun r h' => r = v ∧ h' = hs) := fun κ vals w h1 h2 h3 => (h κ vals w h1 h2 h3).mono fun e w' hh => by
  obtain ⟨κ', hs', u, x, he, h4, h5, h6, id, rfl, hz⟩ := hh
  obtain ⟨h7, h8⟩ := h4.sublist (List.sublist_cons_self _ _)
  exact ⟨κ', hs, u, v, he, h7, h5.trans h8, hz.rep h4 h6, rfl, rfl⟩

/-- The same for two results. -/
theorem AC.frz2 {P : Program} {f : FuncId} {args : List AV} {hs : Hp} {sz : Nat} {rows : List (List D)} {v v' : AV} (h : AC P f args hs (fun r h' => ∃ id x x', h' = (id, .lst sz rows) :: hs ∧ r = .tup [x, x'] ∧ Fz id sz rows x v ∧ Fz id sz rows x' v')) :
    AC P f args hs (fun r h' => r = .tup [v, v'] ∧ h' = hs) := fun κ vals w h1 h2 h3 => (h κ vals w h1 h2 h3).mono fun e w' hh => by
  obtain ⟨κ', hs', u, _, he, h4, h5, h6, id, x, x', rfl, rfl, hz, hz'⟩ := hh
  obtain ⟨h7, h8⟩ := h4.sublist (List.sublist_cons_self _ _)
  refine ⟨κ', hs, u, _, he, h7, h5.trans h8, ?_, rfl, rfl⟩
  cases h6 with
  | tup cs l hsz hh =>
    refine .tup cs _ (by simpa using hsz) fun i v0 y hi hy => ?_
    match i, hy with
    | 0, hy => simp at hy; subst hy; exact hz.rep h4 (hh 0 v0 x hi rfl)
    | 1, hy => simp at hy; subst hy; exact hz'.rep h4 (hh 1 v0 x' hi rfl)

/-! ### a list whose first k elements are changed already -/
section
variable {α : Type} (f : α → α)
def upd (k : Nat) (l : List α) : List α := (l.take k).map f ++ l.drop k
theorem upd_zero (l : List α) : upd f 0 l = l := by simp [upd]
theorem upd_length (k : Nat) (l : List α) : (upd f k l).length = l.length := by
  simp only [upd, List.length_append, List.length_map, List.length_take, List.length_drop]; omega
theorem upd_at (k : Nat) (l : List α) : (upd f k l)[k]? = l[k]? := by
  unfold upd
  rcases Nat.lt_or_ge k l.length with h | h
  · rw [List.getElem?_append_right (by simp; omega)]
    simp only [List.length_map, List.length_take, List.getElem?_drop]
    congr 1; omega
  · rw [List.getElem?_eq_none h, List.getElem?_eq_none]
    simp only [List.length_append, List.length_map, List.length_take, List.length_drop]; omega
theorem upd_all (l : List α) {k : Nat} (h : l.length ≤ k) : upd f k l = l.map f := by simp [upd, List.take_of_length_le h, List.drop_eq_nil_of_le h]
theorem upd_succ {l : List α} {k : Nat} {x : α} (hx : l[k]? = some x) : upd f (k + 1) l = (upd f k l).set k (f x) := by
  obtain ⟨hk, rfl⟩ := List.getElem?_eq_some_iff.1 hx
  unfold upd
  rw [List.set_append_right _ _ (by simp; omega), List.drop_eq_getElem_cons hk]
  simp only [List.length_map, List.length_take, Nat.min_eq_left (Nat.le_of_lt hk), Nat.sub_self, List.set_cons_zero]
  rw [List.take_add_one, List.getElem?_eq_getElem hk]
  simp only [Option.toList_some, List.map_append, List.map_cons, List.map_nil, List.append_assoc, List.singleton_append]
variable {β : Type} (g : α → β)
theorem upd_map_at {k : Nat} {l : List α} {x : α} (hx : l[k]? = some x) : ((upd f k l).map g)[0 + ((k : Nat) : Int).toNat]? = some (g x) := by
  simp [upd_at, hx]
theorem upd_map_succ {l : List α} {k : Nat} {x : α} (hx : l[k]? = some x) : (upd f (k + 1) l).map g = ((upd f k l).map g).set (0 + ((k : Nat) : Int).toNat) (g (f x)) := by
  rw [upd_succ f hx, List.map_set]; simp
end
theorem set_at {α : Type} {l : List α} {k : Nat} {x : α} (h : k < l.length) : (l.set k x)[k]? = some x := by simp [h]

/-- R.Cut. -/
theorem cut_mod {n m t : Int} (hm : 0 < m) (ht : n.tmod m = t) : (if t < 0 then t + m else t) = n % m := by
  subst ht
  rw [Int.tmod_eq_emod]
  have h1 := Int.emod_nonneg n (by omega : m ≠ 0)
  have h2 := Int.emod_lt_of_pos n hm
  have h3 : (m.natAbs : Int) = m := by omega
  by_cases hd : 0 ≤ n ∨ m ∣ n
  · rw [if_pos hd]
    split <;> omega
  · rw [if_neg hd, h3]
    have h5 : ¬ m ∣ n := fun h => hd (.inr h)
    have h6 : n % m ≠ 0 := fun h => h5 (Int.dvd_of_emod_eq_zero h)
    split <;> omega
end Go.Proofs.YtldkkoecehdicaaDoorA
