/- Lists that grow, over abstract states: append, slices that are written out, make, clear. -/
import Derived.Test.YtldkkoecehdicaaDoorAbs5
namespace Go.Proofs.YtldkkoecehdicaaDoorA
open Go
set_option linter.unusedVariables false
set_option linter.unusedSimpArgs false

/-- A slice type whose elements can be appended: an element's cells and bytes. -/
def tApp (P : Program) (t : TypeId) : Option (Nat × Nat) := match P.underlying t with
  | some (.slice e) => match P.info? e with
    | some i => match i.zero with
      | some z => match Nat.beq z.cells.size i.size && Nat.blt 0 i.size && Nat.blt 0 i.bytes with
        | true => some (i.size, i.bytes)
        | false => none
      | none => none
    | none => none
  | _ => none

theorem tApp_spec {P : Program} {t sz bytes : Nat} (h : tApp P t = some (sz, bytes)) : ∃ e i z, P.underlying t = some (.slice e) ∧ P.info? e = some i ∧ i.zero = some z ∧ i.size = sz ∧ i.bytes = bytes ∧
    z.cells.size = sz ∧ 0 < sz ∧ 0 < bytes := by
  unfold tApp at h
  split at h
  · rename_i e hu
    split at h
    · rename_i i hi
      split at h
      · rename_i z hz
        split at h
        · rename_i hb
          obtain ⟨rfl, rfl⟩ := Prod.mk.inj (Option.some.inj h)
          simp only [Bool.and_eq_true] at hb
          obtain ⟨⟨h1, h2⟩, h3⟩ := hb
          exact ⟨e, i, z, hu, hi, hz, rfl, rfl, Nat.eq_of_beq_eq_true h1, by simpa [Nat.blt_eq] using h2, by simpa [Nat.blt_eq] using h3⟩
        · cases h
      · cases h
    · cases h
  · cases h

/-- Rows as cells in one line. -/
def Lined (w : World) (O : Nat → Prop) (sz : Nat) (rows : List (List D)) (vs : List Value) : Prop :=
  vs.length = rows.length * sz ∧ (∀ u ∈ vs, u.oneCell' = true) ∧ ∀ (i j : Nat) (r : List D) (x : D), rows[i]? = some r → r[j]? = some x → ∃ u, vs[i * sz + j]? = some u ∧ RepD w O u x

theorem at_row {sz : Nat} (hz : 0 < sz) {rows : List (List D)} (hr : ∀ r ∈ rows, r.length = sz) {q : Nat} (hq : q < rows.length * sz) :
    ∃ i j r x, q = i * sz + j ∧ i = q / sz ∧ j = q % sz ∧ rows[i]? = some r ∧ r[j]? = some x := by
  have hi : q / sz < rows.length := Nat.div_lt_of_lt_mul (by rw [Nat.mul_comm]; exact hq)
  have hj : q % sz < sz := Nat.mod_lt _ hz
  have hl := hr rows[q / sz] (List.getElem_mem hi)
  exact ⟨q / sz, q % sz, rows[q / sz], (rows[q / sz])[q % sz]'(by omega), by rw [Nat.mul_comm]; exact (Nat.div_add_mod q sz).symm, rfl, rfl, List.getElem?_eq_getElem hi, List.getElem?_eq_getElem _⟩

theorem src_cells {κ : Kap} {w : World} {O : Nat → Prop} {v : Value} {sz : Nat} {rows : List (List D)} (hz : 0 < sz) (h : RepD w O v (.sl sz rows)) :
    ∃ p cap vs, v = .slice p rows.length cap ∧ rows.length ≤ cap ∧ Lined w O sz rows vs ∧ (∀ (j : Nat) u, vs[j]? = some u → ∃ ad, p = some ad ∧ w.cell? (ad.add j) = some u) ∧ (∀ r ∈ rows, r.length = sz) ∧
      ∀ r ∈ rows, ∀ x ∈ r, x.one = true := by
  cases h with
  | sl p len cap _ _ c hl hc hr ho hm hd =>
    subst hl
    refine ⟨p, cap, (List.range (rows.length * sz)).map fun q => c (q / sz) (q % sz), rfl, hc, ⟨by simp, fun u hu => ?_, fun i j r x hi hj => ?_⟩, fun q u hq => ?_, hr, ho⟩
    · obtain ⟨q, hq, rfl⟩ := List.mem_map.1 hu
      obtain ⟨i, j, r, x, _, rfl, rfl, h3, h4⟩ := at_row hz hr (List.mem_range.1 hq)
      exact (hd _ _ r x h3 h4).oneCell (ho r (List.mem_of_getElem? h3) x (List.mem_of_getElem? h4))
    · have hi' : i < rows.length := (List.getElem?_eq_some_iff.1 hi).1
      have hj' : j < sz := by rw [← hr r (List.mem_of_getElem? hi)]; exact (List.getElem?_eq_some_iff.1 hj).1
      have hlt : i * sz + j < rows.length * sz := by
        have := Nat.mul_le_mul_right sz (show i + 1 ≤ rows.length from hi')
        rw [Nat.succ_mul] at this; omega
      have h1 : (i * sz + j) / sz = i := by rw [Nat.mul_comm, Nat.mul_add_div hz, Nat.div_eq_of_lt hj', Nat.add_zero]
      have h2 : (i * sz + j) % sz = j := by rw [Nat.mul_comm, Nat.mul_add_mod, Nat.mod_eq_of_lt hj']
      exact ⟨c i j, by simp [hlt, h1, h2], hd i j r x hi hj⟩
    · rw [List.getElem?_map] at hq
      obtain ⟨q', hq', rfl⟩ := Option.map_eq_some_iff.1 hq
      have hlt : q < rows.length * sz := by
        have := (List.getElem?_eq_some_iff.1 hq').1; simpa using this
      simp [hlt] at hq'
      subst hq'
      obtain ⟨i, j, r, x, h0, h1, h2, h3, h4⟩ := at_row hz hr hlt
      obtain ⟨ad, hp, _, h5⟩ := hm i j r x h3 h4
      refine ⟨ad, hp, ?_⟩
      rw [← h1, ← h2, h0]; exact h5

theorem Lined.append {w : World} {O : Nat → Prop} {sz : Nat} {r₁ r₂ : List (List D)} {v₁ v₂ : List Value} (h₁ : Lined w O sz r₁ v₁) (h₂ : Lined w O sz r₂ v₂) (hr : ∀ r ∈ r₁, r.length = sz) : Lined w O sz (r₁ ++ r₂) (v₁ ++ v₂) := by
  obtain ⟨a1, a2, a3⟩ := h₁
  obtain ⟨b1, b2, b3⟩ := h₂
  refine ⟨by simp [a1, b1, Nat.add_mul], fun u hu => (List.mem_append.1 hu).elim (a2 u) (b2 u), fun i j r x hi hj => ?_⟩
  rw [List.getElem?_append] at hi
  split at hi
  · obtain ⟨u, hu, hd⟩ := a3 i j r x hi hj
    exact ⟨u, by rw [List.getElem?_append_left (List.getElem?_eq_some_iff.1 hu).1]; exact hu, hd⟩
  · rename_i hge
    obtain ⟨u, hu, hd⟩ := b3 _ j r x hi hj
    refine ⟨u, ?_, hd⟩
    have hm : r₁.length * sz ≤ i * sz := Nat.mul_le_mul_right _ (by omega)
    rw [List.getElem?_append_right (by omega), a1, ← hu]
    congr 1
    rw [Nat.sub_mul]; omega

theorem Lined.mono {w w' : World} {O O' : Nat → Prop} {sz : Nat} {rows : List (List D)} {vs : List Value} (h : Lined w O sz rows vs) (hm : ∀ v x, RepD w O v x → RepD w' O' v x) : Lined w' O' sz rows vs :=
  ⟨h.1, h.2.1, fun i j r x hi hj => let ⟨u, h1, h2⟩ := h.2.2 i j r x hi hj; ⟨u, h1, hm _ _ h2⟩⟩

/-- A new block that holds a list, with room. -/
theorem new_lst {κ : Kap} {w : World} {hs : Hp} (h : HS κ w hs) {sz cap : Nat} {rows : List (List D)} {vs rest : List Value} (T : TypeId) (hz : 0 < sz) (hl : Lined w (Own κ hs) sz rows vs)
    (hr : ∀ r ∈ rows, r.length = sz) (ho : ∀ r ∈ rows, ∀ x ∈ r, x.one = true) (hc : rows.length ≤ cap) (hm : cap ≤ maxLen) (hrest : rest.length = (cap - rows.length) * sz) :
    ∃ id κ', HS κ' (w.drew.alloc (.cells (vs ++ rest).toArray T)) ((id, .lst sz rows) :: hs) ∧ Ext κ hs w κ' ((id, .lst sz rows) :: hs) (w.drew.alloc (.cells (vs ++ rest).toArray T)) ∧ κ' id = some (some w.heap.size, cap) := by
  obtain ⟨h1, e1⟩ := h.drew (w.drawn + 1) (Nat.le_succ _)
  have h1' : HS κ w.drew hs := h1
  have e1' : Ext κ hs w κ hs w.drew := e1
  have hl' : Lined w.drew (Own κ hs) sz rows vs := hl.mono fun v x hx => hx.ext e1'
  obtain ⟨id, κ', h2, e2, hk⟩ := h1'.alloc (vs ++ rest).toArray T (.lst sz rows) cap fun κ' id hk O hA hD => by
    refine ⟨hc, hm, hz, hr, ho, (fun h => by cases h), fun b hb => ?_⟩
    obtain rfl := Option.some.inj hb
    refine ⟨_, T, heap_alloc_new w.drew _, ?_, fun i j r x hi hj => ?_⟩
    · rw [List.size_toArray, List.length_append, hl.1, hrest, ← Nat.add_mul, Nat.add_sub_of_le hc]
    · obtain ⟨u, hu, hd⟩ := hl'.2.2 i j r x hi hj
      exact ⟨u, by simp [List.getElem?_append_left (List.getElem?_eq_some_iff.1 hu).1, hu], hD _ _ hd⟩
  exact ⟨id, κ', h2, e1'.trans e2, hk⟩

/-- What a list of one's own holds, in one line. -/
theorem lst_cells {κ : Kap} {w : World} {hs : Hp} (h : HS κ w hs) {k id sz cap : Nat} {ob : Option Nat} {rows : List (List D)} (hk : hs[k]? = some (id, .lst sz rows)) (hκ : κ id = some (ob, cap)) :
    ∃ vs, Lined w (Own κ hs) sz rows vs ∧ ∀ b, ob = some b → ∃ cs T, w.heap[b]? = some (.cells cs T (0, 0)) ∧ cs.size = cap * sz ∧ vs = cs.toList.take (rows.length * sz) := by
  obtain ⟨y, hy, hok⟩ := h.ok id _ (List.mem_of_getElem? hk)
  rw [hκ] at hy
  obtain rfl := Option.some.inj hy
  obtain ⟨g0, g0', g1, g2, g3, g4, g5⟩ := hok
  cases ob with
  | none =>
    have hr0 : rows = [] := List.eq_nil_of_length_eq_zero (by have := g4 rfl; omega)
    subst hr0
    exact ⟨[], ⟨by simp, by simp, by simp⟩, fun b hb => by cases hb⟩
  | some b =>
    obtain ⟨cs, T, hw, hsz, hrep⟩ := g5 b rfl
    have hm : rows.length * sz ≤ cap * sz := Nat.mul_le_mul_right _ g0
    refine ⟨cs.toList.take (rows.length * sz), ⟨by simp; omega, fun u hu => ?_, fun i j r x hi hj => ?_⟩, fun b' hb' => ?_⟩
    · obtain ⟨q, hq⟩ := List.getElem?_of_mem hu
      rw [List.getElem?_take] at hq
      split at hq
      · rename_i hlt
        obtain ⟨i, j, r, x, h0, _, _, h3, h4⟩ := at_row g1 g2 hlt
        obtain ⟨v, hv, hd⟩ := hrep i j r x h3 h4
        rw [← h0] at hv
        have hq' : cs[q]? = some u := by simpa using hq
        rw [hv] at hq'
        obtain rfl := Option.some.inj hq'
        exact hd.oneCell (g3 r (List.mem_of_getElem? h3) x (List.mem_of_getElem? h4))
      · cases hq
    · obtain ⟨v, hv, hd⟩ := hrep i j r x hi hj
      have hi' : i < rows.length := (List.getElem?_eq_some_iff.1 hi).1
      have hj' : j < sz := by rw [← g2 r (List.mem_of_getElem? hi)]; exact (List.getElem?_eq_some_iff.1 hj).1
      have hlt : i * sz + j < rows.length * sz := by
        have := Nat.mul_le_mul_right sz (show i + 1 ≤ rows.length from hi')
        rw [Nat.succ_mul] at this; omega
      exact ⟨v, by rw [List.getElem?_take, if_pos hlt]; simpa using hv, hd⟩
    · obtain rfl := Option.some.inj hb'
      exact ⟨cs, T, hw, hsz, rfl⟩

/-- Rows of a list of one's own are written anew, within its room. -/
theorem write_rows {P : Program} {κ : Kap} {w : World} {hs : Hp} (h : HS κ w hs) {k id b cap sz i : Nat} {rows new : List (List D)} {vs : List Value} (hk : hs[k]? = some (id, .lst sz rows)) (hκ : κ id = some (some b, cap))
    (hl : Lined w (Own κ hs) sz new vs) (hr : ∀ r ∈ new, r.length = sz) (ho : ∀ r ∈ new, ∀ x ∈ r, x.one = true) (hi : i ≤ rows.length) (hc : i + new.length ≤ cap) :
    ∃ w', (storeCells ⟨b, i * sz, none⟩ vs).run P w = .ok () w' ∧ HS κ w' (hs.set k (id, .lst sz (rows.take i ++ new ++ rows.drop (i + new.length)))) ∧
      Ext κ hs w κ (hs.set k (id, .lst sz (rows.take i ++ new ++ rows.drop (i + new.length)))) w' := by
  obtain ⟨y, hy, hok⟩ := h.ok id _ (List.mem_of_getElem? hk)
  rw [hκ] at hy
  obtain rfl := Option.some.inj hy
  obtain ⟨g0, g0', g1, g2, g3, g4, g5⟩ := hok
  obtain ⟨cs, T, hw, hsz, hrp⟩ := g5 b rfl
  have hmul : (i + new.length) * sz ≤ cap * sz := Nat.mul_le_mul_right _ hc
  rw [Nat.add_mul] at hmul
  have hst := run_storeCells_at P b (i * sz) T vs 0 cs w hw (by rw [hl.1]; omega) hl.2.1
  simp only [Nat.add_zero] at hst
  refine ⟨_, hst, h.write hk hκ (by simp) rfl rfl rfl rfl (fun q hq => setRow_other w b q _ hq) fun hA hD => ?_⟩
  refine ⟨by simp; omega, g0', g1, ?_, ?_, g4, fun b' hb' => ?_⟩
  · intro r hr'
    simp only [List.append_assoc, List.mem_append] at hr'
    rcases hr' with hr' | hr' | hr'
    · exact g2 r (List.mem_of_mem_take hr')
    · exact hr r hr'
    · exact g2 r (List.mem_of_mem_drop hr')
  · intro r hr'
    simp only [List.append_assoc, List.mem_append] at hr'
    rcases hr' with hr' | hr' | hr'
    · exact g3 r (List.mem_of_mem_take hr')
    · exact ho r hr'
    · exact g3 r (List.mem_of_mem_drop hr')
  · obtain rfl := Option.some.inj hb'
    refine ⟨_, T, setRow_heap w b cs _ T (0, 0) hw, by simp [hl.1]; omega, ?_⟩
    have get : ∀ q, (cs.toList.take (i * sz) ++ vs ++ cs.toList.drop (i * sz + vs.length)).toArray[q]? =
        if q < i * sz then cs[q]? else if q < i * sz + new.length * sz then vs[q - i * sz]? else cs[q]? := by
      intro q
      simp only [List.getElem?_toArray, List.append_assoc, List.getElem?_append, List.length_take, Array.length_toList, hl.1]
      have : min (i * sz) cs.size = i * sz := by omega
      rw [this]
      by_cases hq : q < i * sz
      · simp [hq]
      · rw [if_neg hq, if_neg hq]
        by_cases hq2 : q < i * sz + new.length * sz
        · rw [if_pos (by omega), if_pos hq2]
        · rw [if_neg (by omega), if_neg hq2, List.getElem?_drop]
          have : i * sz + new.length * sz + (q - i * sz - new.length * sz) = q := by omega
          rw [this]; simp
    intro i' j r x hi' hj
    rw [get]
    rw [List.append_assoc, List.getElem?_append] at hi'
    have hto : (rows.take i).length = i := by simp; omega
    rw [hto] at hi'
    split at hi'
    · rename_i hlt
      rw [List.getElem?_take, if_pos hlt] at hi'
      have hj' : j < sz := by rw [← g2 r (List.mem_of_getElem? hi')]; exact (List.getElem?_eq_some_iff.1 hj).1
      have := Nat.mul_le_mul_right sz (show i' + 1 ≤ i by omega)
      rw [Nat.succ_mul] at this
      obtain ⟨u, hu, hd⟩ := hrp i' j r x hi' hj
      exact ⟨u, by rw [if_pos (by omega)]; exact hu, hD _ _ hd⟩
    · rename_i hge
      have hge2 := Nat.mul_le_mul_right sz (show i ≤ i' by omega)
      rw [List.getElem?_append] at hi'
      split at hi'
      · rename_i hlt
        have hj' : j < sz := by rw [← hr r (List.mem_of_getElem? hi')]; exact (List.getElem?_eq_some_iff.1 hj).1
        obtain ⟨u, hu, hd⟩ := hl.2.2 _ j r x hi' hj
        have h2 := Nat.mul_le_mul_right sz (show i' - i + 1 ≤ new.length by omega)
        rw [Nat.succ_mul, Nat.sub_mul] at h2
        refine ⟨u, ?_, hD _ _ hd⟩
        rw [if_neg (by omega), if_pos (by omega), ← hu, Nat.sub_mul]
        congr 1; omega
      · rename_i hge3
        rw [List.getElem?_drop] at hi'
        have he : i + new.length + (i' - i - new.length) = i' := by omega
        rw [he] at hi'
        obtain ⟨u, hu, hd⟩ := hrp i' j r x hi' hj
        have h2 := Nat.mul_le_mul_right sz (show i + new.length ≤ i' by omega)
        rw [Nat.add_mul] at h2
        exact ⟨u, by rw [if_neg (by omega), if_neg (by omega)]; exact hu, hD _ _ hd⟩

section
variable {P : Program} {N : Nm} {σ : Env} {hs : Hp} {ty : TypeId} {pos : String} {af : Array Edge} {g : Option (Nat × Bool)}

theorem grow_run {w : World} {t e sz bytes ty : Nat} {inf : TypeInfo} {z : Value} (hu : P.underlying t = some (.slice e)) (hi : P.info? e = some inf) (hz : inf.zero = some z) (h1 : inf.size = sz) (h2 : inf.bytes = bytes) (h3 : z.cells.size = sz)
    {p : Option Addr} {n cap : Nat} (olds : List Value) (hlo : olds.length = n * sz) (hcn : n ≤ cap) (hp0 : p = none → cap = 0) (holds : ∀ (j : Nat) u, olds[j]? = some u → ∃ ad, p = some ad ∧ w.cell? (ad.add j) = some u)
    {q : Option Addr} {m c : Nat} (news : List Value) (hl : news.length = m * sz) (hnews : ∀ (j : Nat) u, news[j]? = some u → ∃ ad, q = some ad ∧ w.cell? (ad.add j) = some u) (hm : 0 < m) (hsz : 0 < sz)
    (hg : cap < n + m) (hb : (n + m) * bytes ≤ 140737488355328) (hbb : 0 < bytes) :
    ∃ ncap rest, (Builtin.append_ #[t, t] ty #[.slice p n cap, .slice q m c]).run P w = .ok (.slice (some ⟨w.heap.size, 0, none⟩) (n + m) ncap) (w.drew.alloc (.cells ((olds ++ news) ++ rest).toArray e)) ∧
      n + m ≤ ncap ∧ ncap ≤ maxLen ∧ rest.length = (ncap - (n + m)) * sz := by
  subst h1 h2
  have hnm : n + m ≤ 140737488355328 := by
    have := Nat.mul_le_mul_left (n + m) hbb
    omega
  have h63 : n + m ≤ maxLen := by simp only [maxLen]; omega
  have hmpos : 0 < news.length := by rw [hl]; exact Nat.mul_pos hm hsz
  obtain ⟨qa, hqa, _⟩ := hnews 0 news[0] (List.getElem?_eq_getElem hmpos)
  subst hqa
  have hn' : ∀ (j : Nat) u, news[j]? = some u → w.cell? (qa.add j) = some u := fun j u hj => by
    obtain ⟨ad, he, h⟩ := hnews j u hj
    obtain rfl := Option.some.inj he
    exact h
  have hbytes : (n + m) * inf.bytes ≤ 281474976710656 := by omega
  cases p with
  | none =>
    have hc0 := hp0 rfl
    subst hc0
    have hn0 : n = 0 := by omega
    subst hn0
    have ho : olds = [] := List.eq_nil_of_length_eq_zero (by simpa using hlo)
    subst ho
    have hr := run_append_nil (P := P) w t ty e inf z hu hi hz qa m c news hl hn' hm (by omega) (by rw [Nat.zero_add] at hbytes; exact hbytes)
    refine ⟨grownCap w m 0 e, (Builtin.zeroCells z.cells (grownCap w m 0 e - m)).toList, ?_, by have := grownCap_ge w m 0 e; omega, grownCap_le_maxLen w m 0 e (by omega), ?_⟩
    · rw [hr, show ((([] : List Value) ++ news) ++ (Builtin.zeroCells z.cells (grownCap w m 0 e - m)).toList).toArray = news.toArray ++ Builtin.zeroCells z.cells (grownCap w m 0 e - m) from by apply Array.ext'; simp, Nat.zero_add]
    · rw [Array.length_toList, size_zeroCells, h3, Nat.zero_add]
  | some pa =>
    have ho' : ∀ (j : Nat) u, olds[j]? = some u → w.cell? (pa.add j) = some u := fun j u hj => by
      obtain ⟨ad, he, h⟩ := holds j u hj
      obtain rfl := Option.some.inj he
      exact h
    have hr := run_append_grow (P := P) w t ty e inf z hu hi hz pa n cap olds hlo ho' qa m c news hl hn' hg (by omega) (growslice_fits hg hb)
    refine ⟨grownCap w (n + m) cap e, (Builtin.zeroCells z.cells (grownCap w (n + m) cap e - (n + m))).toList, ?_, grownCap_ge w (n + m) cap e, grownCap_le_maxLen w (n + m) cap e h63, ?_⟩
    · rw [hr, show ((olds ++ news) ++ (Builtin.zeroCells z.cells (grownCap w (n + m) cap e - (n + m))).toList).toArray = olds.toArray ++ news.toArray ++ Builtin.zeroCells z.cells (grownCap w (n + m) cap e - (n + m)) from by apply Array.ext'; simp]
    · rw [Array.length_toList, size_zeroCells, h3]

theorem app0_run {w : World} {t e ty : Nat} {inf : TypeInfo} (hu : P.underlying t = some (.slice e)) (hi : P.info? e = some inf) {p q : Option Addr} {n cap c : Nat} (hn : n ≤ cap) :
    (Builtin.append_ #[t, t] ty #[.slice p n cap, .slice q 0 c]).run P w = .ok (.slice p n cap) w := by
  cases p <;> cases q <;> simp [Builtin.append_, run_underlying hu, sizeOf, typeInfo, hi, Builtin.lenOf, Builtin.firstCells, loadCells, loadCellsFrom, storeCells, hn]

theorem app_op {d : Tmp} {t : Nat} {x y : Operand} {a : Act} {w w' : World} {v u : Value} (hx : a.eval x = v) (hy : a.eval y = u) {r : Value} (h : (Builtin.append_ #[t, t] ty #[v, u]).run P w = .ok r w') :
    (execOp a.eval ⟨some d, .call ⟨.builtin .append, #[x, y], #[t, t]⟩, ty, pos, af, g⟩).run P w = .ok (.value r) w' := by
  rw [builtin_run]
  simp [builtin, hx, hy, h]

/-- An append to a list of one's own. -/
theorem L.app {d : Tmp} {t id n sz bytes k : Nat} {rows rows2 : List (List D)} {x y : Operand} (ht : tApp P t = some (sz, bytes)) (hx : oev σ x = .vs id 0 n sz) (hk : hs[k]? = some (id, .lst sz rows)) (hn : n = rows.length)
    (hy : oev σ y = .d (.sl sz rows2)) (hb : (rows.length + rows2.length) * bytes ≤ 140737488355328) (hd : Nat.blt d N.n = true) :
    Loud P N σ hs ⟨some d, .call ⟨.builtin .append, #[x, y], #[t, t]⟩, ty, pos, af, g⟩
      (fun σ' hs' => ∃ id', σ' = (d, .vs id' 0 (rows.length + rows2.length) sz) :: σ ∧ hs' = (id', .lst sz (rows ++ rows2)) :: hs.eraseIdx k) := by
  intro κ a w s K Q hK
  subst hn
  have hdN : d < N.n := by simpa [Nat.blt_eq] using hd
  obtain ⟨e, inf, z, hu, hi, hz, h1, h2, h3, hsz, hbb⟩ := tApp_spec ht
  have hx1 := s.oev x; rw [hx] at hx1
  have hy1 := s.oev y; rw [hy] at hy1
  obtain ⟨ob, cap, p, hκ, hle, hp, hv⟩ := hx1.vs_inv
  obtain ⟨q, c, news, hv2, hqc, hl2, hn2, hr2, ho2⟩ := src_cells (κ := κ) hsz hy1.d_inv
  obtain ⟨olds, hl1, hblk⟩ := lst_cells s.heap hk hκ
  obtain ⟨yy, hyy, hok⟩ := s.heap.ok id _ (List.mem_of_getElem? hk)
  rw [hκ] at hyy
  obtain rfl := Option.some.inj hyy
  obtain ⟨g0, g0', g1, g2, g3, g4, g5⟩ := hok
  have hcapn : ∀ b, ob = some b → 0 < cap → p = some ⟨b, 0, none⟩ := fun b hb hc => by rw [hp hc, hb]; simp
  have hrr : ∀ r ∈ rows ++ rows2, r.length = sz := fun r hr => (List.mem_append.1 hr).elim (g2 r) (hr2 r)
  have hoo : ∀ r ∈ rows ++ rows2, ∀ x ∈ r, x.one = true := fun r hr => (List.mem_append.1 hr).elim (g3 r) (ho2 r)
  rw [Nat.sub_zero] at hv
  by_cases hm : rows2 = []
  · subst hm
    have hrun := app_op (P := P) (ty := ty) (pos := pos) (af := af) (g := g) (d := d) (t := t) hv hv2 (app0_run (P := P) (w := w) (ty := ty) hu hi (c := c) (show rows.length ≤ cap by omega))
    obtain ⟨h5, e5⟩ := s.heap.perm (erase_perm hs k _ hk)
    unfold oWp
    rw [hrun]
    refine hK κ _ w _ _ (s.put e5 h5 hdN ?_) e5 ⟨id, rfl, by simp⟩
    have := RepA.vs (κ := κ) (w := w) (O := Own κ ((id, HO.lst sz rows) :: hs.eraseIdx k)) ob cap p id 0 rows.length sz hκ hle hp
    simpa using this
  · have hmpos : 0 < rows2.length := List.length_pos_iff.2 hm
    by_cases hroom : rows.length + rows2.length ≤ cap
    · cases ob with
      | none => exact absurd (g4 rfl) (by omega)
      | some b =>
        have hpe := hcapn b rfl (by omega)
        subst hpe
        obtain ⟨cs, T, hw, hcs, hvs⟩ := hblk b rfl
        have hnpos : 0 < news.length := by rw [hl2.1]; exact Nat.mul_pos hmpos hsz
        obtain ⟨qa, hqa, _⟩ := hn2 0 news[0] (List.getElem?_eq_getElem hnpos)
        subst hqa
        have hn' : ∀ (j : Nat) u, news[j]? = some u → w.cell? (qa.add j) = some u := fun j u hj => by
          obtain ⟨ad, he, h⟩ := hn2 j u hj
          obtain rfl := Option.some.inj he
          exact h
        obtain ⟨w', hst, h5, e5⟩ := write_rows (P := P) s.heap hk hκ hl2 hr2 ho2 (Nat.le_refl _) hroom
        rw [List.take_length, List.drop_of_length_le (by omega), List.append_nil] at h5 e5
        obtain ⟨id', κ', h6, e6, hκ'⟩ := h5.rename (k := k) (id := id) (o := .lst sz (rows ++ rows2)) (by rw [List.getElem?_set]; simp [(List.getElem?_eq_some_iff.1 hk).1])
        have hers : (hs.set k (id, HO.lst sz (rows ++ rows2))).eraseIdx k = hs.eraseIdx k := List.eraseIdx_set_eq ..
        rw [hers] at h6 e6
        subst h1
        have hf := run_firstCells_some (P := P) w inf.size rows2.length qa rows2.length c news hl2.1 hn'
        have hrun : (Builtin.append_ #[t, t] ty #[.slice (some ⟨b, 0, none⟩) rows.length cap, .slice (some qa) rows2.length c]).run P w = .ok (.slice (some ⟨b, 0, none⟩) (rows.length + rows2.length) cap) w' := by
          simp [Builtin.append_, run_underlying hu, sizeOf, typeInfo, hi, Builtin.lenOf, hroom, hf, Addr.add_lit, hst]
        unfold oWp
        rw [app_op hv hv2 hrun]
        refine hK κ' _ w' _ _ (s.put (e5.trans e6) h6 hdN ?_) (e5.trans e6) ⟨id', rfl, rfl⟩
        have := RepA.vs (κ := κ') (w := w') (O := Own κ' ((id', HO.lst inf.size (rows ++ rows2)) :: hs.eraseIdx k)) (some b) cap (some ⟨b, 0, none⟩) id' 0 (rows.length + rows2.length) inf.size (hκ'.trans hκ) (by omega) (fun _ => by simp)
        simpa using this
    · have holds : ∀ (j : Nat) u, olds[j]? = some u → ∃ ad, p = some ad ∧ w.cell? (ad.add j) = some u := fun j u hj => by
        have hlt : j < olds.length := (List.getElem?_eq_some_iff.1 hj).1
        rw [hl1.1] at hlt
        have hrl : 0 < rows.length := Nat.pos_of_ne_zero fun h => by rw [h, Nat.zero_mul] at hlt; omega
        cases ob with
        | none => exact absurd (g4 rfl) (by omega)
        | some b =>
          obtain ⟨cs, T, hw, hcs, hvs⟩ := hblk b rfl
          refine ⟨_, hcapn b rfl (by omega), ?_⟩
          rw [addr_add_lit, Nat.zero_add]
          rw [hvs, List.getElem?_take, if_pos hlt] at hj
          simp [World.cell?, hw]; simpa using hj
      have hp0 : p = none → cap = 0 := fun h => Classical.byContradiction fun hc => by
        cases ob with
        | none => exact hc (g4 rfl)
        | some b => rw [hcapn b rfl (by omega)] at h; cases h
      obtain ⟨ncap, rest, hrun, hge, hmx, hrest⟩ := grow_run (P := P) (w := w) (ty := ty) hu hi hz h1 h2 h3 olds hl1.1 (by omega) hp0 holds (c := c) news hl2.1 hn2 hmpos hsz (by omega) hb hbb
      obtain ⟨h5, e5⟩ := s.heap.sublist (List.eraseIdx_sublist hs k)
      obtain ⟨id', κ', h6, e6, hκ'⟩ := new_lst h5 (cap := ncap) (rest := rest) e hsz ((hl1.append hl2 g2).mono fun v x hx => hx.ext e5) hrr hoo (by simpa using hge) hmx (by simpa using hrest)
      unfold oWp
      rw [app_op hv hv2 hrun]
      refine hK κ' _ _ _ _ (s.put (e5.trans e6) h6 hdN ?_) (e5.trans e6) ⟨id', rfl, rfl⟩
      have := RepA.vs (κ := κ') (w := w.drew.alloc (.cells ((olds ++ news) ++ rest).toArray e)) (O := Own κ' ((id', HO.lst sz (rows ++ rows2)) :: hs.eraseIdx k)) (some w.heap.size) ncap (some ⟨w.heap.size, 0, none⟩) id' 0 (rows.length + rows2.length) sz hκ' (by omega) (fun _ => by simp)
      simpa using this

/-- An append to a slice without room: nil, or cut so. -/
theorem L.app_new {d : Tmp} {t sz bytes : Nat} {rows rows2 : List (List D)} {x y : Operand} (ht : tApp P t = some (sz, bytes)) (hx : oev σ x = .dcut sz rows ∨ oev σ x = .nilsl ∧ rows = []) (hne : rows = [] ∨ rows2 ≠ [])
    (hy : oev σ y = .d (.sl sz rows2)) (hb : (rows.length + rows2.length) * bytes ≤ 140737488355328) (hd : Nat.blt d N.n = true) :
    Loud P N σ hs ⟨some d, .call ⟨.builtin .append, #[x, y], #[t, t]⟩, ty, pos, af, g⟩
      (fun σ' hs' => ∃ id', σ' = (d, .vs id' 0 (rows.length + rows2.length) sz) :: σ ∧ hs' = (id', .lst sz (rows ++ rows2)) :: hs) := by
  intro κ a w s K Q hK
  have hdN : d < N.n := by simpa [Nat.blt_eq] using hd
  obtain ⟨e, inf, z, hu, hi, hz, h1, h2, h3, hsz, hbb⟩ := tApp_spec ht
  have hx1 := s.oev x
  have hy1 := s.oev y; rw [hy] at hy1
  obtain ⟨q, c, news, hv2, hqc, hl2, hn2, hr2, ho2⟩ := src_cells (κ := κ) hsz hy1.d_inv
  have hx2 : ∃ p, a.eval x = .slice p rows.length rows.length ∧ RepD w (Own κ hs) (.slice p rows.length rows.length) (.sl sz rows) := by
    rcases hx with hx | ⟨hx, rfl⟩
    · rw [hx] at hx1
      generalize hv : a.eval x = v at hx1
      cases hx1 with
      | dcut p n _ _ h => cases h with
        | sl _ _ _ _ _ c hl hc hr h1 hm hd => subst hl; exact ⟨p, rfl, .sl _ _ _ _ _ c rfl hc hr h1 hm hd⟩
    · rw [hx] at hx1
      generalize hv : a.eval x = v at hx1
      cases hx1
      exact ⟨none, rfl, .sl none 0 0 sz [] (fun _ _ => undef) rfl (Nat.le_refl _) (by simp) (by simp) (by simp) (by simp)⟩
  obtain ⟨p, hv, hrep⟩ := hx2
  obtain ⟨p', c', olds, hv3, _, hl1, holds, hr1, ho1⟩ := src_cells (κ := κ) hsz hrep
  obtain ⟨rfl, _, _⟩ := Value.slice.inj hv3
  have hrr : ∀ r ∈ rows ++ rows2, r.length = sz := fun r hr => (List.mem_append.1 hr).elim (hr1 r) (hr2 r)
  have hoo : ∀ r ∈ rows ++ rows2, ∀ x ∈ r, x.one = true := fun r hr => (List.mem_append.1 hr).elim (ho1 r) (ho2 r)
  by_cases hm : rows2 = []
  · subst hm
    have hr0 : rows = [] := hne.resolve_right (by simp)
    subst hr0
    have hrun := app_op (P := P) (ty := ty) (pos := pos) (af := af) (g := g) (d := d) (t := t) hv hv2 (app0_run (P := P) (w := w) (ty := ty) hu hi (c := c) (Nat.le_refl _))
    obtain ⟨id, κ', h5, e5, hκ⟩ := s.heap.none sz hsz
    unfold oWp
    rw [hrun]
    exact hK κ' _ w _ _ (s.put e5 h5 hdN (.vs _ 0 p id 0 0 sz hκ (Nat.le_refl _) (fun h => absurd h (Nat.lt_irrefl _)))) e5 ⟨id, rfl, rfl⟩
  · have hmpos : 0 < rows2.length := List.length_pos_iff.2 hm
    have hp0 : p = none → rows.length = 0 := fun h => Classical.byContradiction fun hc => by
      have hlt : 0 < olds.length := by rw [hl1.1]; exact Nat.mul_pos (by omega) hsz
      obtain ⟨ad, he, _⟩ := holds 0 olds[0] (List.getElem?_eq_getElem hlt)
      rw [h] at he; cases he
    obtain ⟨ncap, rest, hrun, hge, hmx, hrest⟩ := grow_run (P := P) (w := w) (ty := ty) hu hi hz h1 h2 h3 olds hl1.1 (Nat.le_refl _) hp0 holds (c := c) news hl2.1 hn2 hmpos hsz (by omega) hb hbb
    obtain ⟨id', κ', h6, e6, hκ'⟩ := new_lst s.heap (cap := ncap) (rest := rest) e hsz (hl1.append hl2 hr1) hrr hoo (by simpa using hge) hmx (by simpa using hrest)
    unfold oWp
    rw [app_op hv hv2 hrun]
    refine hK κ' _ _ _ _ (s.put e6 h6 hdN ?_) e6 ⟨id', rfl, rfl⟩
    have := RepA.vs (κ := κ') (w := w.drew.alloc (.cells ((olds ++ news) ++ rest).toArray e)) (O := Own κ' ((id', HO.lst sz (rows ++ rows2)) :: hs)) (some w.heap.size) ncap (some ⟨w.heap.size, 0, none⟩) id' 0 (rows.length + rows2.length) sz hκ' (by omega) (fun _ => by simp)
    simpa using this

end

/-! ### slices that are written out -/
/-- Equal rows out of cells. -/
def chop (sz : Nat) : Nat → List D → List (List D)
  | 0, _ => []
  | n + 1, l => l.take sz :: chop sz n (l.drop sz)

theorem chop_length (sz : Nat) : ∀ (n : Nat) (l : List D), (chop sz n l).length = n
  | 0, _ => rfl
  | n + 1, l => by simp [chop, chop_length sz n]

theorem chop_get (sz : Nat) : ∀ (n : Nat) (l : List D) (i : Nat) (r : List D), (chop sz n l)[i]? = some r → r = (l.drop (i * sz)).take sz ∧ i < n
  | 0, l, i, r, h => by simp [chop] at h
  | n + 1, l, 0, r, h => by simp [chop] at h; subst h; simp
  | n + 1, l, i + 1, r, h => by
    have h' : (chop sz n (l.drop sz))[i]? = some r := by simpa [chop] using h
    obtain ⟨h1, h2⟩ := chop_get sz n (l.drop sz) i r h'
    refine ⟨?_, by omega⟩
    rw [h1, List.drop_drop, Nat.succ_mul, Nat.add_comm]

def zeroList (z : List D) : Nat → List D
  | 0 => []
  | n + 1 => z ++ zeroList z n

/-- The zero row of a slice type's element. -/
def tZrow (P : Program) (t : TypeId) : Option (List Value) := match P.underlying t with | some (.slice e) => tZero P e | _ => none

theorem zero_filled {w : World} {O : Nat → Prop} {z : Array Value} {zd : List D} (hf : Filled w O z zd) (hz : 0 < z.size) (n : Nat) : Filled w O ((Array.range (n * z.size)).map (fun i => z[i % z.size]!)) (zeroList zd n) := by
  obtain ⟨f1, f2, f3⟩ := hf
  have hget : ∀ (n i : Nat) (x : D), (zeroList zd n)[i]? = some x → i < n * z.size ∧ zd[i % z.size]? = some x := by
    intro n
    induction n with
    | zero => intro i x h; simp [zeroList] at h
    | succ n ih =>
      intro i x h
      simp only [zeroList] at h
      rw [List.getElem?_append] at h
      rw [Nat.succ_mul]
      split at h
      · rename_i hlt
        rw [← f1] at hlt
        exact ⟨by omega, by rw [Nat.mod_eq_of_lt hlt]; exact h⟩
      · rename_i hge
        rw [← f1] at hge h
        obtain ⟨h1, h2⟩ := ih _ x h
        refine ⟨by omega, ?_⟩
        rw [← h2, ← Nat.mod_eq_sub_mod (by omega)]
  have hlen : (zeroList zd n).length = n * z.size := by
    clear hget
    induction n with
    | zero => simp [zeroList]
    | succ n ih => simp [zeroList, ih, Nat.succ_mul, f1, Nat.add_comm]
  refine ⟨by simp [hlen], fun x hx => ?_, fun i v x hi hx => ?_⟩
  · obtain ⟨i, hi⟩ := List.getElem?_of_mem hx
    exact f2 x (List.mem_of_getElem? (hget n i x hi).2)
  · obtain ⟨h1, h2⟩ := hget n i x hx
    simp [h1] at hi
    have hlt : i % z.size < z.size := Nat.mod_lt _ hz
    rw [getElem!_pos z _ hlt] at hi
    exact f3 _ v x (by rw [← hi]; exact Array.getElem?_eq_getElem hlt) h2

section
variable {P : Program} {N : Nm} {σ : Env} {hs : Hp} {d : Option Tmp} {ty : TypeId} {pos : String} {af : Array Edge} {g : Option (Nat × Bool)}

/-- A slice that is written out, never to be written again. -/
theorem Q.bsl {t sz len : Nat} {z : List Value} {zd l : List D} {rows : List (List D)} {parts : Array (Nat × Operand)} (ht : tSl P t = some sz) (hsz : 0 < sz) (hz : tZrow P t = some z) (hzl : z.length = sz) (hzd : cellsD z = some zd)
    (hlen : len * sz ≤ 16777216) (hf : afill (fun i => some (i * sz, sz)) (zeroList zd len) (parts.toList.map fun p => (p.1, oev σ p.2)) = some l) (hrows : chop sz len l = rows) :
    Quiet P N σ hs ⟨d, .buildSlice t len parts, ty, pos, af, g⟩ (.d (.sl sz rows)) := by
  intro κ a w s K Q hK
  obtain ⟨e, inf, hu, hi, rfl⟩ := tSl_spec ht
  unfold tZrow at hz
  rw [hu] at hz
  obtain ⟨inf', hi', hz⟩ := Option.bind_eq_some_iff.1 hz
  rw [hi] at hi'
  obtain rfl := Option.some.inj hi'
  obtain ⟨zv, hzv, rfl⟩ := Option.map_eq_some_iff.1 hz
  obtain ⟨h1, h2⟩ := parts_rep s parts
  have hzs : zv.cells.size = inf.size := by rw [← Array.length_toList]; exact hzl
  have hzf : Filled w (Own κ hs) ((Array.range (len * inf.size)).map (fun i => zv.cells[i % zv.cells.size]!)) (zeroList zd len) := by
    have := zero_filled (cellsD_rep w (Own κ hs) _ zd hzd) (by simpa [hzs] using hsz) len
    simpa [hzs] using this
  obtain ⟨cs', h3, f1, f2, f3⟩ := fill_run _ _ _ _ l h1 h2 hzf hf
  have hl : l.length = len * inf.size := by
    have key : ∀ (parts : List (Nat × AV)) (l₀ l : List D), afill (fun i => some (i * inf.size, inf.size)) l₀ parts = some l → l.length = l₀.length := by
      intro parts
      induction parts with
      | nil => intro l₀ l h; simp [afill] at h; rw [h]
      | cons p parts ih =>
        intro l₀ l h
        obtain ⟨i, x⟩ := p
        simp only [afill] at h
        cases hd : dcells x with
        | none => simp [hd] at h
        | some ds =>
          simp only [hd] at h
          cases hb : Nat.beq ds.length inf.size && Nat.ble (i * inf.size + inf.size) l₀.length with
          | false => simp [hb] at h
          | true =>
            simp only [hb] at h
            have hb2 := Bool.and_eq_true_iff.1 hb
            have e1 : ds.length = inf.size := Nat.eq_of_beq_eq_true hb2.1
            have e2 : i * inf.size + inf.size ≤ l₀.length := Nat.le_of_ble_eq_true hb2.2
            rw [ih _ _ h]; simp; omega
    rw [key _ _ _ hf, ← hzf.1]; simp
  have hnew : ∀ O, (∀ v x, RepD w (Own κ hs) v x → RepD (w.alloc (.cells cs' e)) O v x) → ¬ O w.heap.size → RepD (w.alloc (.cells cs' e)) O (.slice (some ⟨w.heap.size, 0, none⟩) len len) (.sl inf.size rows) := by
    intro O hO hn
    have hget : ∀ (i j : Nat) (r : List D) (x : D), rows[i]? = some r → r[j]? = some x → j < inf.size ∧ l[i * inf.size + j]? = some x := by
      intro i j r x hi hj
      rw [← hrows] at hi
      obtain ⟨rfl, _⟩ := chop_get _ _ _ _ _ hi
      rw [List.getElem?_take] at hj
      split at hj
      · rw [List.getElem?_drop] at hj; exact ⟨by assumption, hj⟩
      · cases hj
    refine .sl _ _ _ _ _ (fun i j => cs'.getD (i * inf.size + j) undef) (by rw [← hrows, chop_length]) (Nat.le_refl _) (fun r hr => ?_) (fun r hr x hx => ?_) (fun i j r x hi hj => ?_) (fun i j r x hi hj => ?_)
    · obtain ⟨i, hi⟩ := List.getElem?_of_mem hr
      rw [← hrows] at hi
      obtain ⟨rfl, hlt⟩ := chop_get _ _ _ _ _ hi
      have := Nat.mul_le_mul_right inf.size (show i + 1 ≤ len from hlt)
      rw [Nat.succ_mul] at this
      simp; omega
    · obtain ⟨i, hi⟩ := List.getElem?_of_mem hr
      obtain ⟨j, hj⟩ := List.getElem?_of_mem hx
      exact f2 x (List.mem_of_getElem? (hget i j r x hi hj).2)
    · obtain ⟨_, hg⟩ := hget i j r x hi hj
      have hlt : i * inf.size + j < cs'.size := by rw [f1]; exact (List.getElem?_eq_some_iff.1 hg).1
      refine ⟨_, rfl, hn, ?_⟩
      rw [addr_add_lit, Nat.zero_add]
      simp [hlt]
    · obtain ⟨_, hg⟩ := hget i j r x hi hj
      have hlt : i * inf.size + j < cs'.size := by rw [f1]; exact (List.getElem?_eq_some_iff.1 hg).1
      have : cs'.getD (i * inf.size + j) undef = cs'[i * inf.size + j] := by simp [hlt]
      rw [this]
      exact hO _ _ (f3 _ _ x (Array.getElem?_eq_getElem hlt) hg)
  have ex : Ext κ hs w κ hs (w.alloc (.cells cs' e)) :=
    ⟨fun _ _ h => h, by simp, Nat.le_refl _, rfl, rfl, rfl, fun b hb _ => heap_alloc_old w _ b hb, fun b _ h => h, fun _ o h => .inl ⟨o, h⟩, SameT.lt fun b hb => heap_alloc_old w _ b hb⟩
  have hsz2 : HS κ (w.alloc (.cells cs' e)) hs := ⟨s.heap.nodup, fun id o hi => by
      obtain ⟨x, hx, hok⟩ := s.heap.ok id o hi
      refine ⟨x, hx, hok.ext ex fun b hb => heap_alloc_old w _ b (s.heap.block_lt hi (c := x.2) ?_)⟩
      rw [hx, ← hb], s.heap.inj, s.heap.fresh⟩
  have hnotown : ¬ Own κ hs w.heap.size := fun ⟨id, o, c, hi, hk⟩ => absurd (s.heap.block_lt hi hk) (Nat.lt_irrefl _)
  have hrun : (execOp a.eval ⟨d, .buildSlice t len parts, ty, pos, af, g⟩).run P w = .ok (.value (.slice (some ⟨w.heap.size, 0, none⟩) len len)) (w.alloc (.cells cs' e)) := by
    rw [show execOp a.eval ⟨d, .buildSlice t len parts, ty, pos, af, g⟩ = (do pure (.value (← Instr.buildSlice t len (parts.map fun (i, x) => (i, a.eval x))))) from rfl, Sem.run_bind]
    have hb : (Instr.buildSlice t len (parts.map fun (i, x) => (i, a.eval x))).run P w = .ok (.slice (some ⟨w.heap.size, 0, none⟩) len len) (w.alloc (.cells cs' e)) := by
      have hzr : (zeroValue e).run P w = .ok zv w := by simp [zeroValue, typeInfo, hi, hzv]
      simp only [Instr.buildSlice, Sem.run_bind, run_underlying hu, Result.andThen_ok, size_run hi]
      rw [if_neg (by simpa using hlen)]
      by_cases hl0 : len * inf.size = 0
      · have hlen0 : len = 0 := by rcases Nat.mul_eq_zero.1 hl0 with h | h <;> omega
        subst hlen0
        simp only [Nat.zero_mul, if_true, Sem.run_pure, Result.andThen_ok, Sem.run_bind] at h3 ⊢
        have h4 : (Array.range 0).map (fun i => (#[] : Array Value)[i % (#[] : Array Value).size]!) = (Array.range 0).map (fun i => zv.cells[i % zv.cells.size]!) := by simp
        rw [h4]
        rw [h3]
        simp [newRow_run]
      · rw [if_neg hl0]
        simp only [Sem.run_bind, hzr, Result.andThen_ok, Sem.run_pure]
        rw [h3]
        simp [newRow_run]
    rw [hb]; rfl
  unfold oWp
  rw [hrun]
  exact hK κ _ _ hsz2 ex (.d (hnew _ (fun v x hx => hx.ext ex) hnotown))

end
end Go.Proofs.YtldkkoecehdicaaDoorA
