/- Own lists whose elements are slices of one's own; shifts and masks of counts; own bytes as a string. -/
import Derived.Test.YtldkkoecehdicaaDoorAbs32
import Derived.Test.YtldkkoecehdicaaDoorAbs18
import Derived.Test.YtldkkoecehdicaaDoorAbs15
namespace Go.Proofs.YtldkkoecehdicaaDoorA
open Go
set_option linter.unusedVariables false
set_option linter.unusedSimpArgs false

/-- An object that owns no block. -/
theorem HS.noneO2 {κ : Kap} {w : World} {hs : Hp} (h : HS κ w hs) (o : HO) (ho : ∀ κ' : Kap, ∀ O : Nat → Prop, (∀ id x, κ id = some x → κ' id = some x) → HOk κ' w O o (Option.none, 0)) :
    ∃ id κ', HS κ' w ((id, o) :: hs) ∧ Ext κ hs w κ' ((id, o) :: hs) w ∧ κ' id = some (Option.none, 0) := by
  obtain ⟨n, hn⟩ := h.fresh
  let κ' : Kap := fun i => if i = n then some (Option.none, 0) else κ i
  have hk : ∀ id x, κ id = some x → κ' id = some x := fun id x hx => by
    have : id ≠ n := fun he => by rw [he, hn n (Nat.le_refl _)] at hx; cases hx
    simp [κ', this, hx]
  have hnew : κ' n = some (Option.none, 0) := by simp [κ']
  have hold : ∀ id, id ≠ n → κ' id = κ id := fun id hid => by simp [κ', hid]
  have hmem : ∀ id o, (id, o) ∈ hs → id ≠ n := fun id o hi he => by
    obtain ⟨x, hx, _⟩ := h.ok id o hi
    rw [he, hn n (Nat.le_refl _)] at hx; cases hx
  have hpart : ∀ id o' b c, (id, o') ∈ (n, o) :: hs → κ' id = some (some b, c) → (id, o') ∈ hs ∧ κ id = some (some b, c) := by
    intro id o' b c hi hkk
    rcases List.mem_cons.1 hi with he | hi
    · obtain ⟨rfl, rfl⟩ := Prod.mk.inj he
      rw [hnew] at hkk; cases hkk
    · exact ⟨hi, by rw [← hold id (hmem _ _ hi)]; exact hkk⟩
  have e : Ext κ hs w κ' ((n, o) :: hs) w :=
    ⟨hk, Nat.le_refl _, Nat.le_refl _, rfl, rfl, rfl, fun _ _ _ => rfl, fun b hb ⟨id, o', c, hi, hkk⟩ => let ⟨h1, h2⟩ := hpart _ _ _ _ hi hkk; ⟨id, o', c, h1, h2⟩, fun id o' hi => by
      rcases List.mem_cons.1 hi with he | hi
      · obtain ⟨rfl, rfl⟩ := Prod.mk.inj he
        exact .inr (hn _ (Nat.le_refl _))
      · exact .inl ⟨_, hi⟩, SameT.refl w⟩
  refine ⟨n, κ', ⟨?_, ?_, ?_, n + 1, fun id hid => ?_⟩, e, hnew⟩
  · rw [List.map_cons, List.nodup_cons]
    refine ⟨fun hi => ?_, h.nodup⟩
    obtain ⟨⟨id, o'⟩, hi, he⟩ := List.mem_map.1 hi
    exact hmem id o' hi he
  · intro id o' hi
    rcases List.mem_cons.1 hi with he | hi
    · obtain ⟨rfl, rfl⟩ := Prod.mk.inj he
      exact ⟨_, hnew, ho κ' _ hk⟩
    · obtain ⟨x, hx, hok⟩ := h.ok id o' hi
      exact ⟨x, hk _ _ hx, hok.ext e fun b _ => rfl⟩
  · intro id id' o₁ o₂ b c c' hi hi' h1 h2
    obtain ⟨h3, h4⟩ := hpart _ _ _ _ hi h1
    obtain ⟨h5, h6⟩ := hpart _ _ _ _ hi' h2
    exact h.inj id id' o₁ o₂ b c c' h3 h5 h4 h6
  · have : id ≠ n := by omega
    rw [hold id this]; exact hn id (by omega)


section
variable {P : Program} {N : Nm} {σ : Env} {hs : Hp} {Q : Post}
theorem W.ghostcv {c : Code} (k off : Nat) {id : Nat} {l : List AV} (hk : hs[k]? = some (id, .cells l)) (hl : l[off]? = some .nilsl)
    (h : ∀ v, W P N c Q σ ((v, .lsv []) :: hs.set k (id, .cells (l.set off (.vs v 0 0 1))))) : W P N c Q σ hs := by
  intro κ a w s
  obtain ⟨v, κ', h1, e, hkv⟩ := s.heap.noneO2 (.lsv []) (fun κ' O hk => ⟨Nat.le_refl _, Nat.zero_le _, fun _ => rfl, fun b hb => by cases hb⟩)
  have hk1 : ((v, HO.lsv []) :: hs)[k + 1]? = some (id, .cells l) := by simpa using hk
  obtain ⟨⟨ob, cap⟩, hx, hok⟩ := h1.ok id _ (List.mem_of_getElem? hk1)
  have hok2 := hok
  obtain ⟨b, cs, rfl, hw, hsz, hone, hr⟩ := hok2
  have hoff : off < l.length := (List.getElem?_eq_some_iff.1 hl).1
  obtain ⟨g1, g2⟩ := h1.write (o' := .cells (l.set off (.vs v 0 0 1))) hk1 hx rfl rfl rfl rfl rfl (fun _ _ => rfl) (fun hA hD => by
    refine ⟨b, cs, rfl, hw, by simpa using hsz, hone, fun i u x hi hxx => ?_⟩
    rw [List.getElem?_set] at hxx
    split at hxx
    · rename_i he
      subst he
      obtain rfl := Option.some.inj hxx
      have := hr _ u _ hi hl
      cases this with
      | nilsl => exact .vs _ _ _ v 0 0 1 hkv (Nat.le_refl _) (fun h => absurd h (Nat.lt_irrefl _))
    · exact hA _ _ (hr i u x hi hxx))
  have e2 := e.trans g2
  refine wpIn_mono (h v κ' a w ⟨?_, s.size, ?_, fun i => ?_⟩) fun _ _ _ hc => hc.ext ?_
  · simpa using g1
  · have := s.defers.ext e2; simpa using this
  · simpa using (s.get i).ext e2
  · simpa using e2
end

theorem lsv_cells {κ : Kap} {w : World} {hs : Hp} (h : HS κ w hs) {k id cap : Nat} {ob : Option Nat} {l : List AV} (hk : hs[k]? = some (id, .lsv l)) (hκ : κ id = some (ob, cap)) :
    ∃ vs : List Value, vs.length = l.length ∧ (∀ v ∈ vs, v.oneCell' = true) ∧ (∀ (i : Nat) (v : Value) (x : AV), vs[i]? = some v → l[i]? = some x → RepA κ w (Own κ hs) v x) ∧ l.length ≤ cap ∧ cap ≤ maxLen ∧ (ob = none → cap = 0) ∧
      ∀ b, ob = some b → ∃ cs T, w.heap[b]? = some (.cells cs T (0, 0)) ∧ cs.size = cap ∧ vs = cs.toList.take l.length := by
  obtain ⟨y, hy, hok⟩ := h.ok id _ (List.mem_of_getElem? hk)
  rw [hκ] at hy
  obtain rfl := Option.some.inj hy
  obtain ⟨g0, g1, g2, g3⟩ := hok
  cases ob with
  | none =>
    have hr0 : l = [] := List.eq_nil_of_length_eq_zero (by have := g2 rfl; omega)
    subst hr0
    exact ⟨[], rfl, by simp, by simp, g0, g1, g2, fun b hb => by cases hb⟩
  | some b =>
    obtain ⟨cs, T, hw, hcs, h1, hr⟩ := g3 b rfl
    refine ⟨cs.toList.take l.length, by simp; omega, fun v hv => ?_, fun i v x hi hx => ?_, g0, g1, g2, fun b' hb => ?_⟩
    · obtain ⟨i, hi⟩ := List.getElem?_of_mem hv
      rw [List.getElem?_take] at hi
      split at hi
      · rename_i hlt; exact h1 i v hlt (by simpa using hi)
      · cases hi
    · rw [List.getElem?_take] at hi
      split at hi
      · exact hr i v x (by simpa using hi) hx
      · cases hi
    · obtain rfl := Option.some.inj hb
      exact ⟨cs, T, hw, hcs, rfl⟩

theorem new_lsv {κ : Kap} {w : World} {hs : Hp} (h : HS κ w hs) {cap : Nat} {l : List AV} {vs rest : List Value} (T : TypeId) (hl : vs.length = l.length) (ho : ∀ v ∈ vs, v.oneCell' = true)
    (hr : ∀ (i : Nat) (v : Value) (x : AV), vs[i]? = some v → l[i]? = some x → RepA κ w (Own κ hs) v x) (hc : l.length ≤ cap) (hm : cap ≤ maxLen) (hrest : rest.length = cap - l.length) :
    ∃ id κ', HS κ' (w.drew.alloc (.cells (vs ++ rest).toArray T)) ((id, .lsv l) :: hs) ∧ Ext κ hs w κ' ((id, .lsv l) :: hs) (w.drew.alloc (.cells (vs ++ rest).toArray T)) ∧ κ' id = some (some w.heap.size, cap) := by
  obtain ⟨h1, e1⟩ := h.drew (w.drawn + 1) (Nat.le_succ _)
  have h1' : HS κ w.drew hs := h1
  have e1' : Ext κ hs w κ hs w.drew := e1
  obtain ⟨id, κ', h2, e2, hk⟩ := h1'.alloc (vs ++ rest).toArray T (.lsv l) cap fun κ' id hk O hA hD => by
    refine ⟨hc, hm, (fun h => by cases h), fun b hb => ?_⟩
    obtain rfl := Option.some.inj hb
    refine ⟨_, T, heap_alloc_new w.drew _, by rw [List.size_toArray, List.length_append, hl, hrest]; omega, fun i v hi hv => ?_, fun i v x hi hx => ?_⟩
    · rw [List.getElem?_toArray, List.getElem?_append_left (by omega)] at hv
      exact ho v (List.mem_of_getElem? hv)
    · have hlt := (List.getElem?_eq_some_iff.1 hx).1
      rw [List.getElem?_toArray, List.getElem?_append_left (by omega)] at hi
      exact hA _ _ ((hr i v x hi hx).ext e1')
  exact ⟨id, κ', h2, e1'.trans e2, hk⟩

theorem write_lsv {P : Program} {κ : Kap} {w : World} {hs : Hp} (h : HS κ w hs) {k id b cap : Nat} {l l2 : List AV} {news : List Value} (hk : hs[k]? = some (id, .lsv l)) (hκ : κ id = some (some b, cap))
    (nl : news.length = l2.length) (no : ∀ v ∈ news, v.oneCell' = true) (nr : ∀ (i : Nat) (v : Value) (x : AV), news[i]? = some v → l2[i]? = some x → RepA κ w (Own κ hs) v x) (hroom : l.length + l2.length ≤ cap) :
    ∃ w', (storeCells ⟨b, l.length, none⟩ news).run P w = .ok () w' ∧ HS κ w' (hs.set k (id, .lsv (l ++ l2))) ∧ Ext κ hs w κ (hs.set k (id, .lsv (l ++ l2))) w' := by
  obtain ⟨y, hy, hok⟩ := h.ok id _ (List.mem_of_getElem? hk)
  rw [hκ] at hy
  obtain rfl := Option.some.inj hy
  obtain ⟨g0, g1, g2, g3⟩ := hok
  obtain ⟨cs, T, hw, hcs, ho, hr⟩ := g3 b rfl
  have hst := run_storeCells_at P b l.length T news 0 cs w hw (by omega) no
  simp only [Nat.add_zero] at hst
  refine ⟨_, hst, h.write hk hκ (by simp) rfl rfl rfl rfl (fun q hq => setRow_other w b q _ hq) fun hA hD => ?_⟩
  refine ⟨by simp; omega, g1, g2, fun b' hb' => ?_⟩
  obtain rfl := Option.some.inj hb'
  have get : ∀ q, (cs.toList.take l.length ++ news ++ cs.toList.drop (l.length + news.length)).toArray[q]? =
      if q < l.length then cs[q]? else if q < l.length + news.length then news[q - l.length]? else cs[q]? := by
    intro q
    simp only [List.getElem?_toArray, List.append_assoc, List.getElem?_append, List.length_take, Array.length_toList]
    have : min l.length cs.size = l.length := by omega
    rw [this]
    by_cases hq : q < l.length
    · simp [hq]
    · rw [if_neg hq, if_neg hq]
      by_cases hq2 : q < l.length + news.length
      · rw [if_pos (by omega), if_pos hq2]
      · rw [if_neg (by omega), if_neg hq2, List.getElem?_drop]
        have : l.length + news.length + (q - l.length - news.length) = q := by omega
        rw [this]; simp
  refine ⟨_, T, setRow_heap w b cs _ T (0, 0) hw, by simp; omega, fun i v hi hv => ?_, fun i v x hi hx => ?_⟩
  · rw [get] at hv
    rw [List.length_append] at hi
    split at hv
    · rename_i h1; exact ho i v h1 hv
    · rw [if_pos (by omega)] at hv; exact no v (List.mem_of_getElem? hv)
  · rw [get] at hi
    have hlt := (List.getElem?_eq_some_iff.1 hx).1
    rw [List.length_append] at hlt
    rw [List.getElem?_append] at hx
    split at hi
    · rename_i h1; rw [if_pos h1] at hx; exact hA _ _ (hr i v x hi hx)
    · rename_i h1
      rw [if_pos (by omega)] at hi
      rw [if_neg h1] at hx
      exact hA _ _ (nr _ v x hi hx)

section
variable {P : Program} {N : Nm} {σ : Env} {hs : Hp} {d : Option Tmp} {ty : TypeId} {pos : String} {af : Array Edge} {g : Option (Nat × Bool)}

/-- An element of a list of own slices. -/
theorem Q.idx_lsv {t id n kk : Nat} {l : List AV} {x ix : Operand} {k : IntKind} {i : Int} (ht : tSl P t = some 1) (hx : oev σ x = .vs id 0 n 1) (hh : hs[kk]? = some (id, .lsv l))
    (hi : oev σ ix = .d (.int k i)) (h0 : 0 ≤ i) (h1 : i < n) : Quiet P N σ hs ⟨d, .indexAddr t x ix, ty, pos, af, g⟩ (.ep id 1 i.toNat 0) :=
  .of_run fun κ a w s => by
    have h2 := s.oev x; rw [hx] at h2
    have h3 := s.oev ix; rw [hi] at h3
    obtain ⟨e, inf, hu, hin, hsz⟩ := tSl_spec ht
    obtain ⟨ob, cap, p, hκ, hn, hp, hv⟩ := h2.vs_inv
    obtain ⟨vs, _, _, _, _, _, g4, _⟩ := lsv_cells s.heap hh hκ
    cases ob with
    | none => exact absurd (g4 rfl) (by omega)
    | some b =>
      have hpe := hp (by omega)
      subst hpe
      refine ⟨.pointer (some ((⟨b, 0 * 1, none⟩ : Addr).add (i.toNat * inf.size))), by simp only [execOp, hv, h3.int_inv, Option.map_some, Sem.run_bind, idx_run hu hin _ h0 h1, Result.andThen_ok, Sem.run_pure], ?_⟩
      rw [addr_add_lit, hsz, Nat.zero_mul, Nat.zero_add]
      exact .ep b cap id 1 _ 0 hκ
theorem Q.ld_lsv {t id i k : Nat} {l : List AV} {y : AV} {x : Operand} (ht : tAgg P t = some (false, 1)) (hx : oev σ x = .ep id 1 i 0) (hk : hs[k]? = some (id, .lsv l)) (hr : l[i]? = some y) :
    Quiet P N σ hs ⟨d, .load t x, ty, pos, af, g⟩ y :=
  .of_run fun κ a w s => by
    have h1 := s.oev x; rw [hx] at h1
    obtain ⟨b, cap, hkk, hv1⟩ := h1.ep_inv
    obtain ⟨vs, hl, _, hrep, _, _, _, hb⟩ := lsv_cells s.heap hk hkk
    obtain ⟨cs, T, hw, hcs, hvs⟩ := hb b rfl
    have hlt := (List.getElem?_eq_some_iff.1 hr).1
    obtain ⟨u, hu⟩ : ∃ u, vs[i]? = some u := ⟨_, List.getElem?_eq_getElem (by omega)⟩
    rw [Nat.mul_one, Nat.add_zero] at hv1
    have hc : w.cell? ⟨b, i, none⟩ = some u := by
      rw [hvs, List.getElem?_take, if_pos hlt] at hu
      simp [World.cell?, hw]; simpa using hu
    exact ⟨u, by simp [execOp, hv1, load1_run ht hc], hrep i u y hu hr⟩

/-- A slice of one own slice, written out. -/
theorem L.bslv {dd : Tmp} {t : Nat} {z : List Value} {l : List AV} {x : Operand} (ht : tSl P t = some 1) (hz : tZrow P t = some z) (hzl : z.length = 1)
    (hz1 : z.all (·.oneCell') = true) (hf : afillA (fun i => some (i * 1, 1)) (z.map cellA) [(0, oev σ x)] = some l) (hll : l.length = 1) (hd : Nat.blt dd N.n = true) :
    Loud P N σ hs ⟨some dd, .buildSlice t 1 #[(0, x)], ty, pos, af, g⟩ (fun σ' hs' => ∃ id, σ' = (dd, .vs id 0 1 1) :: σ ∧ hs' = (id, .lsv l) :: hs) := by
  intro κ a w s K Q hK
  have hdN : dd < N.n := by simpa [Nat.blt_eq] using hd
  obtain ⟨e, inf, hu, hi, hsz⟩ := tSl_spec ht
  unfold tZrow at hz
  rw [hu] at hz
  obtain ⟨inf', hi', hz⟩ := Option.bind_eq_some_iff.1 hz
  rw [hi] at hi'
  obtain rfl := Option.some.inj hi'
  obtain ⟨zv, hzv, rfl⟩ := Option.map_eq_some_iff.1 hz
  obtain ⟨h1, h2⟩ := parts_rep s (#[(0, x)] : Array (Nat × Operand))
  have hzs : zv.cells.size = 1 := by rw [← Array.length_toList]; exact hzl
  have hrow : (Array.range (1 * inf.size)).map (fun i => zv.cells[i % zv.cells.size]!) = zv.cells := by
    apply Array.ext
    · simp [hzs, hsz]
    · intro i ha hb
      have : i = 0 := by omega
      subst this
      simp [hzs]
  have h0 : FilledA κ w (Own κ hs) zv.cells (zv.cells.toList.map cellA) := by
    refine ⟨by simp, fun v hv => List.all_eq_true.1 hz1 v hv, fun i v x hv hx => ?_⟩
    rw [List.getElem?_map] at hx
    obtain ⟨u, hu, rfl⟩ := Option.map_eq_some_iff.1 hx
    have : u = v := by rw [Array.getElem?_toList, hv] at hu; exact (Option.some.inj hu).symm
    subst this
    exact cellA_rep _ _ _ _
  obtain ⟨cs', h3, f1, f2, f3⟩ := fillA_run _ _ _ _ l h1 h2 h0 hf
  have hrun : (execOp a.eval ⟨some dd, .buildSlice t 1 #[(0, x)], ty, pos, af, g⟩).run P w = .ok (.value (.slice (some ⟨w.heap.size, 0, none⟩) 1 1)) (w.alloc (.cells cs' e)) := by
    rw [show execOp a.eval ⟨some dd, .buildSlice t 1 #[(0, x)], ty, pos, af, g⟩ = (do pure (.value (← Instr.buildSlice t 1 ((#[(0, x)] : Array (Nat × Operand)).map fun (i, x) => (i, a.eval x))))) from rfl, Sem.run_bind]
    have hb : (Instr.buildSlice t 1 ((#[(0, x)] : Array (Nat × Operand)).map fun (i, x) => (i, a.eval x))).run P w = .ok (.slice (some ⟨w.heap.size, 0, none⟩) 1 1) (w.alloc (.cells cs' e)) := by
      have hzr : (zeroValue e).run P w = .ok zv w := by simp [zeroValue, typeInfo, hi, hzv]
      simp only [Instr.buildSlice, Sem.run_bind, run_underlying hu, Result.andThen_ok, size_run hi]
      rw [if_neg (by rw [hsz]; decide), if_neg (by rw [hsz]; decide)]
      simp only [Sem.run_bind, hzr, Result.andThen_ok, Sem.run_pure]
      rw [hrow, hsz]
      simp only [Array.toArray_toList] at h3
      rw [h3]
      simp [newRow_run]
    rw [hb]; rfl
  obtain ⟨id, κ', g1, g2, hk⟩ := s.heap.alloc cs' e (.lsv l) 1 fun κ' id hk O hA hD => by
    refine ⟨by omega, by simp only [maxLen]; omega, (fun h => by cases h), fun b hb => ?_⟩
    obtain rfl := Option.some.inj hb
    exact ⟨cs', e, heap_alloc_new w _, by rw [f1, hll], fun i v hi hv => f2 v (List.mem_of_getElem? (by simpa using hv)), fun i v x hi hx => hA _ _ (f3 i v x hi hx)⟩
  unfold oWp
  rw [hrun]
  refine hK κ' _ _ _ _ (s.put g2 g1 hdN ?_) g2 ⟨id, rfl, rfl⟩
  have := RepA.vs (κ := κ') (w := w.alloc (.cells cs' e)) (O := Own κ' ((id, HO.lsv l) :: hs)) (some w.heap.size) 1 (some ⟨w.heap.size, 0, none⟩) id 0 1 1 hk (by omega) (fun _ => by simp)
  simpa using this

/-- An append of own slices to a list of such. -/
theorem L.appv {dd : Tmp} {t bytes id id2 n m k k2 : Nat} {l l2 : List AV} {x y : Operand} (ht : tApp P t = some (1, bytes)) (hx : oev σ x = .vs id 0 n 1) (hk : hs[k]? = some (id, .lsv l)) (hn : n = l.length)
    (hy : oev σ y = .vs id2 0 m 1) (hk2 : hs[k2]? = some (id2, .lsv l2)) (hm : m = l2.length) (hm0 : 0 < m) (hb : (n + m) * bytes ≤ 140737488355328) (hd : Nat.blt dd N.n = true) :
    Loud P N σ hs ⟨some dd, .call ⟨.builtin .append, #[x, y], #[t, t]⟩, ty, pos, af, g⟩
      (fun σ' hs' => ∃ id', σ' = (dd, .vs id' 0 (n + m) 1) :: σ ∧ hs' = (id', .lsv (l ++ l2)) :: hs.eraseIdx k) := by
  intro κ a w s K Q hK
  subst hn hm
  have hdN : dd < N.n := by simpa [Nat.blt_eq] using hd
  obtain ⟨e, inf, z, hu, hi, hz, h1, h2, h3, hsz, hbb⟩ := tApp_spec ht
  have hx1 := s.oev x; rw [hx] at hx1
  have hy1 := s.oev y; rw [hy] at hy1
  obtain ⟨ob, cap, p, hκ, hle, hp, hv⟩ := hx1.vs_inv
  obtain ⟨ob2, cap2, q, hκ2, hle2, hq, hv2⟩ := hy1.vs_inv
  obtain ⟨olds, ol, oo, orr, oc, ocm, o0, obk⟩ := lsv_cells s.heap hk hκ
  obtain ⟨news, nl, no, nr, nc, ncm, n0, nbk⟩ := lsv_cells s.heap hk2 hκ2
  rw [Nat.sub_zero] at hv hv2
  have hcapn : ∀ b, ob = some b → 0 < cap → p = some ⟨b, 0, none⟩ := fun b hb hc => by rw [hp hc, hb]; simp
  have hnews : ∀ (j : Nat) u, news[j]? = some u → ∃ ad, q = some ad ∧ w.cell? (ad.add j) = some u := fun j u hj => by
    have hlt := (List.getElem?_eq_some_iff.1 hj).1
    cases ob2 with
    | none => exact absurd (n0 rfl) (by omega)
    | some b2 =>
      obtain ⟨cs, T, hw, hcs, hvs⟩ := nbk b2 rfl
      refine ⟨⟨b2, 0, none⟩, by rw [hq (by omega)]; simp, ?_⟩
      rw [addr_add_lit, Nat.zero_add]
      rw [hvs, List.getElem?_take, if_pos (by omega)] at hj
      simp [World.cell?, hw]; simpa using hj
  have hall : ∀ (i : Nat) (v : Value) (x : AV), (olds ++ news)[i]? = some v → (l ++ l2)[i]? = some x → RepA κ w (Own κ hs) v x := fun i v x hi hx => by
    rw [List.getElem?_append] at hi hx
    rw [ol] at hi
    split at hi
    · rename_i h; rw [if_pos h] at hx; exact orr i v x hi hx
    · rename_i h; rw [if_neg h] at hx; exact nr _ v x hi hx
  have hone : ∀ v ∈ olds ++ news, v.oneCell' = true := fun v hv => (List.mem_append.1 hv).elim (oo v) (no v)
  by_cases hroom : l.length + l2.length ≤ cap
  · cases ob with
    | none => exact absurd (o0 rfl) (by omega)
    | some b =>
      have hpe := hcapn b rfl (by omega)
      subst hpe
      obtain ⟨cs, T, hw, hcs, hvs⟩ := obk b rfl
      obtain ⟨qa, hqa, _⟩ := hnews 0 (news[0]'(by omega)) (List.getElem?_eq_getElem (by omega))
      subst hqa
      have hn' : ∀ (j : Nat) u, news[j]? = some u → w.cell? (qa.add j) = some u := fun j u hj => by
        obtain ⟨ad, he, h⟩ := hnews j u hj
        obtain rfl := Option.some.inj he
        exact h
      obtain ⟨w', hst, h5, e5⟩ := write_lsv (P := P) s.heap hk hκ nl no nr hroom
      obtain ⟨id', κ', h6, e6, hκ'⟩ := h5.rename (k := k) (id := id) (o := .lsv (l ++ l2)) (by rw [List.getElem?_set]; simp [(List.getElem?_eq_some_iff.1 hk).1])
      have hers : (hs.set k (id, HO.lsv (l ++ l2))).eraseIdx k = hs.eraseIdx k := List.eraseIdx_set_eq ..
      rw [hers] at h6 e6
      have hf := run_firstCells_some (P := P) w inf.size l2.length qa l2.length cap2 news (by rw [h1, nl, Nat.mul_one]) hn'
      rw [h1] at hf
      have hrun : (Builtin.append_ #[t, t] ty #[.slice (some ⟨b, 0, none⟩) l.length cap, .slice (some qa) l2.length cap2]).run P w = .ok (.slice (some ⟨b, 0, none⟩) (l.length + l2.length) cap) w' := by
        simp [Builtin.append_, run_underlying hu, sizeOf, typeInfo, hi, Builtin.lenOf, hroom, hf, Addr.add_lit, h1, hst]
      unfold oWp
      rw [app_op hv hv2 hrun]
      refine hK κ' _ _ _ _ (s.put (e5.trans e6) h6 hdN ?_) (e5.trans e6) ⟨id', rfl, rfl⟩
      have := RepA.vs (κ := κ') (w := w') (O := Own κ' ((id', HO.lsv (l ++ l2)) :: hs.eraseIdx k)) (some b) cap (some ⟨b, 0, none⟩) id' 0 (l.length + l2.length) 1 (hκ'.trans hκ) (by omega) (fun _ => by simp)
      simpa using this
  · have holds : ∀ (j : Nat) u, olds[j]? = some u → ∃ ad, p = some ad ∧ w.cell? (ad.add j) = some u := fun j u hj => by
      have hlt := (List.getElem?_eq_some_iff.1 hj).1
      cases ob with
      | none => exact absurd (o0 rfl) (by omega)
      | some b =>
        obtain ⟨cs, T, hw, hcs, hvs⟩ := obk b rfl
        refine ⟨_, hcapn b rfl (by omega), ?_⟩
        rw [addr_add_lit, Nat.zero_add]
        rw [hvs, List.getElem?_take, if_pos (by omega)] at hj
        simp [World.cell?, hw]; simpa using hj
    have hp0 : p = none → cap = 0 := fun h => Classical.byContradiction fun hc => by
      cases ob with
      | none => exact hc (o0 rfl)
      | some b => rw [hcapn b rfl (by omega)] at h; cases h
    obtain ⟨ncap, rest, hrun, hge, hmx, hrest⟩ := grow_run (P := P) (w := w) (ty := ty) hu hi hz h1 h2 h3 olds (by rw [ol, Nat.mul_one]) (by omega) hp0 holds (c := cap2) news (by rw [nl, Nat.mul_one]) hnews hm0 (by decide) (by omega) hb hbb
    obtain ⟨h5, e5⟩ := s.heap.sublist (List.eraseIdx_sublist hs k)
    obtain ⟨id', κ', h6, e6, hκ'⟩ := new_lsv h5 (cap := ncap) (rest := rest) (l := l ++ l2) (vs := olds ++ news) e (by simp [ol, nl]) hone (fun i v x hi hx => (hall i v x hi hx).ext e5) (by simpa using hge) hmx (by simpa using hrest)
    unfold oWp
    rw [app_op hv hv2 hrun]
    refine hK κ' _ _ _ _ (s.put (e5.trans e6) h6 hdN ?_) (e5.trans e6) ⟨id', rfl, rfl⟩
    have := RepA.vs (κ := κ') (w := w.drew.alloc (.cells ((olds ++ news) ++ rest).toArray e)) (O := Own κ' ((id', HO.lsv (l ++ l2)) :: hs.eraseIdx k)) (some w.heap.size) ncap (some ⟨w.heap.size, 0, none⟩) id' 0 (l.length + l2.length) 1 hκ' (by omega) (fun _ => by simp)
    simpa using this

theorem Q.max4 {ta : Array TypeId} {x y z u : Operand} {k : IntKind} {m n p q : Int} (hx : oev σ x = .d (.int k m)) (hy : oev σ y = .d (.int k n)) (hz : oev σ z = .d (.int k p)) (hu : oev σ u = .d (.int k q)) :
    Quiet P N σ hs ⟨d, .call ⟨.builtin .max, #[x, y, z, u], ta⟩, ty, pos, af, g⟩ (.d (.int k (max (max (max m n) p) q))) :=
  .of_run fun κ a w s => by
    have h1 := s.oev x; have h2 := s.oev y; have h3 := s.oev z; have h4 := s.oev u
    rw [hx] at h1; rw [hy] at h2; rw [hz] at h3; rw [hu] at h4
    refine ⟨.int k (max (max (max m n) p) q), ?_, .d (.int _ _)⟩
    rw [builtin_run]
    have e : ∀ m n : Int, (if n > m then n else m) = max m n := fun m n => by omega
    simp [builtin, h1.int_inv, h2.int_inv, h3.int_inv, h4.int_inv, Builtin.max_, Builtin.max2, ← e]
/-- n >> s of a count. -/
theorem Q.shrn {t t' : TypeId} {x y : Operand} {k : IntKind} {n s : Nat} (hx : oev σ x = .d (.int .u64 (n : Nat))) (hy : oev σ y = .d (.int k (s : Nat))) (hs1 : s < 64) : Quiet P N σ hs ⟨d, .binOp .shr t x y t', ty, pos, af, g⟩ (.d (.int .u64 ((n / 2 ^ s : Nat) : Nat))) :=
  .of_run fun κ a w st => ⟨.int .u64 ((n / 2 ^ s : Nat) : Nat), by
    rw [bin_run st hx hy]
    have h2 : (n : Int).fdiv (2 ^ (min (s : Int).toNat IntKind.u64.bits)) = ((n / 2 ^ s : Nat) : Int) := by
      rw [show min (s : Int).toNat IntKind.u64.bits = s by (show min s 64 = s; omega), Int.fdiv_eq_ediv_of_nonneg _ (Int.pow_nonneg (by decide))]
      norm_cast
    show Result.andThen (Sem.run P (Op.shift .shr .u64 n k s) w) _ = _
    unfold Op.shift
    rw [if_neg (by omega)]
    dsimp only
    rw [h2]; rfl, .d (.int _ _)⟩
/-- The lower 32 bits of a small count. -/
theorem Q.and32 {t t' : TypeId} {x y : Operand} {n : Nat} (hx : oev σ x = .d (.int .u64 (n : Nat))) (hy : oev σ y = .d (.int .u64 4294967295)) (hn : n < 4294967296) : Quiet P N σ hs ⟨d, .binOp .and t x y t', ty, pos, af, g⟩ (.d (.int .u64 (n : Nat))) :=
  .of_run fun κ a w st => ⟨.int .u64 (n : Nat), by
    rw [bin_run st hx hy]
    have h1 : (BitVec.ofInt IntKind.u64.bits (n : Nat) &&& BitVec.ofInt IntKind.u64.bits 4294967295).toNat = n := by
      show (BitVec.ofInt 64 (n : Nat) &&& BitVec.ofInt 64 4294967295).toNat = n
      rw [BitVec.toNat_and, BitVec.ofInt_natCast, BitVec.toNat_ofNat, show (BitVec.ofInt 64 4294967295).toNat = 2 ^ 32 - 1 from rfl, Nat.and_two_pow_sub_one_eq_mod]
      omega
    have h2 : IntKind.u64.wrap (n : Nat) = (n : Int) := by show (n : Int) % 18446744073709551616 = n; omega
    show Result.andThen (Sem.run P (Op.intBits .and .u64 n 4294967295) w) _ = _
    simp only [Op.intBits]
    rw [h1, h2]; rfl, .d (.int _ _)⟩
end
end Go.Proofs.YtldkkoecehdicaaDoorA
