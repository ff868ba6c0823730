/- Our framework: Abs35 Abs36 Abs37 Abs38 Abs39 Abs40 Abs41 Abs42 Abs43. -/
import Derived.Test.YtdddebheolmldaaDoorFrC
import Derived.Test.YtdddebheolmldaaDoorFrB
import Derived.Lib.AppendStr
import Derived.Lib.UnsafeStr
import Derived.Lib.Builder
import Derived.Handed
import Derived.LaidLaws
import Derived.LaidHandle
import Derived.Stop.Joined
import Derived.MakeChecks
import Derived.Lay
import Derived.Lib.LaidU8
import Derived.Lib.LaidTab
import Derived.Lib.ItoaNum
import Derived.Sort.Grow
import Derived.Deep.Draws
/- Own lists whose elements are slices of one's own; shifts and masks of counts; own bytes as a string. -/
namespace Go.Proofs.YtdddebheolmldaaDoorA
open Go
set_option linter.unusedVariables false
set_option linter.unusedSimpArgs false

/-- An object that owns no block. -/
theorem HS.noneO2 {κ : Kap} {w : World} {hs : Hp} (h : HS κ w hs) (o : HO) (ho : ∀ κ' : Kap, ∀ O : Nat → Prop, (∀ id x, κ id = some x → κ' id = some x) → HOk κ' w O o (Option.none, 0)) :
    ∃ id κ', HS κ' w ((id, o) :: hs) ∧ Ext κ hs w κ' ((id, o) :: hs) w ∧ κ' id = some (Option.none, 0) := by
  obtain ⟨n, hn⟩ := h.fresh
  let κ' : Kap := fun i => if i = n then some (Option.none, 0) else κ i
  have hk : ∀ id x, κ id = some x → κ' id = some x := fun id x hx => by
    have : id ≠ n := fun he => by rw [he, hn n (Nat.le_refl _)] at hx; cases hx
    simp [κ', this, hx]
  have hnew : κ' n = some (Option.none, 0) := by simp [κ']
  have hold : ∀ id, id ≠ n → κ' id = κ id := fun id hid => by simp [κ', hid]
  have hmem : ∀ id o, (id, o) ∈ hs → id ≠ n := fun id o hi he => by
    obtain ⟨x, hx, _⟩ := h.ok id o hi
    rw [he, hn n (Nat.le_refl _)] at hx; cases hx
  have hpart : ∀ id o' b c, (id, o') ∈ (n, o) :: hs → κ' id = some (some b, c) → (id, o') ∈ hs ∧ κ id = some (some b, c) := by
    intro id o' b c hi hkk
    rcases List.mem_cons.1 hi with he | hi
    · obtain ⟨rfl, rfl⟩ := Prod.mk.inj he
      rw [hnew] at hkk; cases hkk
    · exact ⟨hi, by rw [← hold id (hmem _ _ hi)]; exact hkk⟩
  have e : Ext κ hs w κ' ((n, o) :: hs) w :=
    ⟨hk, Nat.le_refl _, fun _ => Nat.le_refl _, rfl, rfl, rfl, fun _ _ _ => rfl, fun b hb ⟨id, o', c, hi, hkk⟩ => let ⟨h1, h2⟩ := hpart _ _ _ _ hi hkk; ⟨id, o', c, h1, h2⟩, fun id o' hi => by
      rcases List.mem_cons.1 hi with he | hi
      · obtain ⟨rfl, rfl⟩ := Prod.mk.inj he
        exact .inr (hn _ (Nat.le_refl _))
      · exact .inl ⟨_, hi⟩, SameT.refl w⟩
  refine ⟨n, κ', ⟨?_, ?_, ?_, n + 1, fun id hid => ?_⟩, e, hnew⟩
  · rw [List.map_cons, List.nodup_cons]
    refine ⟨fun hi => ?_, h.nodup⟩
    obtain ⟨⟨id, o'⟩, hi, he⟩ := List.mem_map.1 hi
    exact hmem id o' hi he
  · intro id o' hi
    rcases List.mem_cons.1 hi with he | hi
    · obtain ⟨rfl, rfl⟩ := Prod.mk.inj he
      exact ⟨_, hnew, ho κ' _ hk⟩
    · obtain ⟨x, hx, hok⟩ := h.ok id o' hi
      exact ⟨x, hk _ _ hx, hok.ext e fun b _ => rfl⟩
  · intro id id' o₁ o₂ b c c' hi hi' h1 h2
    obtain ⟨h3, h4⟩ := hpart _ _ _ _ hi h1
    obtain ⟨h5, h6⟩ := hpart _ _ _ _ hi' h2
    exact h.inj id id' o₁ o₂ b c c' h3 h5 h4 h6
  · have : id ≠ n := by omega
    rw [hold id this]; exact hn id (by omega)

section
variable {P : Program} {N : Nm} {σ : Env} {hs : Hp} {Q : Post}
theorem W.ghostcv {c : Code} (k off : Nat) {id : Nat} {l : List AV} (hk : hs[k]? = some (id, .cells l)) (hl : l[off]? = some .nilsl)
    (h : ∀ v, W P N c Q σ ((v, .lsv []) :: hs.set k (id, .cells (l.set off (.vs v 0 0 1))))) : W P N c Q σ hs := by
  intro κ a w s
  obtain ⟨v, κ', h1, e, hkv⟩ := s.heap.noneO2 (.lsv []) (fun κ' O hk => ⟨Nat.le_refl _, Nat.zero_le _, fun _ => rfl, fun b hb => by cases hb⟩)
  have hk1 : ((v, HO.lsv []) :: hs)[k + 1]? = some (id, .cells l) := by simpa using hk
  obtain ⟨⟨ob, cap⟩, hx, hok⟩ := h1.ok id _ (List.mem_of_getElem? hk1)
  have hok2 := hok
  obtain ⟨b, cs, rfl, hw, hsz, hone, hr⟩ := hok2
  have hoff : off < l.length := (List.getElem?_eq_some_iff.1 hl).1
  obtain ⟨g1, g2⟩ := h1.write (o' := .cells (l.set off (.vs v 0 0 1))) hk1 hx rfl rfl rfl rfl rfl (fun _ _ => rfl) (fun hA hD => by
    refine ⟨b, cs, rfl, hw, by simpa using hsz, hone, fun i u x hi hxx => ?_⟩
    rw [List.getElem?_set] at hxx
    split at hxx
    · rename_i he
      subst he
      obtain rfl := Option.some.inj hxx
      have := hr _ u _ hi hl
      cases this with
      | nilsl => exact .vs _ _ _ v 0 0 1 hkv (Nat.le_refl _) (fun h => absurd h (Nat.lt_irrefl _))
    · exact hA _ _ (hr i u x hi hxx))
  have e2 := e.trans g2
  refine wpIn_mono (h v κ' a w ⟨?_, s.size, ?_, fun i => ?_⟩) fun _ _ _ hc => hc.ext ?_
  · simpa using g1
  · have := s.defers.ext e2; simpa using this
  · simpa using (s.get i).ext e2
  · simpa using e2
end

theorem lsv_cells {κ : Kap} {w : World} {hs : Hp} (h : HS κ w hs) {k id cap : Nat} {ob : Option Nat} {l : List AV} (hk : hs[k]? = some (id, .lsv l)) (hκ : κ id = some (ob, cap)) :
    ∃ vs : List Value, vs.length = l.length ∧ (∀ v ∈ vs, v.oneCell' = true) ∧ (∀ (i : Nat) (v : Value) (x : AV), vs[i]? = some v → l[i]? = some x → RepA κ w (Own κ hs) v x) ∧ l.length ≤ cap ∧ cap ≤ maxLen ∧ (ob = none → cap = 0) ∧
      ∀ b, ob = some b → ∃ cs T, w.heap[b]? = some (.cells cs T (0, 0)) ∧ cs.size = cap ∧ vs = cs.toList.take l.length := by
  obtain ⟨y, hy, hok⟩ := h.ok id _ (List.mem_of_getElem? hk)
  rw [hκ] at hy
  obtain rfl := Option.some.inj hy
  obtain ⟨g0, g1, g2, g3⟩ := hok
  cases ob with
  | none =>
    have hr0 : l = [] := List.eq_nil_of_length_eq_zero (by have := g2 rfl; omega)
    subst hr0
    exact ⟨[], rfl, by simp, by simp, g0, g1, g2, fun b hb => by cases hb⟩
  | some b =>
    obtain ⟨cs, T, hw, hcs, h1, hr⟩ := g3 b rfl
    refine ⟨cs.toList.take l.length, by simp; omega, fun v hv => ?_, fun i v x hi hx => ?_, g0, g1, g2, fun b' hb => ?_⟩
    · obtain ⟨i, hi⟩ := List.getElem?_of_mem hv
      rw [List.getElem?_take] at hi
      split at hi
      · rename_i hlt; exact h1 i v hlt (by simpa using hi)
      · cases hi
    · rw [List.getElem?_take] at hi
      split at hi
      · exact hr i v x (by simpa using hi) hx
      · cases hi
    · obtain rfl := Option.some.inj hb
      exact ⟨cs, T, hw, hcs, rfl⟩

theorem new_lsv {κ : Kap} {w : World} {hs : Hp} (h : HS κ w hs) {cap : Nat} {l : List AV} {vs rest : List Value} (T : TypeId) (hl : vs.length = l.length) (ho : ∀ v ∈ vs, v.oneCell' = true)
    (hr : ∀ (i : Nat) (v : Value) (x : AV), vs[i]? = some v → l[i]? = some x → RepA κ w (Own κ hs) v x) (hc : l.length ≤ cap) (hm : cap ≤ maxLen) (hrest : rest.length = cap - l.length) :
    ∃ id κ', HS κ' (w.drew.alloc (.cells (vs ++ rest).toArray T)) ((id, .lsv l) :: hs) ∧ Ext κ hs w κ' ((id, .lsv l) :: hs) (w.drew.alloc (.cells (vs ++ rest).toArray T)) ∧ κ' id = some (some w.heap.size, cap) := by
  obtain ⟨h1, e1⟩ := h.drew (w.drawn + 1) (Nat.le_succ _)
  have h1' : HS κ w.drew hs := h1
  have e1' : Ext κ hs w κ hs w.drew := e1
  obtain ⟨id, κ', h2, e2, hk⟩ := h1'.alloc (vs ++ rest).toArray T (.lsv l) cap fun κ' id hk O hA hD => by
    refine ⟨hc, hm, (fun h => by cases h), fun b hb => ?_⟩
    obtain rfl := Option.some.inj hb
    refine ⟨_, T, heap_alloc_new w.drew _, by rw [List.size_toArray, List.length_append, hl, hrest]; omega, fun i v hi hv => ?_, fun i v x hi hx => ?_⟩
    · rw [List.getElem?_toArray, List.getElem?_append_left (by omega)] at hv
      exact ho v (List.mem_of_getElem? hv)
    · have hlt := (List.getElem?_eq_some_iff.1 hx).1
      rw [List.getElem?_toArray, List.getElem?_append_left (by omega)] at hi
      exact hA _ _ ((hr i v x hi hx).ext e1')
  exact ⟨id, κ', h2, e1'.trans e2, hk⟩

theorem write_lsv {P : Program} {κ : Kap} {w : World} {hs : Hp} (h : HS κ w hs) {k id b cap : Nat} {l l2 : List AV} {news : List Value} (hk : hs[k]? = some (id, .lsv l)) (hκ : κ id = some (some b, cap))
    (nl : news.length = l2.length) (no : ∀ v ∈ news, v.oneCell' = true) (nr : ∀ (i : Nat) (v : Value) (x : AV), news[i]? = some v → l2[i]? = some x → RepA κ w (Own κ hs) v x) (hroom : l.length + l2.length ≤ cap) :
    ∃ w', (storeCells ⟨b, l.length, none⟩ news).run P w = .ok () w' ∧ HS κ w' (hs.set k (id, .lsv (l ++ l2))) ∧ Ext κ hs w κ (hs.set k (id, .lsv (l ++ l2))) w' := by
  obtain ⟨y, hy, hok⟩ := h.ok id _ (List.mem_of_getElem? hk)
  rw [hκ] at hy
  obtain rfl := Option.some.inj hy
  obtain ⟨g0, g1, g2, g3⟩ := hok
  obtain ⟨cs, T, hw, hcs, ho, hr⟩ := g3 b rfl
  have hst := run_storeCells_at P b l.length T news 0 cs w hw (by omega) no
  simp only [Nat.add_zero] at hst
  refine ⟨_, hst, h.write hk hκ (by simp) rfl rfl rfl rfl (fun q hq => setRow_other w b q _ hq) fun hA hD => ?_⟩
  refine ⟨by simp; omega, g1, g2, fun b' hb' => ?_⟩
  obtain rfl := Option.some.inj hb'
  have get : ∀ q, (cs.toList.take l.length ++ news ++ cs.toList.drop (l.length + news.length)).toArray[q]? =
      if q < l.length then cs[q]? else if q < l.length + news.length then news[q - l.length]? else cs[q]? := by
    intro q
    simp only [List.getElem?_toArray, List.append_assoc, List.getElem?_append, List.length_take, Array.length_toList]
    have : min l.length cs.size = l.length := by omega
    rw [this]
    by_cases hq : q < l.length
    · simp [hq]
    · rw [if_neg hq, if_neg hq]
      by_cases hq2 : q < l.length + news.length
      · rw [if_pos (by omega), if_pos hq2]
      · rw [if_neg (by omega), if_neg hq2, List.getElem?_drop]
        have : l.length + news.length + (q - l.length - news.length) = q := by omega
        rw [this]; simp
  refine ⟨_, T, setRow_heap w b cs _ T (0, 0) hw, by simp; omega, fun i v hi hv => ?_, fun i v x hi hx => ?_⟩
  · rw [get] at hv
    rw [List.length_append] at hi
    split at hv
    · rename_i h1; exact ho i v h1 hv
    · rw [if_pos (by omega)] at hv; exact no v (List.mem_of_getElem? hv)
  · rw [get] at hi
    have hlt := (List.getElem?_eq_some_iff.1 hx).1
    rw [List.length_append] at hlt
    rw [List.getElem?_append] at hx
    split at hi
    · rename_i h1; rw [if_pos h1] at hx; exact hA _ _ (hr i v x hi hx)
    · rename_i h1
      rw [if_pos (by omega)] at hi
      rw [if_neg h1] at hx
      exact hA _ _ (nr _ v x hi hx)

section
variable {P : Program} {N : Nm} {σ : Env} {hs : Hp} {d : Option Tmp} {ty : TypeId} {pos : String} {af : Array Edge} {g : Option (Nat × Bool)}

/-- An element of a list of own slices. -/
theorem Q.idx_lsv {t id n kk : Nat} {l : List AV} {x ix : Operand} {k : IntKind} {i : Int} (ht : tSl P t = some 1) (hx : oev σ x = .vs id 0 n 1) (hh : hs[kk]? = some (id, .lsv l))
    (hi : oev σ ix = .d (.int k i)) (h0 : 0 ≤ i) (h1 : i < n) : Quiet P N σ hs ⟨d, .indexAddr t x ix, ty, pos, af, g⟩ (.ep id 1 i.toNat 0) :=
  .of_run fun κ a w s => by
    have h2 := s.oev x; rw [hx] at h2
    have h3 := s.oev ix; rw [hi] at h3
    obtain ⟨e, inf, hu, hin, hsz⟩ := tSl_spec ht
    obtain ⟨ob, cap, p, hκ, hn, hp, hv⟩ := h2.vs_inv
    obtain ⟨vs, _, _, _, _, _, g4, _⟩ := lsv_cells s.heap hh hκ
    cases ob with
    | none => exact absurd (g4 rfl) (by omega)
    | some b =>
      have hpe := hp (by omega)
      subst hpe
      refine ⟨.pointer (some ((⟨b, 0 * 1, none⟩ : Addr).add (i.toNat * inf.size))), by simp only [execOp, hv, h3.int_inv, Option.map_some, Sem.run_bind, idx_run hu hin _ h0 h1, Result.andThen_ok, Sem.run_pure], ?_⟩
      rw [addr_add_lit, hsz, Nat.zero_mul, Nat.zero_add]
      exact .ep b cap id 1 _ 0 hκ
theorem Q.ld_lsv {t id i k : Nat} {l : List AV} {y : AV} {x : Operand} (ht : tAgg P t = some (false, 1)) (hx : oev σ x = .ep id 1 i 0) (hk : hs[k]? = some (id, .lsv l)) (hr : l[i]? = some y) :
    Quiet P N σ hs ⟨d, .load t x, ty, pos, af, g⟩ y :=
  .of_run fun κ a w s => by
    have h1 := s.oev x; rw [hx] at h1
    obtain ⟨b, cap, hkk, hv1⟩ := h1.ep_inv
    obtain ⟨vs, hl, _, hrep, _, _, _, hb⟩ := lsv_cells s.heap hk hkk
    obtain ⟨cs, T, hw, hcs, hvs⟩ := hb b rfl
    have hlt := (List.getElem?_eq_some_iff.1 hr).1
    obtain ⟨u, hu⟩ : ∃ u, vs[i]? = some u := ⟨_, List.getElem?_eq_getElem (by omega)⟩
    rw [Nat.mul_one, Nat.add_zero] at hv1
    have hc : w.cell? ⟨b, i, none⟩ = some u := by
      rw [hvs, List.getElem?_take, if_pos hlt] at hu
      simp [World.cell?, hw]; simpa using hu
    exact ⟨u, by simp [execOp, hv1, load1_run ht hc], hrep i u y hu hr⟩

/-- A slice of one own slice, written out. -/
theorem L.bslv {dd : Tmp} {t : Nat} {z : List Value} {l : List AV} {x : Operand} (ht : tSl P t = some 1) (hz : tZrow P t = some z) (hzl : z.length = 1)
    (hz1 : z.all (·.oneCell') = true) (hf : afillA (fun i => some (i * 1, 1)) (z.map cellA) [(0, oev σ x)] = some l) (hll : l.length = 1) (hd : Nat.blt dd N.n = true) :
    Loud P N σ hs ⟨some dd, .buildSlice t 1 #[(0, x)], ty, pos, af, g⟩ (fun σ' hs' => ∃ id, σ' = (dd, .vs id 0 1 1) :: σ ∧ hs' = (id, .lsv l) :: hs) := by
  intro κ a w s K Q hK
  have hdN : dd < N.n := by simpa [Nat.blt_eq] using hd
  obtain ⟨e, inf, hu, hi, hsz⟩ := tSl_spec ht
  unfold tZrow at hz
  rw [hu] at hz
  obtain ⟨inf', hi', hz⟩ := Option.bind_eq_some_iff.1 hz
  rw [hi] at hi'
  obtain rfl := Option.some.inj hi'
  obtain ⟨zv, hzv, rfl⟩ := Option.map_eq_some_iff.1 hz
  obtain ⟨h1, h2⟩ := parts_rep s (#[(0, x)] : Array (Nat × Operand))
  have hzs : zv.cells.size = 1 := by rw [← Array.length_toList]; exact hzl
  have hrow : (Array.range (1 * inf.size)).map (fun i => zv.cells[i % zv.cells.size]!) = zv.cells := by
    apply Array.ext
    · simp [hzs, hsz]
    · intro i ha hb
      have : i = 0 := by omega
      subst this
      simp [hzs]
  have h0 : FilledA κ w (Own κ hs) zv.cells (zv.cells.toList.map cellA) := by
    refine ⟨by simp, fun v hv => List.all_eq_true.1 hz1 v hv, fun i v x hv hx => ?_⟩
    rw [List.getElem?_map] at hx
    obtain ⟨u, hu, rfl⟩ := Option.map_eq_some_iff.1 hx
    have : u = v := by rw [Array.getElem?_toList, hv] at hu; exact (Option.some.inj hu).symm
    subst this
    exact cellA_rep _ _ _ _
  obtain ⟨cs', h3, f1, f2, f3⟩ := fillA_run _ _ _ _ l h1 h2 h0 hf
  have hrun : (execOp a.eval ⟨some dd, .buildSlice t 1 #[(0, x)], ty, pos, af, g⟩).run P w = .ok (.value (.slice (some ⟨w.heap.size, 0, none⟩) 1 1)) (w.alloc (.cells cs' e)) := by
    rw [show execOp a.eval ⟨some dd, .buildSlice t 1 #[(0, x)], ty, pos, af, g⟩ = (do pure (.value (← Instr.buildSlice t 1 ((#[(0, x)] : Array (Nat × Operand)).map fun (i, x) => (i, a.eval x))))) from rfl, Sem.run_bind]
    have hb : (Instr.buildSlice t 1 ((#[(0, x)] : Array (Nat × Operand)).map fun (i, x) => (i, a.eval x))).run P w = .ok (.slice (some ⟨w.heap.size, 0, none⟩) 1 1) (w.alloc (.cells cs' e)) := by
      have hzr : (zeroValue e).run P w = .ok zv w := by simp [zeroValue, typeInfo, hi, hzv]
      simp only [Instr.buildSlice, Sem.run_bind, run_underlying hu, Result.andThen_ok, size_run hi]
      rw [if_neg (by rw [hsz]; decide), if_neg (by rw [hsz]; decide)]
      simp only [Sem.run_bind, hzr, Result.andThen_ok, Sem.run_pure]
      rw [hrow, hsz]
      simp only [Array.toArray_toList] at h3
      rw [h3]
      simp [newRow_run]
    rw [hb]; rfl
  obtain ⟨id, κ', g1, g2, hk⟩ := s.heap.alloc cs' e (.lsv l) 1 fun κ' id hk O hA hD => by
    refine ⟨by omega, by simp only [maxLen]; omega, (fun h => by cases h), fun b hb => ?_⟩
    obtain rfl := Option.some.inj hb
    exact ⟨cs', e, heap_alloc_new w _, by rw [f1, hll], fun i v hi hv => f2 v (List.mem_of_getElem? (by simpa using hv)), fun i v x hi hx => hA _ _ (f3 i v x hi hx)⟩
  unfold oWp
  rw [hrun]
  refine hK κ' _ _ _ _ (s.put g2 g1 hdN ?_) g2 ⟨id, rfl, rfl⟩
  have := RepA.vs (κ := κ') (w := w.alloc (.cells cs' e)) (O := Own κ' ((id, HO.lsv l) :: hs)) (some w.heap.size) 1 (some ⟨w.heap.size, 0, none⟩) id 0 1 1 hk (by omega) (fun _ => by simp)
  simpa using this

/-- An append of own slices to a list of such. -/
theorem L.appv {dd : Tmp} {t bytes id id2 n m k k2 : Nat} {l l2 : List AV} {x y : Operand} (ht : tApp P t = some (1, bytes)) (hx : oev σ x = .vs id 0 n 1) (hk : hs[k]? = some (id, .lsv l)) (hn : n = l.length)
    (hy : oev σ y = .vs id2 0 m 1) (hk2 : hs[k2]? = some (id2, .lsv l2)) (hm : m = l2.length) (hm0 : 0 < m) (hb : (n + m) * bytes ≤ 140737488355328) (hd : Nat.blt dd N.n = true) :
    Loud P N σ hs ⟨some dd, .call ⟨.builtin .append, #[x, y], #[t, t]⟩, ty, pos, af, g⟩
      (fun σ' hs' => ∃ id', σ' = (dd, .vs id' 0 (n + m) 1) :: σ ∧ hs' = (id', .lsv (l ++ l2)) :: hs.eraseIdx k) := by
  intro κ a w s K Q hK
  subst hn hm
  have hdN : dd < N.n := by simpa [Nat.blt_eq] using hd
  obtain ⟨e, inf, z, hu, hi, hz, h1, h2, h3, hsz, hbb⟩ := tApp_spec ht
  have hx1 := s.oev x; rw [hx] at hx1
  have hy1 := s.oev y; rw [hy] at hy1
  obtain ⟨ob, cap, p, hκ, hle, hp, hv⟩ := hx1.vs_inv
  obtain ⟨ob2, cap2, q, hκ2, hle2, hq, hv2⟩ := hy1.vs_inv
  obtain ⟨olds, ol, oo, orr, oc, ocm, o0, obk⟩ := lsv_cells s.heap hk hκ
  obtain ⟨news, nl, no, nr, nc, ncm, n0, nbk⟩ := lsv_cells s.heap hk2 hκ2
  rw [Nat.sub_zero] at hv hv2
  have hcapn : ∀ b, ob = some b → 0 < cap → p = some ⟨b, 0, none⟩ := fun b hb hc => by rw [hp hc, hb]; simp
  have hnews : ∀ (j : Nat) u, news[j]? = some u → ∃ ad, q = some ad ∧ w.cell? (ad.add j) = some u := fun j u hj => by
    have hlt := (List.getElem?_eq_some_iff.1 hj).1
    cases ob2 with
    | none => exact absurd (n0 rfl) (by omega)
    | some b2 =>
      obtain ⟨cs, T, hw, hcs, hvs⟩ := nbk b2 rfl
      refine ⟨⟨b2, 0, none⟩, by rw [hq (by omega)]; simp, ?_⟩
      rw [addr_add_lit, Nat.zero_add]
      rw [hvs, List.getElem?_take, if_pos (by omega)] at hj
      simp [World.cell?, hw]; simpa using hj
  have hall : ∀ (i : Nat) (v : Value) (x : AV), (olds ++ news)[i]? = some v → (l ++ l2)[i]? = some x → RepA κ w (Own κ hs) v x := fun i v x hi hx => by
    rw [List.getElem?_append] at hi hx
    rw [ol] at hi
    split at hi
    · rename_i h; rw [if_pos h] at hx; exact orr i v x hi hx
    · rename_i h; rw [if_neg h] at hx; exact nr _ v x hi hx
  have hone : ∀ v ∈ olds ++ news, v.oneCell' = true := fun v hv => (List.mem_append.1 hv).elim (oo v) (no v)
  by_cases hroom : l.length + l2.length ≤ cap
  · cases ob with
    | none => exact absurd (o0 rfl) (by omega)
    | some b =>
      have hpe := hcapn b rfl (by omega)
      subst hpe
      obtain ⟨cs, T, hw, hcs, hvs⟩ := obk b rfl
      obtain ⟨qa, hqa, _⟩ := hnews 0 (news[0]'(by omega)) (List.getElem?_eq_getElem (by omega))
      subst hqa
      have hn' : ∀ (j : Nat) u, news[j]? = some u → w.cell? (qa.add j) = some u := fun j u hj => by
        obtain ⟨ad, he, h⟩ := hnews j u hj
        obtain rfl := Option.some.inj he
        exact h
      obtain ⟨w', hst, h5, e5⟩ := write_lsv (P := P) s.heap hk hκ nl no nr hroom
      obtain ⟨id', κ', h6, e6, hκ'⟩ := h5.rename (k := k) (id := id) (o := .lsv (l ++ l2)) (by rw [List.getElem?_set]; simp [(List.getElem?_eq_some_iff.1 hk).1])
      have hers : (hs.set k (id, HO.lsv (l ++ l2))).eraseIdx k = hs.eraseIdx k := List.eraseIdx_set_eq ..
      rw [hers] at h6 e6
      have hf := run_firstCells_some (P := P) w inf.size l2.length qa l2.length cap2 news (by rw [h1, nl, Nat.mul_one]) hn'
      rw [h1] at hf
      have hrun : (Builtin.append_ #[t, t] ty #[.slice (some ⟨b, 0, none⟩) l.length cap, .slice (some qa) l2.length cap2]).run P w = .ok (.slice (some ⟨b, 0, none⟩) (l.length + l2.length) cap) w' := by
        simp [Builtin.append_, run_underlying hu, sizeOf, typeInfo, hi, Builtin.lenOf, hroom, hf, Addr.add_lit, h1, hst]
      unfold oWp
      rw [app_op hv hv2 hrun]
      refine hK κ' _ _ _ _ (s.put (e5.trans e6) h6 hdN ?_) (e5.trans e6) ⟨id', rfl, rfl⟩
      have := RepA.vs (κ := κ') (w := w') (O := Own κ' ((id', HO.lsv (l ++ l2)) :: hs.eraseIdx k)) (some b) cap (some ⟨b, 0, none⟩) id' 0 (l.length + l2.length) 1 (hκ'.trans hκ) (by omega) (fun _ => by simp)
      simpa using this
  · have holds : ∀ (j : Nat) u, olds[j]? = some u → ∃ ad, p = some ad ∧ w.cell? (ad.add j) = some u := fun j u hj => by
      have hlt := (List.getElem?_eq_some_iff.1 hj).1
      cases ob with
      | none => exact absurd (o0 rfl) (by omega)
      | some b =>
        obtain ⟨cs, T, hw, hcs, hvs⟩ := obk b rfl
        refine ⟨_, hcapn b rfl (by omega), ?_⟩
        rw [addr_add_lit, Nat.zero_add]
        rw [hvs, List.getElem?_take, if_pos (by omega)] at hj
        simp [World.cell?, hw]; simpa using hj
    have hp0 : p = none → cap = 0 := fun h => Classical.byContradiction fun hc => by
      cases ob with
      | none => exact hc (o0 rfl)
      | some b => rw [hcapn b rfl (by omega)] at h; cases h
    obtain ⟨ncap, rest, hrun, hge, hmx, hrest⟩ := grow_run (P := P) (w := w) (ty := ty) hu hi hz h1 h2 h3 olds (by rw [ol, Nat.mul_one]) (by omega) hp0 holds (c := cap2) news (by rw [nl, Nat.mul_one]) hnews hm0 (by decide) (by omega) hb hbb
    obtain ⟨h5, e5⟩ := s.heap.sublist (List.eraseIdx_sublist hs k)
    obtain ⟨id', κ', h6, e6, hκ'⟩ := new_lsv h5 (cap := ncap) (rest := rest) (l := l ++ l2) (vs := olds ++ news) e (by simp [ol, nl]) hone (fun i v x hi hx => (hall i v x hi hx).ext e5) (by simpa using hge) hmx (by simpa using hrest)
    unfold oWp
    rw [app_op hv hv2 hrun]
    refine hK κ' _ _ _ _ (s.put (e5.trans e6) h6 hdN ?_) (e5.trans e6) ⟨id', rfl, rfl⟩
    have := RepA.vs (κ := κ') (w := w.drew.alloc (.cells ((olds ++ news) ++ rest).toArray e)) (O := Own κ' ((id', HO.lsv (l ++ l2)) :: hs.eraseIdx k)) (some w.heap.size) ncap (some ⟨w.heap.size, 0, none⟩) id' 0 (l.length + l2.length) 1 hκ' (by omega) (fun _ => by simp)
    simpa using this

theorem Q.max4 {ta : Array TypeId} {x y z u : Operand} {k : IntKind} {m n p q : Int} (hx : oev σ x = .d (.int k m)) (hy : oev σ y = .d (.int k n)) (hz : oev σ z = .d (.int k p)) (hu : oev σ u = .d (.int k q)) :
    Quiet P N σ hs ⟨d, .call ⟨.builtin .max, #[x, y, z, u], ta⟩, ty, pos, af, g⟩ (.d (.int k (max (max (max m n) p) q))) :=
  .of_run fun κ a w s => by
    have h1 := s.oev x; have h2 := s.oev y; have h3 := s.oev z; have h4 := s.oev u
    rw [hx] at h1; rw [hy] at h2; rw [hz] at h3; rw [hu] at h4
    refine ⟨.int k (max (max (max m n) p) q), ?_, .d (.int _ _)⟩
    rw [builtin_run]
    have e : ∀ m n : Int, (if n > m then n else m) = max m n := fun m n => by omega
    simp [builtin, h1.int_inv, h2.int_inv, h3.int_inv, h4.int_inv, Builtin.max_, Builtin.max2, ← e]
/-- n >> s of a count. -/
theorem Q.shrn {t t' : TypeId} {x y : Operand} {k : IntKind} {n s : Nat} (hx : oev σ x = .d (.int .u64 (n : Nat))) (hy : oev σ y = .d (.int k (s : Nat))) (hs1 : s < 64) : Quiet P N σ hs ⟨d, .binOp .shr t x y t', ty, pos, af, g⟩ (.d (.int .u64 ((n / 2 ^ s : Nat) : Nat))) :=
  .of_run fun κ a w st => ⟨.int .u64 ((n / 2 ^ s : Nat) : Nat), by
    rw [bin_run st hx hy]
    have h2 : (n : Int).fdiv (2 ^ (min (s : Int).toNat IntKind.u64.bits)) = ((n / 2 ^ s : Nat) : Int) := by
      rw [show min (s : Int).toNat IntKind.u64.bits = s by (show min s 64 = s; omega), Int.fdiv_eq_ediv_of_nonneg _ (Int.pow_nonneg (by decide))]
      norm_cast
    show Result.andThen (Sem.run P (Op.shift .shr .u64 n k s) w) _ = _
    unfold Op.shift
    rw [if_neg (by omega)]
    dsimp only
    rw [h2]; rfl, .d (.int _ _)⟩
/-- The lower 32 bits of a small count. -/
theorem Q.and32 {t t' : TypeId} {x y : Operand} {n : Nat} (hx : oev σ x = .d (.int .u64 (n : Nat))) (hy : oev σ y = .d (.int .u64 4294967295)) (hn : n < 4294967296) : Quiet P N σ hs ⟨d, .binOp .and t x y t', ty, pos, af, g⟩ (.d (.int .u64 (n : Nat))) :=
  .of_run fun κ a w st => ⟨.int .u64 (n : Nat), by
    rw [bin_run st hx hy]
    have h1 : (BitVec.ofInt IntKind.u64.bits (n : Nat) &&& BitVec.ofInt IntKind.u64.bits 4294967295).toNat = n := by
      show (BitVec.ofInt 64 (n : Nat) &&& BitVec.ofInt 64 4294967295).toNat = n
      rw [BitVec.toNat_and, BitVec.ofInt_natCast, BitVec.toNat_ofNat, show (BitVec.ofInt 64 4294967295).toNat = 2 ^ 32 - 1 from rfl, Nat.and_two_pow_sub_one_eq_mod]
      omega
    have h2 : IntKind.u64.wrap (n : Nat) = (n : Int) := by show (n : Int) % 18446744073709551616 = n; omega
    show Result.andThen (Sem.run P (Op.intBits .and .u64 n 4294967295) w) _ = _
    simp only [Op.intBits]
    rw [h1, h2]; rfl, .d (.int _ _)⟩
end
end Go.Proofs.YtdddebheolmldaaDoorA

/- Own bytes as a string; shifts and masks of small counts. -/
namespace Go.Proofs.YtdddebheolmldaaDoorA
open Go
set_option linter.unusedVariables false
set_option linter.unusedSimpArgs false

theorem wu64 {z r : Int} (h : z = r) (h0 : 0 ≤ r) (h1 : r ≤ 18446744073709551615) : IntKind.u64.wrap z = r := by
  subst h
  show z % 18446744073709551616 = z
  omega
section
variable {P : Program} {N : Nm} {σ : Env} {hs : Hp} {d : Option Tmp} {ty : TypeId} {pos : String} {af : Array Edge} {g : Option (Nat × Bool)}
/-- Own bytes, as a string. -/
theorem Q.conv_vs {t t' : TypeId} {x : Operand} {l : List UInt8} {id n k : Nat} (ht : isBytes P t = true) (ht' : isStr P t' = true) (hx : oev σ x = .vs id 0 n 1) (hk : hs[k]? = some (id, .lst 1 (l.map bE))) (hn : n = l.length) :
    Quiet P N σ hs ⟨d, .convert t t' x, ty, pos, af, g⟩ (.d (.str ⟨l.toArray⟩)) :=
  .of_run fun κ a w s => by
    have h0 := s.oev x; rw [hx] at h0
    have h1 : RepA κ w (fun _ => False) (a.eval x) (.d (.sl 1 (l.map bE))) := .d (vs_data s.heap h0 hk (by rw [List.length_map]; exact hn) (fun b hb => hb))
    obtain ⟨e, hu, he⟩ := isBytes_spec ht
    obtain ⟨p, cap, c, hv, hle, _, _, hm, hd⟩ := h1.sl_inv
    have hlen : (l.map bE).length = l.length := List.length_map _
    rw [hlen] at hv
    refine ⟨.string ⟨l.toArray⟩, ?_, .d (.str _)⟩
    cases hl : l with
    | nil =>
      subst hl
      rw [show execOp a.eval ⟨d, .convert t t' x, ty, pos, af, g⟩ = (do pure (.value (← convert t t' (a.eval x)))) from rfl, hv, Sem.run_bind]
      rw [show ([] : List UInt8).length = 0 from rfl, run_convert_bytes_string w t t' e p 0 cap hu he (isStr_spec ht')]
      cases p with
      | none => rfl
      | some ad =>
        have := run_loadCells_list (P := P) w ad [] (fun j v hj => by simp at hj)
        rw [run_bytesToString w ad 0 cap [] this]
        rfl
    | cons b l' =>
      rw [← hl]
      have hpos : 0 < l.length := by rw [hl]; simp
      obtain ⟨ad, rfl, _, _⟩ := hm 0 0 (bE l[0]) (.int .u8 l[0].toNat) (by simp [List.getElem?_eq_getElem hpos]) rfl
      rw [show execOp a.eval ⟨d, .convert t t' x, ty, pos, af, g⟩ = (do pure (.value (← convert t t' (a.eval x)))) from rfl, hv, Sem.run_bind,
        run_convert_bytes_back w t t' e ad cap l hu he (isStr_spec ht') (fun j hj => ?_)]
      · rfl
      · obtain ⟨ad', he', _, hc⟩ := hm j 0 (bE l[j]) (.int .u8 l[j].toNat) (by simp [List.getElem?_eq_getElem hj]) rfl
        obtain rfl := Option.some.inj he'
        have hr := hd j 0 (bE l[j]) (.int .u8 l[j].toNat) (by simp [List.getElem?_eq_getElem hj]) rfl
        rw [Nat.mul_one, Nat.add_zero] at hc
        rw [hc]
        generalize c j 0 = v at hr
        cases hr
        rfl
theorem Q.shr32 {t t' : TypeId} {x y : Operand} {k : IntKind} {z r : Int} (hx : oev σ x = .d (.int .u64 z)) (hy : oev σ y = .d (.int k 32)) (h0 : 0 ≤ z) (hr : z / 4294967296 = r) : Quiet P N σ hs ⟨d, .binOp .shr t x y t', ty, pos, af, g⟩ (.d (.int .u64 r)) := by
  obtain ⟨n, rfl⟩ : ∃ n : Nat, z = n := ⟨z.toNat, by omega⟩
  have h := Q.shrn (P := P) (N := N) (hs := hs) (d := d) (t := t) (t' := t') (ty := ty) (pos := pos) (af := af) (g := g) (s := 32) hx hy (by decide)
  have e : ((n / 2 ^ 32 : Nat) : Int) = r := by rw [← hr]; show ((n / 4294967296 : Nat) : Int) = _; omega
  rwa [e] at h
theorem Q.and32z {t t' : TypeId} {x y : Operand} {z : Int} (hx : oev σ x = .d (.int .u64 z)) (hy : oev σ y = .d (.int .u64 4294967295)) (h0 : 0 ≤ z) (hn : z < 4294967296) : Quiet P N σ hs ⟨d, .binOp .and t x y t', ty, pos, af, g⟩ (.d (.int .u64 z)) := by
  obtain ⟨n, rfl⟩ : ∃ n : Nat, z = n := ⟨z.toNat, by omega⟩
  exact Q.and32 hx hy (by omega)
end
end Go.Proofs.YtdddebheolmldaaDoorA

/- Package-level tables; types of variables; strings appended to own bytes; own bytes handed on as a string; bits. -/
namespace Go.Proofs.YtdddebheolmldaaDoorA
open Go
set_option linter.unusedVariables false
set_option linter.unusedSimpArgs false

section
variable {P : Program} {N : Nm} {σ : Env} {hs : Hp} {d : Option Tmp} {ty : TypeId} {pos : String} {af : Array Edge} {g : Option (Nat × Bool)}

/-! ### tables -/
theorem glob_rep {κ : Kap} {w : World} (h : HS κ w hs) {kk id b : Nat} {l : List Value} {ds : List D} (hk : hs[kk]? = some (id, .glob b l)) (hds : cellsD l = some ds) (off : Nat) :
    RepA κ w (Own κ hs) (.pointer (some ⟨b, off, none⟩)) (.dp (ds.drop off)) := by
  obtain ⟨⟨ob, cap⟩, hκ, hok⟩ := h.ok id _ (List.mem_of_getElem? hk)
  obtain ⟨h0, hno, T, f, hw⟩ := hok
  have h1 : ∀ (i : Nat) (v : Value), l[i]? = some v → ¬ Own κ hs b ∧ w.cell? ⟨b, i, none⟩ = some v := fun i v hv => ⟨hno, by simp [World.cell?, hw, hv]⟩
  obtain ⟨f1, f2, f3⟩ := cellsD_rep w (Own κ hs) l ds hds
  have hlen : ds.length = l.length := by simpa using f1.symm
  refine .dp _ _ (fun j => l.getD (off + j) undef) (fun d hd => f2 d (List.mem_of_mem_drop hd)) (fun j d hj => ?_) (fun j d hj => ?_)
  · rw [List.getElem?_drop] at hj
    have hlt : off + j < l.length := by rw [← hlen]; exact (List.getElem?_eq_some_iff.1 hj).1
    obtain ⟨h2, h3⟩ := h1 (off + j) _ (List.getElem?_eq_getElem hlt)
    refine ⟨h2, ?_⟩
    rw [addr_add_lit]
    simp only [List.getD_eq_getElem?_getD, List.getElem?_eq_getElem hlt, Option.getD_some]
    exact h3
  · rw [List.getElem?_drop] at hj
    have hlt : off + j < l.length := by rw [← hlen]; exact (List.getElem?_eq_some_iff.1 hj).1
    simp only [List.getD_eq_getElem?_getD, List.getElem?_eq_getElem hlt, Option.getD_some]
    exact f3 (off + j) _ d (by simp [hlt]) hj

theorem Q.idx_glob {t n sz b id kk : Nat} {l : List Value} {ds : List D} {ix : Operand} {k : IntKind} {i : Int} (ht : tArr P t = some (n, sz)) (hk : hs[kk]? = some (id, .glob b l)) (hds : cellsD l = some ds) (hi : oev σ ix = .d (.int k i)) (h0 : 0 ≤ i) (h1 : i < n) :
    Quiet P N σ hs ⟨d, .indexAddr t (.global b) ix, ty, pos, af, g⟩ (.dp (ds.drop (i.toNat * sz))) :=
  .of_run fun κ a w s => by
    have h := s.oev ix; rw [hi] at h
    obtain ⟨e, inf, hu, hei, rfl⟩ := tArr_spec ht
    refine ⟨.pointer (some ⟨b, i.toNat * inf.size, none⟩), ?_, glob_rep s.heap hk hds _⟩
    rw [show execOp a.eval ⟨d, .indexAddr t (.global b) ix, ty, pos, af, g⟩ = (do pure (.value (← Instr.indexAt t (.pointer (some ⟨b, 0, none⟩)) (a.eval ix)))) from rfl, h.int_inv, Sem.run_bind, arr_run hu hei _ h0 h1]
    simp [addr_add_lit]

/-- A variable of the package, loaded. -/
theorem Q.ld_glob {t b id kk : Nat} {l : List Value} {y : D} {ds : List D} (ht : tAgg P t = some (false, 1)) (hk : hs[kk]? = some (id, .glob b l)) (hds : cellsD l = some (y :: ds)) :
    Quiet P N σ hs ⟨d, .load t (.global b), ty, pos, af, g⟩ (.d y) :=
  .of_run fun κ a w s => by
    have h := glob_rep s.heap hk hds 0
    obtain ⟨ad, c, he, h1, h2, h5⟩ := h.dp_inv
    obtain rfl : (⟨b, 0, none⟩ : Addr) = ad := by injection he with he; injection he
    have h3 := (h2 0 y rfl).2
    have h4 := h5 0 y rfl
    rw [addr_add_zero] at h3
    refine ⟨c 0, ?_, .d h4⟩
    rw [show execOp a.eval ⟨d, .load t (.global b), ty, pos, af, g⟩ = (do pure (.value (← Instr.loadAt t (.pointer (some ⟨b, 0, none⟩))))) from rfl, Sem.run_bind, load1_run ht h3]
    rfl

/-! ### types of blocks -/
theorem HS.note {κ : Kap} {w : World} (h : HS κ w hs) {id b c : Nat} {cs : Array Value} {T : TypeId} {f : Nat × Nat} (hκ : κ id = some (some b, c)) (hw : w.heap[b]? = some (.cells cs T f)) :
    ∃ fid κ', HS κ' w ((fid, .typ id T) :: hs) ∧ Ext κ hs w κ' ((fid, .typ id T) :: hs) w := by
  obtain ⟨fid, κ', h1, h2, _⟩ := h.noneO2 (.typ id T) (fun κ' O hk => ⟨rfl, b, c, cs, f, hk _ _ hκ, hw⟩)
  exact ⟨fid, κ', h1, h2⟩

/-- A new variable, its type kept in mind. -/
theorem L.allocT {t T : Nat} {vs : List Value} (hz : tZero P T = some vs) (h1 : vs.all (·.oneCell') = true) (htN : Nat.blt t N.n = true) :
    Loud P N σ hs ⟨some t, .alloc T, ty, pos, af, g⟩ (fun σ' hs' => ∃ id fid, σ' = (t, .ptr id 0) :: σ ∧ hs' = (fid, .typ id T) :: (id, .cells (vs.map cellA)) :: hs) := by
  intro κ a w s K Q hK
  obtain ⟨i, hi, hz⟩ := Option.bind_eq_some_iff.1 hz
  obtain ⟨z, hz, hvs⟩ := Option.map_eq_some_iff.1 hz
  obtain ⟨id, κ', h2, e, hk⟩ := new_cells s.heap vs (vs.map cellA) T (by simp) (by simpa using h1)
    (fun i v x hi hx => by
      rw [List.getElem?_map, hi] at hx
      obtain rfl := Option.some.inj hx
      exact cellA_rep _ _ _ v)
  have hzr : (zeroValue T).run P w = .ok z w := by simp [zeroValue, typeInfo, hi, hz]
  have hrun : (execOp a.eval ⟨some t, .alloc T, ty, pos, af, g⟩).run P w = .ok (.value (.pointer (some ⟨w.heap.size, 0, none⟩))) (w.alloc (.cells vs.toArray T)) := by
    rw [show execOp a.eval ⟨some t, .alloc T, ty, pos, af, g⟩ = (do pure (.value (← (do let zero ← zeroValue T; pure (.pointer (some (← newVar T zero))))))) from rfl]
    simp only [Sem.run_bind, hzr, Result.andThen_ok, newVar, newRow_run, Sem.run_pure]
    rw [← hvs]
  obtain ⟨fid, κ₂, h3, e3⟩ := h2.note hk (heap_alloc_new w _)
  unfold oWp
  rw [hrun]
  exact hK κ₂ _ _ _ _ (s.put (e.trans e3) h3 (by simpa [Nat.blt_eq] using htN) (.ptr w.heap.size _ id 0 (e3.kap _ _ hk))) (e.trans e3) ⟨id, fid, rfl, rfl⟩

/-! ### strings appended to bytes -/
def tBy (P : Program) (t : TypeId) : Option TypeId := match P.underlying t with
  | some (.slice e) => match P.info? e with
    | some i => match i.zero with
      | some (.int .u8 0) => if i.size = 1 ∧ i.bytes = 1 then some e else none
      | _ => none
    | none => none
  | _ => none
theorem tBy_spec {t e : TypeId} (h : tBy P t = some e) : ∃ i, P.underlying t = some (.slice e) ∧ P.info? e = some i ∧ i.zero = some (.int .u8 0) ∧ i.size = 1 ∧ i.bytes = 1 := by
  unfold tBy at h
  split at h
  · rename_i e' hu
    split at h
    · rename_i i hi
      split at h
      · rename_i hz
        split at h
        · rename_i h2; obtain rfl := Option.some.inj h; exact ⟨i, hu, hi, hz, h2⟩
        · cases h
      · cases h
    · cases h
  · cases h

theorem lined_str (w : World) (O : Nat → Prop) (s : ByteArray) : Lined w O 1 (s.data.toList.map bE) (Lib.strCells s) := by
  refine ⟨by simp [Lib.strCells], fun u hu => Lib.strCells_oneCell s u hu, fun i j r x hi hj => ?_⟩
  rw [List.getElem?_map] at hi
  obtain ⟨b, hb, rfl⟩ := Option.map_eq_some_iff.1 hi
  have hj0 : j = 0 := by have := (List.getElem?_eq_some_iff.1 hj).1; simpa [bE] using this
  subst hj0
  obtain rfl := Option.some.inj hj
  exact ⟨.int .u8 b.toNat, by simp [Lib.strCells, hb], .int _ _⟩

theorem str_rows (s : ByteArray) : (s.data.toList.map bE).length = s.size := by simp
theorem bE_len {l : List UInt8} : ∀ r ∈ l.map bE, r.length = 1 := fun r hr => by obtain ⟨b, _, rfl⟩ := List.mem_map.1 hr; rfl
theorem bE_one {l : List UInt8} : ∀ r ∈ l.map bE, ∀ x ∈ r, x.one = true := fun r hr x hx => by
  obtain ⟨b, _, rfl⟩ := List.mem_map.1 hr
  simp [bE] at hx; subst hx; rfl

theorem app_opS {d : Tmp} {t u : Nat} {x y : Operand} {a : Act} {w w' : World} {v v2 : Value} (hx : a.eval x = v) (hy : a.eval y = v2) {r : Value} (h : (Builtin.append_ #[t, u] ty #[v, v2]).run P w = .ok r w') :
    (execOp a.eval ⟨some d, .call ⟨.builtin .append, #[x, y], #[t, u]⟩, ty, pos, af, g⟩).run P w = .ok (.value r) w' := by
  rw [builtin_run]
  simp [builtin, hx, hy, h]

theorem zc_list (n : Nat) : (Builtin.zeroCells (Value.int .u8 0).cells n).toList.length = n := by rw [Array.length_toList, size_zeroCells]; exact Nat.mul_one n

/-- A string appended to own bytes. -/
theorem L.app_strT {d : Tmp} {t u id n k kt fid : Nat} {e : TypeId} {l : List UInt8} {s : ByteArray} {x y : Operand} (ht : tBy P t = some e) (hu : isStr P u = true) (hx : oev σ x = .vs id 0 n 1) (hk : hs[k]? = some (id, .lst 1 (l.map bE)))
    (hkt : hs[kt]? = some (fid, .typ id e)) (hn : n = l.length) (hy : oev σ y = .d (.str s)) (hb : l.length + s.size ≤ 140737488355328) (hd : Nat.blt d N.n = true) :
    Loud P N σ hs ⟨some d, .call ⟨.builtin .append, #[x, y], #[t, u]⟩, ty, pos, af, g⟩
      (fun σ' hs' => ∃ id' fid', σ' = (d, .vs id' 0 (l.length + s.size) 1) :: σ ∧ hs' = (fid', .typ id' e) :: (id', .lst 1 ((l ++ s.data.toList).map bE)) :: hs.eraseIdx k) := by
  intro κ a w sm K Q hK
  subst hn
  have hdN : d < N.n := by simpa [Nat.blt_eq] using hd
  obtain ⟨inf, hue, hi, hz, h1, h2⟩ := tBy_spec ht
  have hus := isStr_spec hu
  have hx1 := sm.oev x; rw [hx] at hx1
  have hy1 := sm.oev y; rw [hy] at hy1
  have hv2 := hy1.str_inv
  obtain ⟨ob, cap, p, hκ, hle, hp, hv⟩ := hx1.vs_inv
  have hl2 := lined_str w (Own κ hs) s
  obtain ⟨olds, hl1, hblk⟩ := lst_cells sm.heap hk hκ
  obtain ⟨yy, hyy, hok⟩ := sm.heap.ok id _ (List.mem_of_getElem? hk)
  rw [hκ] at hyy
  obtain rfl := Option.some.inj hyy
  obtain ⟨g0, g0', g1, g2, g3, g4, g5⟩ := hok
  obtain ⟨⟨ob2, c2⟩, hκ2, ht0, b2, c3, cs2, f2, ht1, ht2⟩ := sm.heap.ok fid _ (List.mem_of_getElem? hkt)
  rw [hκ] at ht1
  obtain ⟨rfl, rfl⟩ := Prod.mk.inj (Option.some.inj ht1)
  have hcapn : 0 < cap → p = some ⟨b2, 0, none⟩ := fun hc => by rw [hp hc]; simp
  have hrr : ∀ r ∈ l.map bE ++ s.data.toList.map bE, r.length = 1 := fun r hr => (List.mem_append.1 hr).elim (g2 r) (bE_len r)
  have hoo : ∀ r ∈ l.map bE ++ s.data.toList.map bE, ∀ x ∈ r, x.one = true := fun r hr => (List.mem_append.1 hr).elim (g3 r) (bE_one r)
  rw [Nat.sub_zero] at hv
  rw [List.length_map] at g0
  by_cases hm : s.size = 0
  · have hs0 : s.data.toList = [] := List.eq_nil_of_length_eq_zero (by simpa using hm)
    have hrun : (Builtin.append_ #[t, u] ty #[.slice p l.length cap, .string s]).run P w = .ok (.slice p l.length cap) w := by
      have hf := Lib.run_firstCells_string (P := P) w inf.size s
      rw [hm] at hf
      have hsc : Lib.strCells s = [] := by simp [Lib.strCells, hs0]
      rw [hsc] at hf
      cases p <;> simp [Builtin.append_, run_underlying hue, run_underlying hus, sizeOf, typeInfo, hi, Builtin.lenOf, hm, g0, hf, storeCells]
    obtain ⟨h5, e5⟩ := sm.heap.perm (erase_perm hs k _ hk)
    obtain ⟨fid', κ', h6, e6⟩ := h5.note hκ ht2
    unfold oWp
    rw [app_opS (hv.trans rfl) hv2 hrun]
    refine hK κ' _ w _ _ (sm.put (e5.trans e6) h6 hdN ?_) (e5.trans e6) ⟨id, fid', by rw [hm], by rw [hs0, List.append_nil]⟩
    have := RepA.vs (κ := κ') (w := w) (O := Own κ' ((fid', HO.typ id e) :: (id, HO.lst 1 (l.map bE)) :: hs.eraseIdx k)) (some b2) cap p id 0 l.length 1 (e6.kap _ _ hκ) hle (by simpa using hp)
    simpa [hm] using this
  · by_cases hroom : l.length + s.size ≤ cap
    · have hpe := hcapn (by omega)
      subst hpe
      obtain ⟨w', hst, h5, e5⟩ := write_rows (P := P) sm.heap hk hκ hl2 bE_len bE_one (Nat.le_refl _) (by rw [List.length_map, str_rows]; exact hroom)
      rw [List.take_length, List.drop_of_length_le (by omega), List.append_nil] at h5 e5
      rw [List.length_map, Nat.mul_one] at hst
      obtain ⟨id', κ', h6, e6, hκ'⟩ := h5.rename (k := k) (id := id) (o := .lst 1 (l.map bE ++ s.data.toList.map bE)) (by rw [List.getElem?_set]; simp [(List.getElem?_eq_some_iff.1 hk).1])
      have hers : (hs.set k (id, HO.lst 1 (l.map bE ++ s.data.toList.map bE))).eraseIdx k = hs.eraseIdx k := List.eraseIdx_set_eq ..
      rw [hers] at h6 e6
      obtain ⟨cs3, f3, ht3⟩ := (e5.trans e6).ty b2 cs2 e f2 ht2
      obtain ⟨fid', κ₂, h7, e7⟩ := h6.note (hκ'.trans hκ) ht3
      have hf := Lib.run_firstCells_string (P := P) w inf.size s
      have hrun : (Builtin.append_ #[t, u] ty #[.slice (some ⟨b2, 0, none⟩) l.length cap, .string s]).run P w = .ok (.slice (some ⟨b2, 0, none⟩) (l.length + s.size) cap) w' := by
        simp [Builtin.append_, run_underlying hue, run_underlying hus, sizeOf, typeInfo, hi, h1, Builtin.lenOf, hroom, Addr.add_lit, hst]
        rw [h1] at hf
        simp [hf, hst]
      unfold oWp
      rw [app_opS (hv.trans rfl) hv2 hrun]
      refine hK κ₂ _ w' _ _ (sm.put ((e5.trans e6).trans e7) h7 hdN ?_) ((e5.trans e6).trans e7) ⟨id', fid', rfl, by rw [List.map_append]⟩
      have := RepA.vs (κ := κ₂) (w := w') (O := Own κ₂ ((fid', HO.typ id' e) :: (id', HO.lst 1 (l.map bE ++ s.data.toList.map bE)) :: hs.eraseIdx k)) (some b2) cap (some ⟨b2, 0, none⟩) id' 0 (l.length + s.size) 1 (e7.kap _ _ (hκ'.trans hκ)) (by omega) (fun _ => by simp)
      simpa using this
    · have hgrow : ∃ ncap rest, (Builtin.append_ #[t, u] ty #[.slice p l.length cap, .string s]).run P w = .ok (.slice (some ⟨w.heap.size, 0, none⟩) (l.length + s.size) ncap) (w.drew.alloc (.cells ((olds ++ Lib.strCells s) ++ rest).toArray e)) ∧
          l.length + s.size ≤ ncap ∧ ncap ≤ maxLen ∧ rest.length = (ncap - (l.length + s.size)) * 1 := by
        have hol : olds.length = l.length * 1 := by have := hl1.1; rwa [List.length_map] at this
        by_cases hc0 : cap = 0
        · subst hc0
          have hl0 : l = [] := List.eq_nil_of_length_eq_zero (by omega)
          subst hl0
          have ho : olds = [] := List.eq_nil_of_length_eq_zero (by simpa using hol)
          subst ho
          obtain ⟨cs4, T4, hw4, hcs4, _⟩ := hblk b2 rfl
          rw [hw4] at ht2
          cases p with
          | none =>
            have hr := run_append_nil_string (P := P) w t u ty e inf (.int .u8 0) hue hus hi hz s (by omega) (by simp at hb; omega) (by rw [h2]; simp at hb; omega)
            refine ⟨grownCap w s.size 0 e, (Builtin.zeroCells (Value.int .u8 0).cells (grownCap w s.size 0 e - s.size)).toList, ?_, by simpa using grownCap_ge w s.size 0 e, grownCap_le_maxLen w s.size 0 e (by simp only [maxLen]; simp at hb; omega), by rw [zc_list]; simp⟩
            have e1 : (s.data.map fun b => Value.int .u8 b.toNat) = (Lib.strCells s).toArray := by apply Array.ext'; simp [Lib.strCells]
            rw [e1] at hr
            simp only [List.length_nil, Nat.zero_add, List.nil_append]
            rw [hr]
            congr 3
            apply Array.ext'; simp
          | some pa =>
            have hr := Lib.run_append_grow_string (P := P) w t u ty e inf (.int .u8 0) hue hus hi hz pa 0 0 [] (by simp) (fun j v hj => by simp at hj) s (by omega) (by simp at hb ⊢; omega) (by rw [h2]; exact growslice_fits (by omega) (by simp at hb ⊢; omega))
            refine ⟨grownCap w (0 + s.size) 0 e, (Builtin.zeroCells (Value.int .u8 0).cells (grownCap w (0 + s.size) 0 e - (0 + s.size))).toList, ?_, grownCap_ge w (0 + s.size) 0 e, grownCap_le_maxLen w (0 + s.size) 0 e (by simp only [maxLen]; simp at hb ⊢; omega), by rw [zc_list]; simp⟩
            simp only [List.length_nil]
            rw [hr]
            congr 3
            apply Array.ext'; simp
        · have hpe := hcapn (by omega)
          subst hpe
          obtain ⟨cs4, T4, hw4, hcs4, hvs4⟩ := hblk b2 rfl
          have holds : ∀ (j : Nat) v, olds[j]? = some v → w.cell? ((⟨b2, 0, none⟩ : Addr).add j) = some v := fun j v hj => by
            have hlt : j < olds.length := (List.getElem?_eq_some_iff.1 hj).1
            rw [addr_add_lit, Nat.zero_add]
            rw [hvs4, List.length_map, List.getElem?_take, if_pos (by omega)] at hj
            simp [World.cell?, hw4]; simpa using hj
          have hr := Lib.run_append_grow_string (P := P) w t u ty e inf (.int .u8 0) hue hus hi hz ⟨b2, 0, none⟩ l.length cap olds (by rw [h1]; exact hol) holds s (by omega) (by omega) (by rw [h2]; exact growslice_fits (by omega) (by omega))
          refine ⟨grownCap w (l.length + s.size) cap e, (Builtin.zeroCells (Value.int .u8 0).cells (grownCap w (l.length + s.size) cap e - (l.length + s.size))).toList, ?_, grownCap_ge w _ cap e, grownCap_le_maxLen w _ cap e (by simp only [maxLen]; omega), by rw [zc_list]; simp⟩
          rw [hr]
          congr 3
          apply Array.ext'; simp
      obtain ⟨ncap, rest, hrun, hge, hmx, hrest⟩ := hgrow
      obtain ⟨h5, e5⟩ := sm.heap.sublist (List.eraseIdx_sublist hs k)
      obtain ⟨id', κ', h6, e6, hκ'⟩ := new_lst h5 (cap := ncap) (rest := rest) e (by decide) ((hl1.append hl2 g2).mono fun v x hx => hx.ext e5) hrr hoo (by rw [List.length_append, List.length_map, str_rows]; exact hge) hmx (by rw [List.length_append, List.length_map, str_rows]; exact hrest)
      obtain ⟨fid', κ₂, h7, e7⟩ := h6.note hκ' (heap_alloc_new w.drew _)
      unfold oWp
      rw [app_opS (hv.trans rfl) hv2 hrun]
      refine hK κ₂ _ _ _ _ (sm.put ((e5.trans e6).trans e7) h7 hdN ?_) ((e5.trans e6).trans e7) ⟨id', fid', rfl, by rw [List.map_append]⟩
      have := RepA.vs (κ := κ₂) (w := w.drew.alloc (.cells ((olds ++ Lib.strCells s) ++ rest).toArray e)) (O := Own κ₂ ((fid', HO.typ id' e) :: (id', HO.lst 1 (l.map bE ++ s.data.toList.map bE)) :: hs.eraseIdx k)) (some w.heap.size) ncap (some ⟨w.heap.size, 0, none⟩) id' 0 (l.length + s.size) 1 (e7.kap _ _ hκ') (by omega) (fun _ => by simp)
      simpa using this

/-- A string appended to nil. -/
theorem L.app_str0T {d : Tmp} {t u : Nat} {e : TypeId} {s : ByteArray} {x y : Operand} (ht : tBy P t = some e) (hu : isStr P u = true) (hx : oev σ x = .nilsl) (hy : oev σ y = .d (.str s)) (h0 : s.size ≠ 0)
    (hb : s.size ≤ 140737488355328) (hd : Nat.blt d N.n = true) :
    Loud P N σ hs ⟨some d, .call ⟨.builtin .append, #[x, y], #[t, u]⟩, ty, pos, af, g⟩
      (fun σ' hs' => ∃ id' fid', σ' = (d, .vs id' 0 s.size 1) :: σ ∧ hs' = (fid', .typ id' e) :: (id', .lst 1 (s.data.toList.map bE)) :: hs) := by
  intro κ a w sm K Q hK
  have hdN : d < N.n := by simpa [Nat.blt_eq] using hd
  obtain ⟨inf, hue, hi, hz, h1, h2⟩ := tBy_spec ht
  have hus := isStr_spec hu
  have hx1 := sm.oev x; rw [hx] at hx1
  have hy1 := sm.oev y; rw [hy] at hy1
  have hv2 := hy1.str_inv
  generalize hv : a.eval x = v at hx1
  cases hx1
  have hl2 := lined_str w (Own κ hs) s
  have hr := run_append_nil_string (P := P) w t u ty e inf (.int .u8 0) hue hus hi hz s (by omega) (by omega) (by rw [h2]; omega)
  have e1 : (s.data.map fun b => Value.int .u8 b.toNat) = (Lib.strCells s).toArray := by apply Array.ext'; simp [Lib.strCells]
  rw [e1] at hr
  have e2 : ((Lib.strCells s).toArray ++ Builtin.zeroCells (Value.int .u8 0).cells (grownCap w s.size 0 e - s.size)) = (Lib.strCells s ++ (Builtin.zeroCells (Value.int .u8 0).cells (grownCap w s.size 0 e - s.size)).toList).toArray := by apply Array.ext'; simp
  rw [e2] at hr
  obtain ⟨id', κ', h6, e6, hκ'⟩ := new_lst sm.heap (cap := grownCap w s.size 0 e) (rest := (Builtin.zeroCells (Value.int .u8 0).cells (grownCap w s.size 0 e - s.size)).toList) e (by decide) hl2 bE_len bE_one
    (by rw [str_rows]; exact grownCap_ge w s.size 0 e) (grownCap_le_maxLen w s.size 0 e (by simp only [maxLen]; omega)) (by rw [zc_list, str_rows]; simp)
  obtain ⟨fid', κ₂, h7, e7⟩ := h6.note hκ' (heap_alloc_new w.drew _)
  unfold oWp
  rw [app_opS hv hv2 hr]
  refine hK κ₂ _ _ _ _ (sm.put (e6.trans e7) h7 hdN ?_) (e6.trans e7) ⟨id', fid', rfl, rfl⟩
  have := RepA.vs (κ := κ₂) (w := w.drew.alloc (.cells (Lib.strCells s ++ (Builtin.zeroCells (Value.int .u8 0).cells (grownCap w s.size 0 e - s.size)).toList).toArray e)) (O := Own κ₂ ((fid', HO.typ id' e) :: (id', HO.lst 1 (s.data.toList.map bE)) :: hs)) (some w.heap.size) (grownCap w s.size 0 e) (some ⟨w.heap.size, 0, none⟩) id' 0 s.size 1 (e7.kap _ _ hκ') (by have := grownCap_ge w s.size 0 e; omega) (fun _ => by simp)
  simpa using this

/-! ### own bytes handed on as a string -/
/-- One's own object is given up, and its block written. -/
theorem HS.leaveO {κ : Kap} {w w' : World} (h : HS κ w hs) {k id : Nat} {o : HO} {b c : Nat} (hk : hs[k]? = some (id, o)) (hκ : κ id = some (some b, c))
    (hsize : w'.heap.size = w.heap.size) (hdr : w'.drawn = w.drawn) (hos : w'.os = w.os) (ht : w'.tape = w.tape) (hout : w'.output = w.output) (hoth : ∀ i, i ≠ b → w'.heap[i]? = w.heap[i]?) (hty : SameT w w' b) :
    HS κ w' (hs.eraseIdx k) ∧ Ext κ hs w κ (hs.eraseIdx k) w' := by
  have hmem : (id, o) ∈ hs := List.mem_of_getElem? hk
  have hb : Own κ hs b := ⟨id, o, c, hmem, hκ⟩
  have hsub := List.eraseIdx_sublist hs k
  have e : Ext κ hs w κ (hs.eraseIdx k) w' :=
    ⟨fun _ _ h => h, by omega, fun _ => Nat.le_of_eq hdr.symm, hos, ht, hout, fun i _ hn => hoth i fun he => hn (he ▸ hb), fun i _ ⟨j, o', c', hi, hj⟩ => ⟨j, o', c', hsub.subset hi, hj⟩, fun i o₁ hi => .inl ⟨o₁, hsub.subset hi⟩, fun i => by
      by_cases hi : i = b
      · subst hi; exact hty
      · exact .of_eq (hoth i hi)⟩
  have hnd : ((hs.eraseIdx k).map (·.1)).Nodup := (hsub.map _).nodup h.nodup
  refine ⟨⟨hnd, fun i o₁ hi => ?_, fun i i' o₁ o₂ b' c₁ c₂ hi hi' => h.inj i i' o₁ o₂ b' c₁ c₂ (hsub.subset hi) (hsub.subset hi'), h.fresh⟩, e⟩
  obtain ⟨x, hx, hok⟩ := h.ok i o₁ (hsub.subset hi)
  refine ⟨x, hx, hok.ext e fun b' hb' => hoth b' fun he => ?_⟩
  subst he
  have hid : i = id := h.inj i id o₁ o b' x.2 c (hsub.subset hi) hmem (by rw [hx, ← hb']) hκ
  subst hid
  have h3 := ((erase_perm hs k _ hk).map (·.1)).nodup_iff.2 h.nodup
  rw [List.map_cons, List.nodup_cons] at h3
  exact h3.1 (List.mem_map.2 ⟨_, hi, rfl⟩)

theorem SameT.freeze (w : World) (b n : Nat) : SameT w (w.freeze ⟨b, 0, none⟩ n) b := fun cs T f h => by
  unfold World.freeze
  split
  · exact ⟨cs, f, h⟩
  · obtain ⟨lo, hi⟩ := f
    refine ⟨cs, (if lo == hi then (0, 0 + n) else (min lo 0, max hi (0 + n))), ?_⟩
    show (Array.modify _ _ _)[b]? = _
    rw [Array.getElem?_modify, if_pos rfl, h]
    rfl
theorem freeze_other (w : World) (b n i : Nat) (h : i ≠ b) : (w.freeze ⟨b, 0, none⟩ n).heap[i]? = w.heap[i]? := by
  unfold World.freeze
  split
  · rfl
  · show (Array.modify _ _ _)[i]? = _
    rw [Array.getElem?_modify, if_neg (Ne.symm h)]
theorem freeze_size (w : World) (b n : Nat) : (w.freeze ⟨b, 0, none⟩ n).heap.size = w.heap.size := by
  unfold World.freeze
  split <;> simp

def tPe (P : Program) (t : TypeId) : Option TypeId := match P.underlying t with
  | some (.pointer e) => if P.cellsOf e = 1 then some e else none
  | _ => none
theorem tPe_spec {t e : TypeId} (h : tPe P t = some e) : P.underlying t = some (.pointer e) ∧ P.cellsOf e = 1 := by
  unfold tPe at h
  split at h
  · rename_i e' hu
    split at h
    · rename_i hc; obtain rfl := Option.some.inj h; exact ⟨hu, hc⟩
    · cases h
  · cases h

theorem Q.sdata_vs {tys : Array TypeId} {id n k : Nat} {l : List (List D)} {x : Operand} (hx : oev σ x = .vs id 0 n 1) (hk : hs[k]? = some (id, .lst 1 l)) (hn : n = l.length) (h0 : l ≠ []) :
    Quiet P N σ hs ⟨d, .call ⟨.builtin .unsafeSliceData, #[x], tys⟩, ty, pos, af, g⟩ (.ptr id 0) :=
  .of_run fun κ a w s => by
    have h1 := s.oev x; rw [hx] at h1
    obtain ⟨ob, cap, p, hκ, hle, hp, hv⟩ := h1.vs_inv
    obtain ⟨yy, hyy, hok⟩ := s.heap.ok id _ (List.mem_of_getElem? hk)
    rw [hκ] at hyy
    obtain rfl := Option.some.inj hyy
    obtain ⟨g0, g0', g1, g2, g3, g4, g5⟩ := hok
    have hpos : 0 < l.length := List.length_pos_iff.2 h0
    cases ob with
    | none => exact absurd (g4 rfl) (by omega)
    | some b =>
      have hpe : p = some ⟨b, 0, none⟩ := by rw [hp (by omega)]; simp
      subst hpe
      refine ⟨.pointer (some ⟨b, 0, none⟩), ?_, .ptr b cap id 0 hκ⟩
      rw [builtin_run]
      have := Lib.run_unsafeSliceData_row (P := P) w tys ty ⟨b, 0, none⟩ n cap (by omega)
      simp [builtin, hv, this]
theorem Q.sdata_nil {tys : Array TypeId} {x : Operand} (hx : oev σ x = .nilsl) : Quiet P N σ hs ⟨d, .call ⟨.builtin .unsafeSliceData, #[x], tys⟩, ty, pos, af, g⟩ (.d .nilp) :=
  .of_run fun κ a w s => by
    have h1 := s.oev x; rw [hx] at h1
    generalize hv : a.eval x = v at h1
    cases h1
    refine ⟨.pointer none, ?_, .d .nilp⟩
    rw [builtin_run]
    have := Lib.run_unsafeSliceData_nil (P := P) w tys ty 0 0
    simp [builtin, hv, this]
theorem Q.ustr0 {pt it : TypeId} {x y : Operand} (hx : oev σ x = .d .nilp) (hy : oev σ y = .d (.int .i64 0)) : Quiet P N σ hs ⟨d, .call ⟨.builtin .unsafeString, #[x, y], #[pt, it]⟩, ty, pos, af, g⟩ (.d (.str ⟨#[]⟩)) :=
  .of_run fun κ a w s => by
    have h1 := s.oev x; rw [hx] at h1
    have h2 := s.oev y; rw [hy] at h2
    refine ⟨.string .empty, ?_, .d (.str _)⟩
    rw [builtin_run]
    have := Lib.run_unsafeString_none (P := P) w pt it ty none
    simp [builtin, nilp_inv h1, h2.int_inv, this]

/-- unsafe.String over one's own bytes: they are given up. -/
theorem L.ustr {d : Tmp} {pt it e : TypeId} {x y : Operand} {l : List UInt8} {id n k kt fid : Nat} (hp : tPe P pt = some e) (hx : oev σ x = .ptr id 0) (hy : oev σ y = .d (.int .i64 (n : Nat))) (hk : hs[k]? = some (id, .lst 1 (l.map bE)))
    (hkt : hs[kt]? = some (fid, .typ id e)) (hn : n = l.length) (h0 : l ≠ []) (hd : Nat.blt d N.n = true) :
    Loud P N σ hs ⟨some d, .call ⟨.builtin .unsafeString, #[x, y], #[pt, it]⟩, ty, pos, af, g⟩ (fun σ' hs' => σ' = (d, .d (.str ⟨l.toArray⟩)) :: σ ∧ hs' = hs.eraseIdx k) := by
  intro κ a w s K Q hK
  subst hn
  have hdN : d < N.n := by simpa [Nat.blt_eq] using hd
  obtain ⟨hpu, hpc⟩ := tPe_spec hp
  have hx1 := s.oev x; rw [hx] at hx1
  have hy1 := s.oev y; rw [hy] at hy1
  obtain ⟨b, cap, hκ, hv⟩ := hx1.ptr_inv
  obtain ⟨yy, hyy, hok⟩ := s.heap.ok id _ (List.mem_of_getElem? hk)
  rw [hκ] at hyy
  obtain rfl := Option.some.inj hyy
  obtain ⟨g0, g0', g1, g2, g3, g4, g5⟩ := hok
  rw [List.length_map] at g0
  obtain ⟨cs, T, hw, hcs, hr⟩ := g5 b rfl
  obtain ⟨⟨ob2, c2⟩, hκ2, ht0, b2, c3, cs2, f2, ht1, ht2⟩ := s.heap.ok fid _ (List.mem_of_getElem? hkt)
  rw [hκ] at ht1
  obtain ⟨he1, rfl⟩ := Prod.mk.inj (Option.some.inj ht1)
  obtain rfl := Option.some.inj he1
  rw [hw] at ht2
  obtain ⟨rfl, rfl, _⟩ : cs = cs2 ∧ T = e ∧ (0, 0) = f2 := by injection ht2 with ht2; injection ht2 with h1 h2 h3; exact ⟨h1, h2, h3⟩
  have hrun := Lib.run_unsafeString_row (P := P) w pt it ty T hpu hpc b cap (by simp [World.shape?, hw, hcs]) l h0 g0 (by simp only [maxLen] at g0'; omega) (fun j q hj => by
    obtain ⟨v, hv1, hv2⟩ := hr j 0 (bE q) (.int .u8 q.toNat) (by rw [List.getElem?_map, hj]; rfl) rfl
    cases hv2
    rw [addr_add_lit]
    simp only [Nat.mul_one, Nat.add_zero] at hv1
    simp [World.cell?, hw, hv1])
  obtain ⟨h5, e5⟩ := s.heap.leaveO (w' := w.freeze ⟨b, 0, none⟩ l.length) hk hκ (freeze_size w b _) (by unfold World.freeze; split <;> rfl) (by unfold World.freeze; split <;> rfl) (by unfold World.freeze; split <;> rfl) (by unfold World.freeze; split <;> rfl) (fun i hi => freeze_other w b _ i hi) (SameT.freeze w b _)
  have hop : (execOp a.eval ⟨some d, .call ⟨.builtin .unsafeString, #[x, y], #[pt, it]⟩, ty, pos, af, g⟩).run P w = .ok (.value (.string ⟨l.toArray⟩)) (w.freeze ⟨b, 0, none⟩ l.length) := by
    rw [builtin_run]
    simp [builtin, hv, hy1.int_inv, hrun]
  unfold oWp
  rw [hop]
  exact hK κ _ _ _ _ (s.put e5 h5 hdN (.d (.str _))) e5 ⟨rfl, rfl⟩

/-! ### a builder's own address -/
def tUn (P : Program) (t t' : TypeId) : Bool := match P.underlying t, P.underlying t' with
  | some (.pointer e), some .unsafePointer => match P.info? e with | some i => decide (i.size ≠ 0) | none => false
  | _, _ => false
def tNu (P : Program) (t t' T : TypeId) (n : Nat) : Bool := match P.underlying t, P.underlying t' with
  | some .unsafePointer, some (.pointer u) => (P.info? u).isSome && liesAt P P.depth T (n / P.cellsOf T) 0 u 1
  | _, _ => false
theorem typ_shape {κ : Kap} {w : World} (h : HS κ w hs) {id fid k kt b c : Nat} {T : TypeId} {l : List AV} (hk : hs[k]? = some (id, .cells l)) (hkt : hs[kt]? = some (fid, .typ id T)) (hκ : κ id = some (some b, c)) : w.shape? b = some (T, l.length) := by
  obtain ⟨yy, hyy, b', cs, hbe, hw, hsz, _⟩ := h.ok id _ (List.mem_of_getElem? hk)
  rw [hκ] at hyy
  obtain rfl := Option.some.inj hyy
  obtain rfl := Option.some.inj hbe
  obtain ⟨⟨ob2, c2⟩, hκ2, ht0, b2, c3, cs2, f2, ht1, ht2⟩ := h.ok fid _ (List.mem_of_getElem? hkt)
  rw [hκ] at ht1
  obtain ⟨he1, rfl⟩ := Prod.mk.inj (Option.some.inj ht1)
  obtain rfl := Option.some.inj he1
  rw [hw] at ht2
  obtain ⟨rfl, rfl, _⟩ : cs = cs2 ∧ c = T ∧ (0, 0) = f2 := by injection ht2 with ht2; injection ht2 with h1 h2 h3; exact ⟨h1, h2, h3⟩
  simp [World.shape?, hw, hsz]
theorem Q.to_uns {t t' : TypeId} {x : Operand} {id k kt fid : Nat} {T : TypeId} {l : List AV} (ht : tUn P t t' = true) (hx : oev σ x = .ptr id 0) (hk : hs[k]? = some (id, .cells l)) (hkt : hs[kt]? = some (fid, .typ id T)) (h0 : Nat.blt 0 l.length = true) :
    Quiet P N σ hs ⟨d, .convert t t' x, ty, pos, af, g⟩ (.ptr id 0) :=
  .of_run fun κ a w s => by
    have h1 := s.oev x; rw [hx] at h1
    obtain ⟨b, cap, hκ, hv⟩ := h1.ptr_inv
    have hsh := typ_shape s.heap hk hkt hκ
    unfold tUn at ht
    split at ht
    · rename_i e hu hu'
      split at ht
      · rename_i i hi
        refine ⟨.pointer (some ⟨b, 0, none⟩), ?_, .ptr b cap id 0 hκ⟩
        rw [show execOp a.eval ⟨d, .convert t t' x, ty, pos, af, g⟩ = (do pure (.value (← convert t t' (a.eval x)))) from rfl, hv, Sem.run_bind, Lib.run_to_unsafe w ⟨b, 0, none⟩ hu hu' hi (by simpa using ht) hsh (by simpa [Nat.blt_eq] using h0)]
        rfl
      · cases ht
    · cases ht
theorem Q.of_uns {t t' : TypeId} {x : Operand} {id k kt fid : Nat} {T : TypeId} {l : List AV} (hx : oev σ x = .ptr id 0) (hk : hs[k]? = some (id, .cells l)) (hkt : hs[kt]? = some (fid, .typ id T)) (ht : tNu P t t' T l.length = true) :
    Quiet P N σ hs ⟨d, .convert t t' x, ty, pos, af, g⟩ (.ptr id 0) :=
  .of_run fun κ a w s => by
    have h1 := s.oev x; rw [hx] at h1
    obtain ⟨b, cap, hκ, hv⟩ := h1.ptr_inv
    have hsh := typ_shape s.heap hk hkt hκ
    unfold tNu at ht
    split at ht
    · rename_i u hu hu'
      obtain ⟨h2, h3⟩ := Bool.and_eq_true_iff.1 ht
      obtain ⟨j, hj⟩ := Option.isSome_iff_exists.1 h2
      refine ⟨.pointer (some ⟨b, 0, none⟩), ?_, .ptr b cap id 0 hκ⟩
      rw [show execOp a.eval ⟨d, .convert t t' x, ty, pos, af, g⟩ = (do pure (.value (← convert t t' (a.eval x)))) from rfl, hv, Sem.run_bind, Lib.run_from_unsafe w ⟨b, 0, none⟩ hu hu' hj hsh h3]
      rfl
    · cases ht
theorem Q.noesc {x y : Operand} {tys : Array TypeId} {f : FuncId} {v : AV} (hx : oev σ x = .fn f []) (he : ∀ args w, (callFunc f args).run P w = ((Extern.AbiNoEscape.same args).run P w).andThen fun v w' => .ok (.value v) w')
    (hy : oev σ y = v) : Quiet P N σ hs ⟨d, .call ⟨.value x, #[y], tys⟩, ty, pos, af, g⟩ v :=
  Q.ext (xs := [v]) hx he (by simp [hy]) fun κ w vals h h1 h2 => by
    obtain ⟨u, rfl⟩ : ∃ u, vals = #[u] := ⟨vals[0]'(by rw [h1]; exact Nat.zero_lt_one), by
      apply Array.ext
      · exact h1
      · intro i hi hi'
        have : i = 0 := by simp at h1; omega
        subst this; rfl⟩
    exact ⟨u, rfl, h2 0 u v rfl rfl⟩
theorem Q.neq_same {t : Nat} {t' : TypeId} {id off : Nat} {x y : Operand} (ht : isPtr P t = true) (hi : (match P.underlying t with | some (.pointer e) => (P.info? e).isSome | _ => false) = true) (hx : oev σ x = .ptr id off) (hy : oev σ y = .ptr id off) :
    Quiet P N σ hs ⟨d, .binOp .neq t x y t', ty, pos, af, g⟩ (.d (.bool false)) :=
  .of_run fun κ a w s => by
    have h1 := s.oev x; rw [hx] at h1
    have h2 := s.oev y; rw [hy] at h2
    obtain ⟨b, cap, hκ, hv⟩ := h1.ptr_inv
    obtain ⟨b', cap', hκ', hv'⟩ := h2.ptr_inv
    rw [hκ] at hκ'
    obtain ⟨hbe, rfl⟩ := Prod.mk.inj (Option.some.inj hκ')
    obtain rfl := Option.some.inj hbe
    obtain ⟨e, hu⟩ := isPtr_spec ht
    rw [hu] at hi
    obtain ⟨j, hj⟩ := Option.isSome_iff_exists.1 hi
    refine ⟨.bool false, ?_, .d (.bool _)⟩
    have := Lib.run_neq_ptr_same (P := P) w ⟨b, off, none⟩ hu hj
    have hg : (eqGuard .neq t x y (.pointer (some ⟨b, off, none⟩)) (.pointer (some ⟨b, off, none⟩))).run P w = .ok () w := rfl
    simp only [execOp, hv, hv'] 
    simp [this, hg]

/-- An array variable cut from a place on: it is never written again. -/
theorem L.arrcut {d : Tmp} {t n id k i : Nat} {ds : List D} {x lo : Operand} (ht : tArr P t = some (n, 1)) (hx : oev σ x = .ptr id 0) (hlo : oev σ lo = .d (.int .i64 (i : Nat))) (hk : hs[k]? = some (id, .cells (ds.map .d))) (hn : ds.length = n) (h1 : ∀ x ∈ ds, x.one = true) (hi : i < n) (hd : Nat.blt d N.n = true) :
    Loud P N σ hs ⟨some d, .slice t x (some lo) none none, ty, pos, af, g⟩ (fun σ' hs' => σ' = (d, .d (.sl 1 ((ds.drop i).map fun x => [x]))) :: σ ∧ hs' = hs.eraseIdx k) := by
  intro κ a w s K Q hK
  have hdN : d < N.n := by simpa [Nat.blt_eq] using hd
  obtain ⟨e, inf, hu, hei, hsz⟩ := tArr_spec ht
  have hx1 := s.oev x; rw [hx] at hx1
  have hlo1 := s.oev lo; rw [hlo] at hlo1
  obtain ⟨b, cap, hkk, hv⟩ := hx1.ptr_inv
  have hmem : (id, HO.cells (ds.map .d)) ∈ hs := List.mem_of_getElem? hk
  obtain ⟨y, hy, hok⟩ := s.heap.ok id _ hmem
  rw [hkk] at hy
  obtain rfl := Option.some.inj hy
  obtain ⟨b', cs, hbe, hw, hcs, hone, hr⟩ := hok
  obtain rfl := Option.some.inj hbe
  obtain ⟨g1, g2⟩ := s.heap.sublist (List.eraseIdx_sublist hs k)
  have hnot : ¬ Own κ (hs.eraseIdx k) b := by
    rintro ⟨id', o', c', hi', hk'⟩
    have : id' = id := s.heap.inj id' id o' _ b c' cap ((List.eraseIdx_sublist hs k).subset hi') hmem hk' hkk
    subst this
    have hnd := s.heap.nodup
    have h3 := ((erase_perm hs k _ hk).map (·.1)).nodup_iff.2 hnd
    rw [List.map_cons, List.nodup_cons] at h3
    exact h3.1 (List.mem_map.2 ⟨_, hi', rfl⟩)
  have hrun : (execOp a.eval ⟨some d, .slice t x (some lo) none none, ty, pos, af, g⟩).run P w = .ok (.value (.slice (some ⟨b, i, none⟩) (n - i) (n - i))) w := by
    rw [show execOp a.eval ⟨some d, .slice t x (some lo) none none, ty, pos, af, g⟩ = (do pure (.value (← Instr.sliceAt t (a.eval x) (some (a.eval lo)) none none))) from rfl, hv, hlo1.int_inv, Sem.run_bind]
    have hne : ¬ n = i := by omega
    have hsz1 : inf.size = 1 := hsz
    first
      | simp [Instr.sliceAt, run_underlying hu, Instr.sureAddr, Instr.sliceBounds, Instr.sliceBound, size_run hei, hsz1, addr_add_lit, hne, show i ≤ n by omega, asInt, asIntOf]
      | skip
  have hcsn : cs.size = n := by rw [hcs, List.length_map, hn]
  have hrep : RepA κ w (Own κ (hs.eraseIdx k)) (.slice (some ⟨b, i, none⟩) (n - i) (n - i)) (.d (.sl 1 ((ds.drop i).map fun x => [x]))) := by
    refine .d (.sl _ _ _ _ _ (fun q j => cs.getD (i + (q * 1 + j)) undef) (by simp [hn]) (Nat.le_refl _) ?_ ?_ (fun q j r x hq hj => ?_) (fun q j r x hq hj => ?_))
    · intro r hr; obtain ⟨z, _, rfl⟩ := List.mem_map.1 hr; rfl
    · intro r hr z hz; obtain ⟨z', hz', rfl⟩ := List.mem_map.1 hr; rw [List.mem_singleton.1 hz]; exact h1 _ (List.mem_of_mem_drop hz')
    all_goals
      rw [List.getElem?_map] at hq
      obtain ⟨z, hz, rfl⟩ := Option.map_eq_some_iff.1 hq
      have hj0 : j = 0 := by have := (List.getElem?_eq_some_iff.1 hj).1; simpa using this
      subst hj0
      rw [List.getElem?_drop] at hz
      have hlt : i + q < cs.size := by rw [hcsn, ← hn]; exact (List.getElem?_eq_some_iff.1 hz).1
    · refine ⟨_, rfl, hnot, ?_⟩
      rw [addr_add_lit]
      simp [World.cell?, hw, hlt]
    · obtain rfl := Option.some.inj hj
      have h4 := hr (i + q) cs[i + q] (.d z) (Array.getElem?_eq_getElem hlt) (by rw [List.getElem?_map, hz]; rfl)
      have : cs.getD (i + (q * 1 + 0)) undef = cs[i + q] := by simp [hlt]
      rw [this]
      exact h4.d_inv.mono (fun b' _ ho => g2.own b' ‹_› ho) (fun _ _ _ => rfl)
  unfold oWp
  rw [hrun]
  exact hK κ _ _ _ _ (s.put g2 g1 hdN hrep) g2 ⟨rfl, rfl⟩

/-! ### bits -/
theorem Q.xor64 {t t' : TypeId} {x y : Operand} {m n : Nat} (hx : oev σ x = .d (.int .u64 (m : Nat))) (hy : oev σ y = .d (.int .u64 (n : Nat))) (hm : m < 18446744073709551616) (hn : n < 18446744073709551616) :
    Quiet P N σ hs ⟨d, .binOp .xor t x y t', ty, pos, af, g⟩ (.d (.int .u64 ((m ^^^ n : Nat) : Nat))) :=
  .of_run fun κ a w st => ⟨.int .u64 ((m ^^^ n : Nat) : Nat), by
    rw [bin_run st hx hy]
    have h1 : (BitVec.ofInt IntKind.u64.bits (m : Nat) ^^^ BitVec.ofInt IntKind.u64.bits (n : Nat)).toNat = m ^^^ n := by
      show (BitVec.ofInt 64 (m : Nat) ^^^ BitVec.ofInt 64 (n : Nat)).toNat = m ^^^ n
      rw [BitVec.toNat_xor, BitVec.ofInt_natCast, BitVec.ofInt_natCast, BitVec.toNat_ofNat, BitVec.toNat_ofNat, Nat.mod_eq_of_lt (by omega), Nat.mod_eq_of_lt (by omega)]
    have hlt : m ^^^ n < 2 ^ 64 := Nat.xor_lt_two_pow (by omega) (by omega)
    have h2 : IntKind.u64.wrap ((m ^^^ n : Nat) : Nat) = ((m ^^^ n : Nat) : Int) := by show ((m ^^^ n : Nat) : Int) % 18446744073709551616 = _; omega
    show Result.andThen (Sem.run P (Op.intBits .xor .u64 m n) w) _ = _
    simp only [Op.intBits]
    rw [h1, h2]; rfl, .d (.int _ _)⟩
/-- The lower s bits of a count. -/
theorem Q.andm {t t' : TypeId} {x y : Operand} {n s : Nat} {q : Int} (hx : oev σ x = .d (.int .u64 (n : Nat))) (hy : oev σ y = .d (.int .u64 q)) (hq : q = ((2 ^ s - 1 : Nat) : Nat)) (hs1 : s ≤ 64) (hn : n < 18446744073709551616) :
    Quiet P N σ hs ⟨d, .binOp .and t x y t', ty, pos, af, g⟩ (.d (.int .u64 ((n % 2 ^ s : Nat) : Nat))) :=
  .of_run fun κ a w st => ⟨.int .u64 ((n % 2 ^ s : Nat) : Nat), by
    rw [bin_run st hx hy]
    have hp : 2 ^ s ≤ 2 ^ 64 := Nat.pow_le_pow_right (by decide) hs1
    have hp0 : 0 < 2 ^ s := Nat.pow_pos (by decide)
    have h1 : (BitVec.ofInt IntKind.u64.bits (n : Nat) &&& BitVec.ofInt IntKind.u64.bits q).toNat = n % 2 ^ s := by
      subst hq
      show (BitVec.ofInt 64 (n : Nat) &&& BitVec.ofInt 64 ((2 ^ s - 1 : Nat) : Nat)).toNat = n % 2 ^ s
      rw [BitVec.toNat_and, BitVec.ofInt_natCast, BitVec.ofInt_natCast, BitVec.toNat_ofNat, BitVec.toNat_ofNat, Nat.mod_eq_of_lt (show n < 2 ^ 64 by omega), Nat.mod_eq_of_lt (show 2 ^ s - 1 < 2 ^ 64 by omega), Nat.and_two_pow_sub_one_eq_mod]
    have hlt : n % 2 ^ s < 2 ^ s := Nat.mod_lt _ hp0
    have h2 : IntKind.u64.wrap ((n % 2 ^ s : Nat) : Nat) = ((n % 2 ^ s : Nat) : Int) := by show ((n % 2 ^ s : Nat) : Int) % 18446744073709551616 = _; omega
    show Result.andThen (Sem.run P (Op.intBits .and .u64 n q) w) _ = _
    simp only [Op.intBits]
    rw [h1, h2]; rfl, .d (.int _ _)⟩
end
end Go.Proofs.YtdddebheolmldaaDoorA

/- A law whose row lists package-level tables: the contract begins with these tables in mind. -/
namespace Go.Proofs.YtdddebheolmldaaDoorA
open Go
set_option linter.unusedVariables false
set_option linter.unusedSimpArgs false

/-- The tables, as objects 0, 1, .. -/
def globHp (gs : List (Nat × List Value)) : Hp := gs.zipIdx.map fun p => (p.2, .glob p.1.1 p.1.2)
def globK (gs : List (Nat × List Value)) : Kap := fun i => if i < gs.length then some (Option.none, 0) else Option.none

theorem globHp_mem {gs : List (Nat × List Value)} {id : Nat} {o : HO} (h : (id, o) ∈ globHp gs) : ∃ p, gs[id]? = some p ∧ o = .glob p.1 p.2 := by
  obtain ⟨⟨p, i⟩, hp, he⟩ := List.mem_map.1 h
  obtain ⟨rfl, rfl⟩ := Prod.mk.inj he
  have := List.mem_zipIdx_iff_getElem?.1 hp
  exact ⟨p, by simpa using this, rfl⟩

theorem globK_own (gs : List (Nat × List Value)) (hs : Hp) (b : Nat) : ¬ Own (globK gs) hs b := fun ⟨id, o, c, _, hk⟩ => by
  unfold globK at hk
  split at hk <;> simp at hk

theorem HS.globs {w : World} (gs : List (Nat × List Value)) (h : ∀ p ∈ gs, ∃ T f, w.heap[p.1]? = some (.cells p.2.toArray T f)) : HS (globK gs) w (globHp gs) := by
  refine ⟨?_, fun id o hi => ?_, fun id id' o o' b c c' _ _ hk => ?_, gs.length, fun id hid => ?_⟩
  · have : (globHp gs).map (·.1) = List.range gs.length := by
      unfold globHp
      rw [List.map_map]
      apply List.ext_getElem?
      intro i
      simp only [List.getElem?_map, List.getElem?_zipIdx]
      by_cases hi : i < gs.length
      · simp [hi]
      · simp [hi]
    rw [this]
    exact List.nodup_range
  · obtain ⟨p, hp, rfl⟩ := globHp_mem hi
    have hlt := (List.getElem?_eq_some_iff.1 hp).1
    exact ⟨(Option.none, 0), by simp [globK, hlt], rfl, globK_own gs _ _, h p (List.mem_of_getElem? hp)⟩
  · unfold globK at hk
    split at hk <;> simp at hk
  · simp [globK]; omega

theorem Ext.belowG {gs : List (Nat × List Value)} {κ' : Kap} {hs' : Hp} {w w' : World} (e : Ext (globK gs) (globHp gs) w κ' hs' w') : RowKit.Below w.heap.size w w' :=
  ⟨e.os, e.tape, e.output, e.size, fun b hb => e.same b hb (globK_own gs _ b)⟩

section
variable {H : Type} {enc : TypeId × Value → H}

/-- A law that says 'true, and the arguments read as they did', from a contract, where package-level tables are listed. -/
theorem lawG {C : Checked} {os : Os} {f : FuncId} {fn : Func} {s : ChangeSpec} (laid : List (String × DataW Unit)) (n : Nat) (ss : List Sh) (gs0 : List (Nat × List Value)) (own : ownKnob C.prog.godebug = none) (started : os.Started) (noInit : C.prog.inits.idxOf? f = none) (hfn : C.prog.funcs[f]? = some fn)
    (witness : ∃ (w : World) (tape : Tape) (i : Input), w.os = os ∧ (w.forCall tape i).Shaped C.prog ∧ i.vars = [] ∧ Input.okWide C.prog (w.forCall tape i) .any w.heap.size f i ∧
      ((s.pre enc C.prog fn [] false (w.forCall tape i).memory i.args ∧ laidMetH C.prog laid (w.forCall tape i).memory) ∧ sizedMet enc C.prog fn (OpenSpec.ofChange s) false (w.forCall tape i).memory i.args) ∧ ({} : Assume).holds C.prog (lone (Frame.enter C.prog f i.args .normal) [] (w.forCall tape i)))
    (hG : ∀ W, laidMetH C.prog laid W → ∀ p ∈ gs0, ∃ T f, W.heap[p.1]? = some (.cells p.2.toArray T f))
    (hl : laidOutB C.prog = true) (hts : fn.params.toList.all (fun t => C.prog.readableRec t && decide (t < C.prog.types.size)) = true) (tb : TypeId) (hub : C.prog.underlying tb = some .bool) (hres : fn.resultTypes = #[tb])
    (hvars : s.vars = []) (hs : fn.params.toList.map (shape C.prog n) = ss.map some)
    (hspec : ∀ ds : List (DataW H), ds.length = ss.length → s.fn H ds = { results := [.lit (.bool true)], args := ds })
    (contract : ∀ ls, Tys ss ls → AC C.prog f (argsOf ss ls) (globHp gs0) (fun r _ => r = .d (.bool true))) :
    ReturnsInHanded {} C os f .any (fun w args => (s.pre enc C.prog fn [] false w args ∧ laidMetH C.prog laid w) ∧ sizedMet enc C.prog fn (OpenSpec.ofChange s) false w args) (s.post enc C.prog fn false true false false) := by
  refine returnsInHanded_of_change_and (X := fun w _ => laidMetH C.prog laid w) (fun _ _ _ hh h => h.of_heap hh) own started noInit hfn witness ?_
  intro W base args ds gs before hval hW hcnd hsz hL _
  have hW' := hW
  obtain ⟨p, q, hA, hV, rfl, hfz, hnd⟩ := hW
  rw [hvars] at hV
  obtain ⟨rfl, rfl⟩ : gs = [] ∧ q = [] := by
    cases gs with
    | nil => exact ⟨rfl, hV⟩
    | cons g gs => exact absurd hV (by unfold DataW.TrodVars; exact id)
  have hvt : s.plain.varTypes C.prog = [] := by simp [DataSpec.varTypes, ChangeSpec.plain, hvars]
  rw [hvt, List.append_nil, List.append_nil, List.all_eq_true] at hsz
  obtain ⟨ls, h1, h2, h3⟩ := opens_all fn.params.toList ss args.toList ds p hs hA (fun k hk => by simpa using hsz k hk) (fun j t v hj hv => .inr ⟨_, _, hval j t v (by simpa using hj) (by simpa using hv)⟩)
  have hdl : ds.length = ss.length := by
    have h4 := (trodAll_length hA).2
    have h5 := congrArg List.length hs
    simp at h5 h4
    omega
  refine (contract ls h1 (globK gs0) args W (HS.globs gs0 (hG W hL)) (by simpa using h2) (fun i v x hi hx => ?_)).mono fun e W' h => ?_
  · exact (h3 i v x (by simpa using hi) hx).mono (fun id y hy => by cases hy) (fun b _ ho => absurd ho (globK_own gs0 _ b)) (fun _ _ _ => rfl)
  obtain ⟨κ', hs', v, x, rfl, _, he, hr, rfl⟩ := h
  cases hr with
  | d hr =>
  cases hr
  have bel := he.belowG
  refine ⟨_, rfl, ds, [], p ++ [], [], p, [], hW', ?_, ?_, ?_, bel.frame _, fun h => by cases h⟩
  · rw [List.append_nil, hspec ds hdl, hres]
    exact ChangeShapes.trodAll_mk1 (RowKit.shut_bool hub true)
  · rw [List.append_nil, hspec ds hdl]
    have hlt := hW'.lt
    exact trodAll_again hl bel (fun t ht => by simpa using List.all_eq_true.1 hts t ht) (fun x hx => hlt x (by simp [hx])) hA
  · rw [hvars, List.append_nil, hspec ds hdl]
    rfl

/-- What a listed table of integers holds, cell for cell. -/
theorem laid_tab {P : Program} {laid : List (String × DataW Unit)} {W : World} {name : String} {k : IntKind} {zs : List Int} {d : DataW Unit} {g : Nat} {t e : TypeId} {n : Nat} (hp : (laid.all fun x => x.2.handleName?.isNone) = true) (h : laidMetH P laid W)
    (hm : laid.lookup name = some d) (hd : d = Lib.tabData k zs) (hg : P.globalNamed name = some g) (hty : (P.globals[g]?).map (·.type) = some t) (ht : P.underlying t = some (.array n e)) (he : P.underlying e = some (.int k)) (hce : P.cellsOf e = 1) (hct : P.cellsOf t = n) :
    ∃ T f, W.heap[g]? = some (.cells (zs.map fun z => Value.int k z).toArray T f) := by
  rw [MakeChecks.laidMetH_plain _ _ _ hp] at h
  subst hd
  have hmem : (name, Lib.tabData k zs) ∈ laid := by
    clear h hp
    induction laid with
    | nil => cases hm
    | cons x l ih =>
      obtain ⟨n', d'⟩ := x
      rw [List.lookup_cons] at hm
      split at hm
      · rename_i he
        obtain rfl : name = n' := by simpa using he
        obtain rfl := Option.some.inj hm
        exact List.mem_cons_self ..
      · exact List.mem_cons_of_mem _ (ih hm)
  obtain ⟨g', t', cs, fuel, p, hg', ht', hvar, hd⟩ := Lib.laidMet.reads h hmem
  obtain rfl := Option.some.inj (hg.symm.trans hg')
  obtain rfl := Option.some.inj (hty.symm.trans ht')
  have hT : Lib.TabIs P W name k zs := by
    unfold Lib.TabIs
    rw [hvar, ← Lib.cells_of_tab ht he hce hct hd]
  unfold Lib.TabIs World.var? at hT
  rw [hg] at hT
  simp only [Option.bind_some] at hT
  cases ho : W.heap[g]? with
  | none => rw [ho] at hT; simp at hT
  | some o =>
    rw [ho] at hT
    cases o with
    | cells cs T f =>
      have : cs = (zs.map fun z => Value.int k z).toArray := by simpa using hT
      subst this
      exact ⟨T, f, rfl⟩
    | _ => simp at hT

/-- The witness: the world in which the listed variables lie as their texts lay them. -/
theorem laid_witness {C : Checked} {os : Os} {f : FuncId} {fn : Func} {s : ChangeSpec} (laid : List (String × DataW Unit)) (args : Array Value) (fuel : Nat)
    (hp : (laid.all fun x => x.2.handleName?.isNone) = true)
    (hz : (World.laidAll C.prog os laid).forCall (fun _ _ => 0) ⟨#[], args, []⟩ |>.Shaped C.prog)
    (hok : Input.okWideB C.prog ((World.laidAll C.prog os laid).forCall (fun _ _ => 0) ⟨#[], args, []⟩) f ⟨#[], args, []⟩ = true)
    (hpre : s.preB enc C.prog fn [] false ((World.laidAll C.prog os laid).forCall (fun _ _ => 0) ⟨#[], args, []⟩).memory args fuel = true)
    (hsz : s.sizedB enc C.prog fn false ((World.laidAll C.prog os laid).forCall (fun _ _ => 0) ⟨#[], args, []⟩).memory args fuel = true)
    (hf : (World.holding C.prog os ⟨#[], #[], []⟩).layFits C.prog laid [] = true)
    (hi : (World.holding C.prog os ⟨#[], #[], []⟩).layIfaces C.prog laid (World.laidAll C.prog os laid) = true) :
    ∃ (w : World) (tape : Tape) (i : Input), w.os = os ∧ (w.forCall tape i).Shaped C.prog ∧ i.vars = [] ∧ Input.okWide C.prog (w.forCall tape i) .any w.heap.size f i ∧
      ((s.pre enc C.prog fn [] false (w.forCall tape i).memory i.args ∧ laidMetH C.prog laid (w.forCall tape i).memory) ∧ sizedMet enc C.prog fn (OpenSpec.ofChange s) false (w.forCall tape i).memory i.args) ∧ ({} : Assume).holds C.prog (lone (Frame.enter C.prog f i.args .normal) [] (w.forCall tape i)) :=
  ChangeSpec.witness_shaped (enc := enc) (C := C) (os := os) (X := fun w _ => laidMetH C.prog laid w) false (World.laidAll C.prog os laid) args fuel (World.laidAll_os _ _ _) hz hok hpre hsz
    (by rw [MakeChecks.laidMetH_plain _ _ _ hp]; exact laidMet_laidAll args hf hi)
end
end Go.Proofs.YtdddebheolmldaaDoorA

/- Nil slices read as data; bytes looked for and counted. -/
namespace Go.Proofs.YtdddebheolmldaaDoorA
open Go
set_option linter.unusedVariables false
set_option linter.unusedSimpArgs false

theorem und_int {P : Program} {t : Nat} {k : IntKind} (h : tInt P t = some k) : ∃ u, P.underlying t = some u := ⟨_, tInt_spec h⟩
theorem map_atI {α β : Type} {l : List α} {z : Int} {x : α} {f : α → β} (hx : l[z.toNat]? = some x) : (l.map f)[z.toNat]? = some (f x) := by rw [List.getElem?_map, hx]; rfl
section
variable {P : Program} {N : Nm} {σ : Env} {hs : Hp} {d : Option Tmp} {ty : TypeId} {pos : String} {af : Array Edge} {g : Option (Nat × Bool)} {Q : Post}
/-- Ghost step: a nil slice is data. -/
theorem W.nild {c : Code} (t sz : Nat) (ht : eget σ t = .nilsl) (h : W P N c Q ((t, .d (.sl sz [])) :: σ) hs) : W P N c Q σ hs := fun κ a w s =>
  h κ a w ⟨s.heap, s.size, s.defers, fun i => by
    by_cases hi : t = i
    · subst hi
      rw [eget_same]
      have hv := s.get t
      rw [ht] at hv
      generalize a.tmps.getD t undef = u at hv
      cases hv
      exact .d (.sl none 0 0 _ [] (fun _ _ => undef) rfl (Nat.le_refl _) (by simp) (by simp) (by simp) (by simp))
    · rw [eget_ne σ _ hi]; exact s.get i⟩

theorem Q.idxb {x y z : Operand} {tys : Array TypeId} {f : FuncId} {s : ByteArray} {c : UInt8} (hx : oev σ x = .fn f []) (he : ∀ args w, (callFunc f args).run P w = ((Extern.BytealgIndexByte.indexByte args).run P w).andThen fun v w' => .ok (.value v) w')
    (hy : oev σ y = .d (.str s)) (hz : oev σ z = .d (.int .u8 (c.toNat : Nat))) : Quiet P N σ hs ⟨d, .call ⟨.value x, #[y, z], tys⟩, ty, pos, af, g⟩ (.d (.int .i64 (Lib.indexByte s.data.toList c))) :=
  Q.ext (xs := [.d (.str s), .d (.int .u8 (c.toNat : Nat))]) hx he (by simp [hy, hz]) fun κ w vals h h1 h2 => by
    obtain ⟨u, v, rfl⟩ := two_vals h1
    obtain rfl := (h2 0 u _ rfl rfl).str_inv
    obtain rfl := (h2 1 v _ rfl rfl).int_inv
    refine ⟨_, Lib.run_indexByteString s _ w, ?_⟩
    have : ((c.toNat : Nat) : Int).toNat.toUInt8 = c := by simp
    rw [this]
    exact .d (.int _ _)
theorem Q.cntb {x y z : Operand} {tys : Array TypeId} {f : FuncId} {s : ByteArray} {c : UInt8} (hx : oev σ x = .fn f []) (he : ∀ args w, (callFunc f args).run P w = ((Extern.BytealgCount.count args).run P w).andThen fun v w' => .ok (.value v) w')
    (hy : oev σ y = .d (.str s)) (hz : oev σ z = .d (.int .u8 (c.toNat : Nat))) : Quiet P N σ hs ⟨d, .call ⟨.value x, #[y, z], tys⟩, ty, pos, af, g⟩ (.d (.int .i64 (s.data.toList.count c : Nat))) :=
  Q.ext (xs := [.d (.str s), .d (.int .u8 (c.toNat : Nat))]) hx he (by simp [hy, hz]) fun κ w vals h h1 h2 => by
    obtain ⟨u, v, rfl⟩ := two_vals h1
    obtain rfl := (h2 0 u _ rfl rfl).str_inv
    obtain rfl := (h2 1 v _ rfl rfl).int_inv
    refine ⟨_, Lib.run_countString s _ w, ?_⟩
    have : ((c.toNat : Nat) : Int).toNat.toUInt8 = c := by simp
    rw [this]
    exact .d (.int _ _)
/-- Bits of numbers that are known. -/
theorem Q.andc {t t' : TypeId} {x y : Operand} {k : IntKind} {m n r : Int} (hx : oev σ x = .d (.int k m)) (hy : oev σ y = .d (.int k n)) (hk : k = .i64 ∨ k = .u64) (hr : k.wrap ((BitVec.ofInt k.bits m &&& BitVec.ofInt k.bits n).toNat) = r) :
    Quiet P N σ hs ⟨d, .binOp .and t x y t', ty, pos, af, g⟩ (.d (.int k r)) :=
  .of_run fun κ a w st => ⟨.int k r, by
    rw [bin_run st hx hy]
    rcases hk with rfl | rfl
    · show Result.andThen (Sem.run P (Op.intBits .and .i64 m n) w) _ = _
      simp only [Op.intBits]
      rw [hr]; rfl
    · show Result.andThen (Sem.run P (Op.intBits .and .u64 m n) w) _ = _
      simp only [Op.intBits]
      rw [hr]; rfl, .d (.int _ _)⟩
end
end Go.Proofs.YtdddebheolmldaaDoorA

/- Own bytes that a conversion made: the block bears the conversion's mark behind its cells. -/
namespace Go.Proofs.YtdddebheolmldaaDoorA
open Go
set_option linter.unusedVariables false
set_option linter.unusedSimpArgs false

theorem bytesWorld_alloc (w : World) (e : TypeId) (s : ByteArray) : Lib.bytesWorld w e s = w.drew.alloc (.cells (Lib.bytesCells w e s) e ((Lib.bytesCells w e s).size, (Lib.bytesCells w e s).size + 1)) := by
  have h1 : (Lib.bytesWorld w e s).heap = (w.drew.alloc (.cells (Lib.bytesCells w e s) e ((Lib.bytesCells w e s).size, (Lib.bytesCells w e s).size + 1))).heap := by
    refine Array.ext_getElem? fun i => ?_
    rcases Nat.lt_trichotomy i w.heap.size with h | h | h
    · rw [Lib.bytesWorld_at_old w e s i h, allocOld w.drew _ i h]; rfl
    · subst h
      rw [Lib.bytesWorld_at_new]
      exact (heap_alloc_new w.drew _).symm
    · rw [Array.getElem?_eq_none (by rw [Lib.bytesWorld_size]; omega), Array.getElem?_eq_none (by simp; omega)]
  have h2 : ∀ a b : World, a.heap = b.heap → a.tape = b.tape → a.drawn = b.drawn → a.os = b.os → a.output = b.output → a = b := by
    intro a b; cases a; cases b; rintro rfl rfl rfl rfl rfl; rfl
  exact h2 _ _ h1 rfl rfl rfl rfl
theorem bytesCells_size (w : World) (e : TypeId) (s : ByteArray) : (Lib.bytesCells w e s).size = grownCap w s.size 0 e := by
  have := grownCap_ge w s.size 0 e
  unfold Lib.bytesCells
  have h : s.data.size = s.size := rfl
  simp only [Array.size_append, Array.size_map, Array.size_replicate, h]
  omega

section
variable {P : Program} {N : Nm} {σ : Env} {hs : Hp} {d : Option Tmp} {ty : TypeId} {pos : String} {af : Array Edge} {g : Option (Nat × Bool)}
theorem L.conv_own {t : Tmp} {t1 t2 : TypeId} {x : Operand} {s : ByteArray} (ht : isStr P t1 = true) (ht' : isBytes P t2 = true) (hx : oev σ x = .d (.str s)) (hd : Nat.blt t N.n = true) :
    Loud P N σ hs ⟨some t, .convert t1 t2 x, ty, pos, af, g⟩ (fun σ' hs' => ∃ id, σ' = (t, .vs id 0 s.size 1) :: σ ∧ hs' = (id, .byt s.data.toList) :: hs) := by
  intro κ a w sm K Q hK
  have hdN : t < N.n := by simpa [Nat.blt_eq] using hd
  have hx1 := sm.oev x; rw [hx] at hx1
  obtain ⟨e, hu, he⟩ := isBytes_spec ht'
  have hge := grownCap_ge w s.size 0 e
  have hrun : (execOp a.eval ⟨some t, .convert t1 t2 x, ty, pos, af, g⟩).run P w = .ok (.value (.slice (some ⟨w.heap.size, 0, none⟩) s.size (grownCap w s.size 0 e))) (w.drew.alloc (.cells (Lib.bytesCells w e s) e ((Lib.bytesCells w e s).size, (Lib.bytesCells w e s).size + 1))) := by
    rw [show execOp a.eval ⟨some t, .convert t1 t2 x, ty, pos, af, g⟩ = (do pure (.value (← convert t1 t2 (a.eval x)))) from rfl, hx1.str_inv, Sem.run_bind,
      Lib.run_convert_string_bytes w t1 t2 e s (isStr_spec ht) hu he, bytesWorld_alloc]
    rfl
  obtain ⟨h1, e1⟩ := sm.heap.drew (w.drawn + 1) (Nat.le_succ _)
  have h1' : HS κ w.drew hs := h1
  have e1' : Ext κ hs w κ hs w.drew := e1
  obtain ⟨id, κ', g1, g2, hk⟩ := h1'.allocO (.cells (Lib.bytesCells w e s) e ((Lib.bytesCells w e s).size, (Lib.bytesCells w e s).size + 1)) (.byt s.data.toList) (grownCap w s.size 0 e) (fun κ' id hkk O hA hD => by
    refine ⟨w.heap.size, _, e, _, rfl, heap_alloc_new w.drew _, bytesCells_size w e s, Nat.le_of_eq (bytesCells_size w e s).symm, by simpa using hge, fun i c hi => ?_⟩
    have hlt : i < s.data.size := by have := (List.getElem?_eq_some_iff.1 hi).1; simpa using this
    unfold Lib.bytesCells
    rw [Array.getElem?_append_left (by simpa using hlt), Array.getElem?_map, ← Array.getElem?_toList, hi]; rfl)
  unfold oWp
  rw [hrun]
  refine hK κ' _ _ _ _ (sm.put (e1'.trans g2) g1 hdN ?_) (e1'.trans g2) ⟨id, rfl, rfl⟩
  have := RepA.vs (κ := κ') (w := w.drew.alloc (.cells (Lib.bytesCells w e s) e ((Lib.bytesCells w e s).size, (Lib.bytesCells w e s).size + 1))) (O := Own κ' ((id, .byt s.data.toList) :: hs)) (some w.heap.size) (grownCap w s.size 0 e) (some ⟨w.heap.size, 0, none⟩) id 0 s.size 1 hk (by omega) (fun _ => by simp)
  simpa using this

theorem Q.idx_byt {t id n kk : Nat} {l : List UInt8} {x ix : Operand} {k : IntKind} {i : Int} (ht : tSl P t = some 1) (hx : oev σ x = .vs id 0 n 1) (hh : hs[kk]? = some (id, .byt l)) (hi : oev σ ix = .d (.int k i)) (h0 : 0 ≤ i) (h1 : i < n) :
    Quiet P N σ hs ⟨d, .indexAddr t x ix, ty, pos, af, g⟩ (.ep id 1 i.toNat 0) :=
  .of_run fun κ a w s => by
    have h2 := s.oev x; rw [hx] at h2
    have h3 := s.oev ix; rw [hi] at h3
    obtain ⟨e, inf, hu, hin, he1⟩ := tSl_spec ht
    generalize hv : a.eval x = v at h2
    cases h2 with
    | vs ob cap p _ _ _ _ hk hn hp =>
      obtain ⟨y, hy, hok⟩ := s.heap.ok id _ (List.mem_of_getElem? hh)
      rw [hk] at hy
      obtain rfl := Option.some.inj hy
      obtain ⟨b, cs, T, f, rfl, g2, g3⟩ := hok
      have hpe := hp (by omega)
      subst hpe
      refine ⟨.pointer (some ((⟨b, 0 * 1, none⟩ : Addr).add (i.toNat * inf.size))), by simp only [execOp, hv, h3.int_inv, Option.map_some, Sem.run_bind, idx_run hu hin _ h0 h1, Result.andThen_ok, Sem.run_pure], ?_⟩
      rw [addr_add_lit, he1]
      have := RepA.ep (w := w) (O := Own κ hs) b cap id 1 i.toNat 0 hk
      simpa using this

theorem byt_cell {κ : Kap} {w : World} (h : HS κ w hs) {k id b cap : Nat} {l : List UInt8} {i : Nat} {c : UInt8} (hk : hs[k]? = some (id, .byt l)) (hκ : κ id = some (some b, cap)) (hi : l[i]? = some c) :
    w.cell? ⟨b, i, none⟩ = some (.int .u8 c.toNat) := by
  obtain ⟨y, hy, hok⟩ := h.ok id _ (List.mem_of_getElem? hk)
  rw [hκ] at hy
  obtain rfl := Option.some.inj hy
  obtain ⟨b', cs, T, f, he, h1, h2, h3, h4, h5⟩ := hok
  obtain rfl := Option.some.inj he
  have := h5 i c hi
  simp [World.cell?, h1, this]

theorem Q.ld_byt {t id i k : Nat} {l : List UInt8} {c : UInt8} {x : Operand} (ht : tAgg P t = some (false, 1)) (hx : oev σ x = .ep id 1 i 0) (hk : hs[k]? = some (id, .byt l)) (hi : l[i]? = some c) :
    Quiet P N σ hs ⟨d, .load t x, ty, pos, af, g⟩ (.d (.int .u8 c.toNat)) :=
  .of_run fun κ a w s => by
    have h1 := s.oev x; rw [hx] at h1
    obtain ⟨b, cap, hkk, hv1⟩ := h1.ep_inv
    have hu := byt_cell s.heap hk hkk hi
    rw [show (⟨b, i, none⟩ : Addr) = ⟨b, i * 1 + 0, none⟩ by simp] at hu
    refine ⟨_, ?_, .d (.int _ _)⟩
    rw [show execOp a.eval ⟨d, .load t x, ty, pos, af, g⟩ = (do pure (.value (← Instr.loadAt t (a.eval x)))) from rfl, hv1, Sem.run_bind, load1_run ht hu]
    rfl

theorem L.store_byt {t id i k : Nat} {l : List UInt8} {c : UInt8} {x y : Operand} (ht : tAgg P t = some (false, 1)) (hx : oev σ x = .ep id 1 i 0) (hk : hs[k]? = some (id, .byt l)) (hi : i < l.length) (hy : oev σ y = .d (.int .u8 c.toNat)) :
    Loud P N σ hs ⟨none, .store t x y, ty, pos, af, g⟩ (fun σ' hs' => σ' = σ ∧ hs' = hs.set k (id, .byt (l.set i c))) := by
  intro κ a w s K Q hK
  have hx1 := s.oev x; rw [hx] at hx1
  have hy1 := s.oev y; rw [hy] at hy1
  obtain ⟨b, cap, hκ, hv⟩ := hx1.ep_inv
  have hyv : a.eval y = .int .u8 c.toNat := hy1.int_inv
  have hcell := byt_cell s.heap hk hκ (List.getElem?_eq_getElem hi)
  obtain ⟨z, hz, hok⟩ := s.heap.ok id _ (List.mem_of_getElem? hk)
  rw [hκ] at hz
  obtain rfl := Option.some.inj hz
  obtain ⟨b', cs, T, f, he, h1, h2, h3, h4, h5⟩ := hok
  obtain rfl := Option.some.inj he
  have hfro : w.frozen? ⟨b, i, none⟩ = false := by
    obtain ⟨lo, hi'⟩ := f
    have : ¬ lo ≤ i := by have := h3; simp only at this; omega
    simp [World.frozen?, h1, this]
  have hst : (storeCells ⟨b, i, none⟩ [Value.int .u8 c.toNat]).run P w = .ok () (w.setRow b (cs.setIfInBounds i (.int .u8 c.toNat))) := by
    rw [storeCells, storeCells]
    have hadd : (⟨b, i, none⟩ : Addr).add 0 = ⟨b, i, none⟩ := by unfold Addr.add; split <;> simp_all
    rw [Sem.run_bind, hadd, run_store P w _ _ _ rfl, hcell]
    simp [hfro, setCell_eq_setRow w b i cs T f _ h1]
  obtain ⟨h6, e6⟩ := s.heap.write (w' := w.setRow b (cs.setIfInBounds i (.int .u8 c.toNat))) (o' := .byt (l.set i c)) hk hκ (by simp) rfl rfl rfl rfl (fun j hj => setRow_other w b j _ hj) fun hA hD =>
    ⟨b, _, T, f, rfl, setRow_heap w b cs _ T f h1, by simpa using h2, h3, by simpa using h4, fun j x hj => by
      by_cases hji : j = i
      · subst hji
        rw [List.getElem?_set_self hi] at hj
        obtain rfl := Option.some.inj hj
        rw [Array.getElem?_setIfInBounds_self_of_lt (by omega)]
      · rw [List.getElem?_set_ne (Ne.symm hji)] at hj
        rw [Array.getElem?_setIfInBounds_ne (Ne.symm hji)]
        exact h5 j x hj⟩
  have hrun : (execOp a.eval ⟨none, .store t x y, ty, pos, af, g⟩).run P w = .ok .skip (w.setRow b (cs.setIfInBounds i (.int .u8 c.toNat))) := by
    rw [show execOp a.eval ⟨none, .store t x y, ty, pos, af, g⟩ = (do Instr.storeAt t (a.eval x) (a.eval y); pure .skip) from rfl, hv, hyv, Sem.run_bind, storeVar_run ht (cells_one rfl) rfl (by simpa using hst)]
    rfl
  unfold oWp
  rw [hrun]
  exact hK κ a _ σ _ (s.ext e6 h6) e6 ⟨rfl, rfl⟩

theorem Q.conv_byt {t t' : TypeId} {x : Operand} {l : List UInt8} {id n k : Nat} (ht : isBytes P t = true) (ht' : isStr P t' = true) (hx : oev σ x = .vs id 0 n 1) (hk : hs[k]? = some (id, .byt l)) (hn : n = l.length) :
    Quiet P N σ hs ⟨d, .convert t t' x, ty, pos, af, g⟩ (.d (.str ⟨l.toArray⟩)) :=
  .of_run fun κ a w s => by
    have h0 := s.oev x; rw [hx] at h0
    obtain ⟨e, hu, he⟩ := isBytes_spec ht
    subst hn
    generalize hv : a.eval x = v at h0
    cases h0 with
    | vs ob cap p _ _ _ _ hkk hle hp =>
      obtain ⟨y, hy, hok⟩ := s.heap.ok id _ (List.mem_of_getElem? hk)
      rw [hkk] at hy
      obtain rfl := Option.some.inj hy
      obtain ⟨b, cs, T, f, rfl, g2, g3⟩ := hok
      refine ⟨.string ⟨l.toArray⟩, ?_, .d (.str _)⟩
      rw [show execOp a.eval ⟨d, .convert t t' x, ty, pos, af, g⟩ = (do pure (.value (← convert t t' (a.eval x)))) from rfl, hv, Sem.run_bind]
      rcases Nat.eq_zero_or_pos l.length with h | h
      · have hl : l = [] := List.eq_nil_of_length_eq_zero h
        subst hl
        rw [show ([] : List UInt8).length = 0 from rfl, run_convert_bytes_string w t t' e p 0 _ hu he (isStr_spec ht')]
        cases p with
        | none => rfl
        | some ad =>
          have := run_loadCells_list (P := P) w ad [] (fun j v hj => by simp at hj)
          rw [run_bytesToString w ad 0 _ [] this]
          rfl
      · have hpe := hp (by omega)
        subst hpe
        rw [show (Option.map (fun b => (⟨b, 0 * 1, none⟩ : Addr)) (some b)) = some ⟨b, 0, none⟩ by simp, run_convert_bytes_back w t t' e ⟨b, 0, none⟩ _ l hu he (isStr_spec ht') (fun j hj => ?_)]
        · rfl
        · have := byt_cell s.heap hk hkk (List.getElem?_eq_getElem hj)
          rw [addr_add_lit, Nat.zero_add]; exact this
end
end Go.Proofs.YtdddebheolmldaaDoorA

/- Library functions by the kit's contracts: nothing but new blocks behind them. -/
namespace Go.Proofs.YtdddebheolmldaaDoorA
open Go Go.RowKit Go.Sort
set_option linter.unusedVariables false
set_option linter.unusedSimpArgs false

theorem HS.grown {κ : Kap} {w : World} {hs : Hp} (h : HS κ w hs) (k : Nat) (os : Array Obj) : HS κ (grow (w.drewN k) os) hs ∧ Ext κ hs w κ hs (grow (w.drewN k) os) := by
  have hsz : w.heap.size ≤ (grow (w.drewN k) os).heap.size := by simp [grow, World.drewN]
  have hold : ∀ b, b < w.heap.size → (grow (w.drewN k) os).heap[b]? = w.heap[b]? := fun b hb => by
    simp [grow, World.drewN, Array.getElem?_append_left hb]
  exact h.oneMore hsz (fun _ => by simp [grow, World.drewN]) rfl rfl rfl hold
/-- A table of the package that a contract asks for. -/
theorem glob_tab {P : Program} {κ : Kap} {w : World} {hs : Hp} (h : HS κ w hs) {kk id b : Nat} {k : IntKind} {zs : List Int} {name : String} (hk : hs[kk]? = some (id, .glob b (zs.map (Value.int k)))) (hg : P.globalNamed name = some b) : Lib.TabIs P w name k zs := by
  obtain ⟨⟨ob, cap⟩, hκ, hok⟩ := h.ok id _ (List.mem_of_getElem? hk)
  obtain ⟨h0, hno, T, f, hw⟩ := hok
  unfold Lib.TabIs World.var?
  rw [hg, Option.bind_some, hw]
/-- A call whose result is data of no memory. -/
theorem AC.ofk {P : Program} {f : FuncId} {args : List AV} {hs : Hp} {v : Value} {y : AV} (hv : ∀ κ w O, RepA κ w O v y)
    (h : ∀ κ vals w, HS κ w hs → vals.size = args.length → (∀ (i : Nat) (u : Value) (x : AV), vals[i]? = some u → args[i]? = some x → RepA κ w (Own κ hs) u x) →
      Calls P f vals w fun e w' => e = .returned v ∧ ∃ k os, w' = grow (w.drewN k) os) : AC P f args hs (fun r h => r = y ∧ h = hs) := fun κ vals w h1 h2 h3 => by
  refine (h κ vals w h1 h2 h3).mono ?_
  rintro e w' ⟨rfl, k, os, rfl⟩
  obtain ⟨h4, h5⟩ := h1.grown k os
  exact ⟨κ, hs, v, y, rfl, h4, h5, hv _ _ _, rfl, rfl⟩
end Go.Proofs.YtdddebheolmldaaDoorA

/- A contract for borrowed arguments, as a contract for one's own things. -/
namespace Go.Proofs.YtdddebheolmldaaDoorA
open Go
set_option linter.unusedVariables false
theorem AC.brw {P : Program} {f : FuncId} {xs ys : List AV} {hs : Hp} {R : AV → Hp → Prop} (hb : Brws hs xs ys) (hc : AC P f ys [] R) (hok : ∀ r hs', R r hs' → OkR r ∧ ∀ p ∈ hs', OkH p.2) :
    AC P f xs hs (fun r h => ∃ h', R r h' ∧ h = h' ++ hs) := fun κ vals w h1 h2 h3 => by
  obtain ⟨h0, _⟩ := h1.sublist (List.nil_sublist hs)
  obtain ⟨h5, h6⟩ := hb.get
  refine (hc κ vals w h0 (by omega) (fun i v y hi hy => ?_)).mono ?_
  · have hlt : i < vals.size := (Array.getElem?_eq_some_iff.1 hi).1
    have hx := List.getElem?_eq_getElem (show i < xs.length by omega)
    exact (h6 i _ y hx hy).rep h1 (h3 i v _ hi hx) fun b ⟨_, _, _, hi, _⟩ => by cases hi
  · rintro e w' ⟨κ', hs', v, r, rfl, h5, h6, h7, h8⟩
    obtain ⟨ok1, ok2⟩ := hok r hs' h8
    obtain ⟨g1, g2⟩ := h1.back h5 h6 ok2
    exact ⟨κ', _, v, r, rfl, g1, g2, h7.okR ok1, hs', h8, rfl⟩
/-- .. whose answer is a list that is new, taken as data. -/
theorem AC.brwF {P : Program} {f : FuncId} {xs ys : List AV} {hs : Hp} {sz : Nat} {rows : List (List D)} (hb : Brws hs xs ys) (hc : AC P f ys [] (fun r h => ∃ v, r = .vs v 0 rows.length sz ∧ h = [(v, .lst sz rows)]))
    (hok : ∀ r ∈ rows, ∀ x ∈ r, x.flat = true) : AC P f xs hs (fun r h => r = .d (.sl sz rows) ∧ h = hs) :=
  AC.frz ((AC.brw hb hc (fun r hs' ⟨v, h1, h2⟩ => by subst h1 h2; exact ⟨trivial, fun p hp => by simp at hp; subst hp; exact hok⟩)).mono fun r h ⟨h', ⟨v, h1, h2⟩, h3⟩ => by subst h1 h2 h3; exact ⟨v, rfl, .vs rfl⟩)
end Go.Proofs.YtdddebheolmldaaDoorA

/- Interface values held against nil. -/
namespace Go.Proofs.YtdddebheolmldaaDoorA
open Go
set_option linter.unusedVariables false
section
variable {P : Program} {N : Nm} {σ : Env} {hs : Hp} {d : Option Tmp} {ty : TypeId} {pos : String} {af : Array Edge} {g : Option (Nat × Bool)}
/-- Is it an interface type. -/
def isIfc (P : Program) (t : TypeId) : Bool := match P.underlying t with | some (.interface _) => true | _ => false
theorem isIfc_spec {t : TypeId} (h : isIfc P t = true) : ∃ e, P.underlying t = some (.interface e) := by
  unfold isIfc at h
  split at h
  · exact ⟨_, by assumption⟩
  · cases h
theorem nilif_inv {κ : Kap} {w : World} {O : Nat → Prop} {v : Value} (h : RepA κ w O v (.d .nilif)) : v = .nilIface := by
  cases h with | d h => cases h; rfl
theorem ifc_inv {κ : Kap} {w : World} {O : Nat → Prop} {v : Value} {T : TypeId} {x : AV} (h : RepA κ w O v (.ifc T x)) : ∃ u, v = .iface T u ∧ RepA κ w O u x := by
  cases h with | ifc _ u _ h => exact ⟨u, rfl, h⟩
theorem equal_nil1 {t : TypeId} {e} (hu : P.underlying t = some (.interface e)) (w : World) : (Op.equal t .nilIface .nilIface).run P w = .ok true w := by
  show (Op.equalIn (9999 + 1) t .nilIface .nilIface).run P w = _
  rw [Op.equalIn, Sem.run_bind, run_underlying hu]; rfl
theorem equal_nil0 {t T : TypeId} {e} (hu : P.underlying t = some (.interface e)) (u : Value) (w : World) : (Op.equal t (.iface T u) .nilIface).run P w = .ok false w := by
  show (Op.equalIn (9999 + 1) t (.iface T u) .nilIface).run P w = _
  rw [Op.equalIn, Sem.run_bind, run_underlying hu]; rfl
theorem Q.eql_nil1 {t t' : TypeId} {x : Operand} (ht : isIfc P t = true) (hx : oev σ x = .d .nilif) : Quiet P N σ hs ⟨d, .binOp .eql t x (.const .nilIface) t', ty, pos, af, g⟩ (.d (.bool true)) :=
  .of_run fun κ a w s => by
    have h2 := s.oev x; rw [hx] at h2
    obtain ⟨e, hu⟩ := isIfc_spec ht
    refine ⟨.bool true, ?_, .d (.bool _)⟩
    rw [show execOp a.eval ⟨d, .binOp .eql t x (.const .nilIface) t', ty, pos, af, g⟩ = (do pure (.value (← (do eqGuard .eql t x (.const .nilIface) (a.eval x) .nilIface; binOp .eql t (a.eval x) .nilIface)))) from rfl, nilif_inv h2]
    rw [show binOp .eql t .nilIface .nilIface = (do pure (.bool (← Op.equal t .nilIface .nilIface))) from rfl]
    simp only [Sem.run_bind, equal_nil1 hu, Result.andThen_ok, Sem.run_pure]
    rw [show (eqGuard .eql t x (.const .nilIface) .nilIface .nilIface).run P w = .ok () w from by unfold eqGuard; simp]
    rfl
theorem Q.eql_nil0 {t t' T : TypeId} {x : Operand} {z : AV} (ht : isIfc P t = true) (hx : oev σ x = .ifc T z) : Quiet P N σ hs ⟨d, .binOp .eql t x (.const .nilIface) t', ty, pos, af, g⟩ (.d (.bool false)) :=
  .of_run fun κ a w s => by
    have h2 := s.oev x; rw [hx] at h2
    obtain ⟨e, hu⟩ := isIfc_spec ht
    obtain ⟨u, hv, _⟩ := ifc_inv h2
    refine ⟨.bool false, ?_, .d (.bool _)⟩
    rw [show execOp a.eval ⟨d, .binOp .eql t x (.const .nilIface) t', ty, pos, af, g⟩ = (do pure (.value (← (do eqGuard .eql t x (.const .nilIface) (a.eval x) .nilIface; binOp .eql t (a.eval x) .nilIface)))) from rfl, hv]
    rw [show binOp .eql t (.iface T u) .nilIface = (do pure (.bool (← Op.equal t (.iface T u) .nilIface))) from rfl]
    simp only [Sem.run_bind, equal_nil0 hu, Result.andThen_ok, Sem.run_pure]
    rw [show (eqGuard .eql t x (.const .nilIface) (.iface T u) .nilIface).run P w = .ok () w from rfl]
    rfl
end
end Go.Proofs.YtdddebheolmldaaDoorA
