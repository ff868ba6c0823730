/- Functions of the model's own: comparing strings, overlapping slices, a byte in a string; lists of one element as one's own. -/
import Derived.Test.YtldkkoecehdicaaDoorAbs30
import Derived.Lib.Bytealg
namespace Go.Proofs.YtldkkoecehdicaaDoorA
open Go
set_option linter.unusedVariables false
set_option linter.unusedSimpArgs false

section
variable {P : Program} {N : Nm} {σ : Env} {hs : Hp} {d : Option Tmp} {ty : TypeId} {pos : String} {af : Array Edge} {g : Option (Nat × Bool)}

/-- A call that the model answers itself. -/
theorem Q.ext {x : Operand} {args : Array Operand} {tys : Array TypeId} {f : FuncId} {xs : List AV} {v : AV} {e : Array Value → Sem Value} (hx : oev σ x = .fn f []) (he : ∀ args w, (callFunc f args).run P w = ((e args).run P w).andThen fun v w' => .ok (.value v) w')
    (ha : args.toList.map (oev σ) = xs)
    (h : ∀ κ w vals, HS κ w hs → vals.size = xs.length → (∀ (i : Nat) (v : Value) (x : AV), vals[i]? = some v → xs[i]? = some x → RepA κ w (Own κ hs) v x) → ∃ u, (e vals).run P w = .ok u w ∧ RepA κ w (Own κ hs) u v) :
    Quiet P N σ hs ⟨d, .call ⟨.value x, args, tys⟩, ty, pos, af, g⟩ v := by
  intro κ a w s K Q hK
  have hx1 := s.oev x; rw [hx] at hx1
  obtain ⟨cs, hv, h1, h2⟩ := hx1.fn_inv
  have hcs : cs = #[] := Array.eq_empty_of_size_eq_zero (by simpa using h1)
  subst hcs
  obtain ⟨h3, h4⟩ := args_rep s (args := args) (caps := []) (cs := #[]) rfl (fun i v x hi => by simp at hi)
  rw [List.append_nil, ha] at h3 h4
  rw [Array.append_empty] at h3 h4
  obtain ⟨u, h5, h6⟩ := h κ w _ s.heap h3 h4
  have hrun : (execOp a.eval ⟨d, .call ⟨.value x, args, tys⟩, ty, pos, af, g⟩).run P w = .ok (.value u) w := by
    simp [execOp, resolve, invoke, hv, Deferred.ofValue, he, h5]
  unfold oWp
  rw [hrun]
  exact hK κ w u s.heap (.refl _ _ _) h6

theorem two_vals {vals : Array Value} (h : vals.size = 2) : ∃ u v, vals = #[u, v] := by
  refine ⟨vals[0], vals[1], ?_⟩
  apply Array.ext
  · exact h
  · intro i hi hi'
    have h01 : i = 0 ∨ i = 1 := by omega
    rcases h01 with h | h
    · subst h; rfl
    · subst h; rfl

def cmpB (a b : ByteArray) : Int := Lib.compareBytes a.data.toList b.data.toList
theorem Q.cmpstr {x y z : Operand} {tys : Array TypeId} {f : FuncId} {a b : ByteArray} (hx : oev σ x = .fn f []) (he : ∀ args w, (callFunc f args).run P w = ((Extern.BytealgCompare.compare args).run P w).andThen fun v w' => .ok (.value v) w')
    (hy : oev σ y = .d (.str a)) (hz : oev σ z = .d (.str b)) : Quiet P N σ hs ⟨d, .call ⟨.value x, #[y, z], tys⟩, ty, pos, af, g⟩ (.d (.int .i64 (cmpB a b))) :=
  Q.ext (xs := [.d (.str a), .d (.str b)]) hx he (by simp [hy, hz]) fun κ w vals h h1 h2 => by
    obtain ⟨u, v, rfl⟩ := two_vals h1
    obtain rfl := (h2 0 u _ rfl rfl).str_inv
    obtain rfl := (h2 1 v _ rfl rfl).str_inv
    exact ⟨_, Lib.run_compareString a b w, .d (.int _ _)⟩

/-- Two lists of one's own do not overlap. -/
theorem Q.overlaps {x y z : Operand} {tys : Array TypeId} {f : FuncId} {tS tR sz id id2 lo lo2 n n2 k k2 : Nat} {rows rows2 : List (List D)} (ht : tSl P tS = some sz) (hx : oev σ x = .fn f [])
    (he : ∀ args w, (callFunc f args).run P w = ((Extern.SlicesOverlaps.overlaps #[tS, tS] #[tR] args).run P w).andThen fun v w' => .ok (.value v) w')
    (hy : oev σ y = .vs id lo n sz) (hz : oev σ z = .vs id2 lo2 n2 sz) (hk : hs[k]? = some (id, .lst sz rows)) (hk2 : hs[k2]? = some (id2, .lst sz rows2)) (hne : k ≠ k2) (h0 : 0 < n) (h1 : 0 < n2) :
    Quiet P N σ hs ⟨d, .call ⟨.value x, #[y, z], tys⟩, ty, pos, af, g⟩ (.d (.bool false)) :=
  Q.ext (xs := [.vs id lo n sz, .vs id2 lo2 n2 sz]) hx he (by simp [hy, hz]) fun κ w vals h h3 h4 => by
    obtain ⟨u, v, rfl⟩ := two_vals h3
    obtain ⟨ob, cap, p, hκ, hle, hp, rfl⟩ := (h4 0 u _ rfl rfl).vs_inv
    obtain ⟨ob2, cap2, p2, hκ2, hle2, hp2, rfl⟩ := (h4 1 v _ rfl rfl).vs_inv
    obtain ⟨e, inf, hu, hi, rfl⟩ := tSl_spec ht
    have blk : ∀ {id ob cap k : Nat} {o : Option Nat} {rows : List (List D)}, hs[k]? = some (id, .lst inf.size rows) → κ id = some (o, cap) → 0 < cap → ∃ b cs T, o = some b ∧ w.heap[b]? = some (.cells cs T (0, 0)) ∧ cs.size = cap * inf.size ∧ 0 < inf.size := by
      intro id ob cap k o rows hk hκ hc
      obtain ⟨y, hy, hok⟩ := h.ok id _ (List.mem_of_getElem? hk)
      rw [hκ] at hy
      obtain rfl := Option.some.inj hy
      obtain ⟨g0, g0', g1, g2, g3, g4, g5⟩ := hok
      cases o with
      | none => exact absurd (g4 rfl) (by omega)
      | some b => obtain ⟨cs, T, hw, hsz, _⟩ := g5 b rfl; exact ⟨b, cs, T, rfl, hw, hsz, g1⟩
    obtain ⟨b, cs, T, rfl, hw, hcs, hpos⟩ := blk (ob := 0) hk hκ (by omega)
    obtain ⟨b2, cs2, T2, rfl, hw2, hcs2, _⟩ := blk (ob := 0) hk2 hκ2 (by omega)
    have hbb : b ≠ b2 := by
      rintro rfl
      have hid := h.inj id id2 _ _ b cap cap2 (List.mem_of_getElem? hk) (List.mem_of_getElem? hk2) hκ hκ2
      subst hid
      have e1 : (hs.map (·.1))[k]? = some id := by rw [List.getElem?_map, hk]; rfl
      have e2 : (hs.map (·.1))[k2]? = some id := by rw [List.getElem?_map, hk2]; rfl
      exact hne ((List.getElem?_inj (List.getElem?_eq_some_iff.1 e1).1 h.nodup).1 (e1.trans e2.symm))
    have hpe : p = some ⟨b, lo * inf.size, none⟩ := by rw [hp (by omega)]; rfl
    have hpe2 : p2 = some ⟨b2, lo2 * inf.size, none⟩ := by rw [hp2 (by omega)]; rfl
    subst hpe hpe2
    refine ⟨_, Lib.run_overlaps_apart w tS tR e hu inf.size (fun w => size_run hi w) ⟨b, lo * inf.size, none⟩ ⟨b2, lo2 * inf.size, none⟩ n (cap - lo) n2 (cap2 - lo2) hbb T T2 cs.size cs2.size ?_ ?_ ?_ ?_ ?_, .d (.bool _)⟩
    · simp [World.shape?, hw]
    · simp [World.shape?, hw2]
    · rw [hcs2]; have := Nat.mul_le_mul_right inf.size (show 1 ≤ cap2 by omega); omega
    · simp [World.frozen?, hw]
    · simp [World.frozen?, hw]

/-- A slice that is written out, to be written on. -/
theorem L.bslo {dd : Tmp} {t sz len : Nat} {z : List Value} {zd l : List D} {rows : List (List D)} {parts : Array (Nat × Operand)} (ht : tSl P t = some sz) (hsz : 0 < sz) (hz : tZrow P t = some z) (hzl : z.length = sz) (hzd : cellsD z = some zd)
    (hlen : len * sz ≤ 16777216) (hf : afill (fun i => some (i * sz, sz)) (zeroList zd len) (parts.toList.map fun p => (p.1, oev σ p.2)) = some l) (hrows : chop sz len l = rows) (hd : Nat.blt dd N.n = true) :
    Loud P N σ hs ⟨some dd, .buildSlice t len parts, ty, pos, af, g⟩ (fun σ' hs' => ∃ id, σ' = (dd, .vs id 0 len sz) :: σ ∧ hs' = (id, .lst sz rows) :: hs) := by
  intro κ a w s K Q hK
  have hdN : dd < N.n := by simpa [Nat.blt_eq] using hd
  obtain ⟨e, inf, hu, hi, rfl⟩ := tSl_spec ht
  unfold tZrow at hz
  rw [hu] at hz
  obtain ⟨inf', hi', hz⟩ := Option.bind_eq_some_iff.1 hz
  rw [hi] at hi'
  obtain rfl := Option.some.inj hi'
  obtain ⟨zv, hzv, rfl⟩ := Option.map_eq_some_iff.1 hz
  obtain ⟨h1, h2⟩ := parts_rep s parts
  have hzs : zv.cells.size = inf.size := by rw [← Array.length_toList]; exact hzl
  have hzf : Filled w (Own κ hs) ((Array.range (len * inf.size)).map (fun i => zv.cells[i % zv.cells.size]!)) (zeroList zd len) := by
    have := zero_filled (cellsD_rep w (Own κ hs) _ zd hzd) (by simpa [hzs] using hsz) len
    simpa [hzs] using this
  obtain ⟨cs', h3, f1, f2, f3⟩ := fill_run _ _ _ _ l h1 h2 hzf hf
  have hl : l.length = len * inf.size := by
    have key : ∀ (parts : List (Nat × AV)) (l₀ l : List D), afill (fun i => some (i * inf.size, inf.size)) l₀ parts = some l → l.length = l₀.length := by
      intro parts
      induction parts with
      | nil => intro l₀ l h; simp [afill] at h; rw [h]
      | cons p parts ih =>
        intro l₀ l h
        obtain ⟨i, x⟩ := p
        simp only [afill] at h
        cases hd : dcells x with
        | none => simp [hd] at h
        | some ds =>
          simp only [hd] at h
          cases hb : Nat.beq ds.length inf.size && Nat.ble (i * inf.size + inf.size) l₀.length with
          | false => simp [hb] at h
          | true =>
            simp only [hb] at h
            have hb2 := Bool.and_eq_true_iff.1 hb
            have e1 : ds.length = inf.size := Nat.eq_of_beq_eq_true hb2.1
            have e2 : i * inf.size + inf.size ≤ l₀.length := Nat.le_of_ble_eq_true hb2.2
            rw [ih _ _ h]; simp; omega
    rw [key _ _ _ hf, ← hzf.1]; simp
  have hget : ∀ (i j : Nat) (r : List D) (x : D), rows[i]? = some r → r[j]? = some x → j < inf.size ∧ l[i * inf.size + j]? = some x := by
    intro i j r x hi hj
    rw [← hrows] at hi
    obtain ⟨rfl, _⟩ := chop_get _ _ _ _ _ hi
    rw [List.getElem?_take] at hj
    split at hj
    · rw [List.getElem?_drop] at hj; exact ⟨by assumption, hj⟩
    · cases hj
  have hln : len ≤ 16777216 := by have := Nat.mul_le_mul_left len (show 1 ≤ inf.size from hsz); omega
  have hrun : (execOp a.eval ⟨some dd, .buildSlice t len parts, ty, pos, af, g⟩).run P w = .ok (.value (.slice (some ⟨w.heap.size, 0, none⟩) len len)) (w.alloc (.cells cs' e)) := by
    rw [show execOp a.eval ⟨some dd, .buildSlice t len parts, ty, pos, af, g⟩ = (do pure (.value (← Instr.buildSlice t len (parts.map fun (i, x) => (i, a.eval x))))) from rfl, Sem.run_bind]
    have hb : (Instr.buildSlice t len (parts.map fun (i, x) => (i, a.eval x))).run P w = .ok (.slice (some ⟨w.heap.size, 0, none⟩) len len) (w.alloc (.cells cs' e)) := by
      have hzr : (zeroValue e).run P w = .ok zv w := by simp [zeroValue, typeInfo, hi, hzv]
      simp only [Instr.buildSlice, Sem.run_bind, run_underlying hu, Result.andThen_ok, size_run hi]
      rw [if_neg (by simpa using hlen)]
      by_cases hl0 : len * inf.size = 0
      · have hlen0 : len = 0 := by rcases Nat.mul_eq_zero.1 hl0 with h | h <;> omega
        subst hlen0
        simp only [Nat.zero_mul, if_true, Sem.run_pure, Result.andThen_ok, Sem.run_bind] at h3 ⊢
        have h4 : (Array.range 0).map (fun i => (#[] : Array Value)[i % (#[] : Array Value).size]!) = (Array.range 0).map (fun i => zv.cells[i % zv.cells.size]!) := by simp
        rw [h4]
        rw [h3]
        simp [newRow_run]
      · rw [if_neg hl0]
        simp only [Sem.run_bind, hzr, Result.andThen_ok, Sem.run_pure]
        rw [h3]
        simp [newRow_run]
    rw [hb]; rfl
  obtain ⟨id, κ', g1, g2, hk⟩ := s.heap.alloc cs' e (.lst inf.size rows) len fun κ' id hk O hA hD => by
    refine ⟨by rw [← hrows, chop_length]; exact Nat.le_refl _, by simp only [maxLen]; omega, hsz, fun r hr => ?_, fun r hr x hx => ?_, (fun h => by cases h), fun b hb => ?_⟩
    · obtain ⟨i, hi⟩ := List.getElem?_of_mem hr
      rw [← hrows] at hi
      obtain ⟨rfl, hlt⟩ := chop_get _ _ _ _ _ hi
      have := Nat.mul_le_mul_right inf.size (show i + 1 ≤ len from hlt)
      rw [Nat.succ_mul] at this
      simp; omega
    · obtain ⟨i, hi⟩ := List.getElem?_of_mem hr
      obtain ⟨j, hj⟩ := List.getElem?_of_mem hx
      exact f2 x (List.mem_of_getElem? (hget i j r x hi hj).2)
    · obtain rfl := Option.some.inj hb
      refine ⟨cs', e, heap_alloc_new w _, by rw [f1, hl], fun i j r x hi hj => ?_⟩
      obtain ⟨_, hg⟩ := hget i j r x hi hj
      have hlt : i * inf.size + j < cs'.size := by rw [f1]; exact (List.getElem?_eq_some_iff.1 hg).1
      exact ⟨_, Array.getElem?_eq_getElem hlt, hD _ _ (f3 _ _ x (Array.getElem?_eq_getElem hlt) hg)⟩
  unfold oWp
  rw [hrun]
  refine hK κ' _ _ _ _ (s.put g2 g1 hdN ?_) g2 ⟨id, rfl, rfl⟩
  have := RepA.vs (κ := κ') (w := w.alloc (.cells cs' e)) (O := Own κ' ((id, HO.lst inf.size rows) :: hs)) (some w.heap.size) len (some ⟨w.heap.size, 0, none⟩) id 0 len inf.size hk (by omega) (fun _ => by simp)
  simpa using this
end
end Go.Proofs.YtldkkoecehdicaaDoorA
