/- A range over a function: the loop's record as an object of one's own, calls of yield, rounds, the statement. -/
import Derived.Test.YtldkkoecehdicaaDoorAbs22
namespace Go.Proofs.YtldkkoecehdicaaDoorA
open Go
set_option linter.unusedVariables false
set_option linter.unusedSimpArgs false

/-- A call of yield: a round. -/
def YC (P : Program) (id : Nat) (args : List AV) (hs : Hp) (R : AV → Hp → Prop) : Prop :=
  ∀ κ b c vals w, HS κ w hs → κ id = some (some b, c) → vals.size = args.length → (∀ (i : Nat) (v : Value) (x : AV), vals[i]? = some v → args[i]? = some x → RepA κ w (Own κ hs) v x) →
    ∃ f tmps assign body, (Instr.yield b vals).run P w = .ok (.round b f tmps assign body) w ∧ RoundIn Fence.wide 0 P b f tmps assign body w fun e w' =>
      ∃ κ' hs' v x, e = .returned v ∧ HS κ' w' hs' ∧ Ext κ hs w κ' hs' w' ∧ RepA κ' w' (Own κ' hs') v x ∧ R x hs'

theorem YC.mono {P : Program} {id : Nat} {args : List AV} {hs : Hp} {R R' : AV → Hp → Prop} (h : YC P id args hs R) (hr : ∀ x hs', R x hs' → R' x hs') : YC P id args hs R' :=
  fun κ b c vals w h1 h2 h3 h4 => let ⟨f, t, a, bd, h5, h6⟩ := h κ b c vals w h1 h2 h3 h4; ⟨f, t, a, bd, h5, h6.mono fun _ _ ⟨κ', hs', v, x, a, b, c, d, e⟩ => ⟨κ', hs', v, x, a, b, c, d, hr _ _ e⟩⟩

section
variable {P : Program} {N : Nm} {σ : Env} {hs : Hp} {d : Option Tmp} {ty : TypeId} {pos : String} {af : Array Edge} {g : Option (Nat × Bool)}
theorem yield_run {x : Operand} {args : Array Operand} {tys : Array TypeId} {b : Nat} {a : Act} {w : World} (hx : a.eval x = .func (.yield b) #[] #[]) :
    (execOp a.eval ⟨d, .call ⟨.value x, args, tys⟩, ty, pos, af, g⟩).run P w = (Instr.yield b (args.map a.eval)).run P w := by
  simp [execOp, resolve, invoke, hx, Deferred.ofValue]

theorem L.ycall {x : Operand} {args : Array Operand} {tys : Array TypeId} {id : Nat} {xs : List AV} {R : AV → Hp → Prop} (hx : oev σ x = .yl id) (ha : args.toList.map (oev σ) = xs) (hy : YC P id xs hs R) (hd : dstOk N d = true) :
    Loud P N σ hs ⟨d, .call ⟨.value x, args, tys⟩, ty, pos, af, g⟩ (fun σ' hs' => ∃ r, σ' = putE d r σ ∧ R r hs') := by
  intro κ a w s K Q hK
  have hx1 := s.oev x; rw [hx] at hx1
  obtain ⟨b, cap, hk, hv⟩ : ∃ b cap, κ id = some (some b, cap) ∧ a.eval x = .func (.yield b) #[] #[] := by
    generalize a.eval x = u at hx1
    cases hx1 with | yl b cap _ hk => exact ⟨b, cap, hk, rfl⟩
  obtain ⟨h3, h4⟩ := args_rep s (args := args) (caps := []) (cs := #[]) rfl (fun i v x hi => by simp at hi)
  subst ha
  simp only [Array.append_empty, List.append_nil] at h3 h4
  obtain ⟨f, tmps, assign, body, h5, h6⟩ := hy κ b cap _ w s.heap hk h3 h4
  unfold oWp
  rw [yield_run hv, h5]
  refine ⟨fun h => (by cases h), h6.mono ?_⟩
  rintro e w' ⟨κ', hs', v, r, rfl, g1, g2, g3, g4⟩
  exact hK κ' _ w' _ hs' (s.putO g2 g1 hd g3) g2 ⟨r, rfl, g4⟩
end

/-- The record of a loop, in another state. -/
theorem HS.record {κ : Kap} {w : World} {hs : Hp} {id n : Nat} {σ : Env} {ps : Array Tmp} {assign body : Code} {st : LoopState} {pe : Option Code} (h : HS κ w ((id, .loopr σ n ps assign body st pe) :: hs)) :
    ∃ b c fn tmps D, κ id = some (some b, c) ∧ w.heap[b]? = some (.loop { state := st, pending := pe, fn := fn, tmps := tmps, params := ps, assign := assign, body := body, defers := D }) ∧ tmps.size = n ∧
      (∀ t, RepA κ w (Own κ ((id, .loopr σ n ps assign body st pe) :: hs)) (tmps.getD t undef) (eget σ t)) ∧
      ∀ st' pe', HS κ (w.putObj b (.loop { state := st', pending := pe', fn := fn, tmps := tmps, params := ps, assign := assign, body := body, defers := D })) ((id, .loopr σ n ps assign body st' pe') :: hs) ∧
        Ext κ ((id, .loopr σ n ps assign body st pe) :: hs) w κ ((id, .loopr σ n ps assign body st' pe') :: hs) (w.putObj b (.loop { state := st', pending := pe', fn := fn, tmps := tmps, params := ps, assign := assign, body := body, defers := D })) := by
  obtain ⟨⟨ob, c⟩, hk, b, fn, tmps, D, rfl, hw, hsz, hr⟩ := h.ok id _ (List.mem_cons_self ..)
  refine ⟨b, c, fn, tmps, D, hk, hw, hsz, hr, fun st' pe' => ?_⟩
  have hlt := (Array.getElem?_eq_some_iff.1 hw).1
  exact h.write (k := 0) (o' := .loopr σ n ps assign body st' pe') rfl hk (by simp) rfl rfl rfl rfl (fun i hi => World.putObj_heap_other hi)
    (fun hA _ => ⟨b, fn, tmps, D, rfl, World.putObj_heap_same hlt, hsz, fun t => hA _ _ (hr t)⟩) (fun cs T f h => by rw [hw] at h; cases h)

def zipE : List Tmp → List AV → Env → Env
  | p :: ps, x :: xs, σ => zipE ps xs ((p, x) :: σ)
  | _, _, σ => σ

theorem fold_rep {κ : Kap} {w : World} {O : Nat → Prop} {n : Nat} : ∀ (ps : List Tmp) (vs : List Value) (xs : List AV) (tmps : Array Value) (σ : Env), (∀ p ∈ ps, p < n) → vs.length = xs.length → tmps.size = n →
    (∀ (i : Nat) (v : Value) (x : AV), vs[i]? = some v → xs[i]? = some x → RepA κ w O v x) → (∀ t, RepA κ w O (tmps.getD t undef) (eget σ t)) →
      ((ps.zip vs).foldl (fun t (p : Tmp × Value) => t.setIfInBounds p.1 p.2) tmps).size = n ∧ ∀ t, RepA κ w O (((ps.zip vs).foldl (fun t (p : Tmp × Value) => t.setIfInBounds p.1 p.2) tmps).getD t undef) (eget (zipE ps xs σ) t)
  | [], vs, xs, tmps, σ, _, _, h3, _, h => ⟨h3, h⟩
  | p :: ps, [], [], tmps, σ, _, _, h3, _, h => ⟨h3, h⟩
  | p :: ps, v :: vs, x :: xs, tmps, σ, h1, h2, h3, h4, h => by
    have hp := h1 p (List.mem_cons_self ..)
    refine fold_rep ps vs xs (tmps.setIfInBounds p v) ((p, x) :: σ) (fun q hq => h1 q (List.mem_cons_of_mem _ hq)) (by simpa using h2) (by simpa using h3) (fun i v x hi hx => h4 (i + 1) v x (by simpa using hi) (by simpa using hx)) fun t => ?_
    by_cases ht : p = t
    · subst ht
      rw [eget_same]
      have : (tmps.setIfInBounds p v).getD p undef = v := by simp [h3, hp]
      rw [this]
      exact h4 0 v x rfl rfl
    · rw [eget_ne _ _ ht]
      have : (tmps.setIfInBounds p v).getD t undef = tmps.getD t undef := by simp [Array.getElem?_setIfInBounds_ne ht]
      rw [this]; exact h t

/-- How a round ends. -/
def roundQ (id n : Nat) (σ : Env) (ps : Array Tmp) (assign body : Code) (R : AV → Hp → Prop) : Post := fun x _ hs' => ∃ hs₃, HLe ((id, .loopr σ n ps assign body .busy none) :: hs₃) hs' ∧
  match x with
  | .normal => R (.d (.bool true)) ((id, .loopr σ n ps assign body .ready none) :: hs₃)
  | .ret => R (.d (.bool false)) ((id, .loopr σ n ps assign body .done (some .ret)) :: hs₃)
  | .exit i => R (.d (.bool false)) ((id, .loopr σ n ps assign body .done (some (.exit i))) :: hs₃)

theorem YC.of {P : Program} {id n : Nat} {σ : Env} {ps : Array Tmp} {assign body : Code} {args : List AV} {hs : Hp} {R : AV → Hp → Prop} (hps : args.length = ps.size) (hpn : ps.toList.all (Nat.blt · n) = true)
    (h : ∀ B l, W P ⟨n, B, some l⟩ assign (Post.then (fun σ₁ hs₁ => ∃ hs₂, HLe ((id, .loopr σ n ps assign body .ready none) :: hs₂) hs₁ ∧
      W P ⟨n, B, some l⟩ body (roundQ id n σ ps assign body R) σ₁ ((id, .loopr σ n ps assign body .busy none) :: hs₂)) (fun _ _ _ => False)) (zipE ps.toList args σ) ((id, .loopr σ n ps assign body .ready none) :: hs)) :
    YC P id args ((id, .loopr σ n ps assign body .ready none) :: hs) R := by
  intro κ b c vals w h1 hκ hsz hrep
  obtain ⟨b', c', fn, tmps, D, hk, hw, htn, hr, _⟩ := h1.record
  rw [hκ] at hk
  obtain ⟨rfl, rfl⟩ : b = b' ∧ c = c' := by injection hk with hk; injection hk with h1 h2; exact ⟨Option.some.inj h1, h2⟩
  have hy := run_yield (P := P) (args := vals) hw (by show vals.size = ps.size; omega)
  refine ⟨fn, _, assign, body, hy, roundIn_of_wpIn trivial ?_⟩
  clear hy
  obtain ⟨f1, f2⟩ := fold_rep (n := n) ps.toList vals.toList args tmps σ (fun p hp => by have := List.all_eq_true.1 hpn p hp; simpa [Nat.blt_eq] using this) (by simpa using hsz) htn
    (fun i v x hi hx => hrep i v x (by simpa using hi) hx) hr
  have hfold : (ps.zip vals).foldl (fun tmps (x : Tmp × Value) => tmps.setIfInBounds x.1 x.2) tmps = (ps.toList.zip vals.toList).foldl (fun t (p : Tmp × Value) => t.setIfInBounds p.1 p.2) tmps := by
    rw [← Array.foldl_toList, Array.toList_zip]
  rw [← hfold] at f1 f2
  refine wpIn_mono (h 0 b κ { tmps := _, defers := [] } w ⟨h1, f1, Marks.nil _ _ (Nat.zero_le _), f2⟩) ?_
  rintro e a₁ w₁ ⟨t, κ₁, σ₁, hs₁, rfl, s₁, e₁, hq⟩
  cases t with
  | exit i => exact hq.elim
  | ret => exact hq.elim
  | normal =>
    obtain ⟨hs₂, hle, hW⟩ := hq
    obtain ⟨g1, g2⟩ := s₁.heap.sub (hle.2 s₁.heap.nodup) hle.1
    obtain ⟨b₁, c₁, fn₁, tmps₁, D₁, hk₁, hw₁, _, _, hrec⟩ := g1.record
    have hb : b₁ = b := by
      have := e₁.kap _ _ hκ
      rw [hk₁] at this
      injection this with this; injection this with h1 _; exact (Option.some.inj h1)
    subst hb
    obtain ⟨k1, k2⟩ := hrec .busy none
    refine ⟨_, run_beginRound hw₁ rfl, ?_⟩
    refine wpIn_mono (hW κ₁ a₁ _ ⟨k1, s₁.size, (s₁.defers.ext g2).ext k2, fun t => ((s₁.get t).ext g2).ext k2⟩) ?_
    rintro e a₂ w₂ ⟨x, κ₂, σ₂, hs', rfl, s₂, e₂, hs₃, hle₃, hx⟩
    obtain ⟨m1, m2⟩ := s₂.heap.sub (hle₃.2 s₂.heap.nodup) hle₃.1
    obtain ⟨b₂, c₂, fn₂, tmps₂, D₂, hk₂, hw₂, _, _, hrec₂⟩ := m1.record
    have hb : b₂ = b₁ := by
      have := e₂.kap _ _ hk₁
      rw [hk₂] at this
      injection this with this; injection this with h1 _; exact (Option.some.inj h1)
    subst hb
    have eall := ((((e₁.trans g2).trans k2).trans e₂).trans m2)
    cases x with
    | normal =>
      obtain ⟨p1, p2⟩ := hrec₂ .ready none
      exact ⟨_, _, run_endRound none hw₂, κ₂, _, _, _, rfl, p1, eall.trans p2, .d (.bool _), hx⟩
    | ret =>
      obtain ⟨p1, p2⟩ := hrec₂ .done (some .ret)
      exact ⟨_, _, run_endRound (some .ret) hw₂, κ₂, _, _, _, rfl, p1, eall.trans p2, .d (.bool _), hx⟩
    | exit i =>
      obtain ⟨p1, p2⟩ := hrec₂ .done (some (.exit i))
      exact ⟨_, _, run_endRound (some (.exit i)) hw₂, κ₂, _, _, _, rfl, p1, eall.trans p2, .d (.bool _), hx⟩

/-- How a range over a function ends. -/
def rangeQ (id : Nat) (N : Nm) (σ : Env) (ps : Array Tmp) (assign body : Code) (Q : Post) : AV → Hp → Prop := fun _ h' =>
  (∃ hs', HLe ((id, .loopr σ N.n ps assign body .ready none) :: hs') h' ∧ Q .normal σ hs') ∨
  (∃ hs', HLe ((id, .loopr σ N.n ps assign body .done (some .ret)) :: hs') h' ∧ Q .ret σ hs') ∨
  (∃ hs' i, HLe ((id, .loopr σ N.n ps assign body .done (some (.exit i))) :: hs') h' ∧ Q (.exit i) σ hs')

theorem roundQ.go {id n : Nat} {σ σ' : Env} {ps : Array Tmp} {assign body : Code} {R : AV → Hp → Prop} {hs' : Hp} (hs₃ : Hp) (hle : HLe ((id, .loopr σ n ps assign body .busy none) :: hs₃) hs') (hr : R (.d (.bool true)) ((id, .loopr σ n ps assign body .ready none) :: hs₃)) :
    roundQ id n σ ps assign body R .normal σ' hs' := ⟨hs₃, hle, hr⟩
theorem rangeQ.go {id : Nat} {N : Nm} {σ : Env} {ps : Array Tmp} {assign body : Code} {Q : Post} {r : AV} {h' : Hp} (hs' : Hp) (hle : HLe ((id, .loopr σ N.n ps assign body .ready none) :: hs') h') (hq : Q .normal σ hs') :
    rangeQ id N σ ps assign body Q r h' := .inl ⟨hs', hle, hq⟩

theorem W.range {P : Program} {N : Nm} {σ : Env} {hs : Hp} {Q : Post} {g : Operand} {ps : Array Tmp} {assign body : Code} {f : FuncId} {fn : Func} {caps : List AV} (hx : oev σ g = .fn f caps) (hf : P.funcs[f]? = some fn) (hg : callGo fn = true)
    (h : ∀ id, AC P f (.yl id :: caps) ((id, .loopr σ N.n ps assign body .ready none) :: hs) (rangeQ id N σ ps assign body Q)) (hro : N.ro = none := by rfl) : W P N (.rangeFunc g ps assign body) Q σ hs := by
  intro κ a w s
  rw [hro]
  refine wpIn_rangeFunc fun fn' _ => ?_
  have hx1 := s.oev g; rw [hx] at hx1
  obtain ⟨lb, hv, hl1, hl2⟩ := hx1.fn_inv
  -- the two new blocks
  obtain ⟨h1, e1⟩ := s.heap.oneMore (w' := w.alloc (.deferred (some []))) (by simp) (Nat.le_refl _) rfl rfl rfl (fun i hi => heap_alloc_old w _ i hi)
  have hsz1 : (w.alloc (.deferred (some []))).heap.size = w.heap.size + 1 := by simp
  obtain ⟨id, κ', h2, e2, hk2⟩ := h1.allocO (.loop { state := .ready, pending := none, fn := fn', tmps := a.tmps, params := ps, assign := assign, body := body, defers := w.heap.size }) (.loopr σ N.n ps assign body .ready none) 0
    (fun κ' id hid O hA _ => ⟨_, fn', a.tmps, w.heap.size, rfl, World.alloc_heap_new _ _, s.size, fun t => hA _ _ ((s.get t).ext e1)⟩)
  have hDlt : w.heap.size < ((w.alloc (.deferred (some []))).alloc (.loop { state := .ready, pending := none, fn := fn', tmps := a.tmps, params := ps, assign := assign, body := body, defers := w.heap.size })).heap.size := by simp; omega
  have hD : ((w.alloc (.deferred (some []))).alloc (.loop { state := .ready, pending := none, fn := fn', tmps := a.tmps, params := ps, assign := assign, body := body, defers := w.heap.size })).heap[w.heap.size]? = some (.deferred (some [])) :=
    (heap_alloc_old _ _ _ (by simp)).trans (World.alloc_heap_new w _)
  have hel := run_enterLoop_outer (P := P) (w := w) fn' a.tmps ps assign body
  generalize ((w.alloc (.deferred (some []))).alloc (.loop { state := .ready, pending := none, fn := fn', tmps := a.tmps, params := ps, assign := assign, body := body, defers := w.heap.size })) = W1 at *
  have e12 := e1.trans e2
  have hDn : ¬ Own κ' ((id, .loopr σ N.n ps assign body .ready none) :: hs) w.heap.size := by
    rintro ⟨i, o, c, hi, hk⟩
    rcases List.mem_cons.1 hi with he | hi
    · obtain ⟨rfl, rfl⟩ := Prod.mk.inj he
      rw [hk2] at hk
      injection hk with hk; injection hk with hk _
      have := Option.some.inj hk
      rw [hsz1] at this; omega
    · obtain ⟨x, hx, _⟩ := s.heap.ok i o hi
      have hx2 := e12.kap _ _ hx
      rw [hk] at hx2
      obtain rfl := Option.some.inj hx2
      have := s.heap.block_lt hi hx
      omega
  refine ⟨w.heap.size + 1, [{ target := .collected w.heap.size, args := #[] }], W1, { target := .fn (.func f) lb, args := #[.func (.yield (w.heap.size + 1)) #[] #[]] }, W1, f, #[.func (.yield (w.heap.size + 1)) #[] #[]] ++ lb, W1, hel, ?_, fun _ _ => trivial, ?_, fun h => (by cases h), callsIn_wide.2 ?_⟩
  · simp only [resolve, hv]
    simp [go_sem]
  · have := callFunc_run hf hg
    simp [invoke, go_sem, this]
  · refine (h id κ' _ _ h2 (by simp [hl1]; omega) (fun i v x hi hx => ?_)).mono ?_
    · rw [Array.getElem?_append] at hi
      split at hi
      · rename_i hlt
        have h0 : i = 0 := by simpa using hlt
        subst h0
        simp at hi hx
        subst hi hx
        exact .yl _ _ _ (by rw [hk2, hsz1])
      · rename_i hge
        obtain ⟨j, rfl⟩ : ∃ j, i = j + 1 := ⟨i - 1, by simp at hge; omega⟩
        have hi' : lb[j]? = some v := by simpa using hi
        have hx' : caps[j]? = some x := by simpa using hx
        exact (hl2 j v x hi' hx').ext e12
    · rintro e w₃ ⟨κ₃, hs₃, v, x, rfl, k1, k2, k3, hq⟩
      have e3 := e12.trans k2
      have hD3 : w₃.heap[w.heap.size]? = some (.deferred (some [])) := (k2.same _ hDlt hDn).trans hD
      have hDn3 : ¬ Own κ₃ hs₃ w.heap.size := fun h => hDn (k2.own _ hDlt h)
      -- behind the loop
      have fin : ∀ {hs' : Hp} {st : LoopState} {pe : Option Code}, HLe ((id, .loopr σ N.n ps assign body st pe) :: hs') hs₃ → st ≠ .busy → ∃ w₄, (Instr.endLoop (w.heap.size + 1)).run P w₃ = .ok pe w₄ ∧
          Ext κ hs w κ₃ hs' w₄ ∧ Sim N κ₃ hs' w₄ σ { a with defers := [{ target := .collected w.heap.size, args := #[] }] ++ a.defers } := by
        intro hs' st pe hle hst
        obtain ⟨m1, m2⟩ := k1.sub (hle.2 k1.nodup) hle.1
        obtain ⟨b, c, fn₂, tmps₂, D₂, hkb, hwb, _, _, hrec⟩ := m1.record
        have hb : b = w.heap.size + 1 := by
          have := k2.kap _ _ hk2
          rw [hkb] at this
          injection this with this; injection this with h1 _
          rw [Option.some.inj h1, hsz1]
        subst hb
        obtain ⟨p1, p2⟩ := hrec .exhausted pe
        obtain ⟨q1, q2⟩ := p1.sublist (List.sublist_cons_self _ _)
        have eA := ((e3.trans m2).trans p2).trans q2
        refine ⟨_, run_endLoop hwb hst, eA, q1, s.size, ⟨(s.defers.ext eA).1, ?_, ?_⟩, fun t => (s.get t).ext eA⟩
        · rw [List.singleton_append, List.nodup_cons]
          refine ⟨fun hm => ?_, s.defers.2.1⟩
          obtain ⟨D', he, _, hD', _⟩ := s.defers.2.2 _ hm
          have := (Array.getElem?_eq_some_iff.1 hD').1
          injection he with he
          injection he with he
          omega
        · intro d hd
          rw [List.singleton_append] at hd
          rcases List.mem_cons.1 hd with rfl | hd
          · refine ⟨w.heap.size, rfl, s.defers.1, (World.putObj_heap_other (by omega)).trans hD3, fun ho => ?_⟩
            obtain ⟨i, o, c', hi, hk⟩ := ho
            exact hDn3 ⟨i, o, c', hle.1 _ (List.mem_cons_of_mem _ hi), hk⟩
          · exact (s.defers.ext eA).2.2 d hd
      rcases hq with ⟨hs', hle, hq⟩ | ⟨hs', hle, hq⟩ | ⟨hs', i, hle, hq⟩
      · obtain ⟨w₄, he, eA, sA⟩ := fin hle (by simp)
        exact ⟨_, _, he, .normal, κ₃, σ, hs', rfl, sA, eA, hq⟩
      · obtain ⟨w₄, he, eA, sA⟩ := fin hle (by simp)
        exact ⟨_, _, he, wpIn_ret ⟨.ret, κ₃, σ, hs', rfl, sA, eA, hq⟩⟩
      · obtain ⟨w₄, he, eA, sA⟩ := fin hle (by simp)
        exact ⟨_, _, he, wpIn_exit ⟨.exit i, κ₃, σ, hs', rfl, sA, eA, hq⟩⟩
end Go.Proofs.YtldkkoecehdicaaDoorA
