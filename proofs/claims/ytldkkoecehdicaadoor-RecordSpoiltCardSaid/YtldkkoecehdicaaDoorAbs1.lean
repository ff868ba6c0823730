/- An abstract reading of the memory that a Go function works on: plain data, owned variables and owned lists; what a world keeps from step to step. No program in sight. -/
import Derived.Calls
import Derived.Orders
import Derived.Laws.CopyRow
import Derived.Laws.AppendOwn
import Derived.Laws.Cells
import Derived.Laws.World
import Derived.Laws.Rows
import Derived.Below
namespace Go.Proofs.YtldkkoecehdicaaDoorA
open Go
set_option linter.unusedVariables false
set_option linter.unusedSimpArgs false

/-- Plain data: what a value in memory that nobody writes any more reads as. -/
inductive D where
  | int (k : IntKind) (n : Int)
  | bool (b : Bool)
  | str (s : ByteArray)
  | nilp
  | nilif
  | agg (l : List D)
  | sl (sz : Nat) (rows : List (List D))

def D.one : D → Bool
  | .agg _ => false
  | _ => true

inductive RepD (w : World) (O : Nat → Prop) : Value → D → Prop
  | int (k n) : RepD w O (.int k n) (.int k n)
  | bool (b) : RepD w O (.bool b) (.bool b)
  | str (s) : RepD w O (.string s) (.str s)
  | nilp : RepD w O (.pointer none) .nilp
  | nilif : RepD w O .nilIface .nilif
  | agg (cs : Array Value) (l : List D) (hs : cs.size = l.length) (h1 : ∀ d ∈ l, d.one = true)
      (h : ∀ (i : Nat) (v : Value) (d : D), cs[i]? = some v → l[i]? = some d → RepD w O v d) : RepD w O (.agg cs) (.agg l)
  | sl (a : Option Addr) (len cap sz : Nat) (rows : List (List D)) (c : Nat → Nat → Value) (hl : len = rows.length) (hc : len ≤ cap)
      (hr : ∀ r ∈ rows, r.length = sz) (h1 : ∀ r ∈ rows, ∀ d ∈ r, d.one = true)
      (hm : ∀ (i j : Nat) (r : List D) (d : D), rows[i]? = some r → r[j]? = some d → ∃ ad, a = some ad ∧ ¬ O ad.block ∧ w.cell? (ad.add (i * sz + j)) = some (c i j))
      (hd : ∀ (i j : Nat) (r : List D) (d : D), rows[i]? = some r → r[j]? = some d → RepD w O (c i j) d) : RepD w O (.slice a len cap) (.sl sz rows)

theorem addr_add_block (a : Addr) (n : Nat) : (a.add n).block = a.block := by
  unfold Addr.add; split <;> rfl

theorem cell_lt {w : World} {a : Addr} {v : Value} (h : w.cell? a = some v) : a.block < w.heap.size := World.block_lt_of_cell? w a h

def isCells (w : World) (b : Nat) : Prop := ∃ cs T f, w.heap[b]? = some (.cells cs T f)
theorem cell_isCells {w : World} {a : Addr} {v : Value} (h : w.cell? a = some v) : isCells w a.block := by
  unfold World.cell? at h
  cases ho : w.heap[a.block]? with
  | none => simp [ho] at h
  | some o =>
    rw [ho] at h
    cases o with
    | cells cs T f => exact ⟨cs, T, f, ho⟩
    | _ => simp at h

/-- Data stays as it read while the cells that are not owned stay as they are. -/
theorem RepD.monoC {w w' : World} {O O' : Nat → Prop} {v : Value} {d : D} (h : RepD w O v d) (hO : ∀ b, b < w.heap.size → O' b → O b)
    (hw : ∀ b, b < w.heap.size → ¬ O b → isCells w b → w'.heap[b]? = w.heap[b]?) : RepD w' O' v d := by
  induction h with
  | int k n => exact .int k n
  | bool b => exact .bool b
  | str s => exact .str s
  | nilp => exact .nilp
  | nilif => exact .nilif
  | agg cs l hs h1 _ ih => exact .agg cs l hs h1 ih
  | sl a len cap sz rows c hl hc hr h1 hm _ ih =>
    refine .sl a len cap sz rows c hl hc hr h1 (fun i j r d hi hj => ?_) ih
    obtain ⟨ad, rfl, ho, hcell⟩ := hm i j r d hi hj
    have hlt : ad.block < w.heap.size := by have := cell_lt hcell; rwa [addr_add_block] at this
    have hic : isCells w ad.block := by have := cell_isCells hcell; rwa [addr_add_block] at this
    refine ⟨ad, rfl, fun h' => ho (hO _ hlt h'), ?_⟩
    rw [World.cell?_of_block (w := w) (by rw [addr_add_block]; exact hw _ hlt ho hic)]
    exact hcell

/-- Data stays as it read while what is not owned stays as it is. -/
theorem RepD.mono {w w' : World} {O O' : Nat → Prop} {v : Value} {d : D} (h : RepD w O v d) (hO : ∀ b, b < w.heap.size → O' b → O b)
    (hw : ∀ b, b < w.heap.size → ¬ O b → w'.heap[b]? = w.heap[b]?) : RepD w' O' v d := h.monoC hO fun b h1 h2 _ => hw b h1 h2

/-- A cell's worth of data is a cell's worth of value. -/
theorem RepD.oneCell {w : World} {O : Nat → Prop} {v : Value} {d : D} (h : RepD w O v d) (h1 : d.one = true) : v.oneCell' = true := by
  cases h <;> first | rfl | simp [D.one] at h1

inductive AV where
  | any
  | d (x : D)
  | vs (id lo n sz : Nat)
  | ptr (id off : Nat)
  | ep (id sz i off : Nat)
  | dp (l : List D)
  | dcut (sz : Nat) (rows : List (List D))
  | nilsl
  | fn (f : FuncId) (caps : List AV)
  | tup (l : List AV)
  | aggv (l : List AV)
  | when (b : Bool) (v : AV)
  | yl (id : Nat)

abbrev Env := List (Nat × AV)

def eget : Env → Nat → AV
  | [], _ => .any
  | (k, v) :: σ, t => bif Nat.beq k t then v else eget σ t

abbrev Kap := Nat → Option (Option Nat × Nat)

inductive RepA (κ : Kap) (w : World) (O : Nat → Prop) : Value → AV → Prop
  | any (v) : RepA κ w O v .any
  | d {v x} (h : RepD w O v x) : RepA κ w O v (.d x)
  | vs (ob : Option Nat) (cap : Nat) (p : Option Addr) (id lo n sz : Nat) (hk : κ id = some (ob, cap)) (hn : lo + n ≤ cap)
      (hp : lo < cap → p = ob.map fun b => ⟨b, lo * sz, none⟩) : RepA κ w O (.slice p n (cap - lo)) (.vs id lo n sz)
  | ptr (b cap id off : Nat) (hk : κ id = some (some b, cap)) : RepA κ w O (.pointer (some ⟨b, off, none⟩)) (.ptr id off)
  | ep (b cap id sz i off : Nat) (hk : κ id = some (some b, cap)) : RepA κ w O (.pointer (some ⟨b, i * sz + off, none⟩)) (.ep id sz i off)
  | dp (ad : Addr) (l : List D) (c : Nat → Value) (h1 : ∀ d ∈ l, d.one = true) (hm : ∀ (j : Nat) (d : D), l[j]? = some d → ¬ O ad.block ∧ w.cell? (ad.add j) = some (c j))
      (hd : ∀ (j : Nat) (d : D), l[j]? = some d → RepD w O (c j) d) : RepA κ w O (.pointer (some ad)) (.dp l)
  | dcut (a : Option Addr) (n sz : Nat) (rows : List (List D)) (h : RepD w O (.slice a n n) (.sl sz rows)) : RepA κ w O (.slice a n n) (.dcut sz rows)
  | nilsl : RepA κ w O (.slice none 0 0) .nilsl
  | fn (f : FuncId) (cs : Array Value) (caps : List AV) (hs : cs.size = caps.length)
      (h : ∀ (i : Nat) (v : Value) (x : AV), cs[i]? = some v → caps[i]? = some x → RepA κ w O v x) : RepA κ w O (.func (.func f) #[] cs) (.fn f caps)
  | tup (cs : Array Value) (l : List AV) (hs : cs.size = l.length)
      (h : ∀ (i : Nat) (v : Value) (x : AV), cs[i]? = some v → l[i]? = some x → RepA κ w O v x) : RepA κ w O (.tuple cs) (.tup l)
  | aggv (cs : Array Value) (l : List AV) (hs : cs.size = l.length) (h1 : ∀ v ∈ cs.toList, v.oneCell' = true)
      (h : ∀ (i : Nat) (v : Value) (x : AV), cs[i]? = some v → l[i]? = some x → RepA κ w O v x) : RepA κ w O (.agg cs) (.aggv l)
  | when (b : Bool) (v : Value) (x : AV) (h : b = true → RepA κ w O v x) (hu : b = false → v = undef) : RepA κ w O v (.when b x)
  | yl (b cap id : Nat) (hk : κ id = some (some b, cap)) : RepA κ w O (.func (.yield b) #[] #[]) (.yl id)

theorem RepA.monoC {κ κ' : Kap} {w w' : World} {O O' : Nat → Prop} {v : Value} {x : AV} (h : RepA κ w O v x) (hk : ∀ id y, κ id = some y → κ' id = some y)
    (hO : ∀ b, b < w.heap.size → O' b → O b) (hw : ∀ b, b < w.heap.size → ¬ O b → isCells w b → w'.heap[b]? = w.heap[b]?) : RepA κ' w' O' v x := by
  induction h with
  | any v => exact .any v
  | d h => exact .d (h.monoC hO hw)
  | vs ob cap p id lo n sz h1 hn hp => exact .vs ob cap p id lo n sz (hk _ _ h1) hn hp
  | ptr b cap id off h1 => exact .ptr b cap id off (hk _ _ h1)
  | ep b cap id sz i off h1 => exact .ep b cap id sz i off (hk _ _ h1)
  | dp ad l c h1 hm hd =>
    refine .dp ad l c h1 (fun j d hj => ?_) (fun j d hj => (hd j d hj).monoC hO hw)
    obtain ⟨ho, hc⟩ := hm j d hj
    have hlt : ad.block < w.heap.size := by have := cell_lt hc; rwa [addr_add_block] at this
    have hic : isCells w ad.block := by have := cell_isCells hc; rwa [addr_add_block] at this
    refine ⟨fun h' => ho (hO _ hlt h'), ?_⟩
    rw [World.cell?_of_block (w := w) (by rw [addr_add_block]; exact hw _ hlt ho hic)]
    exact hc
  | dcut a n sz rows h => exact .dcut a n sz rows (h.monoC hO hw)
  | nilsl => exact .nilsl
  | fn f cs caps hs _ ih => exact .fn f cs caps hs ih
  | tup cs l hs _ ih => exact .tup cs l hs ih
  | aggv cs l hs h1 _ ih => exact .aggv cs l hs h1 ih
  | when b v x _ hu ih => exact .when b v x ih hu
  | yl b cap id h1 => exact .yl b cap id (hk _ _ h1)

theorem RepA.mono {κ κ' : Kap} {w w' : World} {O O' : Nat → Prop} {v : Value} {x : AV} (h : RepA κ w O v x) (hk : ∀ id y, κ id = some y → κ' id = some y)
    (hO : ∀ b, b < w.heap.size → O' b → O b) (hw : ∀ b, b < w.heap.size → ¬ O b → w'.heap[b]? = w.heap[b]?) : RepA κ' w' O' v x := h.monoC hk hO fun b h1 h2 _ => hw b h1 h2

inductive HO where
  | cells (l : List AV)
  | lst (sz : Nat) (rows : List (List D))
  | glob (b : Nat) (l : List Value)
  | cap (id c : Nat)
  | typ (id : Nat) (T : TypeId)
  | byt (l : List UInt8)
  | lsv (l : List AV)
  | loopr (σ : Env) (n : Nat) (ps : Array Tmp) (assign body : Code) (st : LoopState) (pe : Option Code)

abbrev Hp := List (Nat × HO)

/-- What a block of cells is of: it stays. -/
def SameT (w w' : World) (b : Nat) : Prop := ∀ cs T f, w.heap[b]? = some (.cells cs T f) → ∃ cs' f', w'.heap[b]? = some (.cells cs' T f')
theorem SameT.refl (w : World) (b : Nat) : SameT w w b := fun cs T f h => ⟨cs, f, h⟩
theorem SameT.of_eq {w w' : World} {b : Nat} (h : w'.heap[b]? = w.heap[b]?) : SameT w w' b := fun cs T f h1 => ⟨cs, f, h.trans h1⟩
theorem SameT.row (w : World) (b : Nat) (cs : Array Value) : SameT w (w.setRow b cs) b := fun old T f h => ⟨cs, f, setRow_heap w b old cs T f h⟩
theorem SameT.lt {w w' : World} (h : ∀ b, b < w.heap.size → w'.heap[b]? = w.heap[b]?) (b : Nat) : SameT w w' b := fun cs T f h1 => ⟨cs, f, (h b (Array.getElem?_eq_some_iff.1 h1).1).trans h1⟩

/-- The blocks that the named objects lie in. -/
def Own (κ : Kap) (hs : Hp) (b : Nat) : Prop := ∃ id o c, (id, o) ∈ hs ∧ κ id = some (some b, c)

def HOk (κ : Kap) (w : World) (O : Nat → Prop) : HO → Option Nat × Nat → Prop
  | .cells l, (ob, T) => ∃ b cs, ob = some b ∧ w.heap[b]? = some (.cells cs T (0, 0)) ∧ cs.size = l.length ∧
      (∀ v ∈ cs.toList, v.oneCell' = true) ∧ ∀ (i : Nat) (v : Value) (x : AV), cs[i]? = some v → l[i]? = some x → RepA κ w O v x
  | .lst sz rows, (ob, cap) => rows.length ≤ cap ∧ cap ≤ maxLen ∧ 0 < sz ∧ (∀ r ∈ rows, r.length = sz) ∧ (∀ r ∈ rows, ∀ d ∈ r, d.one = true) ∧ (ob = none → cap = 0) ∧
      ∀ b, ob = some b → ∃ cs T, w.heap[b]? = some (.cells cs T (0, 0)) ∧ cs.size = cap * sz ∧
        ∀ (i j : Nat) (r : List D) (d : D), rows[i]? = some r → r[j]? = some d → ∃ v, cs[i * sz + j]? = some v ∧ RepD w O v d
  | .glob b l, (ob, _) => ob = none ∧ ¬ O b ∧ ∃ T f, w.heap[b]? = some (.cells l.toArray T f)
  | .cap id c, (ob, _) => ob = none ∧ ∃ ob', κ id = some (ob', c)
  | .typ id T, (ob, _) => ob = none ∧ ∃ b c cs f, κ id = some (some b, c) ∧ w.heap[b]? = some (.cells cs T f)
  | .byt l, (ob, cap) => ∃ b cs T f, ob = some b ∧ w.heap[b]? = some (.cells cs T f) ∧ cs.size = cap ∧ cap ≤ f.1 ∧ l.length ≤ cap ∧ ∀ (i : Nat) (c : UInt8), l[i]? = some c → cs[i]? = some (.int .u8 c.toNat)
  | .lsv l, (ob, cap) => l.length ≤ cap ∧ cap ≤ maxLen ∧ (ob = none → cap = 0) ∧ ∀ b, ob = some b → ∃ cs T, w.heap[b]? = some (.cells cs T (0, 0)) ∧ cs.size = cap ∧
      (∀ (i : Nat) (v : Value), i < l.length → cs[i]? = some v → v.oneCell' = true) ∧ ∀ (i : Nat) (v : Value) (x : AV), cs[i]? = some v → l[i]? = some x → RepA κ w O v x
  | .loopr σ n ps assign body st pe, (ob, _) => ∃ b fn tmps D, ob = some b ∧ w.heap[b]? = some (.loop { state := st, pending := pe, fn := fn, tmps := tmps, params := ps, assign := assign, body := body, defers := D }) ∧
      tmps.size = n ∧ ∀ t, RepA κ w O (tmps.getD t undef) (eget σ t)

structure HS (κ : Kap) (w : World) (hs : Hp) : Prop where
  nodup : (hs.map (·.1)).Nodup
  ok : ∀ id o, (id, o) ∈ hs → ∃ x, κ id = some x ∧ HOk κ w (Own κ hs) o x
  inj : ∀ id id' o o' b c c', (id, o) ∈ hs → (id', o') ∈ hs → κ id = some (some b, c) → κ id' = some (some b, c') → id = id'
  fresh : ∃ n, ∀ id, n ≤ id → κ id = none

structure Ext (κ : Kap) (hs : Hp) (w : World) (κ' : Kap) (hs' : Hp) (w' : World) : Prop where
  kap : ∀ id x, κ id = some x → κ' id = some x
  size : w.heap.size ≤ w'.heap.size
  drawn : w.drawn ≤ w'.drawn
  os : w'.os = w.os
  tape : w'.tape = w.tape
  output : w'.output = w.output
  same : ∀ b, b < w.heap.size → ¬ Own κ hs b → w'.heap[b]? = w.heap[b]?
  own : ∀ b, b < w.heap.size → Own κ' hs' b → Own κ hs b
  ids : ∀ id o, (id, o) ∈ hs' → (∃ o', (id, o') ∈ hs) ∨ κ id = none
  ty : ∀ b, SameT w w' b

theorem Ext.refl (κ : Kap) (hs : Hp) (w : World) : Ext κ hs w κ hs w :=
  ⟨fun _ _ h => h, Nat.le_refl _, Nat.le_refl _, rfl, rfl, rfl, fun _ _ _ => rfl, fun _ _ h => h, fun _ o h => .inl ⟨o, h⟩, SameT.refl w⟩

theorem Ext.trans {κ κ₁ κ₂ : Kap} {hs hs₁ hs₂ : Hp} {w w₁ w₂ : World} (a : Ext κ hs w κ₁ hs₁ w₁) (b : Ext κ₁ hs₁ w₁ κ₂ hs₂ w₂) : Ext κ hs w κ₂ hs₂ w₂ :=
  ⟨fun id x h => b.kap _ _ (a.kap _ _ h), Nat.le_trans a.size b.size, Nat.le_trans a.drawn b.drawn, b.os.trans a.os, b.tape.trans a.tape, b.output.trans a.output,
   fun c hc ho => (b.same c (Nat.lt_of_lt_of_le hc a.size) fun h => ho (a.own c hc h)).trans (a.same c hc ho),
   fun c hc h => a.own c hc (b.own c (Nat.lt_of_lt_of_le hc a.size) h),
   fun id o h => (b.ids id o h).elim (fun ⟨o', h'⟩ => a.ids id o' h') fun h' => .inr (by
     cases hk : κ id with
     | none => rfl
     | some x => rw [a.kap id x hk] at h'; cases h'),
   fun c cs T f h => let ⟨_, _, h1⟩ := a.ty c cs T f h; b.ty c _ T _ h1⟩

theorem RepD.ext {κ κ' : Kap} {hs hs' : Hp} {w w' : World} {v : Value} {x : D} (e : Ext κ hs w κ' hs' w') (h : RepD w (Own κ hs) v x) : RepD w' (Own κ' hs') v x :=
  h.mono e.own e.same

theorem RepA.ext {κ κ' : Kap} {hs hs' : Hp} {w w' : World} {v : Value} {x : AV} (e : Ext κ hs w κ' hs' w') (h : RepA κ w (Own κ hs) v x) : RepA κ' w' (Own κ' hs') v x :=
  h.mono e.kap e.own e.same

/-- The object's place is where it was, its block is as it was: it is as it was. -/
theorem HOk.ext {κ κ' : Kap} {hs hs' : Hp} {w w' : World} {o : HO} {x : Option Nat × Nat} (e : Ext κ hs w κ' hs' w') (hb : ∀ b, x.1 = some b → w'.heap[b]? = w.heap[b]?)
    (h : HOk κ w (Own κ hs) o x) : HOk κ' w' (Own κ' hs') o x := by
  obtain ⟨ob, cap⟩ := x
  cases o with
  | cells l =>
    obtain ⟨b, cs, rfl, hw, hsz, h1, hr⟩ := h
    exact ⟨b, cs, rfl, (hb b rfl).trans hw, hsz, h1, fun i v x hi hx => (hr i v x hi hx).ext e⟩
  | lst sz rows =>
    obtain ⟨h0, h0', h1, h2, h3, h4, h5⟩ := h
    refine ⟨h0, h0', h1, h2, h3, h4, fun b hbe => ?_⟩
    obtain ⟨cs, T, hw, hsz, hr⟩ := h5 b hbe
    exact ⟨cs, T, (hb b hbe).trans hw, hsz, fun i j r d hi hj => let ⟨v, hv, hd⟩ := hr i j r d hi hj; ⟨v, hv, hd.ext e⟩⟩
  | glob b l =>
    obtain ⟨h0, h1, T, f, h2⟩ := h
    have hlt : b < w.heap.size := (Array.getElem?_eq_some_iff.1 h2).1
    exact ⟨h0, fun hn => h1 (e.own b hlt hn), T, f, (e.same b hlt h1).trans h2⟩
  | cap id c =>
    obtain ⟨h0, ob', h1⟩ := h
    exact ⟨h0, ob', e.kap _ _ h1⟩
  | typ id T =>
    obtain ⟨h0, b, c, cs, f, h1, h2⟩ := h
    obtain ⟨cs', f', h3⟩ := e.ty b cs T f h2
    exact ⟨h0, b, c, cs', f', e.kap _ _ h1, h3⟩
  | byt l =>
    obtain ⟨b, cs, T, f, rfl, hw, h1⟩ := h
    exact ⟨b, cs, T, f, rfl, (hb b rfl).trans hw, h1⟩
  | lsv l =>
    obtain ⟨h0, h0', h4, h5⟩ := h
    refine ⟨h0, h0', h4, fun b hbe => ?_⟩
    obtain ⟨cs, T, hw, hsz, h1, hr⟩ := h5 b hbe
    exact ⟨cs, T, (hb b hbe).trans hw, hsz, h1, fun i v x hi hx => (hr i v x hi hx).ext e⟩
  | loopr σ n ps assign body st pe =>
    obtain ⟨b, fn, tmps, D, rfl, hw, hsz, hr⟩ := h
    exact ⟨b, fn, tmps, D, rfl, (hb b rfl).trans hw, hsz, fun t => (hr t).ext e⟩

/-- Which block an object lies in, and that it is there. -/
theorem HS.block_lt {κ : Kap} {w : World} {hs : Hp} (h : HS κ w hs) {id : Nat} {o : HO} {b c : Nat} (hm : (id, o) ∈ hs) (hk : κ id = some (some b, c)) : b < w.heap.size := by
  obtain ⟨x, hx, hok⟩ := h.ok id o hm
  rw [hk] at hx
  obtain rfl := Option.some.inj hx
  cases o with
  | cells l =>
    obtain ⟨b', cs, he, hw, _⟩ := hok
    obtain rfl := Option.some.inj he
    exact (Array.getElem?_eq_some_iff.1 hw).1
  | lst sz rows =>
    obtain ⟨cs, T, hw, _⟩ := hok.2.2.2.2.2.2 b rfl
    exact (Array.getElem?_eq_some_iff.1 hw).1
  | glob b' l => exact absurd hok.1 (by simp)
  | cap id' c' => exact absurd hok.1 (by simp)
  | typ id' T => exact absurd hok.1 (by simp)
  | byt l =>
    obtain ⟨b', cs, T, f, he, hw, _⟩ := hok
    obtain rfl := Option.some.inj he
    exact (Array.getElem?_eq_some_iff.1 hw).1
  | lsv l =>
    obtain ⟨cs, T, hw, _⟩ := hok.2.2.2 b rfl
    exact (Array.getElem?_eq_some_iff.1 hw).1
  | loopr σ n ps assign body st pe =>
    obtain ⟨b', fn, tmps, D, he, hw, _⟩ := hok
    obtain rfl := Option.some.inj he
    exact (Array.getElem?_eq_some_iff.1 hw).1

/-- Forgetting objects, and looking at them in another order. -/
theorem HS.sub {κ : Kap} {w : World} {hs hs' : Hp} (h : HS κ w hs) (hn : (hs'.map (·.1)).Nodup) (hm : ∀ x ∈ hs', x ∈ hs) : HS κ w hs' ∧ Ext κ hs w κ hs' w := by
  have e : Ext κ hs w κ hs' w := ⟨fun _ _ h => h, Nat.le_refl _, Nat.le_refl _, rfl, rfl, rfl, fun _ _ _ => rfl, fun b _ ⟨id, o, c, hi, hk⟩ => ⟨id, o, c, hm _ hi, hk⟩, fun id o h => .inl ⟨o, hm _ h⟩, SameT.refl w⟩
  refine ⟨⟨hn, fun id o hi => ?_, fun id id' o o' b c c' hi hi' => h.inj id id' o o' b c c' (hm _ hi) (hm _ hi'), h.fresh⟩, e⟩
  obtain ⟨x, hx, hok⟩ := h.ok id o (hm _ hi)
  exact ⟨x, hx, hok.ext e fun _ _ => rfl⟩

theorem HS.sublist {κ : Kap} {w : World} {hs hs' : Hp} (h : HS κ w hs) (hm : hs'.Sublist hs) : HS κ w hs' ∧ Ext κ hs w κ hs' w :=
  h.sub ((hm.map _).nodup h.nodup) (fun _ hx => hm.subset hx)

theorem HS.perm {κ : Kap} {w : World} {hs hs' : Hp} (h : HS κ w hs) (hm : hs'.Perm hs) : HS κ w hs' ∧ Ext κ hs w κ hs' w :=
  h.sub ((hm.map _).nodup_iff.2 h.nodup) (fun _ hx => hm.subset hx)

theorem HS.drew {κ : Kap} {w : World} {hs : Hp} (h : HS κ w hs) (n : Nat) (hn : w.drawn ≤ n) : HS κ { w with drawn := n } hs ∧ Ext κ hs w κ hs { w with drawn := n } := by
  have e : Ext κ hs w κ hs { w with drawn := n } := ⟨fun _ _ h => h, Nat.le_refl _, hn, rfl, rfl, rfl, fun _ _ _ => rfl, fun b _ h => h, fun _ o h => .inl ⟨o, h⟩, fun b => .of_eq rfl⟩
  exact ⟨⟨h.nodup, fun id o hi => let ⟨x, hx, hok⟩ := h.ok id o hi; ⟨x, hx, hok.ext e fun _ _ => rfl⟩, h.inj, h.fresh⟩, e⟩

/-- A new block of one's own. -/
theorem HS.allocO {κ : Kap} {w : World} {hs : Hp} (h : HS κ w hs) (ob : Obj) (o : HO) (cap : Nat)
    (ho : ∀ κ' : Kap, ∀ id, κ' id = some (some w.heap.size, cap) → ∀ O : Nat → Prop, (∀ v x, RepA κ w (Own κ hs) v x → RepA κ' (w.alloc ob) O v x) →
      (∀ v x, RepD w (Own κ hs) v x → RepD (w.alloc ob) O v x) → HOk κ' (w.alloc ob) O o (some w.heap.size, cap)) :
    ∃ id κ', HS κ' (w.alloc ob) ((id, o) :: hs) ∧ Ext κ hs w κ' ((id, o) :: hs) (w.alloc ob) ∧ κ' id = some (some w.heap.size, cap) := by
  obtain ⟨n, hn⟩ := h.fresh
  let κ' : Kap := fun i => if i = n then some (some w.heap.size, cap) else κ i
  have hk : ∀ id x, κ id = some x → κ' id = some x := fun id x hx => by
    have : id ≠ n := fun he => by rw [he, hn n (Nat.le_refl _)] at hx; cases hx
    simp [κ', this, hx]
  have hnew : κ' n = some (some w.heap.size, cap) := by simp [κ']
  have hold : ∀ id, id ≠ n → κ' id = κ id := fun id hid => by simp [κ', hid]
  have hmem : ∀ id o, (id, o) ∈ hs → id ≠ n := fun id o hi he => by
    obtain ⟨x, hx, _⟩ := h.ok id o hi
    rw [he, hn n (Nat.le_refl _)] at hx; cases hx
  have e : Ext κ hs w κ' ((n, o) :: hs) (w.alloc ob) := by
    refine ⟨hk, by simp, Nat.le_refl _, rfl, rfl, rfl, fun b hb _ => heap_alloc_old w _ b hb, fun b hb hown => ?_, fun id o' hi => by
      rcases List.mem_cons.1 hi with he | hi
      · obtain ⟨rfl, rfl⟩ := Prod.mk.inj he
        exact .inr (hn _ (Nat.le_refl _))
      · exact .inl ⟨_, hi⟩, SameT.lt fun b hb => heap_alloc_old w _ b hb⟩
    obtain ⟨id, o', c, hi, hkk⟩ := hown
    rcases List.mem_cons.1 hi with he | hi
    · obtain ⟨rfl, rfl⟩ := Prod.mk.inj he
      rw [hnew] at hkk
      have h2 := (Prod.mk.inj (Option.some.inj hkk)).1
      have := Option.some.inj h2; omega
    · exact ⟨id, o', c, hi, by rw [← hold id (hmem id o' hi)]; exact hkk⟩
  refine ⟨n, κ', ⟨?_, ?_, ?_, n + 1, fun id hid => ?_⟩, e, hnew⟩
  · rw [List.map_cons, List.nodup_cons]
    refine ⟨fun hi => ?_, h.nodup⟩
    obtain ⟨⟨id, o'⟩, hi, he⟩ := List.mem_map.1 hi
    exact hmem id o' hi he
  · intro id o' hi
    rcases List.mem_cons.1 hi with he | hi
    · obtain ⟨rfl, rfl⟩ := Prod.mk.inj he
      exact ⟨_, hnew, ho κ' _ hnew _ (fun v x hx => hx.ext e) (fun v x hx => hx.ext e)⟩
    · obtain ⟨x, hx, hok⟩ := h.ok id o' hi
      refine ⟨x, hk _ _ hx, hok.ext e fun b hb => heap_alloc_old w _ b (h.block_lt hi (c := x.2) ?_)⟩
      rw [hx]; rw [← hb]
  · intro id id' o₁ o₂ b c c' hi hi' h1 h2
    rcases List.mem_cons.1 hi with he | gi <;> rcases List.mem_cons.1 hi' with he' | gi'
    · obtain ⟨rfl, rfl⟩ := Prod.mk.inj he; obtain ⟨rfl, rfl⟩ := Prod.mk.inj he'; rfl
    · obtain ⟨rfl, rfl⟩ := Prod.mk.inj he
      rw [hold id' (hmem _ _ gi')] at h2
      have hlt := h.block_lt gi' h2
      rw [hnew] at h1
      have := Option.some.inj (Prod.mk.inj (Option.some.inj h1)).1; omega
    · obtain ⟨rfl, rfl⟩ := Prod.mk.inj he'
      rw [hold id (hmem _ _ gi)] at h1
      have hlt := h.block_lt gi h1
      rw [hnew] at h2
      have := Option.some.inj (Prod.mk.inj (Option.some.inj h2)).1; omega
    · rw [hold id (hmem _ _ gi)] at h1; rw [hold id' (hmem _ _ gi')] at h2
      exact h.inj id id' o₁ o₂ b c c' gi gi' h1 h2
  · have : id ≠ n := by omega
    rw [hold id this]; exact hn id (by omega)

theorem HS.alloc {κ : Kap} {w : World} {hs : Hp} (h : HS κ w hs) (cs : Array Value) (T : TypeId) (o : HO) (cap : Nat)
    (ho : ∀ κ' : Kap, ∀ id, κ' id = some (some w.heap.size, cap) → ∀ O : Nat → Prop, (∀ v x, RepA κ w (Own κ hs) v x → RepA κ' (w.alloc (.cells cs T)) O v x) →
      (∀ v x, RepD w (Own κ hs) v x → RepD (w.alloc (.cells cs T)) O v x) → HOk κ' (w.alloc (.cells cs T)) O o (some w.heap.size, cap)) :
    ∃ id κ', HS κ' (w.alloc (.cells cs T)) ((id, o) :: hs) ∧ Ext κ hs w κ' ((id, o) :: hs) (w.alloc (.cells cs T)) ∧ κ' id = some (some w.heap.size, cap) := h.allocO (.cells cs T) o cap ho

/-- An object that owns no block: an empty list. -/
theorem HS.none {κ : Kap} {w : World} {hs : Hp} (h : HS κ w hs) (sz : Nat) (hz : 0 < sz) :
    ∃ id κ', HS κ' w ((id, .lst sz []) :: hs) ∧ Ext κ hs w κ' ((id, .lst sz []) :: hs) w ∧ κ' id = some (Option.none, 0) := by
  obtain ⟨n, hn⟩ := h.fresh
  let κ' : Kap := fun i => if i = n then some (Option.none, 0) else κ i
  have hk : ∀ id x, κ id = some x → κ' id = some x := fun id x hx => by
    have : id ≠ n := fun he => by rw [he, hn n (Nat.le_refl _)] at hx; cases hx
    simp [κ', this, hx]
  have hnew : κ' n = some (Option.none, 0) := by simp [κ']
  have hold : ∀ id, id ≠ n → κ' id = κ id := fun id hid => by simp [κ', hid]
  have hmem : ∀ id o, (id, o) ∈ hs → id ≠ n := fun id o hi he => by
    obtain ⟨x, hx, _⟩ := h.ok id o hi
    rw [he, hn n (Nat.le_refl _)] at hx; cases hx
  have hpart : ∀ id o b c, (id, o) ∈ (n, HO.lst sz []) :: hs → κ' id = some (some b, c) → (id, o) ∈ hs ∧ κ id = some (some b, c) := by
    intro id o b c hi hkk
    rcases List.mem_cons.1 hi with he | hi
    · obtain ⟨rfl, rfl⟩ := Prod.mk.inj he
      rw [hnew] at hkk; cases hkk
    · exact ⟨hi, by rw [← hold id (hmem _ _ hi)]; exact hkk⟩
  have e : Ext κ hs w κ' ((n, .lst sz []) :: hs) w :=
    ⟨hk, Nat.le_refl _, Nat.le_refl _, rfl, rfl, rfl, fun _ _ _ => rfl, fun b hb ⟨id, o', c, hi, hkk⟩ => let ⟨h1, h2⟩ := hpart _ _ _ _ hi hkk; ⟨id, o', c, h1, h2⟩, fun id o' hi => by
      rcases List.mem_cons.1 hi with he | hi
      · obtain ⟨rfl, rfl⟩ := Prod.mk.inj he
        exact .inr (hn _ (Nat.le_refl _))
      · exact .inl ⟨_, hi⟩, SameT.refl w⟩
  refine ⟨n, κ', ⟨?_, ?_, ?_, n + 1, fun id hid => ?_⟩, e, hnew⟩
  · rw [List.map_cons, List.nodup_cons]
    refine ⟨fun hi => ?_, h.nodup⟩
    obtain ⟨⟨id, o'⟩, hi, he⟩ := List.mem_map.1 hi
    exact hmem id o' hi he
  · intro id o' hi
    rcases List.mem_cons.1 hi with he | hi
    · obtain ⟨rfl, rfl⟩ := Prod.mk.inj he
      exact ⟨_, hnew, Nat.le_refl _, Nat.zero_le _, hz, by simp, by simp, fun _ => rfl, fun b hb => by cases hb⟩
    · obtain ⟨x, hx, hok⟩ := h.ok id o' hi
      exact ⟨x, hk _ _ hx, hok.ext e fun b _ => rfl⟩
  · intro id id' o₁ o₂ b c c' hi hi' h1 h2
    obtain ⟨h3, h4⟩ := hpart _ _ _ _ hi h1
    obtain ⟨h5, h6⟩ := hpart _ _ _ _ hi' h2
    exact h.inj id id' o₁ o₂ b c c' h3 h5 h4 h6
  · have : id ≠ n := by omega
    rw [hold id this]; exact hn id (by omega)

theorem map_fst_set (hs : Hp) (k : Nat) (id : Nat) (o o' : HO) (hk : hs[k]? = some (id, o)) : (hs.set k (id, o')).map (·.1) = hs.map (·.1) := by
  apply List.ext_getElem?
  intro i
  simp only [List.getElem?_map, List.getElem?_set]
  split
  · subst_vars; split <;> simp_all
  · rfl

theorem own_set (κ : Kap) (hs : Hp) (k id : Nat) (o o' : HO) (hk : hs[k]? = some (id, o)) (b : Nat) : Own κ (hs.set k (id, o')) b ↔ Own κ hs b := by
  have key : ∀ i, (∃ o, (i, o) ∈ hs.set k (id, o')) ↔ ∃ o, (i, o) ∈ hs := by
    intro i
    have h1 : ∀ l : Hp, (∃ o, (i, o) ∈ l) ↔ i ∈ l.map (·.1) := fun l => by
      rw [List.mem_map]; exact ⟨fun ⟨o, ho⟩ => ⟨_, ho, rfl⟩, fun ⟨⟨i', o⟩, ho, he⟩ => ⟨o, by cases he; exact ho⟩⟩
    rw [h1, h1, map_fst_set hs k id o o' hk]
  constructor
  · rintro ⟨i, o₁, c, hi, hx⟩
    obtain ⟨o₂, h2⟩ := (key i).1 ⟨_, hi⟩
    exact ⟨i, o₂, c, h2, hx⟩
  · rintro ⟨i, o₁, c, hi, hx⟩
    obtain ⟨o₂, h2⟩ := (key i).2 ⟨_, hi⟩
    exact ⟨i, o₂, c, h2, hx⟩

/-- A write to an object of one's own. -/
theorem HS.write {κ : Kap} {w w' : World} {hs : Hp} (h : HS κ w hs) {k id : Nat} {o o' : HO} {b c : Nat} (hk : hs[k]? = some (id, o)) (hκ : κ id = some (some b, c))
    (hsize : w'.heap.size = w.heap.size) (hdr : w'.drawn = w.drawn) (hos : w'.os = w.os) (ht : w'.tape = w.tape) (hout : w'.output = w.output) (hoth : ∀ i, i ≠ b → w'.heap[i]? = w.heap[i]?)
    (ho : (∀ v x, RepA κ w (Own κ hs) v x → RepA κ w' (Own κ (hs.set k (id, o'))) v x) → (∀ v x, RepD w (Own κ hs) v x → RepD w' (Own κ (hs.set k (id, o'))) v x) →
      HOk κ w' (Own κ (hs.set k (id, o'))) o' (some b, c)) (hty : SameT w w' b := by first | exact SameT.refl _ _ | exact SameT.row _ _ _) :
    HS κ w' (hs.set k (id, o')) ∧ Ext κ hs w κ (hs.set k (id, o')) w' := by
  have hmem : (id, o) ∈ hs := List.mem_of_getElem? hk
  have hb : Own κ hs b := ⟨id, o, c, hmem, hκ⟩
  have e : Ext κ hs w κ (hs.set k (id, o')) w' :=
    ⟨fun _ _ h => h, by omega, Nat.le_of_eq hdr.symm, hos, ht, hout, fun i _ hn => hoth i fun he => hn (he ▸ hb), fun i _ hi => (own_set κ hs k id o o' hk i).1 hi, fun i o₁ hi => by
      have h1 : i ∈ (hs.set k (id, o')).map (·.1) := List.mem_map.2 ⟨_, hi, rfl⟩
      rw [map_fst_set hs k id o o' hk] at h1
      obtain ⟨⟨i', o₂⟩, h2, h3⟩ := List.mem_map.1 h1
      exact .inl ⟨o₂, by cases h3; exact h2⟩, fun i => by
      by_cases hi : i = b
      · subst hi; exact hty
      · exact .of_eq (hoth i hi)⟩
  have hfst := map_fst_set hs k id o o' hk
  have hin : ∀ i o₁, (i, o₁) ∈ hs.set k (id, o') → i = id ∧ o₁ = o' ∨ i ≠ id ∧ (i, o₁) ∈ hs := by
    intro i o₁ hi
    obtain ⟨j, hj⟩ := List.getElem?_of_mem hi
    rw [List.getElem?_set] at hj
    split at hj
    · split at hj
      · obtain ⟨rfl, rfl⟩ := Prod.mk.inj (Option.some.inj hj); exact .inl ⟨rfl, rfl⟩
      · cases hj
    · rename_i hne
      refine .inr ⟨fun he => hne ?_, List.mem_of_getElem? hj⟩
      subst he
      have h1 : (hs.map (·.1))[j]? = some i := by rw [List.getElem?_map, hj]; rfl
      have h2 : (hs.map (·.1))[k]? = some i := by rw [List.getElem?_map, hk]; rfl
      exact ((List.getElem?_inj (List.getElem?_eq_some_iff.1 h2).1 h.nodup).1 (h2.trans h1.symm))
  refine ⟨⟨by rw [hfst]; exact h.nodup, fun i o₁ hi => ?_, fun i i' o₁ o₂ b' c₁ c₂ hi hi' h1 h2 => ?_, h.fresh⟩, e⟩
  · rcases hin i o₁ hi with ⟨rfl, rfl⟩ | ⟨hne, hi⟩
    · exact ⟨_, hκ, ho (fun v x hx => hx.ext e) (fun v x hx => hx.ext e)⟩
    · obtain ⟨x, hx, hok⟩ := h.ok i o₁ hi
      refine ⟨x, hx, hok.ext e fun b' hb' => hoth b' fun he => hne ?_⟩
      subst he
      exact h.inj i id o₁ o b' x.2 c hi hmem (by rw [hx, ← hb']) hκ
  · have g : ∀ i o₁, (i, o₁) ∈ hs.set k (id, o') → ∃ o₂, (i, o₂) ∈ hs := fun i o₁ hi => by
      rcases hin i o₁ hi with ⟨rfl, _⟩ | ⟨_, hi⟩
      · exact ⟨_, hmem⟩
      · exact ⟨_, hi⟩
    obtain ⟨_, g1⟩ := g i o₁ hi
    obtain ⟨_, g2⟩ := g i' o₂ hi'
    exact h.inj i i' _ _ b' c₁ c₂ g1 g2 h1 h2

end Go.Proofs.YtldkkoecehdicaaDoorA
