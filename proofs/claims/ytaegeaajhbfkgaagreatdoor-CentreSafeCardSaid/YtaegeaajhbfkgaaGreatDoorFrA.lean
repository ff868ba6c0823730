/- Our framework: Abs1 Abs2 Abs3 Abs4 Abs5 Abs6. -/
import Derived.Calls
import Derived.Orders
import Derived.Laws.CopyRow
import Derived.Laws.AppendOwn
import Derived.Laws.Cells
import Derived.Laws.World
import Derived.Laws.Rows
import Derived.Below
import Derived.Sort.LoopGhostIn
import Derived.RangeFuncRecord
import Derived.OrdersIn
import Derived.Laws.Append
import Derived.IntWalk
import Derived.Laws.MakeOwn
/- An abstract reading of the memory that a Go function works on: plain data, owned variables and owned lists; what a world keeps from step to step. No program in sight. -/
namespace Go.Proofs.YtaegeaajhbfkgaaGreatDoorA
open Go
set_option linter.unusedVariables false
set_option linter.unusedSimpArgs false
inductive D where
  | int (k : IntKind) (n : Int)
  | bool (b : Bool)
  | str (s : ByteArray)
  | flt (x : Nat)
  | nilp
  | nilif
  | agg (l : List D)
  | sl (sz : Nat) (rows : List (List D))
def D.one : D → Bool
  | .agg _ => false
  | _ => true
inductive RepD (w : World) (O : Nat → Prop) : Value → D → Prop
  | int (k n) : RepD w O (.int k n) (.int k n)
  | bool (b) : RepD w O (.bool b) (.bool b)
  | str (s) : RepD w O (.string s) (.str s)
  | flt (x) : RepD w O (.float .f64 x) (.flt x)
  | nilp : RepD w O (.pointer none) .nilp
  | nilif : RepD w O .nilIface .nilif
  | agg (cs : Array Value) (l : List D) (hs : cs.size = l.length) (h1 : ∀ d ∈ l, d.one = true)
      (h : ∀ (i : Nat) (v : Value) (d : D), cs[i]? = some v → l[i]? = some d → RepD w O v d) : RepD w O (.agg cs) (.agg l)
  | sl (a : Option Addr) (len cap sz : Nat) (rows : List (List D)) (c : Nat → Nat → Value) (hl : len = rows.length) (hc : len ≤ cap)
      (hr : ∀ r ∈ rows, r.length = sz) (h1 : ∀ r ∈ rows, ∀ d ∈ r, d.one = true)
      (hm : ∀ (i j : Nat) (r : List D) (d : D), rows[i]? = some r → r[j]? = some d → ∃ ad, a = some ad ∧ ¬ O ad.block ∧ w.cell? (ad.add (i * sz + j)) = some (c i j))
      (hd : ∀ (i j : Nat) (r : List D) (d : D), rows[i]? = some r → r[j]? = some d → RepD w O (c i j) d) : RepD w O (.slice a len cap) (.sl sz rows)
theorem addr_add_block (a : Addr) (n : Nat) : (a.add n).block = a.block := by
  unfold Addr.add; split <;> rfl
theorem cell_lt {w : World} {a : Addr} {v : Value} (h : w.cell? a = some v) : a.block < w.heap.size := World.block_lt_of_cell? w a h
def isCells (w : World) (b : Nat) : Prop := ∃ cs T f, w.heap[b]? = some (.cells cs T f)
theorem cell_isCells {w : World} {a : Addr} {v : Value} (h : w.cell? a = some v) : isCells w a.block := by
  unfold World.cell? at h
  cases ho : w.heap[a.block]? with
  | none => simp [ho] at h
  | some o =>
    rw [ho] at h
    cases o with
    | cells cs T f => exact ⟨cs, T, f, ho⟩
    | _ => simp at h
theorem RepD.monoC {w w' : World} {O O' : Nat → Prop} {v : Value} {d : D} (h : RepD w O v d) (hO : ∀ b, b < w.heap.size → O' b → O b)
    (hw : ∀ b, b < w.heap.size → ¬ O b → isCells w b → w'.heap[b]? = w.heap[b]?) : RepD w' O' v d := by
  induction h with
  | int k n => exact .int k n
  | bool b => exact .bool b
  | str s => exact .str s
  | flt x => exact .flt x
  | nilp => exact .nilp
  | nilif => exact .nilif
  | agg cs l hs h1 _ ih => exact .agg cs l hs h1 ih
  | sl a len cap sz rows c hl hc hr h1 hm _ ih =>
    refine .sl a len cap sz rows c hl hc hr h1 (fun i j r d hi hj => ?_) ih
    obtain ⟨ad, rfl, ho, hcell⟩ := hm i j r d hi hj
    have hlt : ad.block < w.heap.size := by have := cell_lt hcell; rwa [addr_add_block] at this
    have hic : isCells w ad.block := by have := cell_isCells hcell; rwa [addr_add_block] at this
    refine ⟨ad, rfl, fun h' => ho (hO _ hlt h'), ?_⟩
    rw [World.cell?_of_block (w := w) (by rw [addr_add_block]; exact hw _ hlt ho hic)]
    exact hcell
theorem RepD.mono {w w' : World} {O O' : Nat → Prop} {v : Value} {d : D} (h : RepD w O v d) (hO : ∀ b, b < w.heap.size → O' b → O b)
    (hw : ∀ b, b < w.heap.size → ¬ O b → w'.heap[b]? = w.heap[b]?) : RepD w' O' v d := h.monoC hO fun b h1 h2 _ => hw b h1 h2
theorem RepD.oneCell {w : World} {O : Nat → Prop} {v : Value} {d : D} (h : RepD w O v d) (h1 : d.one = true) : v.oneCell' = true := by
  cases h <;> first | rfl | simp [D.one] at h1
inductive AV where
  | any
  | d (x : D)
  | vs (id lo n sz : Nat)
  | ptr (id off : Nat)
  | ep (id sz i off : Nat)
  | dp (l : List D)
  | dcut (sz : Nat) (rows : List (List D))
  | nilsl
  | fn (f : FuncId) (caps : List AV)
  | tup (l : List AV)
  | aggv (l : List AV)
  | when (b : Bool) (v : AV)
  | yl (id : Nat)
  | ifc (T : TypeId) (x : AV)
abbrev Env := List (Nat × AV)
def eget : Env → Nat → AV
  | [], _ => .any
  | (k, v) :: σ, t => bif Nat.beq k t then v else eget σ t
abbrev Kap := Nat → Option (Option Nat × Nat)
inductive RepA (κ : Kap) (w : World) (O : Nat → Prop) : Value → AV → Prop
  | any (v) : RepA κ w O v .any
  | d {v x} (h : RepD w O v x) : RepA κ w O v (.d x)
  | vs (ob : Option Nat) (cap : Nat) (p : Option Addr) (id lo n sz : Nat) (hk : κ id = some (ob, cap)) (hn : lo + n ≤ cap)
      (hp : lo < cap → p = ob.map fun b => ⟨b, lo * sz, none⟩) : RepA κ w O (.slice p n (cap - lo)) (.vs id lo n sz)
  | ptr (b cap id off : Nat) (hk : κ id = some (some b, cap)) : RepA κ w O (.pointer (some ⟨b, off, none⟩)) (.ptr id off)
  | ep (b cap id sz i off : Nat) (hk : κ id = some (some b, cap)) : RepA κ w O (.pointer (some ⟨b, i * sz + off, none⟩)) (.ep id sz i off)
  | dp (ad : Addr) (l : List D) (c : Nat → Value) (h1 : ∀ d ∈ l, d.one = true) (hm : ∀ (j : Nat) (d : D), l[j]? = some d → ¬ O ad.block ∧ w.cell? (ad.add j) = some (c j))
      (hd : ∀ (j : Nat) (d : D), l[j]? = some d → RepD w O (c j) d) : RepA κ w O (.pointer (some ad)) (.dp l)
  | dcut (a : Option Addr) (n sz : Nat) (rows : List (List D)) (h : RepD w O (.slice a n n) (.sl sz rows)) : RepA κ w O (.slice a n n) (.dcut sz rows)
  | nilsl : RepA κ w O (.slice none 0 0) .nilsl
  | fn (f : FuncId) (cs : Array Value) (caps : List AV) (hs : cs.size = caps.length)
      (h : ∀ (i : Nat) (v : Value) (x : AV), cs[i]? = some v → caps[i]? = some x → RepA κ w O v x) : RepA κ w O (.func (.func f) #[] cs) (.fn f caps)
  | tup (cs : Array Value) (l : List AV) (hs : cs.size = l.length)
      (h : ∀ (i : Nat) (v : Value) (x : AV), cs[i]? = some v → l[i]? = some x → RepA κ w O v x) : RepA κ w O (.tuple cs) (.tup l)
  | aggv (cs : Array Value) (l : List AV) (hs : cs.size = l.length) (h1 : ∀ v ∈ cs.toList, v.oneCell' = true)
      (h : ∀ (i : Nat) (v : Value) (x : AV), cs[i]? = some v → l[i]? = some x → RepA κ w O v x) : RepA κ w O (.agg cs) (.aggv l)
  | when (b : Bool) (v : Value) (x : AV) (h : b = true → RepA κ w O v x) (hu : b = false → v = undef) : RepA κ w O v (.when b x)
  | yl (b cap id : Nat) (hk : κ id = some (some b, cap)) : RepA κ w O (.func (.yield b) #[] #[]) (.yl id)
  | ifc (T : TypeId) (v : Value) (x : AV) (h : RepA κ w O v x) : RepA κ w O (.iface T v) (.ifc T x)
theorem RepA.monoC {κ κ' : Kap} {w w' : World} {O O' : Nat → Prop} {v : Value} {x : AV} (h : RepA κ w O v x) (hk : ∀ id y, κ id = some y → κ' id = some y)
    (hO : ∀ b, b < w.heap.size → O' b → O b) (hw : ∀ b, b < w.heap.size → ¬ O b → isCells w b → w'.heap[b]? = w.heap[b]?) : RepA κ' w' O' v x := by
  induction h with
  | any v => exact .any v
  | d h => exact .d (h.monoC hO hw)
  | vs ob cap p id lo n sz h1 hn hp => exact .vs ob cap p id lo n sz (hk _ _ h1) hn hp
  | ptr b cap id off h1 => exact .ptr b cap id off (hk _ _ h1)
  | ep b cap id sz i off h1 => exact .ep b cap id sz i off (hk _ _ h1)
  | dp ad l c h1 hm hd =>
    refine .dp ad l c h1 (fun j d hj => ?_) (fun j d hj => (hd j d hj).monoC hO hw)
    obtain ⟨ho, hc⟩ := hm j d hj
    have hlt : ad.block < w.heap.size := by have := cell_lt hc; rwa [addr_add_block] at this
    have hic : isCells w ad.block := by have := cell_isCells hc; rwa [addr_add_block] at this
    refine ⟨fun h' => ho (hO _ hlt h'), ?_⟩
    rw [World.cell?_of_block (w := w) (by rw [addr_add_block]; exact hw _ hlt ho hic)]
    exact hc
  | dcut a n sz rows h => exact .dcut a n sz rows (h.monoC hO hw)
  | nilsl => exact .nilsl
  | fn f cs caps hs _ ih => exact .fn f cs caps hs ih
  | tup cs l hs _ ih => exact .tup cs l hs ih
  | aggv cs l hs h1 _ ih => exact .aggv cs l hs h1 ih
  | when b v x _ hu ih => exact .when b v x ih hu
  | yl b cap id h1 => exact .yl b cap id (hk _ _ h1)
  | ifc T v x _ ih => exact .ifc T v x ih
theorem RepA.mono {κ κ' : Kap} {w w' : World} {O O' : Nat → Prop} {v : Value} {x : AV} (h : RepA κ w O v x) (hk : ∀ id y, κ id = some y → κ' id = some y)
    (hO : ∀ b, b < w.heap.size → O' b → O b) (hw : ∀ b, b < w.heap.size → ¬ O b → w'.heap[b]? = w.heap[b]?) : RepA κ' w' O' v x := h.monoC hk hO fun b h1 h2 _ => hw b h1 h2
inductive HO where
  | cells (l : List AV)
  | lst (sz : Nat) (rows : List (List D))
  | glob (b : Nat) (l : List Value)
  | cap (id c : Nat)
  | typ (id : Nat) (T : TypeId)
  | byt (l : List UInt8)
  | lsv (l : List AV)
  | loopr (σ : Env) (n : Nat) (ps : Array Tmp) (assign body : Code) (st : LoopState) (pe : Option Code)
abbrev Hp := List (Nat × HO)
theorem allocOld (w : World) (o : Obj) (i : Nat) (h : i < w.heap.size) : (w.alloc o).heap[i]? = w.heap[i]? := by
  show (w.heap.push o)[i]? = w.heap[i]?
  rw [Array.getElem?_push_lt h, Array.getElem?_eq_getElem h]
def SameT (w w' : World) (b : Nat) : Prop := ∀ cs T f, w.heap[b]? = some (.cells cs T f) → ∃ cs' f', w'.heap[b]? = some (.cells cs' T f')
theorem SameT.refl (w : World) (b : Nat) : SameT w w b := fun cs T f h => ⟨cs, f, h⟩
theorem SameT.of_eq {w w' : World} {b : Nat} (h : w'.heap[b]? = w.heap[b]?) : SameT w w' b := fun cs T f h1 => ⟨cs, f, h.trans h1⟩
theorem SameT.row (w : World) (b : Nat) (cs : Array Value) : SameT w (w.setRow b cs) b := fun old T f h => ⟨cs, f, setRow_heap w b old cs T f h⟩
theorem SameT.lt {w w' : World} (h : ∀ b, b < w.heap.size → w'.heap[b]? = w.heap[b]?) (b : Nat) : SameT w w' b := fun cs T f h1 => ⟨cs, f, (h b (Array.getElem?_eq_some_iff.1 h1).1).trans h1⟩
def Own (κ : Kap) (hs : Hp) (b : Nat) : Prop := ∃ id o c, (id, o) ∈ hs ∧ κ id = some (some b, c)
def HOk (κ : Kap) (w : World) (O : Nat → Prop) : HO → Option Nat × Nat → Prop
  | .cells l, (ob, T) => ∃ b cs, ob = some b ∧ w.heap[b]? = some (.cells cs T (0, 0)) ∧ cs.size = l.length ∧
      (∀ v ∈ cs.toList, v.oneCell' = true) ∧ ∀ (i : Nat) (v : Value) (x : AV), cs[i]? = some v → l[i]? = some x → RepA κ w O v x
  | .lst sz rows, (ob, cap) => rows.length ≤ cap ∧ cap ≤ maxLen ∧ 0 < sz ∧ (∀ r ∈ rows, r.length = sz) ∧ (∀ r ∈ rows, ∀ d ∈ r, d.one = true) ∧ (ob = none → cap = 0) ∧
      ∀ b, ob = some b → ∃ cs T, w.heap[b]? = some (.cells cs T (0, 0)) ∧ cs.size = cap * sz ∧
        ∀ (i j : Nat) (r : List D) (d : D), rows[i]? = some r → r[j]? = some d → ∃ v, cs[i * sz + j]? = some v ∧ RepD w O v d
  | .glob b l, (ob, _) => ob = none ∧ ¬ O b ∧ ∃ T f, w.heap[b]? = some (.cells l.toArray T f)
  | .cap id c, (ob, _) => ob = none ∧ ∃ ob', κ id = some (ob', c)
  | .typ id T, (ob, _) => ob = none ∧ ∃ b c cs f, κ id = some (some b, c) ∧ w.heap[b]? = some (.cells cs T f)
  | .byt l, (ob, cap) => ∃ b cs T f, ob = some b ∧ w.heap[b]? = some (.cells cs T f) ∧ cs.size = cap ∧ cap ≤ f.1 ∧ l.length ≤ cap ∧ ∀ (i : Nat) (c : UInt8), l[i]? = some c → cs[i]? = some (.int .u8 c.toNat)
  | .lsv l, (ob, cap) => l.length ≤ cap ∧ cap ≤ maxLen ∧ (ob = none → cap = 0) ∧ ∀ b, ob = some b → ∃ cs T, w.heap[b]? = some (.cells cs T (0, 0)) ∧ cs.size = cap ∧
      (∀ (i : Nat) (v : Value), i < l.length → cs[i]? = some v → v.oneCell' = true) ∧ ∀ (i : Nat) (v : Value) (x : AV), cs[i]? = some v → l[i]? = some x → RepA κ w O v x
  | .loopr σ n ps assign body st pe, (ob, _) => ∃ b fn tmps D, ob = some b ∧ w.heap[b]? = some (.loop { state := st, pending := pe, fn := fn, tmps := tmps, params := ps, assign := assign, body := body, defers := D }) ∧
      tmps.size = n ∧ ∀ t, RepA κ w O (tmps.getD t undef) (eget σ t)
structure HS (κ : Kap) (w : World) (hs : Hp) : Prop where
  nodup : (hs.map (·.1)).Nodup
  ok : ∀ id o, (id, o) ∈ hs → ∃ x, κ id = some x ∧ HOk κ w (Own κ hs) o x
  inj : ∀ id id' o o' b c c', (id, o) ∈ hs → (id', o') ∈ hs → κ id = some (some b, c) → κ id' = some (some b, c') → id = id'
  fresh : ∃ n, ∀ id, n ≤ id → κ id = none
def NeedDrawn : Prop := True
structure Ext (κ : Kap) (hs : Hp) (w : World) (κ' : Kap) (hs' : Hp) (w' : World) : Prop where
  kap : ∀ id x, κ id = some x → κ' id = some x
  size : w.heap.size ≤ w'.heap.size
  drawn : NeedDrawn → w.drawn ≤ w'.drawn
  os : w'.os = w.os
  tape : w'.tape = w.tape
  output : w'.output = w.output
  same : ∀ b, b < w.heap.size → ¬ Own κ hs b → w'.heap[b]? = w.heap[b]?
  own : ∀ b, b < w.heap.size → Own κ' hs' b → Own κ hs b
  ids : ∀ id o, (id, o) ∈ hs' → (∃ o', (id, o') ∈ hs) ∨ κ id = none
  ty : ∀ b, SameT w w' b
theorem Ext.refl (κ : Kap) (hs : Hp) (w : World) : Ext κ hs w κ hs w :=
  ⟨fun _ _ h => h, Nat.le_refl _, fun _ => Nat.le_refl _, rfl, rfl, rfl, fun _ _ _ => rfl, fun _ _ h => h, fun _ o h => .inl ⟨o, h⟩, SameT.refl w⟩
theorem Ext.trans {κ κ₁ κ₂ : Kap} {hs hs₁ hs₂ : Hp} {w w₁ w₂ : World} (a : Ext κ hs w κ₁ hs₁ w₁) (b : Ext κ₁ hs₁ w₁ κ₂ hs₂ w₂) : Ext κ hs w κ₂ hs₂ w₂ :=
  ⟨fun id x h => b.kap _ _ (a.kap _ _ h), Nat.le_trans a.size b.size, fun h => Nat.le_trans (a.drawn h) (b.drawn h), b.os.trans a.os, b.tape.trans a.tape, b.output.trans a.output,
   fun c hc ho => (b.same c (Nat.lt_of_lt_of_le hc a.size) fun h => ho (a.own c hc h)).trans (a.same c hc ho),
   fun c hc h => a.own c hc (b.own c (Nat.lt_of_lt_of_le hc a.size) h),
   fun id o h => (b.ids id o h).elim (fun ⟨o', h'⟩ => a.ids id o' h') fun h' => .inr (by
     cases hk : κ id with
     | none => rfl
     | some x => rw [a.kap id x hk] at h'; cases h'),
   fun c cs T f h => let ⟨_, _, h1⟩ := a.ty c cs T f h; b.ty c _ T _ h1⟩
theorem RepD.ext {κ κ' : Kap} {hs hs' : Hp} {w w' : World} {v : Value} {x : D} (e : Ext κ hs w κ' hs' w') (h : RepD w (Own κ hs) v x) : RepD w' (Own κ' hs') v x :=
  h.mono e.own e.same
theorem RepA.ext {κ κ' : Kap} {hs hs' : Hp} {w w' : World} {v : Value} {x : AV} (e : Ext κ hs w κ' hs' w') (h : RepA κ w (Own κ hs) v x) : RepA κ' w' (Own κ' hs') v x :=
  h.mono e.kap e.own e.same
theorem HOk.ext {κ κ' : Kap} {hs hs' : Hp} {w w' : World} {o : HO} {x : Option Nat × Nat} (e : Ext κ hs w κ' hs' w') (hb : ∀ b, x.1 = some b → w'.heap[b]? = w.heap[b]?)
    (h : HOk κ w (Own κ hs) o x) : HOk κ' w' (Own κ' hs') o x := by
  obtain ⟨ob, cap⟩ := x
  cases o with
  | cells l =>
    obtain ⟨b, cs, rfl, hw, hsz, h1, hr⟩ := h
    exact ⟨b, cs, rfl, (hb b rfl).trans hw, hsz, h1, fun i v x hi hx => (hr i v x hi hx).ext e⟩
  | lst sz rows =>
    obtain ⟨h0, h0', h1, h2, h3, h4, h5⟩ := h
    refine ⟨h0, h0', h1, h2, h3, h4, fun b hbe => ?_⟩
    obtain ⟨cs, T, hw, hsz, hr⟩ := h5 b hbe
    exact ⟨cs, T, (hb b hbe).trans hw, hsz, fun i j r d hi hj => let ⟨v, hv, hd⟩ := hr i j r d hi hj; ⟨v, hv, hd.ext e⟩⟩
  | glob b l =>
    obtain ⟨h0, h1, T, f, h2⟩ := h
    have hlt : b < w.heap.size := (Array.getElem?_eq_some_iff.1 h2).1
    exact ⟨h0, fun hn => h1 (e.own b hlt hn), T, f, (e.same b hlt h1).trans h2⟩
  | cap id c =>
    obtain ⟨h0, ob', h1⟩ := h
    exact ⟨h0, ob', e.kap _ _ h1⟩
  | typ id T =>
    obtain ⟨h0, b, c, cs, f, h1, h2⟩ := h
    obtain ⟨cs', f', h3⟩ := e.ty b cs T f h2
    exact ⟨h0, b, c, cs', f', e.kap _ _ h1, h3⟩
  | byt l =>
    obtain ⟨b, cs, T, f, rfl, hw, h1⟩ := h
    exact ⟨b, cs, T, f, rfl, (hb b rfl).trans hw, h1⟩
  | lsv l =>
    obtain ⟨h0, h0', h4, h5⟩ := h
    refine ⟨h0, h0', h4, fun b hbe => ?_⟩
    obtain ⟨cs, T, hw, hsz, h1, hr⟩ := h5 b hbe
    exact ⟨cs, T, (hb b hbe).trans hw, hsz, h1, fun i v x hi hx => (hr i v x hi hx).ext e⟩
  | loopr σ n ps assign body st pe =>
    obtain ⟨b, fn, tmps, D, rfl, hw, hsz, hr⟩ := h
    exact ⟨b, fn, tmps, D, rfl, (hb b rfl).trans hw, hsz, fun t => (hr t).ext e⟩
theorem HS.block_lt {κ : Kap} {w : World} {hs : Hp} (h : HS κ w hs) {id : Nat} {o : HO} {b c : Nat} (hm : (id, o) ∈ hs) (hk : κ id = some (some b, c)) : b < w.heap.size := by
  obtain ⟨x, hx, hok⟩ := h.ok id o hm
  rw [hk] at hx
  obtain rfl := Option.some.inj hx
  cases o with
  | cells l =>
    obtain ⟨b', cs, he, hw, _⟩ := hok
    obtain rfl := Option.some.inj he
    exact (Array.getElem?_eq_some_iff.1 hw).1
  | lst sz rows =>
    obtain ⟨cs, T, hw, _⟩ := hok.2.2.2.2.2.2 b rfl
    exact (Array.getElem?_eq_some_iff.1 hw).1
  | glob b' l => exact absurd hok.1 (by simp)
  | cap id' c' => exact absurd hok.1 (by simp)
  | typ id' T => exact absurd hok.1 (by simp)
  | byt l =>
    obtain ⟨b', cs, T, f, he, hw, _⟩ := hok
    obtain rfl := Option.some.inj he
    exact (Array.getElem?_eq_some_iff.1 hw).1
  | lsv l =>
    obtain ⟨cs, T, hw, _⟩ := hok.2.2.2 b rfl
    exact (Array.getElem?_eq_some_iff.1 hw).1
  | loopr σ n ps assign body st pe =>
    obtain ⟨b', fn, tmps, D, he, hw, _⟩ := hok
    obtain rfl := Option.some.inj he
    exact (Array.getElem?_eq_some_iff.1 hw).1
theorem HS.sub {κ : Kap} {w : World} {hs hs' : Hp} (h : HS κ w hs) (hn : (hs'.map (·.1)).Nodup) (hm : ∀ x ∈ hs', x ∈ hs) : HS κ w hs' ∧ Ext κ hs w κ hs' w := by
  have e : Ext κ hs w κ hs' w := ⟨fun _ _ h => h, Nat.le_refl _, fun _ => Nat.le_refl _, rfl, rfl, rfl, fun _ _ _ => rfl, fun b _ ⟨id, o, c, hi, hk⟩ => ⟨id, o, c, hm _ hi, hk⟩, fun id o h => .inl ⟨o, hm _ h⟩, SameT.refl w⟩
  refine ⟨⟨hn, fun id o hi => ?_, fun id id' o o' b c c' hi hi' => h.inj id id' o o' b c c' (hm _ hi) (hm _ hi'), h.fresh⟩, e⟩
  obtain ⟨x, hx, hok⟩ := h.ok id o (hm _ hi)
  exact ⟨x, hx, hok.ext e fun _ _ => rfl⟩
theorem HS.sublist {κ : Kap} {w : World} {hs hs' : Hp} (h : HS κ w hs) (hm : hs'.Sublist hs) : HS κ w hs' ∧ Ext κ hs w κ hs' w :=
  h.sub ((hm.map _).nodup h.nodup) (fun _ hx => hm.subset hx)
theorem HS.perm {κ : Kap} {w : World} {hs hs' : Hp} (h : HS κ w hs) (hm : hs'.Perm hs) : HS κ w hs' ∧ Ext κ hs w κ hs' w :=
  h.sub ((hm.map _).nodup_iff.2 h.nodup) (fun _ hx => hm.subset hx)
theorem HS.drew {κ : Kap} {w : World} {hs : Hp} (h : HS κ w hs) (n : Nat) (hn : w.drawn ≤ n) : HS κ { w with drawn := n } hs ∧ Ext κ hs w κ hs { w with drawn := n } := by
  have e : Ext κ hs w κ hs { w with drawn := n } := ⟨fun _ _ h => h, Nat.le_refl _, fun _ => hn, rfl, rfl, rfl, fun _ _ _ => rfl, fun b _ h => h, fun _ o h => .inl ⟨o, h⟩, fun b => .of_eq rfl⟩
  exact ⟨⟨h.nodup, fun id o hi => let ⟨x, hx, hok⟩ := h.ok id o hi; ⟨x, hx, hok.ext e fun _ _ => rfl⟩, h.inj, h.fresh⟩, e⟩
theorem HS.allocO {κ : Kap} {w : World} {hs : Hp} (h : HS κ w hs) (ob : Obj) (o : HO) (cap : Nat)
    (ho : ∀ κ' : Kap, ∀ id, κ' id = some (some w.heap.size, cap) → ∀ O : Nat → Prop, (∀ v x, RepA κ w (Own κ hs) v x → RepA κ' (w.alloc ob) O v x) →
      (∀ v x, RepD w (Own κ hs) v x → RepD (w.alloc ob) O v x) → HOk κ' (w.alloc ob) O o (some w.heap.size, cap)) :
    ∃ id κ', HS κ' (w.alloc ob) ((id, o) :: hs) ∧ Ext κ hs w κ' ((id, o) :: hs) (w.alloc ob) ∧ κ' id = some (some w.heap.size, cap) := by
  obtain ⟨n, hn⟩ := h.fresh
  let κ' : Kap := fun i => if i = n then some (some w.heap.size, cap) else κ i
  have hk : ∀ id x, κ id = some x → κ' id = some x := fun id x hx => by
    have : id ≠ n := fun he => by rw [he, hn n (Nat.le_refl _)] at hx; cases hx
    simp [κ', this, hx]
  have hnew : κ' n = some (some w.heap.size, cap) := by simp [κ']
  have hold : ∀ id, id ≠ n → κ' id = κ id := fun id hid => by simp [κ', hid]
  have hmem : ∀ id o, (id, o) ∈ hs → id ≠ n := fun id o hi he => by
    obtain ⟨x, hx, _⟩ := h.ok id o hi
    rw [he, hn n (Nat.le_refl _)] at hx; cases hx
  have e : Ext κ hs w κ' ((n, o) :: hs) (w.alloc ob) := by
    refine ⟨hk, by simp, fun _ => Nat.le_refl _, rfl, rfl, rfl, fun b hb _ => allocOld w _ b hb, fun b hb hown => ?_, fun id o' hi => by
      rcases List.mem_cons.1 hi with he | hi
      · obtain ⟨rfl, rfl⟩ := Prod.mk.inj he
        exact .inr (hn _ (Nat.le_refl _))
      · exact .inl ⟨_, hi⟩, SameT.lt fun b hb => allocOld w _ b hb⟩
    obtain ⟨id, o', c, hi, hkk⟩ := hown
    rcases List.mem_cons.1 hi with he | hi
    · obtain ⟨rfl, rfl⟩ := Prod.mk.inj he
      rw [hnew] at hkk
      have h2 := (Prod.mk.inj (Option.some.inj hkk)).1
      have := Option.some.inj h2; omega
    · exact ⟨id, o', c, hi, by rw [← hold id (hmem id o' hi)]; exact hkk⟩
  refine ⟨n, κ', ⟨?_, ?_, ?_, n + 1, fun id hid => ?_⟩, e, hnew⟩
  · rw [List.map_cons, List.nodup_cons]
    refine ⟨fun hi => ?_, h.nodup⟩
    obtain ⟨⟨id, o'⟩, hi, he⟩ := List.mem_map.1 hi
    exact hmem id o' hi he
  · intro id o' hi
    rcases List.mem_cons.1 hi with he | hi
    · obtain ⟨rfl, rfl⟩ := Prod.mk.inj he
      exact ⟨_, hnew, ho κ' _ hnew _ (fun v x hx => hx.ext e) (fun v x hx => hx.ext e)⟩
    · obtain ⟨x, hx, hok⟩ := h.ok id o' hi
      refine ⟨x, hk _ _ hx, hok.ext e fun b hb => allocOld w _ b (h.block_lt hi (c := x.2) ?_)⟩
      rw [hx]; rw [← hb]
  · intro id id' o₁ o₂ b c c' hi hi' h1 h2
    rcases List.mem_cons.1 hi with he | gi <;> rcases List.mem_cons.1 hi' with he' | gi'
    · obtain ⟨rfl, rfl⟩ := Prod.mk.inj he; obtain ⟨rfl, rfl⟩ := Prod.mk.inj he'; rfl
    · obtain ⟨rfl, rfl⟩ := Prod.mk.inj he
      rw [hold id' (hmem _ _ gi')] at h2
      have hlt := h.block_lt gi' h2
      rw [hnew] at h1
      have := Option.some.inj (Prod.mk.inj (Option.some.inj h1)).1; omega
    · obtain ⟨rfl, rfl⟩ := Prod.mk.inj he'
      rw [hold id (hmem _ _ gi)] at h1
      have hlt := h.block_lt gi h1
      rw [hnew] at h2
      have := Option.some.inj (Prod.mk.inj (Option.some.inj h2)).1; omega
    · rw [hold id (hmem _ _ gi)] at h1; rw [hold id' (hmem _ _ gi')] at h2
      exact h.inj id id' o₁ o₂ b c c' gi gi' h1 h2
  · have : id ≠ n := by omega
    rw [hold id this]; exact hn id (by omega)
theorem HS.alloc {κ : Kap} {w : World} {hs : Hp} (h : HS κ w hs) (cs : Array Value) (T : TypeId) (o : HO) (cap : Nat)
    (ho : ∀ κ' : Kap, ∀ id, κ' id = some (some w.heap.size, cap) → ∀ O : Nat → Prop, (∀ v x, RepA κ w (Own κ hs) v x → RepA κ' (w.alloc (.cells cs T)) O v x) →
      (∀ v x, RepD w (Own κ hs) v x → RepD (w.alloc (.cells cs T)) O v x) → HOk κ' (w.alloc (.cells cs T)) O o (some w.heap.size, cap)) :
    ∃ id κ', HS κ' (w.alloc (.cells cs T)) ((id, o) :: hs) ∧ Ext κ hs w κ' ((id, o) :: hs) (w.alloc (.cells cs T)) ∧ κ' id = some (some w.heap.size, cap) := h.allocO (.cells cs T) o cap ho
theorem HS.none {κ : Kap} {w : World} {hs : Hp} (h : HS κ w hs) (sz : Nat) (hz : 0 < sz) :
    ∃ id κ', HS κ' w ((id, .lst sz []) :: hs) ∧ Ext κ hs w κ' ((id, .lst sz []) :: hs) w ∧ κ' id = some (Option.none, 0) := by
  obtain ⟨n, hn⟩ := h.fresh
  let κ' : Kap := fun i => if i = n then some (Option.none, 0) else κ i
  have hk : ∀ id x, κ id = some x → κ' id = some x := fun id x hx => by
    have : id ≠ n := fun he => by rw [he, hn n (Nat.le_refl _)] at hx; cases hx
    simp [κ', this, hx]
  have hnew : κ' n = some (Option.none, 0) := by simp [κ']
  have hold : ∀ id, id ≠ n → κ' id = κ id := fun id hid => by simp [κ', hid]
  have hmem : ∀ id o, (id, o) ∈ hs → id ≠ n := fun id o hi he => by
    obtain ⟨x, hx, _⟩ := h.ok id o hi
    rw [he, hn n (Nat.le_refl _)] at hx; cases hx
  have hpart : ∀ id o b c, (id, o) ∈ (n, HO.lst sz []) :: hs → κ' id = some (some b, c) → (id, o) ∈ hs ∧ κ id = some (some b, c) := by
    intro id o b c hi hkk
    rcases List.mem_cons.1 hi with he | hi
    · obtain ⟨rfl, rfl⟩ := Prod.mk.inj he
      rw [hnew] at hkk; cases hkk
    · exact ⟨hi, by rw [← hold id (hmem _ _ hi)]; exact hkk⟩
  have e : Ext κ hs w κ' ((n, .lst sz []) :: hs) w :=
    ⟨hk, Nat.le_refl _, fun _ => Nat.le_refl _, rfl, rfl, rfl, fun _ _ _ => rfl, fun b hb ⟨id, o', c, hi, hkk⟩ => let ⟨h1, h2⟩ := hpart _ _ _ _ hi hkk; ⟨id, o', c, h1, h2⟩, fun id o' hi => by
      rcases List.mem_cons.1 hi with he | hi
      · obtain ⟨rfl, rfl⟩ := Prod.mk.inj he
        exact .inr (hn _ (Nat.le_refl _))
      · exact .inl ⟨_, hi⟩, SameT.refl w⟩
  refine ⟨n, κ', ⟨?_, ?_, ?_, n + 1, fun id hid => ?_⟩, e, hnew⟩
  · rw [List.map_cons, List.nodup_cons]
    refine ⟨fun hi => ?_, h.nodup⟩
    obtain ⟨⟨id, o'⟩, hi, he⟩ := List.mem_map.1 hi
    exact hmem id o' hi he
  · intro id o' hi
    rcases List.mem_cons.1 hi with he | hi
    · obtain ⟨rfl, rfl⟩ := Prod.mk.inj he
      exact ⟨_, hnew, Nat.le_refl _, Nat.zero_le _, hz, by simp, by simp, fun _ => rfl, fun b hb => by cases hb⟩
    · obtain ⟨x, hx, hok⟩ := h.ok id o' hi
      exact ⟨x, hk _ _ hx, hok.ext e fun b _ => rfl⟩
  · intro id id' o₁ o₂ b c c' hi hi' h1 h2
    obtain ⟨h3, h4⟩ := hpart _ _ _ _ hi h1
    obtain ⟨h5, h6⟩ := hpart _ _ _ _ hi' h2
    exact h.inj id id' o₁ o₂ b c c' h3 h5 h4 h6
  · have : id ≠ n := by omega
    rw [hold id this]; exact hn id (by omega)
theorem map_fst_set (hs : Hp) (k : Nat) (id : Nat) (o o' : HO) (hk : hs[k]? = some (id, o)) : (hs.set k (id, o')).map (·.1) = hs.map (·.1) := by
  apply List.ext_getElem?
  intro i
  simp only [List.getElem?_map, List.getElem?_set]
  split
  · subst_vars; split <;> simp_all
  · rfl
theorem own_set (κ : Kap) (hs : Hp) (k id : Nat) (o o' : HO) (hk : hs[k]? = some (id, o)) (b : Nat) : Own κ (hs.set k (id, o')) b ↔ Own κ hs b := by
  have key : ∀ i, (∃ o, (i, o) ∈ hs.set k (id, o')) ↔ ∃ o, (i, o) ∈ hs := by
    intro i
    have h1 : ∀ l : Hp, (∃ o, (i, o) ∈ l) ↔ i ∈ l.map (·.1) := fun l => by
      rw [List.mem_map]; exact ⟨fun ⟨o, ho⟩ => ⟨_, ho, rfl⟩, fun ⟨⟨i', o⟩, ho, he⟩ => ⟨o, by cases he; exact ho⟩⟩
    rw [h1, h1, map_fst_set hs k id o o' hk]
  constructor
  · rintro ⟨i, o₁, c, hi, hx⟩
    obtain ⟨o₂, h2⟩ := (key i).1 ⟨_, hi⟩
    exact ⟨i, o₂, c, h2, hx⟩
  · rintro ⟨i, o₁, c, hi, hx⟩
    obtain ⟨o₂, h2⟩ := (key i).2 ⟨_, hi⟩
    exact ⟨i, o₂, c, h2, hx⟩
theorem HS.write {κ : Kap} {w w' : World} {hs : Hp} (h : HS κ w hs) {k id : Nat} {o o' : HO} {b c : Nat} (hk : hs[k]? = some (id, o)) (hκ : κ id = some (some b, c))
    (hsize : w'.heap.size = w.heap.size) (hdr : w'.drawn = w.drawn) (hos : w'.os = w.os) (ht : w'.tape = w.tape) (hout : w'.output = w.output) (hoth : ∀ i, i ≠ b → w'.heap[i]? = w.heap[i]?)
    (ho : (∀ v x, RepA κ w (Own κ hs) v x → RepA κ w' (Own κ (hs.set k (id, o'))) v x) → (∀ v x, RepD w (Own κ hs) v x → RepD w' (Own κ (hs.set k (id, o'))) v x) →
      HOk κ w' (Own κ (hs.set k (id, o'))) o' (some b, c)) (hty : SameT w w' b := by first | exact SameT.refl _ _ | exact SameT.row _ _ _) :
    HS κ w' (hs.set k (id, o')) ∧ Ext κ hs w κ (hs.set k (id, o')) w' := by
  have hmem : (id, o) ∈ hs := List.mem_of_getElem? hk
  have hb : Own κ hs b := ⟨id, o, c, hmem, hκ⟩
  have e : Ext κ hs w κ (hs.set k (id, o')) w' :=
    ⟨fun _ _ h => h, by omega, fun _ => Nat.le_of_eq hdr.symm, hos, ht, hout, fun i _ hn => hoth i fun he => hn (he ▸ hb), fun i _ hi => (own_set κ hs k id o o' hk i).1 hi, fun i o₁ hi => by
      have h1 : i ∈ (hs.set k (id, o')).map (·.1) := List.mem_map.2 ⟨_, hi, rfl⟩
      rw [map_fst_set hs k id o o' hk] at h1
      obtain ⟨⟨i', o₂⟩, h2, h3⟩ := List.mem_map.1 h1
      exact .inl ⟨o₂, by cases h3; exact h2⟩, fun i => by
      by_cases hi : i = b
      · subst hi; exact hty
      · exact .of_eq (hoth i hi)⟩
  have hfst := map_fst_set hs k id o o' hk
  have hin : ∀ i o₁, (i, o₁) ∈ hs.set k (id, o') → i = id ∧ o₁ = o' ∨ i ≠ id ∧ (i, o₁) ∈ hs := by
    intro i o₁ hi
    obtain ⟨j, hj⟩ := List.getElem?_of_mem hi
    rw [List.getElem?_set] at hj
    split at hj
    · split at hj
      · obtain ⟨rfl, rfl⟩ := Prod.mk.inj (Option.some.inj hj); exact .inl ⟨rfl, rfl⟩
      · cases hj
    · rename_i hne
      refine .inr ⟨fun he => hne ?_, List.mem_of_getElem? hj⟩
      subst he
      have h1 : (hs.map (·.1))[j]? = some i := by rw [List.getElem?_map, hj]; rfl
      have h2 : (hs.map (·.1))[k]? = some i := by rw [List.getElem?_map, hk]; rfl
      exact ((List.getElem?_inj (List.getElem?_eq_some_iff.1 h2).1 h.nodup).1 (h2.trans h1.symm))
  refine ⟨⟨by rw [hfst]; exact h.nodup, fun i o₁ hi => ?_, fun i i' o₁ o₂ b' c₁ c₂ hi hi' h1 h2 => ?_, h.fresh⟩, e⟩
  · rcases hin i o₁ hi with ⟨rfl, rfl⟩ | ⟨hne, hi⟩
    · exact ⟨_, hκ, ho (fun v x hx => hx.ext e) (fun v x hx => hx.ext e)⟩
    · obtain ⟨x, hx, hok⟩ := h.ok i o₁ hi
      refine ⟨x, hx, hok.ext e fun b' hb' => hoth b' fun he => hne ?_⟩
      subst he
      exact h.inj i id o₁ o b' x.2 c hi hmem (by rw [hx, ← hb']) hκ
  · have g : ∀ i o₁, (i, o₁) ∈ hs.set k (id, o') → ∃ o₂, (i, o₂) ∈ hs := fun i o₁ hi => by
      rcases hin i o₁ hi with ⟨rfl, _⟩ | ⟨_, hi⟩
      · exact ⟨_, hmem⟩
      · exact ⟨_, hi⟩
    obtain ⟨_, g1⟩ := g i o₁ hi
    obtain ⟨_, g2⟩ := g i' o₂ hi'
    exact h.inj i i' _ _ b' c₁ c₂ g1 g2 h1 h2
end Go.Proofs.YtaegeaajhbfkgaaGreatDoorA
/- Statements on code over abstract states: sequence, branch, block, loop, region, call, return. -/
namespace Go.Proofs.YtaegeaajhbfkgaaGreatDoorA
open Go
set_option linter.unusedVariables false
set_option linter.unusedSimpArgs false
theorem eget_same (σ : Env) (t : Nat) (v : AV) : eget ((t, v) :: σ) t = v := by
  show (bif Nat.beq t t then v else eget σ t) = v
  rw [show Nat.beq t t = true from Nat.beq_refl t]; rfl
theorem eget_ne (σ : Env) {t u : Nat} (v : AV) (h : t ≠ u) : eget ((t, v) :: σ) u = eget σ u := by
  show (bif Nat.beq t u then v else eget σ u) = _
  rw [show Nat.beq t u = false from by
    cases hb : Nat.beq t u
    · rfl
    · exact absurd (Nat.eq_of_beq_eq_true hb) h]
  rfl
structure Nm where
  n : Nat
  B : Nat
  ro : Option Nat
def Marks (B : Nat) (κ : Kap) (hs : Hp) (w : World) (ds : List Deferred) : Prop :=
  B ≤ w.heap.size ∧ ds.Nodup ∧ ∀ d ∈ ds, ∃ D, d = { target := .collected D, args := #[] } ∧ B ≤ D ∧ w.heap[D]? = some (.deferred (some [])) ∧ ¬ Own κ hs D
theorem Marks.nil {B : Nat} (κ : Kap) (hs : Hp) {w : World} (h : B ≤ w.heap.size) : Marks B κ hs w [] := ⟨h, List.nodup_nil, fun d hd => by cases hd⟩
theorem Marks.ext {B : Nat} {κ κ' : Kap} {hs hs' : Hp} {w w' : World} {ds : List Deferred} (h : Marks B κ hs w ds) (e : Ext κ hs w κ' hs' w') : Marks B κ' hs' w' ds :=
  ⟨Nat.le_trans h.1 e.size, h.2.1, fun d hd => by
    obtain ⟨D, rfl, h1, h2, h3⟩ := h.2.2 d hd
    have hlt := (Array.getElem?_eq_some_iff.1 h2).1
    exact ⟨D, rfl, h1, (e.same D hlt h3).trans h2, fun h' => h3 (e.own D hlt h')⟩⟩
structure Sim (N : Nm) (κ : Kap) (hs : Hp) (w : World) (σ : Env) (a : Act) : Prop where
  heap : HS κ w hs
  size : a.tmps.size = N.n
  defers : Marks N.B κ hs w a.defers
  get : ∀ t, RepA κ w (Own κ hs) (a.tmps.getD t undef) (eget σ t)
theorem Sim.put {N : Nm} {κ κ' : Kap} {hs hs' : Hp} {w w' : World} {σ : Env} {a : Act} (s : Sim N κ hs w σ a) (e : Ext κ hs w κ' hs' w') (h : HS κ' w' hs')
    {t : Nat} {u : Value} {v : AV} (ht : t < N.n) (hv : RepA κ' w' (Own κ' hs') u v) : Sim N κ' hs' w' ((t, v) :: σ) (a.put (some t) u) := by
  refine ⟨h, by simp [Act.put, s.size], s.defers.ext e, fun i => ?_⟩
  by_cases hi : t = i
  · subst hi
    rw [eget_same]
    have : (a.put (some t) u).tmps.getD t undef = u := by simp [Act.put, s.size, ht]
    rw [this]; exact hv
  · rw [eget_ne σ v hi]
    have : (a.put (some t) u).tmps.getD i undef = a.tmps.getD i undef := by simp [Act.put, Array.getElem?_setIfInBounds_ne hi]
    rw [this]; exact (s.get i).ext e
theorem Sim.ext {N : Nm} {κ κ' : Kap} {hs hs' : Hp} {w w' : World} {σ : Env} {a : Act} (s : Sim N κ hs w σ a) (e : Ext κ hs w κ' hs' w') (h : HS κ' w' hs') :
    Sim N κ' hs' w' σ a := ⟨h, s.size, s.defers.ext e, fun i => (s.get i).ext e⟩
def ELe : Env → Env → Prop
  | [], _ => True
  | (t, v) :: σ', σ => eget σ t = v ∧ ELe σ' σ
theorem ELe.get {κ : Kap} {w : World} {O : Nat → Prop} {f : Nat → Value} : ∀ {σ' σ : Env}, ELe σ' σ → (∀ t, RepA κ w O (f t) (eget σ t)) → ∀ t, RepA κ w O (f t) (eget σ' t)
  | [], _, _, _, t => .any _
  | (k, v) :: σ', σ, h, hf, t => by
    by_cases hk : k = t
    · subst hk; rw [eget_same, ← h.1]; exact hf k
    · rw [eget_ne σ' v hk]; exact ELe.get h.2 hf t
def HLe (hs' hs : Hp) : Prop := (∀ x ∈ hs', x ∈ hs) ∧ ((hs.map (·.1)).Nodup → (hs'.map (·.1)).Nodup)
theorem HLe.refl (hs : Hp) : HLe hs hs := ⟨fun _ h => h, fun h => h⟩
theorem HLe.sub {hs' hs : Hp} (h : hs'.Sublist hs) : HLe hs' hs := ⟨fun _ hx => h.subset hx, fun hn => (h.map _).nodup hn⟩
theorem HLe.perm {hs' hs : Hp} (h : hs'.Perm hs) : HLe hs' hs := ⟨fun _ hx => h.subset hx, fun hn => (h.map _).nodup_iff.2 hn⟩
theorem HLe.trans {a b c : Hp} (h : HLe a b) (k : HLe b c) : HLe a c := ⟨fun x hx => k.1 x (h.1 x hx), fun hn => h.2 (k.2 hn)⟩
theorem HLe.skip {hs' hs : Hp} (x : Nat × HO) (h : HLe hs' hs) : HLe hs' (x :: hs) :=
  ⟨fun y hy => List.mem_cons_of_mem _ (h.1 y hy), fun hn => h.2 (List.nodup_cons.1 (by simpa using hn)).2⟩
theorem HLe.cons {hs' hs : Hp} (x : Nat × HO) (h : HLe hs' hs) : HLe (x :: hs') (x :: hs) := by
  refine ⟨fun y hy => ?_, fun hn => ?_⟩
  · rcases List.mem_cons.1 hy with rfl | hy
    · exact List.mem_cons_self
    · exact List.mem_cons_of_mem _ (h.1 y hy)
  · rw [List.map_cons, List.nodup_cons] at hn ⊢
    refine ⟨fun hm => hn.1 ?_, h.2 hn.2⟩
    obtain ⟨y, hy, he⟩ := List.mem_map.1 hm
    exact he ▸ List.mem_map_of_mem (h.1 y hy)
theorem HLe.cons' {hs' hs : Hp} {id : Nat} {o o' : HO} (ho : o' = o) (h : HLe hs' hs) : HLe ((id, o') :: hs') ((id, o) :: hs) := ho ▸ HLe.cons _ h
theorem Sim.le {N : Nm} {κ : Kap} {hs hs' : Hp} {w : World} {σ σ' : Env} {a : Act} (s : Sim N κ hs w σ a) (he : ELe σ' σ) (hh : HLe hs' hs) :
    Sim N κ hs' w σ' a ∧ Ext κ hs w κ hs' w := by
  obtain ⟨h1, h2⟩ := s.heap.sub (hh.2 s.heap.nodup) hh.1
  exact ⟨⟨h1, s.size, s.defers.ext h2, fun t => (he.get s.get t).ext h2⟩, h2⟩
inductive Xt where
  | normal
  | exit (id : Nat)
  | ret
def Xt.ex : Xt → Exit
  | .normal => .normal
  | .exit id => .exit id
  | .ret => .ret
abbrev Post := Xt → Env → Hp → Prop
def Con (N : Nm) (κ : Kap) (hs : Hp) (w : World) (Q : Post) : Exit → Act → World → Prop := fun e a' w' =>
  ∃ x κ' σ' hs', e = Xt.ex x ∧ Sim N κ' hs' w' σ' a' ∧ Ext κ hs w κ' hs' w' ∧ Q x σ' hs'
theorem Con.ext {N : Nm} {κ κ' : Kap} {hs hs' : Hp} {w w' : World} {Q : Post} (e : Ext κ hs w κ' hs' w') {x : Exit} {a : Act} {w₁ : World} (h : Con N κ' hs' w' Q x a w₁) :
    Con N κ hs w Q x a w₁ := by
  obtain ⟨y, κ₁, σ₁, hs₁, h1, h2, h3, h4⟩ := h
  exact ⟨y, κ₁, σ₁, hs₁, h1, h2, e.trans h3, h4⟩
def FR (ro : Option Nat) : Fence := { Fence.wide with round := ro }
def W (P : Program) (N : Nm) (c : Code) (Q : Post) (σ : Env) (hs : Hp) : Prop := ∀ κ a w, Sim N κ hs w σ a → c.wpIn (FR N.ro) 0 P (Con N κ hs w Q) a w
def Post.then (R : Env → Hp → Prop) (Q : Post) : Post
  | .normal => R
  | x => Q x
def Post.block (id : Nat) (Q : Post) : Post
  | .exit i => bif Nat.beq i id then Q .normal else Q (.exit i)
  | x => Q x
section rules
variable {P : Program} {N : Nm} {Q : Post} {σ : Env} {hs : Hp}
theorem W.mono {c : Code} {Q' : Post} (h : W P N c Q σ hs) (hq : ∀ x σ hs, Q x σ hs → Q' x σ hs) : W P N c Q' σ hs := fun κ a w s =>
  wpIn_mono (h κ a w s) fun _ _ _ ⟨y, κ₁, σ₁, hs₁, h1, h2, h3, h4⟩ => ⟨y, κ₁, σ₁, hs₁, h1, h2, h3, hq _ _ _ h4⟩
theorem W.le {c : Code} (σ' : Env) (hs' : Hp) (he : ELe σ' σ) (hh : HLe hs' hs) (h : W P N c Q σ' hs') : W P N c Q σ hs := fun κ a w s => by
  obtain ⟨s', e⟩ := s.le he hh
  exact wpIn_mono (h κ a w s') fun _ _ _ hc => hc.ext e
theorem W.heap {c : Code} (hs' : Hp) (hh : HLe hs' hs) (h : W P N c Q σ hs') : W P N c Q σ hs := fun κ a w s => by
  obtain ⟨h1, h2⟩ := s.heap.sub (hh.2 s.heap.nodup) hh.1
  exact wpIn_mono (h κ a w ⟨h1, s.size, s.defers.ext h2, fun t => (s.get t).ext h2⟩) fun _ _ _ hc => hc.ext h2
theorem erase_perm {α : Type} : ∀ (l : List α) (k : Nat) (x : α), l[k]? = some x → (x :: l.eraseIdx k).Perm l
  | [], k, x, h => by simp at h
  | y :: l, 0, x, h => by simp at h; subst h; exact .refl _
  | y :: l, k + 1, x, h => by
    have := erase_perm l k x (by simpa using h)
    exact (List.Perm.swap y x _).trans (this.cons y)
theorem W.front {c : Code} (k : Nat) {x : Nat × HO} (hk : hs[k]? = some x) (h : W P N c Q σ (x :: hs.eraseIdx k)) : W P N c Q σ hs :=
  W.heap _ (HLe.perm (erase_perm hs k x hk)) h
theorem W.skip (h : Q .normal σ hs) : W P N .skip Q σ hs := fun κ a w s => wpIn_skip ⟨.normal, κ, σ, hs, rfl, s, .refl _ _ _, h⟩
theorem W.exit {id : Nat} (h : Q (.exit id) σ hs) : W P N (.exit id) Q σ hs := fun κ a w s => wpIn_exit ⟨.exit id, κ, σ, hs, rfl, s, .refl _ _ _, h⟩
theorem W.ret (h : Q .ret σ hs) : W P N .ret Q σ hs := fun κ a w s => wpIn_ret ⟨.ret, κ, σ, hs, rfl, s, .refl _ _ _, h⟩
theorem W.seq {x y : Code} (h : W P N x (Post.then (fun σ hs => W P N y Q σ hs) Q) σ hs) : W P N (.seq x y) Q σ hs := fun κ a w s => by
  refine wpIn_seq (wpIn_mono (h κ a w s) ?_)
  rintro e a' w' ⟨t, κ₁, σ₁, hs₁, rfl, h2, h3, h4⟩
  cases t with
  | normal => exact wpIn_mono (h4 κ₁ a' w' h2) fun _ _ _ hc => hc.ext h3
  | exit id => exact ⟨_, κ₁, σ₁, hs₁, rfl, h2, h3, h4⟩
  | ret => exact ⟨_, κ₁, σ₁, hs₁, rfl, h2, h3, h4⟩
theorem W.seq_mid {x y : Code} (M : Env → Hp → Prop) (h : W P N x (Post.then M Q) σ hs) (hy : ∀ σ hs, M σ hs → W P N y Q σ hs) : W P N (.seq x y) Q σ hs :=
  W.seq (h.mono fun x σ hs hq => by cases x <;> first | exact hy _ _ hq | exact hq)
theorem W.block {id : Nat} {c : Code} (h : W P N c (Post.block id Q) σ hs) : W P N (.block id c) Q σ hs := fun κ a w s => by
  refine wpIn_block (wpIn_mono (h κ a w s) ?_)
  rintro e a' w' ⟨t, κ₁, σ₁, hs₁, rfl, h2, h3, h4⟩
  cases t with
  | normal => exact ⟨_, κ₁, σ₁, hs₁, rfl, h2, h3, h4⟩
  | ret => exact ⟨_, κ₁, σ₁, hs₁, rfl, h2, h3, h4⟩
  | exit i =>
    show (if i = id then Con N κ hs w Q .normal a' w' else Con N κ hs w Q (.exit i) a' w')
    have h5 : (bif Nat.beq i id then Q .normal else Q (.exit i)) σ₁ hs₁ := h4
    by_cases hi : i = id
    · rw [if_pos hi]; subst hi
      rw [show Nat.beq i i = true from Nat.beq_refl i] at h5
      exact ⟨.normal, κ₁, σ₁, hs₁, rfl, h2, h3, h5⟩
    · rw [if_neg hi]
      rw [show Nat.beq i id = false from by
        cases hb : Nat.beq i id
        · rfl
        · exact absurd (Nat.eq_of_beq_eq_true hb) hi] at h5
      exact ⟨.exit i, κ₁, σ₁, hs₁, rfl, h2, h3, h5⟩
def absConst : Value → AV
  | .int k n => .d (.int k n)
  | .bool b => .d (.bool b)
  | .string s => .d (.str s)
  | .slice none 0 0 => .nilsl
  | .pointer none => .d .nilp
  | .nilIface => .d .nilif
  | _ => .any
def oev (σ : Env) : Operand → AV
  | .tmp t => eget σ t
  | .const v => absConst v
  | .global _ => .any
  | .func f => .fn f []
theorem absConst_rep (κ : Kap) (w : World) (O : Nat → Prop) (v : Value) : RepA κ w O v (absConst v) := by
  unfold absConst
  split <;> first
    | exact .d (.int _ _)
    | exact .d (.bool _)
    | exact .d (.str _)
    | exact .nilsl
    | exact .d .nilp
    | exact .d .nilif
    | exact .any _
theorem Sim.oev {κ : Kap} {w : World} {a : Act} (s : Sim N κ hs w σ a) (x : Operand) : RepA κ w (Own κ hs) (a.eval x) (oev σ x) := by
  cases x with
  | tmp t => exact s.get t
  | const v => exact absConst_rep _ _ _ v
  | global g => exact .any _
  | func f => exact .fn _ _ _ rfl (fun i v x h => by simp at h)
theorem RepA.bool_inv {κ : Kap} {w : World} {O : Nat → Prop} {v : Value} {b : Bool} (h : RepA κ w O v (.d (.bool b))) : v = .bool b := by
  cases h with | d h => cases h; rfl
theorem RepA.int_inv {κ : Kap} {w : World} {O : Nat → Prop} {v : Value} {k : IntKind} {n : Int} (h : RepA κ w O v (.d (.int k n))) : v = .int k n := by
  cases h with | d h => cases h; rfl
theorem RepA.str_inv {κ : Kap} {w : World} {O : Nat → Prop} {v : Value} {s : ByteArray} (h : RepA κ w O v (.d (.str s))) : v = .string s := by
  cases h with | d h => cases h; rfl
theorem W.cond {c : Operand} {x y : Code} {b : Bool} (hc : oev σ c = .d (.bool b)) (ht : b = true → W P N x Q σ hs) (hf : b = false → W P N y Q σ hs) :
    W P N (.cond c x y) Q σ hs := fun κ a w s => by
  have h := s.oev c
  rw [hc] at h
  exact wpIn_cond_split h.bool_inv (fun hb => ht hb κ a w s) (fun hb => hf hb κ a w s)
theorem W.cond_t {c : Operand} {x y : Code} (hc : oev σ c = .d (.bool true)) (ht : W P N x Q σ hs) : W P N (.cond c x y) Q σ hs :=
  W.cond hc (fun _ => ht) (fun h => by cases h)
theorem W.cond_f {c : Operand} {x y : Code} (hc : oev σ c = .d (.bool false)) (ht : W P N y Q σ hs) : W P N (.cond c x y) Q σ hs :=
  W.cond hc (fun h => by cases h) (fun _ => ht)
theorem W.loop {ι : Type} {c : Code} (e : ι → Env) (H : ι → Hp) (I : ι → Prop) (μ : ι → Nat) (x₀ : ι) (h0 : I x₀) (hσ : ELe (e x₀) σ) (hh : HLe (H x₀) hs)
    (round : ∀ x, I x → W P N c (Post.then (fun σ' hs' => ∃ x', I x' ∧ μ x' < μ x ∧ ELe (e x') σ' ∧ HLe (H x') hs') Q) (e x) (H x)) : W P N (.loop c) Q σ hs := by
  intro κ a w s
  refine wpIn_loop_ghost (fun n a' w' => ∃ x κ', I x ∧ μ x = n ∧ Sim N κ' (H x) w' (e x) a' ∧ Ext κ hs w κ' (H x) w') (μ x₀) ?_ ?_
  · obtain ⟨s', e'⟩ := s.le hσ hh
    exact ⟨x₀, κ, h0, rfl, s', e'⟩
  · rintro n a' w' ⟨x, κ', hI, rfl, s', e'⟩
    refine wpIn_mono (round x hI κ' a' w' s') ?_
    rintro ex a₂ w₂ ⟨t, κ₂, σ₂, hs₂, rfl, s₂, e₂, hq⟩
    cases t with
    | normal =>
      obtain ⟨x', hI', hlt, hle, hhe⟩ := hq
      obtain ⟨s₃, e₃⟩ := s₂.le hle hhe
      exact ⟨μ x', hlt, x', κ₂, hI', rfl, s₃, (e'.trans e₂).trans e₃⟩
    | exit id => exact ⟨_, κ₂, σ₂, hs₂, rfl, s₂, e'.trans e₂, hq⟩
    | ret => exact ⟨_, κ₂, σ₂, hs₂, rfl, s₂, e'.trans e₂, hq⟩
theorem W.ghost {c : Code} (t sz : Nat) (hz : 0 < sz) (ht : eget σ t = .nilsl) (htN : Nat.blt t N.n = true) (h : ∀ id, W P N c Q ((t, .vs id 0 0 sz) :: σ) ((id, .lst sz []) :: hs)) : W P N c Q σ hs := by
  intro κ a w s
  obtain ⟨id, κ', h1, e, hk⟩ := s.heap.none sz hz
  have hv := s.get t
  rw [ht] at hv
  generalize hu : a.tmps.getD t undef = u at hv
  cases hv with
  | nilsl =>
    refine wpIn_mono (h id κ' a w ⟨h1, s.size, s.defers.ext e, fun i => ?_⟩) fun _ _ _ hc => hc.ext e
    by_cases hi : t = i
    · subst hi; rw [eget_same, hu]
      exact .vs _ _ _ id 0 0 sz hk (Nat.le_refl _) (fun h => absurd h (Nat.lt_irrefl _))
    · rw [eget_ne σ _ hi]; exact (s.get i).ext e
theorem W.freeze {c : Code} (t k : Nat) {id n sz : Nat} {rows : List (List D)} (ht : eget σ t = .vs id 0 n sz) (hk : hs[k]? = some (id, .lst sz rows)) (hn : n = rows.length)
    (h : W P N c Q ((t, .d (.sl sz rows)) :: σ) (hs.eraseIdx k)) : W P N c Q σ hs := by
  intro κ a w s
  obtain ⟨h1, e⟩ := s.heap.sublist (List.eraseIdx_sublist hs k)
  have hmem : (id, HO.lst sz rows) ∈ hs := List.mem_of_getElem? hk
  have hv := s.get t
  rw [ht] at hv
  generalize hu : a.tmps.getD t undef = u at hv
  cases hv with
  | vs ob cap p _ _ _ _ hkk hle hp =>
    refine wpIn_mono (h κ a w ⟨h1, s.size, s.defers.ext e, fun i => ?_⟩) fun _ _ _ hc => hc.ext e
    by_cases hi : t = i
    · subst hi; rw [eget_same, hu]
      obtain ⟨x, hx, hok⟩ := s.heap.ok id _ hmem
      rw [hkk] at hx
      obtain rfl := Option.some.inj hx
      obtain ⟨g0, _, g1, g2, g3, g4, g5⟩ := hok
      have hnot : ∀ b, ob = some b → ¬ Own κ (hs.eraseIdx k) b := by
        rintro b rfl ⟨id', o', c', hi', hk'⟩
        have : id' = id := s.heap.inj id' id o' _ b c' cap ((List.eraseIdx_sublist hs k).subset hi') hmem hk' hkk
        subst this
        have hnd := s.heap.nodup
        have h3 := ((erase_perm hs k _ hk).map (·.1)).nodup_iff.2 hnd
        rw [List.map_cons, List.nodup_cons] at h3
        exact h3.1 (List.mem_map.2 ⟨_, hi', rfl⟩)
      cases ob with
      | none =>
        have hc0 : cap = 0 := g4 rfl
        subst hc0
        have hr0 : rows = [] := List.eq_nil_of_length_eq_zero (by omega)
        subst hr0
        exact .d (.sl _ _ _ _ _ (fun _ _ => undef) hn (by simp at hn; omega) (by simp) (by simp) (by simp) (by simp))
      | some b =>
        obtain ⟨cs, T, hw, hsz, hr⟩ := g5 b rfl
        have hpp : rows ≠ [] → p = some ⟨b, 0, none⟩ := fun hne => by
          have h0 : 0 < rows.length := List.length_pos_iff.2 hne
          have := hp (by omega)
          simpa using this
        refine .d (.sl p n (cap - 0) sz rows (fun i j => cs.getD (i * sz + j) undef) hn (by omega) g2 g3 (fun i j r d hi hj => ?_) (fun i j r d hi hj => ?_))
        · obtain ⟨v, hv, _⟩ := hr i j r d hi hj
          have hne : rows ≠ [] := by rintro rfl; simp at hi
          refine ⟨_, hpp hne, hnot b rfl, ?_⟩
          have hadd : (⟨b, 0, none⟩ : Addr).add (i * sz + j) = ⟨b, i * sz + j, none⟩ := by unfold Addr.add; split <;> simp_all
          rw [hadd]
          simp [World.cell?, hw, hv]
        · obtain ⟨v, hv, hd⟩ := hr i j r d hi hj
          have : cs.getD (i * sz + j) undef = v := by simp [hv]
          rw [this]
          exact hd.mono (fun b _ ho => e.own b ‹_› ho) (fun _ _ _ => rfl)
    · rw [eget_ne σ _ hi]; exact (s.get i).ext e
end rules
def oWp (P : Program) (o : Oper) (a : Act) (w : World) (K : Act → World → Prop) (Q : Exit → Act → World → Prop) : Prop := o.uponIn Fence.wide 0 P a K Q ((execOp a.eval o).run P w)
theorem oWp_mono {P : Program} {o : Oper} {a : Act} {w : World} {K K' : Act → World → Prop} {Q : Exit → Act → World → Prop} (h : ∀ a w, K a w → K' a w) (hh : oWp P o a w K Q) : oWp P o a w K' Q := by
  unfold oWp at *
  generalize (execOp a.eval o).run P w = r at *
  cases r with
  | ok x w' =>
    cases x <;> simp only [Oper.uponIn] at hh ⊢ <;>
      first
        | exact h _ _ hh
        | exact ⟨hh.1, CallsIn.mono hh.2 (fun e w'' he => by cases e <;> first | exact h _ _ he | exact he)⟩
        | exact ⟨hh.1, RowsIn.mono hh.2 (fun _ _ he => h _ _ he)⟩
        | exact ⟨hh.1, RoundIn.mono hh.2 (fun e w'' he => by cases e <;> first | exact h _ _ he | exact he)⟩
  | halt x w' => cases x <;> simp only [Oper.uponIn] at hh ⊢ <;> exact hh
def noDefer (o : Oper) : Bool := match o.op with | .defer _ => false | _ => true
def ndOk (ro : Option Nat) (ops : Array Oper) : Bool := ro.isNone || ops.toList.all noDefer
theorem ndOk_at {ro : Option Nat} {ops : Array Oper} (h : ndOk ro ops = true) {k : Nat} {o : Oper} (hk : ops[k]? = some o) : ro = none ∨ noDefer o = true := by
  unfold ndOk at h
  rcases Bool.or_eq_true_iff.1 h with h | h
  · exact .inl (by simpa using h)
  · exact .inr (List.all_eq_true.1 h o (List.mem_of_getElem? (by simpa using hk)))
theorem oWp_in {P : Program} {ro : Option Nat} {o : Oper} {a : Act} {w : World} {K : Act → World → Prop} {Q : Exit → Act → World → Prop} (hn : ro = none ∨ noDefer o = true) (h : oWp P o a w K Q) : o.wpIn (FR ro) 0 P a w K Q := by
  refine ⟨fun _ _ => trivial, ?_⟩
  have hs : o.semAt (FR ro).round a.eval = execOp a.eval o := by
    rcases hn with rfl | hn
    · rfl
    · refine Oper.semAt_eq _ _ _ fun c hc => ?_
      unfold noDefer at hn; rw [hc] at hn; cases hn
  rw [hs]
  unfold oWp at h
  generalize (execOp a.eval o).run P w = r at *
  cases r with
  | ok x w' => cases x <;> exact h
  | halt x w' => cases x <;> exact h
def Quiet (P : Program) (N : Nm) (σ : Env) (hs : Hp) (o : Oper) (v : AV) : Prop :=
  ∀ κ a w, Sim N κ hs w σ a → ∀ (K : Act → World → Prop) (Q : Exit → Act → World → Prop),
    (∀ κ' w' u, HS κ' w' hs → Ext κ hs w κ' hs w' → RepA κ' w' (Own κ' hs) u v → K (a.put o.dst u) w') → oWp P o a w K Q
def Loud (P : Program) (N : Nm) (σ : Env) (hs : Hp) (o : Oper) (R : Env → Hp → Prop) : Prop :=
  ∀ κ a w, Sim N κ hs w σ a → ∀ (K : Act → World → Prop) (Q : Exit → Act → World → Prop),
    (∀ κ' a' w' σ' hs', Sim N κ' hs' w' σ' a' → Ext κ hs w κ' hs' w' → R σ' hs' → K a' w') → oWp P o a w K Q
def putE (d : Option Tmp) (v : AV) (σ : Env) : Env := match d with | some t => (t, v) :: σ | none => σ
def dstOk (N : Nm) (d : Option Tmp) : Bool := match d with | some t => Nat.blt t N.n | none => true
theorem Sim.putO {N : Nm} {κ κ' : Kap} {hs hs' : Hp} {w w' : World} {σ : Env} {a : Act} (s : Sim N κ hs w σ a) (e : Ext κ hs w κ' hs' w') (h : HS κ' w' hs')
    {d : Option Tmp} {u : Value} {v : AV} (ht : dstOk N d = true) (hv : RepA κ' w' (Own κ' hs') u v) : Sim N κ' hs' w' (putE d v σ) (a.put d u) := by
  cases d with
  | none => exact s.ext e h
  | some t => exact s.put e h (by simpa [dstOk, Nat.blt_eq] using ht) hv
theorem Quiet.loud {P : Program} {N : Nm} {σ : Env} {hs : Hp} {o : Oper} {v : AV} (h : Quiet P N σ hs o v) (hd : dstOk N o.dst = true) :
    Loud P N σ hs o (fun σ' hs' => σ' = putE o.dst v σ ∧ hs' = hs) := fun κ a w s K Q hK =>
  h κ a w s K Q fun κ' w' u h1 e hv => hK κ' _ w' _ hs (s.putO e h1 hd hv) e ⟨rfl, rfl⟩
def wpL (P : Program) (ops : Array Oper) (Q : Exit → Act → World → Prop) : List Oper → Act → World → Prop
  | [], a, w => Q .normal a w
  | o :: l, a, w => if Region.wanted o (yielded ops a.tmps) then oWp P o a w (wpL P ops Q l) Q else wpL P ops Q l (a.put o.dst undef) w
theorem wpL_ops {P : Program} {ro : Option Nat} {ops : Array Oper} {Q : Exit → Act → World → Prop} (hnd : ndOk ro ops = true) : ∀ (l : List Oper) (k : Nat) (a : Act) (w : World), ops.toList.drop k = l → wpL P ops Q l a w →
    wpOpsIn (FR ro) 0 P ops Q (List.range' k l.length) a w
  | [], k, a, w, _, h => h
  | o :: l, k, a, w, hd, h => by
    have hk : ops[k]? = some o := by
      have : (ops.toList.drop k)[0]? = some o := by rw [hd]; rfl
      simpa using this
    have hd' : ops.toList.drop (k + 1) = l := by rw [← List.tail_drop, hd]; rfl
    have ih := fun a w => wpL_ops (P := P) (Q := Q) hnd l (k + 1) a w hd'
    simp only [List.length_cons, List.range'_succ, wpOpsIn, hk]
    simp only [wpL] at h
    split
    · rename_i hw
      rw [if_pos hw] at h
      exact oWp_in (ndOk_at hnd hk) (oWp_mono (fun a w => ih a w) h)
    · rename_i hw
      rw [if_neg hw] at h
      exact ⟨fun _ _ => trivial, ih _ _ h⟩
def XOps (P : Program) (N : Nm) (ops : Array Oper) (l : List Oper) (σ : Env) (hs : Hp) (R : Env → Hp → Prop) : Prop :=
  ∀ κ a w, Sim N κ hs w σ a → ∀ (Q : Exit → Act → World → Prop),
    (∀ κ' a' w' σ' hs', Sim N κ' hs' w' σ' a' → Ext κ hs w κ' hs' w' → R σ' hs' → Q .normal a' w') → wpL P ops Q l a w
section regions
variable {P : Program} {N : Nm} {Q : Post} {σ : Env} {hs : Hp} {ops : Array Oper} {l : List Oper} {R : Env → Hp → Prop}
theorem W.region {id : Nat} (h : XOps P N ops ops.toList σ hs (fun σ' hs' => Q .normal σ' hs')) (hnd : ndOk N.ro ops = true := by rfl) : W P N (.region id ops false) Q σ hs := fun κ a w s => by
  refine wpIn_region ?_
  have := wpL_ops (P := P) hnd (ops := ops) (Q := Con N κ hs w Q) ops.toList 0 a w rfl
    (h κ a w s _ fun κ' a' w' σ' hs' s' e hr => ⟨.normal, κ', σ', hs', rfl, s', e, hr⟩)
  rwa [Array.length_toList, ← List.range_eq_range'] at this
theorem W.reg {id : Nat} {y : Code} (h : XOps P N ops ops.toList σ hs (fun σ' hs' => W P N y Q σ' hs')) (hnd : ndOk N.ro ops = true := by rfl) : W P N (.seq (.region id ops false) y) Q σ hs :=
  W.seq (W.region h hnd)
theorem XOps.nil (h : R σ hs) : XOps P N ops [] σ hs R := fun κ a w s Q hQ => hQ κ a w σ hs s (.refl _ _ _) h
theorem XOps.loud {o : Oper} {R' : Env → Hp → Prop} (hg : o.guard = none) (h : Loud P N σ hs o R') (hl : ∀ σ' hs', R' σ' hs' → XOps P N ops l σ' hs' R) : XOps P N ops (o :: l) σ hs R := by
  intro κ a w s Q hQ
  have hw : Region.wanted o (yielded ops a.tmps) = true := by simp [Region.wanted, hg]
  simp only [wpL, hw, if_true]
  refine h κ a w s _ Q fun κ' a' w' σ' hs' s' e hr => ?_
  exact hl σ' hs' hr κ' a' w' s' Q fun κ₂ a₂ w₂ σ₂ hs₂ s₂ e₂ h₂ => hQ κ₂ a₂ w₂ σ₂ hs₂ s₂ (e.trans e₂) h₂
theorem XOps.q {o : Oper} {v : AV} (hg : o.guard = none) (h : Quiet P N σ hs o v) (hd : dstOk N o.dst = true) (hl : XOps P N ops l (putE o.dst v σ) hs R) : XOps P N ops (o :: l) σ hs R :=
  XOps.loud hg (h.loud hd) (by rintro _ _ ⟨rfl, rfl⟩; exact hl)
theorem XOps.g {o oj : Oper} {v : AV} {j t : Nat} {b want : Bool} (hg : o.guard = some (j, want)) (hj : ops[j]? = some oj) (hjd : oj.dst = some t) (hb : eget σ t = .d (.bool b)) (htN : Nat.blt t N.n = true)
    (h : (b == want) = true → Quiet P N σ hs o v) (hd : dstOk N o.dst = true) (hl : XOps P N ops l (putE o.dst (.when (b == want) v) σ) hs R) : XOps P N ops (o :: l) σ hs R := by
  intro κ a w s Q hQ
  have hv := s.get t
  rw [hb] at hv
  have htl : t < a.tmps.size := by rw [s.size]; simpa [Nat.blt_eq] using htN
  have hv2 := hv.bool_inv
  have hy : yielded ops a.tmps j = some b := by
    have hv3 : a.tmps[t]? = some (.bool b) := by
      rw [Array.getElem?_eq_getElem htl]
      rw [show a.tmps.getD t undef = a.tmps[t] from by simp [htl]] at hv2
      rw [hv2]
    simp [yielded, hj, hjd, hv3]
  have hw : Region.wanted o (yielded ops a.tmps) = (b == want) := by
    simp only [Region.wanted, hg, hy]
    cases b <;> cases want <;> rfl
  simp only [wpL, hw]
  cases hbw : (b == want) with
  | true =>
    rw [if_pos rfl]
    refine h hbw κ a w s _ Q fun κ' w' u h1 e hu => ?_
    refine hl κ' _ w' (s.putO e h1 hd (.when _ _ _ (fun _ => hu) fun h => by rw [hbw] at h; cases h)) Q fun κ₂ a₂ w₂ σ₂ hs₂ s₂ e₂ h₂ => hQ κ₂ a₂ w₂ σ₂ hs₂ s₂ (e.trans e₂) h₂
  | false =>
    rw [if_neg (by simp)]
    exact hl κ _ w (s.putO (.refl _ _ _) s.heap hd (.when _ _ _ (fun h => by rw [hbw] at h; cases h) fun _ => rfl)) Q hQ
theorem XOps.gw {o oj : Oper} {v : AV} {j t : Nat} {g0 b want : Bool} (hg : o.guard = some (j, want)) (hj : ops[j]? = some oj) (hjd : oj.dst = some t) (hb : eget σ t = .when g0 (.d (.bool b))) (htN : Nat.blt t N.n = true)
    (h : (g0 && (b == want)) = true → Quiet P N σ hs o v) (hd : dstOk N o.dst = true) (hl : XOps P N ops l (putE o.dst (.when (g0 && (b == want)) v) σ) hs R) : XOps P N ops (o :: l) σ hs R := by
  intro κ a w s Q hQ
  have hv := s.get t
  rw [hb] at hv
  have htl : t < a.tmps.size := by rw [s.size]; simpa [Nat.blt_eq] using htN
  have hv3 : a.tmps[t]? = some (a.tmps.getD t undef) := by rw [Array.getElem?_eq_getElem htl]; simp [htl]
  have hw : Region.wanted o (yielded ops a.tmps) = (g0 && (b == want)) := by
    generalize a.tmps.getD t undef = u at hv hv3
    cases hv with
    | when _ _ _ h1 h2 =>
      cases g0 with
      | true =>
        obtain rfl := (h1 rfl).bool_inv
        have hy : yielded ops a.tmps j = some b := by simp [yielded, hj, hjd, hv3]
        simp only [Region.wanted, hg, hy]
        cases b <;> cases want <;> rfl
      | false =>
        obtain rfl := h2 rfl
        have hy : yielded ops a.tmps j = none := by simp [yielded, hj, hjd, hv3, undef]
        simp only [Region.wanted, hg, hy]
        rfl
  simp only [wpL, hw]
  cases hbw : (g0 && (b == want)) with
  | true =>
    rw [if_pos rfl]
    refine h hbw κ a w s _ Q fun κ' w' u h1 e hu => ?_
    refine hl κ' _ w' (s.putO e h1 hd (.when _ _ _ (fun _ => hu) fun h => by rw [hbw] at h; cases h)) Q fun κ₂ a₂ w₂ σ₂ hs₂ s₂ e₂ h₂ => hQ κ₂ a₂ w₂ σ₂ hs₂ s₂ (e.trans e₂) h₂
  | false =>
    rw [if_neg (by simp)]
    exact hl κ _ w (s.putO (.refl _ _ _) s.heap hd (.when _ _ _ (fun h => by rw [hbw] at h; cases h) fun _ => rfl)) Q hQ
theorem Quiet.open {o : Oper} {v x : AV} {g : Bool} (t : Nat) (hg : g = true) (ht : eget σ t = .when g x) (h : Quiet P N ((t, x) :: σ) hs o v) : Quiet P N σ hs o v :=
  fun κ a w s K Q hK => h κ a w ⟨s.heap, s.size, s.defers, fun i => by
    by_cases hi : t = i
    · subst hi
      rw [eget_same]
      have hv := s.get t
      rw [ht] at hv
      generalize a.tmps.getD t undef = u at hv
      cases hv with | when _ _ _ h _ => exact h hg
    · rw [eget_ne σ _ hi]; exact s.get i⟩ K Q hK
end regions
def AC (P : Program) (f : FuncId) (args : List AV) (hs : Hp) (R : AV → Hp → Prop) : Prop :=
  ∀ κ vals w, HS κ w hs → vals.size = args.length → (∀ (i : Nat) (v : Value) (x : AV), vals[i]? = some v → args[i]? = some x → RepA κ w (Own κ hs) v x) →
    Calls P f vals w fun e w' => ∃ κ' hs' v x, e = .returned v ∧ HS κ' w' hs' ∧ Ext κ hs w κ' hs' w' ∧ RepA κ' w' (Own κ' hs') v x ∧ R x hs'
theorem AC.mono {P : Program} {f : FuncId} {args : List AV} {hs : Hp} {R R' : AV → Hp → Prop} (h : AC P f args hs R) (hr : ∀ x hs', R x hs' → R' x hs') : AC P f args hs R' :=
  fun κ vals w h1 h2 h3 => (h κ vals w h1 h2 h3).mono fun _ _ ⟨κ', hs', v, x, a, b, c, d, e⟩ => ⟨κ', hs', v, x, a, b, c, d, hr _ _ e⟩
def envOf : List AV → Nat → Env
  | [], _ => []
  | x :: l, k => (k, x) :: envOf l (k + 1)
theorem envOf_get : ∀ (l : List AV) (k t : Nat), eget (envOf l k) t = .any ∨ ∃ i x, t = k + i ∧ l[i]? = some x ∧ eget (envOf l k) t = x
  | [], _, _ => .inl rfl
  | y :: l, k, t => by
    by_cases hk : k = t
    · subst hk
      exact .inr ⟨0, y, rfl, rfl, by rw [envOf, eget_same]⟩
    · rw [envOf, eget_ne _ _ hk]
      rcases envOf_get l (k + 1) t with h | ⟨i, x, rfl, h1, h2⟩
      · exact .inl h
      · exact .inr ⟨i + 1, x, by omega, by simpa using h1, h2⟩
def slotsOf : List ResultVar → Env → Option (List AV)
  | [], _ => some []
  | .tmp t :: rs, σ => match slotsOf rs σ with | some l => some (eget σ t :: l) | none => none
  | .cell _ _ :: _, _ => none
def oneOf : List AV → AV
  | [x] => x
  | l => .tup l
def resOf (rs : List ResultVar) (σ : Env) : Option AV := match slotsOf rs σ with | some l => some (oneOf l) | none => none
def resSem (tmps : Array Value) : ResultVar → Sem Value
  | .tmp t => pure (tmps.getD t undef)
  | .cell a t => do loadVar t (← asAddr (tmps.getD a undef))
theorem results_eq (fn : Func) (tmps : Array Value) : results fn tmps = (fn.results.mapM (resSem tmps)) >>= fun vs => pure (if h : vs.size = 1 then vs[0] else .tuple vs) := rfl
theorem slots_run (P : Program) (w : World) (tmps : Array Value) : ∀ (rs : List ResultVar) (σ : Env) (xs : List AV), slotsOf rs σ = some xs →
    ∃ vs : List Value, (rs.mapM (resSem tmps)).run P w = .ok vs w ∧ vs.length = xs.length ∧
      ∀ (i : Nat) (v : Value) (x : AV), vs[i]? = some v → xs[i]? = some x → ∃ t, v = tmps.getD t undef ∧ x = eget σ t
  | [], σ, xs, h => by
    simp [slotsOf] at h; subst h
    exact ⟨[], rfl, rfl, by simp⟩
  | .cell a t :: rs, σ, xs, h => by simp [slotsOf] at h
  | .tmp t :: rs, σ, xs, h => by
    simp only [slotsOf] at h
    cases hy : slotsOf rs σ with
    | none => rw [hy] at h; cases h
    | some ys =>
      rw [hy] at h
      obtain rfl := Option.some.inj h
      obtain ⟨vs, h1, h2, h3⟩ := slots_run P w tmps rs σ ys hy
      refine ⟨tmps.getD t undef :: vs, ?_, by simp [h2], ?_⟩
      · rw [List.mapM_cons, Sem.run_bind, show resSem tmps (.tmp t) = pure (tmps.getD t undef) from rfl, Sem.run_pure, Result.andThen_ok, Sem.run_bind, h1]
        rfl
      · intro i v x hi hx
        cases i with
        | zero => exact ⟨t, (Option.some.inj hi).symm, (Option.some.inj hx).symm⟩
        | succ i => exact h3 i v x (by simpa using hi) (by simpa using hx)
theorem results_run {P : Program} {fn : Func} {N : Nm} {κ : Kap} {hs : Hp} {w : World} {σ : Env} {a : Act} {x : AV} (s : Sim N κ hs w σ a) (hx : resOf fn.results.toList σ = some x) :
    ∃ v, (results fn a.tmps).run P w = .ok v w ∧ RepA κ w (Own κ hs) v x := by
  unfold resOf at hx
  cases hxs : slotsOf fn.results.toList σ with
  | none => rw [hxs] at hx; cases hx
  | some xs =>
    rw [hxs] at hx
    obtain rfl := Option.some.inj hx
    obtain ⟨vs, h1, h2, h3⟩ := slots_run P w a.tmps _ σ xs hxs
    have h4 : (fn.results.mapM (resSem a.tmps)).run P w = .ok vs.toArray w := by
      rw [Array.mapM_eq_mapM_toList, Sem.run_map, h1]; rfl
    have h5 : ∀ (i : Nat) (v : Value) (x : AV), vs[i]? = some v → xs[i]? = some x → RepA κ w (Own κ hs) v x := fun i v x hi hx => by
      obtain ⟨t, rfl, rfl⟩ := h3 i v x hi hx
      exact s.get t
    have tupled : vs.length ≠ 1 → RepA κ w (Own κ hs) (.tuple vs.toArray) (.tup xs) := fun _ =>
      .tup _ _ (by simpa using h2) (fun i v x hi hx => h5 i v x (by simpa using hi) hx)
    rw [results_eq, Sem.run_bind, h4]
    show ∃ v, Result.ok (if h : vs.toArray.size = 1 then vs.toArray[0] else .tuple vs.toArray) w = .ok v w ∧ _
    match xs, vs, h2 with
    | [], [], _ => exact ⟨_, rfl, tupled (by simp)⟩
    | [x], [v], _ => exact ⟨v, rfl, h5 0 v x rfl rfl⟩
    | x :: y :: xs, v :: u :: vs, _ => exact ⟨_, by rw [dif_neg (by simp)], tupled (by simp)⟩
theorem HS.mark {κ : Kap} {w : World} {hs : Hp} (h : HS κ w hs) {D : Nat} {o o' : Obj} (hD : w.heap[D]? = some o) (hc : ¬ isCells w D) (hO : ¬ Own κ hs D) :
    HS κ (w.putObj D o') hs ∧ ∀ v x, RepA κ w (Own κ hs) v x → RepA κ (w.putObj D o') (Own κ hs) v x := by
  have hr : ∀ b, b < w.heap.size → ¬ Own κ hs b → isCells w b → (w.putObj D o').heap[b]? = w.heap[b]? := fun b _ _ hb => World.putObj_heap_other fun e => hc (e ▸ hb)
  have hA : ∀ v x, RepA κ w (Own κ hs) v x → RepA κ (w.putObj D o') (Own κ hs) v x := fun v x hx => hx.monoC (fun _ _ h => h) (fun _ _ h => h) hr
  have hDd : ∀ v x, RepD w (Own κ hs) v x → RepD (w.putObj D o') (Own κ hs) v x := fun v x hx => hx.monoC (fun _ _ h => h) hr
  refine ⟨⟨h.nodup, fun id ob hi => ?_, h.inj, h.fresh⟩, hA⟩
  obtain ⟨⟨bb, cap⟩, hx, hok⟩ := h.ok id ob hi
  have hb : ∀ b, bb = some b → (w.putObj D o').heap[b]? = w.heap[b]? := fun b hb => World.putObj_heap_other fun e => hO ⟨id, ob, cap, hi, by rw [hx, hb, e]⟩
  refine ⟨_, hx, ?_⟩
  cases ob with
  | cells l =>
    obtain ⟨b, cs, rfl, hw, hsz, h1, hr⟩ := hok
    exact ⟨b, cs, rfl, (hb b rfl).trans hw, hsz, h1, fun i v x hi hx => hA _ _ (hr i v x hi hx)⟩
  | lst sz rows =>
    obtain ⟨h0, h0', h1, h2, h3, h4, h5⟩ := hok
    refine ⟨h0, h0', h1, h2, h3, h4, fun b hbe => ?_⟩
    obtain ⟨cs, T, hw, hsz, hr⟩ := h5 b hbe
    exact ⟨cs, T, (hb b hbe).trans hw, hsz, fun i j r d hi hj => let ⟨v, hv, hd⟩ := hr i j r d hi hj; ⟨v, hv, hDd _ _ hd⟩⟩
  | glob b l =>
    obtain ⟨h0, h1, T, f, h2⟩ := hok
    have hne : b ≠ D := fun e => hc (e ▸ (⟨_, T, f, h2⟩ : isCells w b))
    exact ⟨h0, h1, T, f, (World.putObj_heap_other hne).trans h2⟩
  | cap id c => exact hok
  | typ id T =>
    obtain ⟨h0, b, c, cs, f, h1, h2⟩ := hok
    have hne : b ≠ D := fun e => hc (e ▸ (⟨cs, T, f, h2⟩ : isCells w b))
    exact ⟨h0, b, c, cs, f, h1, (World.putObj_heap_other hne).trans h2⟩
  | byt l =>
    obtain ⟨b, cs, T, f, rfl, hw, h1⟩ := hok
    exact ⟨b, cs, T, f, rfl, (hb b rfl).trans hw, h1⟩
  | lsv l =>
    obtain ⟨h0, h0', h4, h5⟩ := hok
    refine ⟨h0, h0', h4, fun b hbe => ?_⟩
    obtain ⟨cs, T, hw, hsz, h1, hr⟩ := h5 b hbe
    exact ⟨cs, T, (hb b hbe).trans hw, hsz, h1, fun i v x hi hx => hA _ _ (hr i v x hi hx)⟩
  | loopr σ n ps assign body st pe =>
    obtain ⟨b, fn, tmps, D, rfl, hw, hsz, hr⟩ := hok
    exact ⟨b, fn, tmps, D, rfl, (hb b rfl).trans hw, hsz, fun t => hA _ _ (hr t)⟩
theorem Ext.mark {κ₀ κ : Kap} {hs₀ hs : Hp} {w₀ w : World} (e : Ext κ₀ hs₀ w₀ κ hs w) {D : Nat} (o' : Obj) (hD : w₀.heap.size ≤ D) : Ext κ₀ hs₀ w₀ κ hs (w.putObj D o') :=
  ⟨e.kap, by simpa using e.size, e.drawn, e.os, e.tape, e.output, fun b hb ho => (World.putObj_heap_other (by omega)).trans (e.same b hb ho), e.own, e.ids, fun b cs T f h => by
    obtain ⟨cs', f', h1⟩ := e.ty b cs T f h
    have := (Array.getElem?_eq_some_iff.1 h).1
    exact ⟨cs', f', (World.putObj_heap_other (by omega)).trans h1⟩⟩
theorem leave_marks {P : Program} {fn : Func} {R : Ending → World → Prop} {κ₀ κ : Kap} {hs₀ hs : Hp} {w₀ : World} {σ : Env} {tmps : Array Value} {B : Nat} (hB : w₀.heap.size ≤ B)
    (F : ∀ w, HS κ w hs → Ext κ₀ hs₀ w₀ κ hs w → (∀ t, RepA κ w (Own κ hs) (tmps.getD t undef) (eget σ t)) → ∃ v, (results fn tmps).run P w = .ok v w ∧ R (.returned v) w) :
    ∀ (ds : List Deferred) (w : World), Marks B κ hs w ds → HS κ w hs → Ext κ₀ hs₀ w₀ κ hs w → (∀ t, RepA κ w (Own κ hs) (tmps.getD t undef) (eget σ t)) → LeavesInM Fence.wide 0 P fn tmps R ds .returning w
  | [], w, _, h, e, g => F w h e g
  | d :: ds, w, m, h, e, g => by
    obtain ⟨D, rfl, h1, h2, h3⟩ := m.2.2 d (List.mem_cons_self ..)
    have hc : ¬ isCells w D := fun ⟨cs, T, f, hb⟩ => by rw [h2] at hb; cases hb
    obtain ⟨g1, g2⟩ := h.mark (o' := .deferred none) h2 hc h3
    refine ⟨by simp, .inl ⟨D, _, rfl, run_takeDeferred h2, ?_⟩⟩
    refine leave_marks hB F ds _ ⟨by simpa using m.1, (List.nodup_cons.1 m.2.1).2, fun d hd => ?_⟩ g1 (e.mark _ (by omega)) (fun t => g2 _ _ (g t))
    obtain ⟨D', rfl, h4, h5, h6⟩ := m.2.2 d (List.mem_cons_of_mem _ hd)
    have hne : D' ≠ D := by
      rintro rfl
      exact (List.nodup_cons.1 m.2.1).1 hd
    exact ⟨D', rfl, h4, (World.putObj_heap_other hne).trans h5, h6⟩
theorem AC.body {P : Program} {f : FuncId} {fn : Func} {c : Code} {args : List AV} {hs : Hp} {R : AV → Hp → Prop} {Q : Post} (N : Nat) (hf : P.funcs[f]? = some fn) (hb : fn.body = some c) (hN : fn.ntmps = N)
    (hl : Nat.ble args.length N = true) (h : ∀ B, W P ⟨N, B, none⟩ c Q (envOf args 0) hs) (hex : ∀ id σ hs, ¬ Q (.exit id) σ hs)
    (fin : ∀ x σ hs' κ w (tmps : Array Value), (x = .normal ∨ x = .ret) → Q x σ hs' → HS κ w hs' → (∀ t, RepA κ w (Own κ hs') (tmps.getD t undef) (eget σ t)) → tmps.size = N →
      ∃ v y hs'', (results fn tmps).run P w = .ok v w ∧ RepA κ w (Own κ hs') v y ∧ HLe hs'' hs' ∧ R y hs'') : AC P f args hs R := by
  intro κ vals w h1 h2 h3
  have hl' : vals.size ≤ N := by rw [h2]; simpa [Nat.ble_eq] using hl
  refine callsIn_wide (n := 0).1 (callsIn_of_wp_marks hf hb trivial (wpIn_mono (h w.heap.size κ _ w ⟨h1, by simp [hN]; omega, Marks.nil _ _ (Nat.le_refl _), fun t => ?_⟩) ?_))
  · rcases envOf_get args 0 t with he | ⟨i, x, rfl, h4, h5⟩
    · rw [he]; exact .any _
    · rw [h5]
      have hi : i < vals.size := by rw [h2]; exact (List.getElem?_eq_some_iff.1 h4).1
      have : (vals ++ Array.replicate (fn.ntmps - vals.size) undef).getD (0 + i) undef = vals[i] := by
        simp [Array.getElem?_append, hi]
      rw [this]
      exact h3 i _ x (Array.getElem?_eq_getElem hi) h4
  · rintro e a' w' ⟨t, κ₁, σ₁, hs₁, rfl, s, e, hq⟩
    have key : (t = .normal ∨ t = .ret) → LeavesInM Fence.wide 0 P fn a'.tmps (fun e w' => ∃ κ' hs' v x, e = .returned v ∧ HS κ' w' hs' ∧ Ext κ hs w κ' hs' w' ∧ RepA κ' w' (Own κ' hs') v x ∧ R x hs') a'.defers .returning w' := fun ht =>
      leave_marks (σ := σ₁) (B := w.heap.size) (Nat.le_refl _) (fun w₂ g1 g2 g3 => by
        obtain ⟨v, y, hs'', hv, hrep, hle, hr⟩ := fin t σ₁ hs₁ κ₁ w₂ a'.tmps ht hq g1 g3 s.size
        obtain ⟨k1, k2⟩ := g1.sub (hle.2 g1.nodup) hle.1
        exact ⟨v, hv, κ₁, hs'', v, y, rfl, k1, g2.trans k2, hrep.ext k2, hr⟩) a'.defers w' s.defers s.heap e s.get
    cases t with
    | normal => exact key (.inl rfl)
    | ret => exact key (.inr rfl)
    | exit id => exact (hex _ _ _ hq).elim
theorem AC.of {P : Program} {f : FuncId} {fn : Func} {c : Code} {args : List AV} {hs : Hp} {R : AV → Hp → Prop} (N : Nat) (hf : P.funcs[f]? = some fn) (hb : fn.body = some c) (hN : fn.ntmps = N)
    (hl : Nat.ble args.length N = true)
    (h : ∀ {B}, W P ⟨N, B, none⟩ c (fun ex σ' hs' => match ex with | .exit _ => False | _ => ∃ x hs'', resOf fn.results.toList σ' = some x ∧ HLe hs'' hs' ∧ R x hs'') (envOf args 0) hs) : AC P f args hs R :=
  AC.body N hf hb hN hl (fun B => h) (fun _ _ _ hq => hq) fun x σ hs' κ w tmps hx hq h1 h2 h3 => by
    have hq' : ∃ x hs'', resOf fn.results.toList σ = some x ∧ HLe hs'' hs' ∧ R x hs'' := by rcases hx with rfl | rfl <;> exact hq
    obtain ⟨y, hs'', hy, hle, hr⟩ := hq'
    obtain ⟨v, hv, hrep⟩ := results_run (N := ⟨N, 0, none⟩) (P := P) (fn := fn) (a := { tmps := tmps, defers := [] }) ⟨h1, h3, Marks.nil _ _ (Nat.zero_le _), h2⟩ hy
    exact ⟨v, y, hs'', hv, hrep, hle, hr⟩
end Go.Proofs.YtaegeaajhbfkgaaGreatDoorA
/- Operations over abstract states: arithmetic, tests, fields, elements, loads, stores, new variables. -/
namespace Go.Proofs.YtaegeaajhbfkgaaGreatDoorA
open Go
set_option linter.unusedVariables false
set_option linter.unusedSimpArgs false
section types
variable (P : Program)
def tSl (t : TypeId) : Option Nat := match P.underlying t with | some (.slice e) => (P.info? e).map (·.size) | _ => none
def tArr (t : TypeId) : Option (Nat × Nat) := match P.underlying t with | some (.array n e) => (P.info? e).map fun i => (n, i.size) | _ => none
def tFld (s f : Nat) : Option Nat := match P.underlying s with
  | some (.struct fs) => match fs[f]? with
    | some fd => match P.info? fd.type with | some i => if i.size = 0 then none else some fd.offset | none => none
    | none => none
  | _ => none
def tAgg (t : TypeId) : Option (Bool × Nat) := match P.underlying t, P.info? t with
  | some (.struct _), some i | some (.array _ _), some i => some (true, i.size)
  | some _, some i => some (false, i.size)
  | _, _ => none
def cellD : Value → Option D
  | .int k n => some (.int k n)
  | .bool b => some (.bool b)
  | .string s => some (.str s)
  | .pointer none => some .nilp
  | .nilIface => some .nilif
  | .slice none 0 0 => some (.sl 0 [])
  | _ => none
def cellA : Value → AV
  | .slice none 0 0 => .nilsl
  | v => match cellD v with | some d => .d d | none => .any
def cellsD : List Value → Option (List D)
  | [] => some []
  | v :: l => match cellD v, cellsD l with | some d, some r => some (d :: r) | _, _ => none
def tZero (t : TypeId) : Option (List Value) := (P.info? t).bind fun i => i.zero.map fun z => z.cells.toList
end types
section
variable {P : Program}
theorem under_run {t : TypeId} {d : TypeDesc} (h : P.underlying t = some d) (w : World) : (underlying t).run P w = .ok d w := run_underlying h w
theorem size_run {t : TypeId} {i : TypeInfo} (h : P.info? t = some i) (w : World) : (sizeOf t).run P w = .ok i.size w := by simp [sizeOf, typeInfo, h]
theorem tSl_spec {t sz : Nat} (h : tSl P t = some sz) : ∃ e i, P.underlying t = some (.slice e) ∧ P.info? e = some i ∧ i.size = sz := by
  unfold tSl at h
  split at h
  · rename_i e hu
    obtain ⟨i, hi, he⟩ := Option.map_eq_some_iff.1 h
    exact ⟨e, i, hu, hi, he⟩
  · cases h
theorem tArr_spec {t n sz : Nat} (h : tArr P t = some (n, sz)) : ∃ e i, P.underlying t = some (.array n e) ∧ P.info? e = some i ∧ i.size = sz := by
  unfold tArr at h
  split at h
  · rename_i m e hu
    obtain ⟨i, hi, he⟩ := Option.map_eq_some_iff.1 h
    obtain ⟨rfl, rfl⟩ := Prod.mk.inj he
    exact ⟨e, i, hu, hi, rfl⟩
  · cases h
theorem tFld_spec {s f off : Nat} (h : tFld P s f = some off) : ∃ fs fd i, P.underlying s = some (.struct fs) ∧ fs[f]? = some fd ∧ P.info? fd.type = some i ∧ i.size ≠ 0 ∧ fd.offset = off := by
  unfold tFld at h
  split at h
  · rename_i fs hu
    split at h
    · rename_i fd hf
      split at h
      · rename_i i hi
        split at h
        · cases h
        · rename_i hz
          obtain rfl := Option.some.inj h
          exact ⟨fs, fd, i, hu, hf, hi, hz, rfl⟩
      · cases h
    · cases h
  · cases h
theorem tAgg_spec {t n : Nat} {b : Bool} (h : tAgg P t = some (b, n)) (w : World) : (isAgg t).run P w = .ok b w ∧ (sizeOf t).run P w = .ok n w := by
  unfold tAgg at h
  split at h
  · rename_i fs i hu hi
    obtain ⟨rfl, rfl⟩ := Prod.mk.inj (Option.some.inj h)
    exact ⟨by simp [isAgg, under_run hu], size_run hi w⟩
  · rename_i m e i hu hi
    obtain ⟨rfl, rfl⟩ := Prod.mk.inj (Option.some.inj h)
    exact ⟨by simp [isAgg, under_run hu], size_run hi w⟩
  · rename_i d i h1 h2 hu hi
    obtain ⟨rfl, rfl⟩ := Prod.mk.inj (Option.some.inj h)
    refine ⟨?_, size_run hi w⟩
    cases d <;> first | (exact absurd rfl (h1 _)) | (exact absurd rfl (h2 _ _)) | simp [isAgg, under_run hu]
  · cases h
end
theorem addr_add_add (a : Addr) (m n : Nat) : (a.add m).add n = a.add (m + n) := by
  unfold Addr.add
  by_cases h1 : m = 0 <;> by_cases h2 : n = 0 <;> simp [h1, h2, Nat.add_assoc]
theorem addr_add_zero (a : Addr) : a.add 0 = a := by simp [Addr.add]
theorem addr_add_lit (b o n : Nat) : (⟨b, o, none⟩ : Addr).add n = ⟨b, o + n, none⟩ := by
  unfold Addr.add; split <;> simp_all
section quiet
variable {P : Program} {N : Nm} {σ : Env} {hs : Hp} {d : Option Tmp} {ty : TypeId} {pos : String} {af : Array Edge} {g : Option (Nat × Bool)}
theorem Quiet.of_run {o : Oper} {v : AV} (h : ∀ κ a w, Sim N κ hs w σ a → ∃ u, (execOp a.eval o).run P w = .ok (.value u) w ∧ RepA κ w (Own κ hs) u v) : Quiet P N σ hs o v := by
  intro κ a w s K Q hK
  obtain ⟨u, h1, h2⟩ := h κ a w s
  unfold oWp
  rw [h1]
  exact hK κ w u s.heap (.refl _ _ _) h2
theorem Q.move {x : Operand} {v : AV} (hx : oev σ x = v) : Quiet P N σ hs ⟨d, .move x, ty, pos, af, g⟩ v :=
  .of_run fun κ a w s => ⟨a.eval x, rfl, hx ▸ s.oev x⟩
theorem Q.assign {x : Operand} {v : AV} (hx : oev σ x = v) : Quiet P N σ hs ⟨d, .assign x, ty, pos, af, g⟩ v :=
  .of_run fun κ a w s => ⟨a.eval x, rfl, hx ▸ s.oev x⟩
theorem Q.pick {c x y : Operand} {b : Bool} {p q : Bool} (hc : oev σ c = .d (.bool b)) (hx : oev σ x = .d (.bool p)) (hy : oev σ y = .d (.bool q)) :
    Quiet P N σ hs ⟨d, .pick c x y, ty, pos, af, g⟩ (.d (.bool (if b then p else q))) :=
  .of_run fun κ a w s => by
    have h1 := s.oev c; have h2 := s.oev x; have h3 := s.oev y
    rw [hc] at h1; rw [hx] at h2; rw [hy] at h3
    refine ⟨.bool (if b then p else q), ?_, .d (.bool _)⟩
    cases b <;> simp [execOp, h1.bool_inv, h2.bool_inv, h3.bool_inv, asBool]
theorem Q.pick_and {c x y : Operand} {b gd p : Bool} (hc : oev σ c = .d (.bool b)) (hx : oev σ x = .when gd (.d (.bool p))) (hy : oev σ y = .d (.bool false)) (hg : b = true → gd = true) :
    Quiet P N σ hs ⟨d, .pick c x y, ty, pos, af, g⟩ (.d (.bool (b && p))) :=
  .of_run fun κ a w s => by
    have h1 := s.oev c; have h2 := s.oev x; have h3 := s.oev y
    rw [hc] at h1; rw [hx] at h2; rw [hy] at h3
    refine ⟨.bool (b && p), ?_, .d (.bool _)⟩
    cases b with
    | false => simp [execOp, h1.bool_inv, h3.bool_inv, asBool]
    | true =>
      generalize hu : a.eval x = u at h2
      cases h2 with
      | when _ _ _ h _ => simp [execOp, h1.bool_inv, hu, (h (hg rfl)).bool_inv, asBool]
theorem Q.pick_or {c x y : Operand} {b gd p : Bool} (hc : oev σ c = .d (.bool b)) (hx : oev σ x = .d (.bool true)) (hy : oev σ y = .when gd (.d (.bool p))) (hg : b = false → gd = true) :
    Quiet P N σ hs ⟨d, .pick c x y, ty, pos, af, g⟩ (.d (.bool (b || p))) :=
  .of_run fun κ a w s => by
    have h1 := s.oev c; have h2 := s.oev x; have h3 := s.oev y
    rw [hc] at h1; rw [hx] at h2; rw [hy] at h3
    refine ⟨.bool (b || p), ?_, .d (.bool _)⟩
    cases b with
    | true => simp [execOp, h1.bool_inv, h2.bool_inv, asBool]
    | false =>
      generalize hu : a.eval y = u at h3
      cases h3 with
      | when _ _ _ h _ => simp [execOp, h1.bool_inv, hu, (h (hg rfl)).bool_inv, asBool]
theorem bin_run {κ : Kap} {a : Act} {w : World} (s : Sim N κ hs w σ a) {op : BinOp} {t t' : TypeId} {x y : Operand} {k k' : IntKind} {m n : Int} (hx : oev σ x = .d (.int k m)) (hy : oev σ y = .d (.int k' n)) :
    (execOp a.eval ⟨d, .binOp op t x y t', ty, pos, af, g⟩).run P w = ((binOp op t (.int k m) (.int k' n)).run P w).andThen fun u w' => .ok (.value u) w' := by
  have h1 := s.oev x; have h2 := s.oev y
  rw [hx] at h1; rw [hy] at h2
  have h3 : (eqGuard op t x y (.int k m) (.int k' n)).run P w = .ok () w := by
    unfold eqGuard; cases op <;> simp
  simp [execOp, h1.int_inv, h2.int_inv, h3]
theorem Q.add {t t' : TypeId} {x y : Operand} {k : IntKind} {m n r : Int} (hx : oev σ x = .d (.int k m)) (hy : oev σ y = .d (.int k n)) (hr : k.wrap (m + n) = r) :
    Quiet P N σ hs ⟨d, .binOp .add t x y t', ty, pos, af, g⟩ (.d (.int k r)) :=
  .of_run fun κ a w s => ⟨.int k r, by rw [bin_run s hx hy]; simp [binOp, Op.intArith, hr], .d (.int _ _)⟩
theorem Q.sub {t t' : TypeId} {x y : Operand} {k : IntKind} {m n r : Int} (hx : oev σ x = .d (.int k m)) (hy : oev σ y = .d (.int k n)) (hr : k.wrap (m - n) = r) :
    Quiet P N σ hs ⟨d, .binOp .sub t x y t', ty, pos, af, g⟩ (.d (.int k r)) :=
  .of_run fun κ a w s => ⟨.int k r, by rw [bin_run s hx hy]; simp [binOp, Op.intArith, hr], .d (.int _ _)⟩
theorem Q.mul {t t' : TypeId} {x y : Operand} {k : IntKind} {m n r : Int} (hx : oev σ x = .d (.int k m)) (hy : oev σ y = .d (.int k n)) (hr : k.wrap (m * n) = r) :
    Quiet P N σ hs ⟨d, .binOp .mul t x y t', ty, pos, af, g⟩ (.d (.int k r)) :=
  .of_run fun κ a w s => ⟨.int k r, by rw [bin_run s hx hy]; simp [binOp, Op.intArith, hr], .d (.int _ _)⟩
theorem Q.quo {t t' : TypeId} {x y : Operand} {k : IntKind} {m n r : Int} (hx : oev σ x = .d (.int k m)) (hy : oev σ y = .d (.int k n)) (h0 : n ≠ 0) (hr : k.wrap (m.tdiv n) = r) :
    Quiet P N σ hs ⟨d, .binOp .quo t x y t', ty, pos, af, g⟩ (.d (.int k r)) :=
  .of_run fun κ a w s => ⟨.int k r, by rw [bin_run s hx hy]; simp [binOp, Op.intDiv, hr, h0], .d (.int _ _)⟩
theorem Q.rem {t t' : TypeId} {x y : Operand} {k : IntKind} {m n r : Int} (hx : oev σ x = .d (.int k m)) (hy : oev σ y = .d (.int k n)) (h0 : n ≠ 0) (hr : m.tmod n = r) :
    Quiet P N σ hs ⟨d, .binOp .rem t x y t', ty, pos, af, g⟩ (.d (.int k r)) :=
  .of_run fun κ a w s => ⟨.int k r, by rw [bin_run s hx hy]; simp [binOp, Op.intDiv, hr, h0], .d (.int _ _)⟩
theorem Q.eql {t t' : TypeId} {x y : Operand} {k : IntKind} {m n : Int} (hx : oev σ x = .d (.int k m)) (hy : oev σ y = .d (.int k n)) :
    Quiet P N σ hs ⟨d, .binOp .eql t x y t', ty, pos, af, g⟩ (.d (.bool (decide (m = n)))) :=
  .of_run fun κ a w s => ⟨.bool (decide (m = n)), by rw [bin_run s hx hy]; simp [binOp, Op.intCmp]; rfl, .d (.bool _)⟩
theorem Q.neq {t t' : TypeId} {x y : Operand} {k : IntKind} {m n : Int} (hx : oev σ x = .d (.int k m)) (hy : oev σ y = .d (.int k n)) :
    Quiet P N σ hs ⟨d, .binOp .neq t x y t', ty, pos, af, g⟩ (.d (.bool (!decide (m = n)))) :=
  .of_run fun κ a w s => ⟨.bool (!decide (m = n)), by rw [bin_run s hx hy]; simp [binOp, Op.intCmp]; rfl, .d (.bool _)⟩
theorem Q.lss {t t' : TypeId} {x y : Operand} {k : IntKind} {m n : Int} (hx : oev σ x = .d (.int k m)) (hy : oev σ y = .d (.int k n)) :
    Quiet P N σ hs ⟨d, .binOp .lss t x y t', ty, pos, af, g⟩ (.d (.bool (decide (m < n)))) :=
  .of_run fun κ a w s => ⟨.bool (decide (m < n)), by rw [bin_run s hx hy]; simp [binOp, Op.intCmp], .d (.bool _)⟩
theorem Q.leq {t t' : TypeId} {x y : Operand} {k : IntKind} {m n : Int} (hx : oev σ x = .d (.int k m)) (hy : oev σ y = .d (.int k n)) :
    Quiet P N σ hs ⟨d, .binOp .leq t x y t', ty, pos, af, g⟩ (.d (.bool (decide (m ≤ n)))) :=
  .of_run fun κ a w s => ⟨.bool (decide (m ≤ n)), by rw [bin_run s hx hy]; simp [binOp, Op.intCmp], .d (.bool _)⟩
theorem Q.gtr {t t' : TypeId} {x y : Operand} {k : IntKind} {m n : Int} (hx : oev σ x = .d (.int k m)) (hy : oev σ y = .d (.int k n)) :
    Quiet P N σ hs ⟨d, .binOp .gtr t x y t', ty, pos, af, g⟩ (.d (.bool (decide (n < m)))) :=
  .of_run fun κ a w s => ⟨.bool (decide (n < m)), by rw [bin_run s hx hy]; simp [binOp, Op.intCmp], .d (.bool _)⟩
theorem Q.geq {t t' : TypeId} {x y : Operand} {k : IntKind} {m n : Int} (hx : oev σ x = .d (.int k m)) (hy : oev σ y = .d (.int k n)) :
    Quiet P N σ hs ⟨d, .binOp .geq t x y t', ty, pos, af, g⟩ (.d (.bool (decide (n ≤ m)))) :=
  .of_run fun κ a w s => ⟨.bool (decide (n ≤ m)), by rw [bin_run s hx hy]; simp [binOp, Op.intCmp], .d (.bool _)⟩
theorem Q.not {t : TypeId} {x : Operand} {b : Bool} (hx : oev σ x = .d (.bool b)) : Quiet P N σ hs ⟨d, .unOp .not t x, ty, pos, af, g⟩ (.d (.bool (!b))) :=
  .of_run fun κ a w s => by
    have h1 := s.oev x; rw [hx] at h1
    exact ⟨.bool (!b), by simp [execOp, h1.bool_inv, Op.unary], .d (.bool _)⟩
theorem Q.extract {x : Operand} {l : List AV} {i : Nat} {v : AV} (hx : oev σ x = .tup l) (hv : l[i]? = some v) : Quiet P N σ hs ⟨d, .extract x i, ty, pos, af, g⟩ v :=
  .of_run fun κ a w s => by
    have h1 := s.oev x; rw [hx] at h1
    generalize hu : a.eval x = u at h1
    cases h1 with
    | tup cs _ hl h =>
      have hi : i < cs.size := by rw [hl]; exact (List.getElem?_eq_some_iff.1 hv).1
      have hc : cs[i]? = some cs[i] := Array.getElem?_eq_getElem hi
      exact ⟨cs[i], by simp [execOp, hu, Instr.extract, hi], h i _ v hc hv⟩
theorem Q.nil_ptr {x : Operand} {id off : Nat} (hx : oev σ x = .ptr id off) : Quiet P N σ hs ⟨d, .nilCheck x, ty, pos, af, g⟩ (.ptr id off) :=
  .of_run fun κ a w s => by
    have h1 := s.oev x; rw [hx] at h1
    refine ⟨a.eval x, ?_, h1⟩
    generalize hu : a.eval x = u at h1
    cases h1 with
    | ptr b cap _ _ hk => simp [execOp, hu]
theorem Q.nil_dp {x : Operand} {l : List D} (hx : oev σ x = .dp l) : Quiet P N σ hs ⟨d, .nilCheck x, ty, pos, af, g⟩ (.dp l) :=
  .of_run fun κ a w s => by
    have h1 := s.oev x; rw [hx] at h1
    refine ⟨a.eval x, ?_, h1⟩
    generalize hu : a.eval x = u at h1
    cases h1 with
    | dp ad _ c h1 hm hd => simp [execOp, hu]
theorem RepA.ptr_inv {κ : Kap} {w : World} {O : Nat → Prop} {v : Value} {id off : Nat} (h : RepA κ w O v (.ptr id off)) : ∃ b cap, κ id = some (some b, cap) ∧ v = .pointer (some ⟨b, off, none⟩) := by
  cases h with | ptr b cap _ _ hk => exact ⟨b, cap, hk, rfl⟩
theorem RepA.ep_inv {κ : Kap} {w : World} {O : Nat → Prop} {v : Value} {id sz i off : Nat} (h : RepA κ w O v (.ep id sz i off)) : ∃ b cap, κ id = some (some b, cap) ∧ v = .pointer (some ⟨b, i * sz + off, none⟩) := by
  cases h with | ep b cap _ _ _ _ hk => exact ⟨b, cap, hk, rfl⟩
theorem RepA.dp_inv {κ : Kap} {w : World} {O : Nat → Prop} {v : Value} {l : List D} (h : RepA κ w O v (.dp l)) : ∃ (ad : Addr) (c : Nat → Value), v = .pointer (some ad) ∧ (∀ d ∈ l, d.one = true) ∧
    (∀ (j : Nat) (d : D), l[j]? = some d → ¬ O ad.block ∧ w.cell? (ad.add j) = some (c j)) ∧ ∀ (j : Nat) (d : D), l[j]? = some d → RepD w O (c j) d := by
  cases h with | dp ad _ c h1 hm hd => exact ⟨ad, c, rfl, h1, hm, hd⟩
theorem fieldAt_run {s f off : Nat} (h : tFld P s f = some off) (a : Addr) (w : World) : (Instr.fieldAt s (.pointer (some a)) f).run P w = .ok (.pointer (some (a.add off))) w := by
  obtain ⟨fs, fd, i, hu, hf, hi, hz, rfl⟩ := tFld_spec h
  simp [Instr.fieldAt, under_run hu, hf, Instr.sureAddr, fieldPlace, size_run hi, hz]
theorem Q.fld_ptr {s f o id off : Nat} {x : Operand} (hf : tFld P s f = some o) (hx : oev σ x = .ptr id off) : Quiet P N σ hs ⟨d, .fieldAddr s x f, ty, pos, af, g⟩ (.ptr id (off + o)) :=
  .of_run fun κ a w s => by
    have h1 := s.oev x; rw [hx] at h1
    obtain ⟨b, cap, hk, hv⟩ := h1.ptr_inv
    exact ⟨.pointer (some ((⟨b, off, none⟩ : Addr).add o)), by simp [execOp, hv, fieldAt_run hf], by rw [addr_add_lit]; exact .ptr b cap id _ hk⟩
theorem Q.fld_ep {s f o id sz i off : Nat} {x : Operand} (hf : tFld P s f = some o) (hx : oev σ x = .ep id sz i off) : Quiet P N σ hs ⟨d, .fieldAddr s x f, ty, pos, af, g⟩ (.ep id sz i (off + o)) :=
  .of_run fun κ a w s => by
    have h1 := s.oev x; rw [hx] at h1
    obtain ⟨b, cap, hk, hv⟩ := h1.ep_inv
    refine ⟨.pointer (some ((⟨b, i * sz + off, none⟩ : Addr).add o)), by simp [execOp, hv, fieldAt_run hf], ?_⟩
    rw [addr_add_lit, Nat.add_assoc]; exact .ep b cap id sz i _ hk
theorem Q.fld_dp {s f o : Nat} {l : List D} {x : Operand} (hf : tFld P s f = some o) (hx : oev σ x = .dp l) : Quiet P N σ hs ⟨d, .fieldAddr s x f, ty, pos, af, g⟩ (.dp (l.drop o)) :=
  .of_run fun κ a w s => by
    have h1 := s.oev x; rw [hx] at h1
    obtain ⟨ad, c, hv, h2, hm, hd⟩ := h1.dp_inv
    refine ⟨.pointer (some (ad.add o)), by simp [execOp, hv, fieldAt_run hf], .dp _ _ (fun j => c (o + j)) (fun d hd => h2 d (List.mem_of_mem_drop hd)) (fun j d hj => ?_) (fun j d hj => ?_)⟩
    · rw [List.getElem?_drop] at hj
      obtain ⟨h3, h4⟩ := hm _ _ hj
      exact ⟨by rw [addr_add_block]; exact h3, by rw [addr_add_add]; exact h4⟩
    · rw [List.getElem?_drop] at hj
      exact hd _ _ hj
theorem RepA.d_inv {κ : Kap} {w : World} {O : Nat → Prop} {v : Value} {x : D} (h : RepA κ w O v (.d x)) : RepD w O v x := by
  generalize hx : AV.d x = y at h
  cases h <;> first | cases hx | skip
  case d.refl h => exact h
theorem asIntOf_run (k : IntKind) (n : Int) (w : World) : (asIntOf (.int k n)).run P w = .ok (k, n) w := rfl
theorem idx_run {t e len cap : Nat} {i : TypeInfo} (hu : P.underlying t = some (.slice e)) (hi : P.info? e = some i) (ad : Addr) {k : IntKind} {n : Int} (h0 : 0 ≤ n) (h1 : n < len) (w : World) :
    (Instr.indexAt t (.slice (some ad) len cap) (.int k n)).run P w = .ok (.pointer (some (ad.add (n.toNat * i.size)))) w := by
  simp [Instr.indexAt, asIntOf, under_run hu, size_run hi, h0, h1]
theorem RepA.sl_inv {κ : Kap} {w : World} {O : Nat → Prop} {v : Value} {sz : Nat} {rows : List (List D)} (h : RepA κ w O v (.d (.sl sz rows))) : ∃ (a : Option Addr) (cap : Nat) (c : Nat → Nat → Value), v = .slice a rows.length cap ∧ rows.length ≤ cap ∧
    (∀ r ∈ rows, r.length = sz) ∧ (∀ r ∈ rows, ∀ d ∈ r, d.one = true) ∧
    (∀ (i j : Nat) (r : List D) (d : D), rows[i]? = some r → r[j]? = some d → ∃ ad, a = some ad ∧ ¬ O ad.block ∧ w.cell? (ad.add (i * sz + j)) = some (c i j)) ∧
    (∀ (i j : Nat) (r : List D) (d : D), rows[i]? = some r → r[j]? = some d → RepD w O (c i j) d) := by
  cases h with
  | d h => cases h with
    | sl a len cap _ _ c hl hc hr h1 hm hd => subst hl; exact ⟨a, cap, c, rfl, hc, hr, h1, hm, hd⟩
theorem Q.idx_sl {t sz : Nat} {rows : List (List D)} {r : List D} {x ix : Operand} {k : IntKind} {i : Int} (ht : tSl P t = some sz) (hz : 0 < sz) (hx : oev σ x = .d (.sl sz rows)) (hi : oev σ ix = .d (.int k i))
    (h0 : 0 ≤ i) (hr : rows[i.toNat]? = some r) : Quiet P N σ hs ⟨d, .indexAddr t x ix, ty, pos, af, g⟩ (.dp r) :=
  .of_run fun κ a w s => by
    have h1 := s.oev x; rw [hx] at h1
    have h2 := s.oev ix; rw [hi] at h2
    obtain ⟨p, cap, c, hv, hc, hl, ho, hm, hd⟩ := h1.sl_inv
    obtain ⟨e, inf, hu, hin, rfl⟩ := tSl_spec ht
    have hlt : i.toNat < rows.length := (List.getElem?_eq_some_iff.1 hr).1
    have hrl := hl r (List.mem_of_getElem? hr)
    obtain ⟨d0, hd0⟩ : ∃ d0, r[0]? = some d0 := ⟨r[0], List.getElem?_eq_getElem (by omega)⟩
    obtain ⟨ad, rfl, _, _⟩ := hm i.toNat 0 r d0 hr hd0
    refine ⟨.pointer (some (ad.add (i.toNat * inf.size))), by simp [execOp, hv, h2.int_inv, idx_run hu hin ad h0 (show i < (rows.length : Int) by omega)], .dp _ _ (fun j => c i.toNat j) (ho r (List.mem_of_getElem? hr)) (fun j d hj => ?_) (fun j d hj => hd _ _ _ _ hr hj)⟩
    obtain ⟨ad', he, h3, h4⟩ := hm i.toNat j r d hr hj
    obtain rfl := Option.some.inj he
    exact ⟨by rw [addr_add_block]; exact h3, by rw [addr_add_add]; exact h4⟩
theorem Q.idx_vs {t sz id lo n kk : Nat} {rows : List (List D)} {x ix : Operand} {k : IntKind} {i : Int} (ht : tSl P t = some sz) (hx : oev σ x = .vs id lo n sz) (hh : hs[kk]? = some (id, .lst sz rows))
    (hi : oev σ ix = .d (.int k i)) (h0 : 0 ≤ i) (h1 : i < n) : Quiet P N σ hs ⟨d, .indexAddr t x ix, ty, pos, af, g⟩ (.ep id sz (lo + i.toNat) 0) :=
  .of_run fun κ a w s => by
    have h2 := s.oev x; rw [hx] at h2
    have h3 := s.oev ix; rw [hi] at h3
    obtain ⟨e, inf, hu, hin, rfl⟩ := tSl_spec ht
    generalize hv : a.eval x = v at h2
    cases h2 with
    | vs ob cap p _ _ _ _ hk hn hp =>
      obtain ⟨y, hy, hok⟩ := s.heap.ok id _ (List.mem_of_getElem? hh)
      rw [hk] at hy
      obtain rfl := Option.some.inj hy
      obtain ⟨g0, g0', g1, g2, g3, g4, g5⟩ := hok
      have hcap : cap ≠ 0 := by omega
      cases ob with
      | none => exact absurd (g4 rfl) hcap
      | some b =>
        have hpe := hp (by omega)
        subst hpe
        refine ⟨.pointer (some ((⟨b, lo * inf.size, none⟩ : Addr).add (i.toNat * inf.size))), by simp only [execOp, hv, h3.int_inv, Option.map_some, Sem.run_bind, idx_run hu hin _ h0 h1, Result.andThen_ok, Sem.run_pure], ?_⟩
        rw [addr_add_lit, ← Nat.add_mul]
        exact .ep b cap id _ _ 0 hk
theorem arr_run {t n e : Nat} {i : TypeInfo} (hu : P.underlying t = some (.array n e)) (hi : P.info? e = some i) (ad : Addr) {k : IntKind} {m : Int} (h0 : 0 ≤ m) (h1 : m < n) (w : World) :
    (Instr.indexAt t (.pointer (some ad)) (.int k m)).run P w = .ok (.pointer (some (ad.add (m.toNat * i.size)))) w := by
  simp [Instr.indexAt, asIntOf, under_run hu, size_run hi, h0, h1, Instr.sureAddr]
theorem Q.idx_arr {t n sz id off : Nat} {x ix : Operand} {k : IntKind} {i : Int} (ht : tArr P t = some (n, sz)) (hx : oev σ x = .ptr id off) (hi : oev σ ix = .d (.int k i)) (h0 : 0 ≤ i) (h1 : i < n) :
    Quiet P N σ hs ⟨d, .indexAddr t x ix, ty, pos, af, g⟩ (.ptr id (off + i.toNat * sz)) :=
  .of_run fun κ a w s => by
    have h2 := s.oev x; rw [hx] at h2
    have h3 := s.oev ix; rw [hi] at h3
    obtain ⟨b, cap, hk, hv⟩ := h2.ptr_inv
    obtain ⟨e, inf, hu, hin, rfl⟩ := tArr_spec ht
    exact ⟨.pointer (some ((⟨b, off, none⟩ : Addr).add (i.toNat * inf.size))), by simp [execOp, hv, h3.int_inv, arr_run hu hin _ h0 h1], by rw [addr_add_lit]; exact .ptr b cap id _ hk⟩
theorem load1_run {t : Nat} (h : tAgg P t = some (false, 1)) {ad : Addr} {v : Value} {w : World} (hc : w.cell? ad = some v) : (Instr.loadAt t (.pointer (some ad))).run P w = .ok v w := by
  obtain ⟨h1, h2⟩ := tAgg_spec h w
  simp [Instr.loadAt, Instr.sureAddr, loadVar, h1, hc]
theorem loadn_run {t n : Nat} (h : tAgg P t = some (true, n)) {ad : Addr} {cs : List Value} {w : World} (hl : cs.length = n) (hc : ∀ (j : Nat) v, cs[j]? = some v → w.cell? (ad.add j) = some v) :
    (Instr.loadAt t (.pointer (some ad))).run P w = .ok (.agg cs.toArray) w := by
  obtain ⟨h1, h2⟩ := tAgg_spec h w
  have := run_loadCells_list (P := P) w ad cs hc
  rw [hl] at this
  simp [Instr.loadAt, Instr.sureAddr, loadVar, h1, h2, this]
theorem Q.ld_dp {t : Nat} {y : D} {l : List D} {x : Operand} (ht : tAgg P t = some (false, 1)) (hx : oev σ x = .dp l) (hy : l[0]? = some y) : Quiet P N σ hs ⟨d, .load t x, ty, pos, af, g⟩ (.d y) :=
  .of_run fun κ a w s => by
    have h1 := s.oev x; rw [hx] at h1
    obtain ⟨ad, c, hv, h2, hm, hd⟩ := h1.dp_inv
    have h3 := (hm 0 y hy).2
    rw [addr_add_zero] at h3
    exact ⟨c 0, by simp [execOp, hv, load1_run ht h3], .d (hd 0 y hy)⟩
theorem Q.ld_dpn {t n : Nat} {l : List D} {x : Operand} (ht : tAgg P t = some (true, n)) (hx : oev σ x = .dp l) (hn : Nat.ble n l.length = true) : Quiet P N σ hs ⟨d, .load t x, ty, pos, af, g⟩ (.d (.agg (l.take n))) :=
  .of_run fun κ a w s => by
    have h1 := s.oev x; rw [hx] at h1
    obtain ⟨ad, c, hv, h2, hm, hd⟩ := h1.dp_inv
    have hn' : n ≤ l.length := by simpa [Nat.ble_eq] using hn
    have hlen : ((List.range n).map c).length = n := by simp
    refine ⟨.agg ((List.range n).map c).toArray, ?_, .d (.agg _ _ (by simp; omega) (fun d hd => h2 d (List.mem_of_mem_take hd)) (fun i v d hi hj => ?_))⟩
    · rw [show execOp a.eval ⟨d, .load t x, ty, pos, af, g⟩ = (do pure (.value (← Instr.loadAt t (a.eval x)))) from rfl, hv, Sem.run_bind, loadn_run ht hlen]
      · rfl
      · intro j v hj
        rw [List.getElem?_map] at hj
        have hjn : j < n := by
          by_cases h : j < n
          · exact h
          · simp [List.getElem?_eq_none (show (List.range n).length ≤ j by simpa using h)] at hj
        simp [hjn] at hj
        subst hj
        exact (hm j _ (List.getElem?_eq_getElem (show j < l.length by omega))).2
    · rw [List.getElem?_take] at hj
      split at hj
      · rename_i hin
        simp [hin] at hi
        subst hi
        exact hd i d hj
      · cases hj
theorem Q.ld_ptr {t id off k : Nat} {l : List AV} {v : AV} {x : Operand} (ht : tAgg P t = some (false, 1)) (hx : oev σ x = .ptr id off) (hk : hs[k]? = some (id, .cells l)) (hv : l[off]? = some v) :
    Quiet P N σ hs ⟨d, .load t x, ty, pos, af, g⟩ v :=
  .of_run fun κ a w s => by
    have h1 := s.oev x; rw [hx] at h1
    obtain ⟨b, cap, hkk, hv1⟩ := h1.ptr_inv
    obtain ⟨y, hy, hok⟩ := s.heap.ok id _ (List.mem_of_getElem? hk)
    rw [hkk] at hy
    obtain rfl := Option.some.inj hy
    obtain ⟨b', cs, hbe, hw, hsz, hone, hr⟩ := hok
    obtain rfl := Option.some.inj hbe
    have hoff : off < cs.size := by rw [hsz]; exact (List.getElem?_eq_some_iff.1 hv).1
    have hc : w.cell? ⟨b, off, none⟩ = some cs[off] := by simp [World.cell?, hw, hoff]
    exact ⟨cs[off], by simp [execOp, hv1, load1_run ht hc], hr off _ v (Array.getElem?_eq_getElem hoff) hv⟩
def takeD : Nat → List AV → Option (List D)
  | 0, _ => some []
  | n + 1, .d x :: l => match takeD n l with | some r => some (x :: r) | none => none
  | _ + 1, _ => none
theorem takeD_spec : ∀ (n : Nat) (l : List AV) (ds : List D), takeD n l = some ds → ds.length = n ∧ ∀ (j : Nat) (x : D), ds[j]? = some x → l[j]? = some (.d x)
  | 0, l, ds, h => by simp [takeD] at h; subst h; simp
  | n + 1, [], ds, h => by simp [takeD] at h
  | n + 1, y :: l, ds, h => by
    cases y with
    | d x =>
      simp only [takeD] at h
      cases hr : takeD n l with
      | none => rw [hr] at h; cases h
      | some r =>
        rw [hr] at h
        obtain rfl := Option.some.inj h
        obtain ⟨h1, h2⟩ := takeD_spec n l r hr
        refine ⟨by simp [h1], fun j x' hj => ?_⟩
        cases j with
        | zero => simp at hj; subst hj; rfl
        | succ j => exact h2 j x' (by simpa using hj)
    | _ => simp [takeD] at h
theorem RepD.one_of {w : World} {O : Nat → Prop} {v : Value} {d : D} (h : RepD w O v d) (h1 : v.oneCell' = true) : d.one = true := by
  cases h <;> first | rfl | simp [Value.oneCell'] at h1
theorem Q.ld_ptrn {t n id off k : Nat} {l : List AV} {ds : List D} {x : Operand} (ht : tAgg P t = some (true, n)) (hx : oev σ x = .ptr id off) (hk : hs[k]? = some (id, .cells l)) (hv : takeD n (l.drop off) = some ds) :
    Quiet P N σ hs ⟨d, .load t x, ty, pos, af, g⟩ (.d (.agg ds)) :=
  .of_run fun κ a w s => by
    have h1 := s.oev x; rw [hx] at h1
    obtain ⟨b, cap, hkk, hv1⟩ := h1.ptr_inv
    obtain ⟨y, hy, hok⟩ := s.heap.ok id _ (List.mem_of_getElem? hk)
    rw [hkk] at hy
    obtain rfl := Option.some.inj hy
    obtain ⟨b', cs, hbe, hw, hsz, hone, hr⟩ := hok
    obtain rfl := Option.some.inj hbe
    obtain ⟨hl, hj⟩ := takeD_spec n _ ds hv
    have hat : ∀ (j : Nat) (x : D), ds[j]? = some x → ∃ u, cs[off + j]? = some u ∧ RepD w (Own κ hs) u x ∧ u.oneCell' = true := fun j x hx => by
      have h2 := hj j x hx
      rw [List.getElem?_drop] at h2
      have hlt : off + j < cs.size := by rw [hsz]; exact (List.getElem?_eq_some_iff.1 h2).1
      refine ⟨cs[off + j], Array.getElem?_eq_getElem hlt, ?_, hone _ (by simp [Array.mem_toList_iff])⟩
      have h4 := hr _ _ _ (Array.getElem?_eq_getElem hlt) h2
      exact h4.d_inv
    have hcell : ∀ (j : Nat) (v : Value), ((cs.toList.drop off).take n)[j]? = some v → w.cell? ((⟨b, off, none⟩ : Addr).add j) = some v := fun j v hj => by
      rw [addr_add_lit]
      rw [List.getElem?_take] at hj
      split at hj
      · rw [List.getElem?_drop] at hj
        simp [World.cell?, hw]; simpa using hj
      · cases hj
    have hlen : ((cs.toList.drop off).take n).length = n := by
      by_cases hn0 : n = 0
      · subst hn0; simp
      · obtain ⟨u, hu, _⟩ := hat (n - 1) ds[n - 1] (List.getElem?_eq_getElem (by omega))
        have := (Array.getElem?_eq_some_iff.1 hu).1
        simp; omega
    refine ⟨.agg ((cs.toList.drop off).take n).toArray, by simp [execOp, hv1, loadn_run ht hlen hcell], .d (.agg _ _ (by simpa [hl] using hlen) (fun d hd => ?_) (fun i v d hi hd => ?_))⟩
    · obtain ⟨j, hj⟩ := List.getElem?_of_mem hd
      obtain ⟨u, _, h2, h3⟩ := hat j d hj
      exact h2.one_of h3
    · obtain ⟨u, h2, h3, _⟩ := hat i d hd
      have hi' : ((cs.toList.drop off).take n)[i]? = some v := by simpa using hi
      rw [List.getElem?_take] at hi'
      split at hi'
      · rw [List.getElem?_drop] at hi'
        have : cs[off + i]? = some v := by simpa using hi'
        rw [h2] at this
        obtain rfl := Option.some.inj this
        exact h3
      · cases hi'
theorem lst_cell {κ : Kap} {w : World} (h : HS κ w hs) {id sz k b cap : Nat} {rows : List (List D)} (hk : hs[k]? = some (id, .lst sz rows)) (hκ : κ id = some (some b, cap)) {i j : Nat} {r : List D} {x : D}
    (hr : rows[i]? = some r) (hj : r[j]? = some x) : ∃ u, w.cell? ⟨b, i * sz + j, none⟩ = some u ∧ RepD w (Own κ hs) u x := by
  obtain ⟨y, hy, hok⟩ := h.ok id _ (List.mem_of_getElem? hk)
  rw [hκ] at hy
  obtain rfl := Option.some.inj hy
  obtain ⟨g0, g0', g1, g2, g3, g4, g5⟩ := hok
  obtain ⟨cs, T, hw, hsz, hrep⟩ := g5 b rfl
  obtain ⟨u, hu, hd⟩ := hrep i j r x hr hj
  exact ⟨u, by simp [World.cell?, hw, hu], hd⟩
theorem Q.ld_ep {t id sz i off k : Nat} {rows : List (List D)} {r : List D} {y : D} {x : Operand} (ht : tAgg P t = some (false, 1)) (hx : oev σ x = .ep id sz i off) (hk : hs[k]? = some (id, .lst sz rows))
    (hr : rows[i]? = some r) (hy : r[off]? = some y) : Quiet P N σ hs ⟨d, .load t x, ty, pos, af, g⟩ (.d y) :=
  .of_run fun κ a w s => by
    have h1 := s.oev x; rw [hx] at h1
    obtain ⟨b, cap, hkk, hv1⟩ := h1.ep_inv
    obtain ⟨u, hu, hd⟩ := lst_cell s.heap hk hkk hr hy
    exact ⟨u, by simp [execOp, hv1, load1_run ht hu], .d hd⟩
theorem Q.ld_epn {t n id sz i off k : Nat} {rows : List (List D)} {r : List D} {x : Operand} (ht : tAgg P t = some (true, n)) (hx : oev σ x = .ep id sz i off) (hk : hs[k]? = some (id, .lst sz rows))
    (hr : rows[i]? = some r) (hn : Nat.ble (off + n) r.length = true) : Quiet P N σ hs ⟨d, .load t x, ty, pos, af, g⟩ (.d (.agg ((r.drop off).take n))) :=
  .of_run fun κ a w s => by
    have h1 := s.oev x; rw [hx] at h1
    obtain ⟨b, cap, hkk, hv1⟩ := h1.ep_inv
    have hn' : off + n ≤ r.length := by simpa [Nat.ble_eq] using hn
    have hat : ∀ (j : Nat) (x : D), ((r.drop off).take n)[j]? = some x → ∃ u, w.cell? ((⟨b, i * sz + off, none⟩ : Addr).add j) = some u ∧ RepD w (Own κ hs) u x := fun j x hj => by
      rw [List.getElem?_take] at hj
      split at hj
      · rw [List.getElem?_drop] at hj
        obtain ⟨u, hu, hd⟩ := lst_cell s.heap hk hkk hr hj
        exact ⟨u, by rw [addr_add_lit, Nat.add_assoc]; exact hu, hd⟩
      · cases hj
    have hlen : ((r.drop off).take n).length = n := by simp; omega
    let f : Nat → Value := fun j => (w.cell? ((⟨b, i * sz + off, none⟩ : Addr).add j)).getD undef
    have hf : ∀ (j : Nat) (x : D), ((r.drop off).take n)[j]? = some x → w.cell? ((⟨b, i * sz + off, none⟩ : Addr).add j) = some (f j) ∧ RepD w (Own κ hs) (f j) x := fun j x hj => by
      obtain ⟨u, hu, hd⟩ := hat j x hj
      have : f j = u := by simp [f, hu]
      rw [this]; exact ⟨hu, hd⟩
    have hone : ∀ d ∈ r, d.one = true := by
      obtain ⟨y, hy, hok⟩ := s.heap.ok id _ (List.mem_of_getElem? hk)
      exact hok.2.2.2.2.1 r (List.mem_of_getElem? hr)
    refine ⟨.agg ((List.range n).map f).toArray, ?_,   .d (.agg _ _ (by rw [List.size_toArray, List.length_map, List.length_range, hlen]) (fun d hd => hone d (List.mem_of_mem_drop (List.mem_of_mem_take hd))) (fun j v x hj hx => ?_))⟩
    · rw [show execOp a.eval ⟨d, .load t x, ty, pos, af, g⟩ = (do pure (.value (← Instr.loadAt t (a.eval x)))) from rfl, hv1, Sem.run_bind, loadn_run ht (cs := (List.range n).map f) (by simp)]
      · rfl
      · intro j v hj
        rw [List.getElem?_map] at hj
        have hjn : j < n := by
          by_cases h : j < n
          · exact h
          · simp [List.getElem?_eq_none (show (List.range n).length ≤ j by simpa using h)] at hj
        simp [hjn] at hj
        subst hj
        exact (hf j _ (List.getElem?_eq_getElem (by omega))).1
    · have hjn : j < n := by rw [← hlen]; exact (List.getElem?_eq_some_iff.1 hx).1
      simp [hjn] at hj
      subst hj
      exact (hf j x hx).2
end quiet
end Go.Proofs.YtaegeaajhbfkgaaGreatDoorA
/- Operations over abstract states: stores, new variables, lists that grow, cuts of slices, lengths, calls. -/
namespace Go.Proofs.YtaegeaajhbfkgaaGreatDoorA
open Go
set_option linter.unusedVariables false
set_option linter.unusedSimpArgs false
def oneA : AV → Bool
  | .d x => x.one
  | .any | .tup _ | .aggv _ | .when _ _ => false
  | _ => true
theorem RepA.one {κ : Kap} {w : World} {O : Nat → Prop} {v : Value} {x : AV} (h : RepA κ w O v x) (h1 : oneA x = true) : v.oneCell' = true := by
  cases h <;> first | rfl | (simp [oneA] at h1; done) | skip
  case d h => exact h.oneCell h1
theorem HS.rename {κ : Kap} {w : World} {hs : Hp} (h : HS κ w hs) {k id : Nat} {o : HO} (hk : hs[k]? = some (id, o)) :
    ∃ n κ', HS κ' w ((n, o) :: hs.eraseIdx k) ∧ Ext κ hs w κ' ((n, o) :: hs.eraseIdx k) w ∧ κ' n = κ id := by
  obtain ⟨n, hn⟩ := h.fresh
  obtain ⟨⟨ob, cap⟩, hx, hok⟩ := h.ok id o (List.mem_of_getElem? hk)
  have hsub := List.eraseIdx_sublist hs k
  let κ' : Kap := fun i => if i = n then κ id else κ i
  have hold : ∀ i x, κ i = some x → κ' i = some x := fun i x hi => by
    have : i ≠ n := fun he => by rw [he, hn n (Nat.le_refl _)] at hi; cases hi
    simp [κ', this, hi]
  have hmem : ∀ i o, (i, o) ∈ hs → i ≠ n := fun i o hi he => by
    obtain ⟨x, hx, _⟩ := h.ok i o hi
    rw [he, hn n (Nat.le_refl _)] at hx; cases hx
  have hne : ∀ i, i ≠ n → κ' i = κ i := fun i hi => by simp [κ', hi]
  have hnew : κ' n = κ id := by simp [κ']
  have hback : ∀ i o₁ b c, (i, o₁) ∈ (n, o) :: hs.eraseIdx k → κ' i = some (some b, c) → ∃ j o₂, (j, o₂) ∈ hs ∧ κ j = some (some b, c) := by
    intro i o₁ b c hi hb
    rcases List.mem_cons.1 hi with he | hi
    · obtain ⟨rfl, rfl⟩ := Prod.mk.inj he
      exact ⟨id, o₁, List.mem_of_getElem? hk, by rw [← hnew]; exact hb⟩
    · exact ⟨i, o₁, hsub.subset hi, by rw [← hne i (hmem _ _ (hsub.subset hi))]; exact hb⟩
  have e : Ext κ hs w κ' ((n, o) :: hs.eraseIdx k) w :=
    ⟨hold, Nat.le_refl _, fun _ => Nat.le_refl _, rfl, rfl, rfl, fun _ _ _ => rfl, fun b _ ⟨i, o₁, c, hi, hb⟩ => let ⟨j, o₂, h1, h2⟩ := hback i o₁ b c hi hb; ⟨j, o₂, c, h1, h2⟩, fun i o' hi => by
      rcases List.mem_cons.1 hi with he | hi
      · obtain ⟨rfl, rfl⟩ := Prod.mk.inj he
        exact .inr (hn _ (Nat.le_refl _))
      · exact .inl ⟨_, hsub.subset hi⟩, SameT.refl w⟩
  have hperm := erase_perm hs k _ hk
  have hnd := (hperm.map (·.1)).nodup_iff.2 h.nodup
  rw [List.map_cons, List.nodup_cons] at hnd
  refine ⟨n, κ', ⟨?_, ?_, ?_, n + 1, fun i hi => ?_⟩, e, hnew⟩
  · rw [List.map_cons, List.nodup_cons]
    refine ⟨fun hi => ?_, hnd.2⟩
    obtain ⟨⟨i, o'⟩, hi, he⟩ := List.mem_map.1 hi
    exact hmem i o' (hsub.subset hi) he
  · intro i o₁ hi
    rcases List.mem_cons.1 hi with he | hi
    · obtain ⟨rfl, rfl⟩ := Prod.mk.inj he
      exact ⟨_, hnew.trans hx, hok.ext e fun b _ => rfl⟩
    · obtain ⟨x, h1, h2⟩ := h.ok i o₁ (hsub.subset hi)
      exact ⟨x, hold _ _ h1, h2.ext e fun b _ => rfl⟩
  · intro i i' o₁ o₂ b c c' hi hi' h1 h2
    rcases List.mem_cons.1 hi with he | gi <;> rcases List.mem_cons.1 hi' with he' | gi'
    · obtain ⟨rfl, rfl⟩ := Prod.mk.inj he; obtain ⟨rfl, rfl⟩ := Prod.mk.inj he'; rfl
    · obtain ⟨rfl, rfl⟩ := Prod.mk.inj he
      rw [hne i' (hmem _ _ (hsub.subset gi'))] at h2
      rw [hnew] at h1
      have := h.inj id i' o₁ o₂ b c c' (List.mem_of_getElem? hk) (hsub.subset gi') h1 h2
      subst this
      exact absurd (List.mem_map.2 ⟨_, gi', rfl⟩) hnd.1
    · obtain ⟨rfl, rfl⟩ := Prod.mk.inj he'
      rw [hne i (hmem _ _ (hsub.subset gi))] at h1
      rw [hnew] at h2
      have := h.inj i id o₁ o₂ b c c' (hsub.subset gi) (List.mem_of_getElem? hk) h1 h2
      subst this
      exact absurd (List.mem_map.2 ⟨_, gi, rfl⟩) hnd.1
    · rw [hne i (hmem _ _ (hsub.subset gi))] at h1; rw [hne i' (hmem _ _ (hsub.subset gi'))] at h2
      exact h.inj i i' o₁ o₂ b c c' (hsub.subset gi) (hsub.subset gi') h1 h2
  · have : i ≠ n := by omega
    rw [hne i this]; exact hn i (by omega)
theorem write_cells {P : Program} {κ : Kap} {w : World} {hs : Hp} (h : HS κ w hs) {k id b cap off : Nat} {l xs : List AV} {vs : List Value} (hk : hs[k]? = some (id, .cells l)) (hκ : κ id = some (some b, cap))
    (hl : vs.length = xs.length) (hr : ∀ (i : Nat) (v : Value) (x : AV), vs[i]? = some v → xs[i]? = some x → RepA κ w (Own κ hs) v x) (h1 : ∀ v ∈ vs, v.oneCell' = true) (hoff : off + xs.length ≤ l.length) :
    ∃ w', (storeCells ⟨b, off, none⟩ vs).run P w = .ok () w' ∧ HS κ w' (hs.set k (id, .cells (l.take off ++ xs ++ l.drop (off + xs.length)))) ∧
      Ext κ hs w κ (hs.set k (id, .cells (l.take off ++ xs ++ l.drop (off + xs.length)))) w' := by
  obtain ⟨y, hy, hok⟩ := h.ok id _ (List.mem_of_getElem? hk)
  rw [hκ] at hy
  obtain rfl := Option.some.inj hy
  obtain ⟨b', cs, hbe, hw, hsz, hone, hrep⟩ := hok
  obtain rfl := Option.some.inj hbe
  have hst := run_storeCells_at P b off cap vs 0 cs w hw (by omega) h1
  simp only [Nat.add_zero] at hst
  refine ⟨_, hst, h.write hk hκ (by simp) rfl rfl rfl rfl (fun i hi => setRow_other w b i _ hi) fun hA hD => ?_⟩
  refine ⟨b, _, rfl, setRow_heap w b cs _ cap (0, 0) hw, ?_, ?_, ?_⟩
  · simp [hl, hsz]
  · intro v hv
    simp only [List.append_assoc, List.mem_append] at hv
    rcases hv with hv | hv | hv
    · exact hone v (List.mem_of_mem_take hv)
    · exact h1 v hv
    · exact hone v (List.mem_of_mem_drop hv)
  · intro i v x hi hx
    have hi' : (cs.toList.take off ++ vs ++ cs.toList.drop (off + vs.length))[i]? = some v := by simpa using hi
    apply hA
    rw [List.append_assoc, List.getElem?_append] at hi' hx
    have hlt1 : (cs.toList.take off).length = off := by simp; omega
    have hlt2 : (l.take off).length = off := by simp; omega
    rw [hlt1] at hi'; rw [hlt2] at hx
    split at hi'
    · rename_i hlt
      rw [if_pos hlt] at hx
      rw [List.getElem?_take, if_pos hlt] at hi' hx
      exact hrep i v x (by simpa using hi') hx
    · rename_i hge
      rw [if_neg hge] at hx
      rw [List.getElem?_append] at hi' hx
      rw [hl] at hi'
      split at hi'
      · rename_i hlt
        rw [if_pos hlt] at hx
        exact hr _ v x hi' hx
      · rename_i hge2
        rw [if_neg hge2] at hx
        rw [List.getElem?_drop] at hi' hx
        have he : off + xs.length + (i - off - xs.length) = i := by omega
        rw [he] at hi' hx
        exact hrep i v x (by simpa using hi') hx
section loud
variable {P : Program} {N : Nm} {σ : Env} {hs : Hp} {ty : TypeId} {pos : String} {af : Array Edge} {g : Option (Nat × Bool)}
theorem storeVar_run {t n : Nat} {b : Bool} (ht : tAgg P t = some (b, n)) {ad : Addr} {v : Value} {vs : List Value} (hv : v.cells.toList = vs) (hl : vs.length = n) {w w' : World}
    (hs : (storeCells ad vs).run P w = .ok () w') : (Instr.storeAt t (.pointer (some ad)) v).run P w = .ok () w' := by
  obtain ⟨h1, h2⟩ := tAgg_spec ht w
  have hsz : v.cells.size = n := by rw [← Array.length_toList, hv, hl]
  simp [Instr.storeAt, Instr.sureAddr, storeVar, h2, hsz, hv, hs]
theorem cells_one {v : Value} (h : v.oneCell' = true) : v.cells.toList = [v] := by
  cases v <;> first | rfl | simp [Value.oneCell'] at h
theorem set_eq {α : Type} (l : List α) (k : Nat) (x : α) (h : k < l.length) : l.take k ++ [x] ++ l.drop (k + 1) = l.set k x := by
  rw [List.set_eq_take_append_cons_drop]; simp [h]
theorem L.store {t id off k : Nat} {l : List AV} {v : AV} {x y : Operand} (ht : tAgg P t = some (false, 1)) (hx : oev σ x = .ptr id off) (hk : hs[k]? = some (id, .cells l)) (hoff : Nat.blt off l.length = true)
    (hy : oev σ y = v) (h1 : oneA v = true) : Loud P N σ hs ⟨none, .store t x y, ty, pos, af, g⟩ (fun σ' hs' => σ' = σ ∧ hs' = hs.set k (id, .cells (l.set off v))) := by
  intro κ a w s K Q hK
  have hx1 := s.oev x; rw [hx] at hx1
  have hy1 := s.oev y; rw [hy] at hy1
  obtain ⟨b, cap, hκ, hv⟩ := hx1.ptr_inv
  have hlt : off < l.length := by simpa [Nat.blt_eq] using hoff
  have ho := hy1.one h1
  obtain ⟨w', hst, h2, h3⟩ := write_cells (P := P) s.heap (xs := [v]) (vs := [a.eval y]) hk hκ rfl
    (fun i u x hi hx => by cases i with | zero => simp at hi hx; subst hi hx; exact hy1 | succ i => simp at hi) (by simpa using ho) (show off + [v].length ≤ l.length from hlt)
  rw [show l.take off ++ [v] ++ l.drop (off + [v].length) = l.set off v from set_eq l off v hlt] at h2 h3
  have hrun : (execOp a.eval ⟨none, .store t x y, ty, pos, af, g⟩).run P w = .ok .skip w' := by
    rw [show execOp a.eval ⟨none, .store t x y, ty, pos, af, g⟩ = (do Instr.storeAt t (a.eval x) (a.eval y); pure .skip) from rfl, hv, Sem.run_bind, storeVar_run ht (cells_one ho) rfl hst]
    rfl
  unfold oWp
  rw [hrun]
  exact hK κ a w' σ _ (s.ext h3 h2) h3 ⟨rfl, rfl⟩
theorem L.storen {t n id off k : Nat} {l : List AV} {ds : List D} {x y : Operand} (ht : tAgg P t = some (true, n)) (hx : oev σ x = .ptr id off) (hk : hs[k]? = some (id, .cells l)) (hy : oev σ y = .d (.agg ds))
    (hl : ds.length = n) (hoff : Nat.ble (off + ds.length) l.length = true) : Loud P N σ hs ⟨none, .store t x y, ty, pos, af, g⟩ (fun σ' hs' => σ' = σ ∧ hs' = hs.set k (id, .cells (l.take off ++ ds.map .d ++ l.drop (off + ds.length)))) := by
  intro κ a w s K Q hK
  have hx1 := s.oev x; rw [hx] at hx1
  have hy1 := s.oev y; rw [hy] at hy1
  obtain ⟨b, cap, hκ, hv⟩ := hx1.ptr_inv
  have hle : off + ds.length ≤ l.length := by simpa [Nat.ble_eq] using hoff
  have hd := hy1.d_inv
  generalize hu : a.eval y = u at hd
  cases hd with
  | agg cs _ hsz h1 hr =>
    obtain ⟨w', hst, h2, h3⟩ := write_cells (P := P) s.heap (xs := ds.map .d) (vs := cs.toList) hk hκ (by simpa using hsz)
      (fun i u x hi hx => by
        rw [List.getElem?_map] at hx
        obtain ⟨y, hy, rfl⟩ := Option.map_eq_some_iff.1 hx
        exact .d (hr i u y (by simpa using hi) hy))
      (fun v hv => by
        obtain ⟨i, hi⟩ := List.getElem?_of_mem hv
        have hi' : cs[i]? = some v := by simpa using hi
        have hlt : i < ds.length := by rw [← hsz]; exact (Array.getElem?_eq_some_iff.1 hi').1
        exact (hr i v _ hi' (List.getElem?_eq_getElem hlt)).oneCell (h1 _ (List.getElem_mem hlt)))
      (by simpa using hle)
    rw [List.length_map] at h2 h3
    have hrun : (execOp a.eval ⟨none, .store t x y, ty, pos, af, g⟩).run P w = .ok .skip w' := by
      rw [show execOp a.eval ⟨none, .store t x y, ty, pos, af, g⟩ = (do Instr.storeAt t (a.eval x) (a.eval y); pure .skip) from rfl, hv, hu, Sem.run_bind,
        storeVar_run ht (v := .agg cs) (vs := cs.toList) rfl (by rw [Array.length_toList, hsz, hl]) hst]
      rfl
    unfold oWp
    rw [hrun]
    exact hK κ a w' σ _ (s.ext h3 h2) h3 ⟨rfl, rfl⟩
theorem write_row {κ : Kap} {w : World} (h : HS κ w hs) {k id b cap sz i off : Nat} {rows : List (List D)} {r xs : List D} {vs : List Value} (hk : hs[k]? = some (id, .lst sz rows)) (hκ : κ id = some (some b, cap))
    (hr : rows[i]? = some r) (hl : vs.length = xs.length) (hrep : ∀ (j : Nat) (v : Value) (x : D), vs[j]? = some v → xs[j]? = some x → RepD w (Own κ hs) v x) (h1 : ∀ x ∈ xs, x.one = true)
    (hoff : off + xs.length ≤ r.length) :
    ∃ w', (storeCells ⟨b, i * sz + off, none⟩ vs).run P w = .ok () w' ∧ HS κ w' (hs.set k (id, .lst sz (rows.set i (r.take off ++ xs ++ r.drop (off + xs.length))))) ∧
      Ext κ hs w κ (hs.set k (id, .lst sz (rows.set i (r.take off ++ xs ++ r.drop (off + xs.length))))) w' := by
  obtain ⟨y, hy, hok⟩ := h.ok id _ (List.mem_of_getElem? hk)
  rw [hκ] at hy
  obtain rfl := Option.some.inj hy
  obtain ⟨g0, g0', g1, g2, g3, g4, g5⟩ := hok
  obtain ⟨cs, T, hw, hsz, hrp⟩ := g5 b rfl
  have hrl : r.length = sz := g2 r (List.mem_of_getElem? hr)
  have hi : i < rows.length := (List.getElem?_eq_some_iff.1 hr).1
  have hmul : (i + 1) * sz ≤ cap * sz := Nat.mul_le_mul_right _ (by omega)
  rw [Nat.succ_mul] at hmul
  have hone : ∀ v ∈ vs, v.oneCell' = true := fun v hv => by
    obtain ⟨j, hj⟩ := List.getElem?_of_mem hv
    have hlt : j < xs.length := by rw [← hl]; exact (List.getElem?_eq_some_iff.1 hj).1
    exact (hrep j v _ hj (List.getElem?_eq_getElem hlt)).oneCell (h1 _ (List.getElem_mem hlt))
  have hst := run_storeCells_at P b (i * sz + off) T vs 0 cs w hw (by omega) hone
  simp only [Nat.add_zero] at hst
  have hnew : (r.take off ++ xs ++ r.drop (off + xs.length)).length = sz := by simp; omega
  refine ⟨_, hst, h.write hk hκ (by simp) rfl rfl rfl rfl (fun i hi => setRow_other w b i _ hi) fun hA hD => ?_⟩
  refine ⟨by simpa using g0, g0', g1, ?_, ?_, g4, fun b' hb' => ?_⟩
  · intro r' hr'
    rcases List.mem_or_eq_of_mem_set hr' with hr' | rfl
    · exact g2 r' hr'
    · exact hnew
  · intro r' hr' x hx
    rcases List.mem_or_eq_of_mem_set hr' with hr' | rfl
    · exact g3 r' hr' x hx
    · simp only [List.append_assoc, List.mem_append] at hx
      rcases hx with hx | hx | hx
      · exact g3 r (List.mem_of_getElem? hr) x (List.mem_of_mem_take hx)
      · exact h1 x hx
      · exact g3 r (List.mem_of_getElem? hr) x (List.mem_of_mem_drop hx)
  · obtain rfl := Option.some.inj hb'
    refine ⟨_, T, setRow_heap w b cs _ T (0, 0) hw, by simp; omega, ?_⟩
    have get : ∀ q, (cs.toList.take (i * sz + off) ++ vs ++ cs.toList.drop (i * sz + off + vs.length)).toArray[q]? =
        if q < i * sz + off then cs[q]? else if q < i * sz + off + xs.length then vs[q - (i * sz + off)]? else cs[q]? := by
      intro q
      simp only [List.getElem?_toArray, List.append_assoc, List.getElem?_append, List.length_take, Array.length_toList, hl]
      have : min (i * sz + off) cs.size = i * sz + off := by omega
      rw [this]
      by_cases hq : q < i * sz + off
      · simp [hq]
      · rw [if_neg hq, if_neg hq]
        by_cases hq2 : q < i * sz + off + xs.length
        · rw [if_pos (by omega), if_pos hq2]
        · rw [if_neg (by omega), if_neg hq2, List.getElem?_drop]
          have : i * sz + off + xs.length + (q - (i * sz + off) - xs.length) = q := by omega
          rw [this]; simp
    intro i' j r' d' hi' hj'
    rw [List.getElem?_set] at hi'
    split at hi'
    · rename_i hii
      subst hii
      obtain rfl := Option.some.inj hi'
      rw [get]
      rw [List.append_assoc, List.getElem?_append] at hj'
      have h2 : (r.take off).length = off := by simp; omega
      rw [h2] at hj'
      split at hj'
      · rename_i hlt
        rw [List.getElem?_take, if_pos hlt] at hj'
        obtain ⟨u, hu, hd⟩ := hrp i j r d' hr hj'
        exact ⟨u, by rw [if_pos (by omega)]; exact hu, hD _ _ hd⟩
      · rename_i hge
        rw [List.getElem?_append] at hj'
        split at hj'
        · rename_i hlt
          have hlv : j - off < vs.length := by omega
          refine ⟨vs[j - off], ?_, hD _ _ (hrep (j - off) _ d' (List.getElem?_eq_getElem hlv) hj')⟩
          rw [if_neg (by omega), if_pos (by omega)]
          have : i * sz + j - (i * sz + off) = j - off := by omega
          rw [this]; exact List.getElem?_eq_getElem hlv
        · rename_i hge2
          rw [List.getElem?_drop] at hj'
          have : off + xs.length + (j - off - xs.length) = j := by omega
          rw [this] at hj'
          obtain ⟨u, hu, hd⟩ := hrp i j r d' hr hj'
          exact ⟨u, by rw [if_neg (by omega), if_neg (by omega)]; exact hu, hD _ _ hd⟩
    · rename_i hii
      have hjl : j < sz := by rw [← g2 r' (List.mem_of_getElem? hi')]; exact (List.getElem?_eq_some_iff.1 hj').1
      obtain ⟨u, hu, hd⟩ := hrp i' j r' d' hi' hj'
      refine ⟨u, ?_, hD _ _ hd⟩
      rw [get]
      rcases Nat.lt_or_gt_of_ne (fun h => hii h.symm) with hlt | hgt
      · have := Nat.mul_le_mul_right sz (show i' + 1 ≤ i by omega)
        rw [Nat.succ_mul] at this
        rw [if_pos (by omega)]; exact hu
      · have := Nat.mul_le_mul_right sz (show i + 1 ≤ i' by omega)
        rw [Nat.succ_mul] at this
        rw [if_neg (by omega), if_neg (by omega)]; exact hu
theorem L.storen_ep {t n id sz i off k : Nat} {rows : List (List D)} {r ds : List D} {x y : Operand} (ht : tAgg P t = some (true, n)) (hx : oev σ x = .ep id sz i off) (hk : hs[k]? = some (id, .lst sz rows))
    (hr : rows[i]? = some r) (hy : oev σ y = .d (.agg ds)) (hl : ds.length = n) (hoff : Nat.ble (off + ds.length) r.length = true) :
    Loud P N σ hs ⟨none, .store t x y, ty, pos, af, g⟩ (fun σ' hs' => σ' = σ ∧ hs' = hs.set k (id, .lst sz (rows.set i (r.take off ++ ds ++ r.drop (off + ds.length))))) := by
  intro κ a w s K Q hK
  have hx1 := s.oev x; rw [hx] at hx1
  have hy1 := s.oev y; rw [hy] at hy1
  obtain ⟨b, cap, hκ, hv⟩ := hx1.ep_inv
  have hle : off + ds.length ≤ r.length := by simpa [Nat.ble_eq] using hoff
  have hd := hy1.d_inv
  generalize hu : a.eval y = u at hd
  cases hd with
  | agg cs _ hsz h1 hrp =>
    obtain ⟨w', hst, h2, h3⟩ := write_row (P := P) s.heap (xs := ds) (vs := cs.toList) hk hκ hr (by simpa using hsz)
      (fun i u x hi hx => hrp i u x (by simpa using hi) hx) h1 hle
    have hrun : (execOp a.eval ⟨none, .store t x y, ty, pos, af, g⟩).run P w = .ok .skip w' := by
      rw [show execOp a.eval ⟨none, .store t x y, ty, pos, af, g⟩ = (do Instr.storeAt t (a.eval x) (a.eval y); pure .skip) from rfl, hv, hu, Sem.run_bind,
        storeVar_run ht (v := .agg cs) (vs := cs.toList) rfl (by rw [Array.length_toList, hsz, hl]) hst]
      rfl
    unfold oWp
    rw [hrun]
    exact hK κ a w' σ _ (s.ext h3 h2) h3 ⟨rfl, rfl⟩
theorem cellA_rep (κ : Kap) (w : World) (O : Nat → Prop) (v : Value) : RepA κ w O v (cellA v) := by
  unfold cellA
  split
  · exact .nilsl
  · cases hc : cellD v with
    | none => exact .any _
    | some x =>
      unfold cellD at hc
      split at hc <;> first | (cases hc; done) | (obtain rfl := Option.some.inj hc)
      · exact .d (.int _ _)
      · exact .d (.bool _)
      · exact .d (.str _)
      · exact .d .nilp
      · exact .d .nilif
      · exact .d (.sl none 0 0 0 [] (fun _ _ => undef) rfl (Nat.le_refl _) (by simp) (by simp) (by simp) (by simp))
theorem new_cells {κ : Kap} {w : World} (h : HS κ w hs) (vs : List Value) (l : List AV) (T : TypeId) (hl : vs.length = l.length) (h1 : ∀ v ∈ vs, v.oneCell' = true)
    (hr : ∀ (i : Nat) (v : Value) (x : AV), vs[i]? = some v → l[i]? = some x → RepA κ w (Own κ hs) v x) :
    ∃ id κ', HS κ' (w.alloc (.cells vs.toArray T)) ((id, .cells l) :: hs) ∧ Ext κ hs w κ' ((id, .cells l) :: hs) (w.alloc (.cells vs.toArray T)) ∧ κ' id = some (some w.heap.size, T) :=
  h.alloc vs.toArray T (.cells l) T fun κ' id hk O hA hD =>
    ⟨w.heap.size, vs.toArray, rfl, heap_alloc_new w _, by simpa using hl, by simpa using h1, fun i v x hi hx => hA _ _ (hr i v x (by simpa using hi) hx)⟩
theorem newRow_run (T : TypeId) (cs : Array Value) (w : World) : (newRow T cs).run P w = .ok ⟨w.heap.size, 0, none⟩ (w.alloc (.cells cs T)) := by
  simp [newRow]
theorem L.alloc {t T : Nat} {vs : List Value} (hz : tZero P T = some vs) (h1 : vs.all (·.oneCell') = true) (htN : Nat.blt t N.n = true) :
    Loud P N σ hs ⟨some t, .alloc T, ty, pos, af, g⟩ (fun σ' hs' => ∃ id, σ' = (t, .ptr id 0) :: σ ∧ hs' = (id, .cells (vs.map cellA)) :: hs) := by
  intro κ a w s K Q hK
  obtain ⟨i, hi, hz⟩ := Option.bind_eq_some_iff.1 hz
  obtain ⟨z, hz, hvs⟩ := Option.map_eq_some_iff.1 hz
  obtain ⟨id, κ', h2, e, hk⟩ := new_cells s.heap vs (vs.map cellA) T (by simp) (by simpa using h1)
    (fun i v x hi hx => by
      rw [List.getElem?_map, hi] at hx
      obtain rfl := Option.some.inj hx
      exact cellA_rep _ _ _ v)
  have hzr : (zeroValue T).run P w = .ok z w := by simp [zeroValue, typeInfo, hi, hz]
  have hrun : (execOp a.eval ⟨some t, .alloc T, ty, pos, af, g⟩).run P w = .ok (.value (.pointer (some ⟨w.heap.size, 0, none⟩))) (w.alloc (.cells vs.toArray T)) := by
    rw [show execOp a.eval ⟨some t, .alloc T, ty, pos, af, g⟩ = (do pure (.value (← (do let zero ← zeroValue T; pure (.pointer (some (← newVar T zero))))))) from rfl]
    simp only [Sem.run_bind, hzr, Result.andThen_ok, newVar, newRow_run, Sem.run_pure]
    rw [← hvs]
  unfold oWp
  rw [hrun]
  exact hK κ' _ _ _ _ (s.put e h2 (by simpa [Nat.blt_eq] using htN) (.ptr w.heap.size _ id 0 hk)) e ⟨id, rfl, rfl⟩
theorem L.box {t T : Nat} {v : AV} {x : Operand} (hx : oev σ x = v) (h1 : oneA v = true) (htN : Nat.blt t N.n = true) :
    Loud P N σ hs ⟨some t, .box T x, ty, pos, af, g⟩ (fun σ' hs' => ∃ id, σ' = (t, .ptr id 0) :: σ ∧ hs' = (id, .cells [v]) :: hs) := by
  intro κ a w s K Q hK
  have hx1 := s.oev x; rw [hx] at hx1
  have ho := hx1.one h1
  obtain ⟨id, κ', h2, e, hk⟩ := new_cells s.heap [a.eval x] [v] T rfl (by simpa using ho)
    (fun i u y hi hy => by cases i with | zero => simp at hi hy; subst hi hy; exact hx1 | succ i => simp at hi)
  have hrun : (execOp a.eval ⟨some t, .box T x, ty, pos, af, g⟩).run P w = .ok (.value (.pointer (some ⟨w.heap.size, 0, none⟩))) (w.alloc (.cells [a.eval x].toArray T)) := by
    rw [show execOp a.eval ⟨some t, .box T x, ty, pos, af, g⟩ = (do pure (.value (← (do pure (.pointer (some (← newVar T (a.eval x)))))))) from rfl]
    simp only [Sem.run_bind, Result.andThen_ok, newVar, newRow_run, Sem.run_pure]
    rw [show (a.eval x).cells = [a.eval x].toArray from by rw [← cells_one ho]]
  unfold oWp
  rw [hrun]
  exact hK κ' _ _ _ _ (s.put e h2 (by simpa [Nat.blt_eq] using htN) (.ptr w.heap.size _ id 0 hk)) e ⟨id, rfl, rfl⟩
theorem L.boxn {t T : Nat} {ds : List D} {x : Operand} (hx : oev σ x = .d (.agg ds)) (htN : Nat.blt t N.n = true) :
    Loud P N σ hs ⟨some t, .box T x, ty, pos, af, g⟩ (fun σ' hs' => ∃ id, σ' = (t, .ptr id 0) :: σ ∧ hs' = (id, .cells (ds.map .d)) :: hs) := by
  intro κ a w s K Q hK
  have hx1 := s.oev x; rw [hx] at hx1
  have hd := hx1.d_inv
  generalize hu : a.eval x = u at hd
  cases hd with
  | agg cs _ hsz h1 hr =>
    obtain ⟨id, κ', h2, e, hk⟩ := new_cells s.heap cs.toList (ds.map .d) T (by simpa using hsz)
      (fun v hv => by
        obtain ⟨i, hi⟩ := List.getElem?_of_mem hv
        have hi' : cs[i]? = some v := by simpa using hi
        have hlt : i < ds.length := by rw [← hsz]; exact (Array.getElem?_eq_some_iff.1 hi').1
        exact (hr i v _ hi' (List.getElem?_eq_getElem hlt)).oneCell (h1 _ (List.getElem_mem hlt)))
      (fun i u y hi hy => by
        rw [List.getElem?_map] at hy
        obtain ⟨z, hz, rfl⟩ := Option.map_eq_some_iff.1 hy
        exact .d (hr i u z (by simpa using hi) hz))
    have hrun : (execOp a.eval ⟨some t, .box T x, ty, pos, af, g⟩).run P w = .ok (.value (.pointer (some ⟨w.heap.size, 0, none⟩))) (w.alloc (.cells cs.toList.toArray T)) := by
      rw [show execOp a.eval ⟨some t, .box T x, ty, pos, af, g⟩ = (do pure (.value (← (do pure (.pointer (some (← newVar T (a.eval x)))))))) from rfl]
      simp only [Sem.run_bind, Result.andThen_ok, newVar, newRow_run, Sem.run_pure, hu, Value.cells]
    unfold oWp
    rw [hrun]
    exact hK κ' _ _ _ _ (s.put e h2 (by simpa [Nat.blt_eq] using htN) (.ptr w.heap.size _ id 0 hk)) e ⟨id, rfl, rfl⟩
end loud
section cuts
variable {P : Program} {N : Nm} {σ : Env} {hs : Hp} {d : Option Tmp} {ty : TypeId} {pos : String} {af : Array Edge} {g : Option (Nat × Bool)}
theorem builtin_run {b : Builtin} {args : Array Operand} {at_ : Array TypeId} {a : Act} {w : World} : (execOp a.eval ⟨d, .call ⟨.builtin b, args, at_⟩, ty, pos, af, g⟩).run P w =
    (builtin b at_ ty (args.map fun | .const _ => true | _ => false) (args.map a.eval)).run P w := by
  simp [execOp, resolve, invoke]
  rfl
def isSl (P : Program) (t : TypeId) : Bool := match P.underlying t with | some (.slice _) => true | _ => false
def isStr (P : Program) (t : TypeId) : Bool := match P.underlying t with | some .string => true | _ => false
theorem isSl_spec {t : TypeId} (h : isSl P t = true) : ∃ e, P.underlying t = some (.slice e) := by
  unfold isSl at h
  split at h
  · rename_i e he; exact ⟨e, he⟩
  · cases h
theorem isStr_spec {t : TypeId} (h : isStr P t = true) : P.underlying t = some .string := by
  unfold isStr at h
  split at h
  · rename_i he; exact he
  · cases h
theorem len_run {t e len cap : Nat} {p : Option Addr} (hu : P.underlying t = some (.slice e)) (w : World) : (Builtin.len_ #[t] ty #[.slice p len cap]).run P w = .ok (.int .i64 len) w := by
  simp [Builtin.len_, run_underlying hu, goInt]
theorem Q.len_sl {t sz : Nat} {rows : List (List D)} {x : Operand} (ht : isSl P t = true) (hx : oev σ x = .d (.sl sz rows)) :
    Quiet P N σ hs ⟨d, .call ⟨.builtin .len, #[x], #[t]⟩, ty, pos, af, g⟩ (.d (.int .i64 rows.length)) :=
  .of_run fun κ a w s => by
    have h1 := s.oev x; rw [hx] at h1
    obtain ⟨p, cap, c, hv, _⟩ := h1.sl_inv
    obtain ⟨e, hu⟩ := isSl_spec ht
    refine ⟨.int .i64 rows.length, ?_, .d (.int _ _)⟩
    rw [builtin_run]
    simp [builtin, hv, len_run hu]
theorem Q.len_vs {t id lo n sz : Nat} {x : Operand} (ht : isSl P t = true) (hx : oev σ x = .vs id lo n sz) : Quiet P N σ hs ⟨d, .call ⟨.builtin .len, #[x], #[t]⟩, ty, pos, af, g⟩ (.d (.int .i64 n)) :=
  .of_run fun κ a w s => by
    have h1 := s.oev x; rw [hx] at h1
    obtain ⟨e, hu⟩ := isSl_spec ht
    refine ⟨.int .i64 n, ?_, .d (.int _ _)⟩
    generalize hv : a.eval x = v at h1
    cases h1
    rw [builtin_run]
    simp [builtin, hv, len_run hu]
theorem Q.len_str {t : Nat} {b : ByteArray} {x : Operand} (ht : isStr P t = true) (hx : oev σ x = .d (.str b)) : Quiet P N σ hs ⟨d, .call ⟨.builtin .len, #[x], #[t]⟩, ty, pos, af, g⟩ (.d (.int .i64 b.size)) :=
  .of_run fun κ a w s => by
    have h1 := s.oev x; rw [hx] at h1
    refine ⟨.int .i64 b.size, ?_, .d (.int _ _)⟩
    rw [builtin_run]
    simp [builtin, h1.str_inv, Builtin.len_, run_underlying (isStr_spec ht), goInt]
theorem Q.maxi {ta : Array TypeId} {x y : Operand} {k : IntKind} {m n : Int} (hx : oev σ x = .d (.int k m)) (hy : oev σ y = .d (.int k n)) :
    Quiet P N σ hs ⟨d, .call ⟨.builtin .max, #[x, y], ta⟩, ty, pos, af, g⟩ (.d (.int k (max m n))) :=
  .of_run fun κ a w s => by
    have h1 := s.oev x; have h2 := s.oev y
    rw [hx] at h1; rw [hy] at h2
    refine ⟨.int k (max m n), ?_, .d (.int _ _)⟩
    rw [builtin_run]
    have : (if n > m then n else m) = max m n := by omega
    simp [builtin, h1.int_inv, h2.int_inv, Builtin.max_, Builtin.max2, ← this]
theorem Q.mini {ta : Array TypeId} {x y : Operand} {k : IntKind} {m n : Int} (hx : oev σ x = .d (.int k m)) (hy : oev σ y = .d (.int k n)) :
    Quiet P N σ hs ⟨d, .call ⟨.builtin .min, #[x, y], ta⟩, ty, pos, af, g⟩ (.d (.int k (min m n))) :=
  .of_run fun κ a w s => by
    have h1 := s.oev x; have h2 := s.oev y
    rw [hx] at h1; rw [hy] at h2
    refine ⟨.int k (min m n), ?_, .d (.int _ _)⟩
    rw [builtin_run]
    have : (if n < m then n else m) = min m n := by omega
    simp [builtin, h1.int_inv, h2.int_inv, Builtin.min_, Builtin.min2, ← this]
theorem Q.mkfn {f : FuncId} {caps : Array Operand} {xs : List AV} (hc : caps.toList.map (oev σ) = xs) : Quiet P N σ hs ⟨d, .makeFunc (.func f) #[] caps, ty, pos, af, g⟩ (.fn f xs) :=
  .of_run fun κ a w s => by
    refine ⟨.func (.func f) #[] (caps.map a.eval), by simp [execOp, Instr.makeFunc], .fn _ _ _ (by simp [← hc]) (fun i v x hi hx => ?_)⟩
    rw [← hc, List.getElem?_map] at hx
    obtain ⟨o, ho, rfl⟩ := Option.map_eq_some_iff.1 hx
    have : caps[i]? = some o := by simpa using ho
    simp [this] at hi
    subst hi
    exact s.oev o
end cuts
end Go.Proofs.YtaegeaajhbfkgaaGreatDoorA
/- Operations over abstract states: cuts of slices, slices and structs that are written out, lists that grow. -/
namespace Go.Proofs.YtaegeaajhbfkgaaGreatDoorA
open Go
set_option linter.unusedVariables false
set_option linter.unusedSimpArgs false
def OI (σ : Env) : Option Operand → Int → Int → Prop
  | none, dflt, i => i = dflt
  | some x, _, i => oev σ x = .d (.int .i64 i)
theorem OI.val {N : Nm} {κ : Kap} {hs : Hp} {w : World} {σ : Env} {a : Act} (s : Sim N κ hs w σ a) {o : Option Operand} {dflt i : Int} (h : OI σ o dflt i) :
    (o = none ∧ i = dflt) ∨ ∃ x, o = some x ∧ a.eval x = .int .i64 i := by
  cases o with
  | none => exact .inl ⟨rfl, h⟩
  | some x =>
    have h1 := s.oev x
    rw [show oev σ x = _ from h] at h1
    exact .inr ⟨x, rfl, h1.int_inv⟩
theorem bound_run {P : Program} {i : Int} {y : Nat} (code : BoundsCode) (h0 : 0 ≤ i) (h1 : i ≤ y) (w : World) : (Instr.sliceBound (.int .i64 i) y code).run P w = .ok i.toNat w := by
  simp [Instr.sliceBound, asIntOf, h0, h1]
theorem bounds_run {P : Program} {N : Nm} {κ : Kap} {hs : Hp} {w : World} {σ : Env} {a : Act} (s : Sim N κ hs w σ a) (isSl : Bool) {len cap : Nat} {lo hi : Option Operand} {i j : Int} (hl : OI σ lo 0 i) (hh : OI σ hi len j)
    (h0 : 0 ≤ i) (h1 : i ≤ j) (h2 : j ≤ cap) : (Instr.sliceBounds isSl len cap (lo.map a.eval) (hi.map a.eval) none).run P w = .ok (i.toNat, j.toNat, cap) w := by
  have hj : (i : Int) ≤ (j.toNat : Int) := by omega
  rcases hl.val s with ⟨rfl, rfl⟩ | ⟨x, rfl, hx⟩ <;> rcases hh.val s with ⟨rfl, rfl⟩ | ⟨y, rfl, hy⟩
  · simp [Instr.sliceBounds]
  · simp [Instr.sliceBounds, hy, bound_run _ (show 0 ≤ j by omega) h2]
  · simp [Instr.sliceBounds, hx, bound_run _ h0 (show i ≤ (len : Int) by omega)]
  · simp [Instr.sliceBounds, hx, hy, bound_run _ (show 0 ≤ j by omega) h2, bound_run _ h0 hj]
theorem sliceAt_run {P : Program} {t e : TypeId} {inf : TypeInfo} (hu : P.underlying t = some (.slice e)) (hin : P.info? e = some inf) {p : Option Addr} {len cap : Nat} {lo hi mx : Option Value} {l h m : Nat} {w : World}
    (hb : (Instr.sliceBounds true len cap lo hi mx).run P w = .ok (l, h, m) w) :
    (Instr.sliceAt t (.slice p len cap) lo hi mx).run P w = .ok (.slice (if m = l then p else p.map (·.add (l * inf.size))) (h - l) (m - l)) w := by
  simp [Instr.sliceAt, Instr.slice, run_underlying hu, hb, size_run hin]
section cuts
variable {P : Program} {N : Nm} {σ : Env} {hs : Hp} {d : Option Tmp} {ty : TypeId} {pos : String} {af : Array Edge} {g : Option (Nat × Bool)}
theorem RepD.cut {w : World} {O : Nat → Prop} {p : Option Addr} {len cap sz : Nat} {rows : List (List D)} (h : RepD w O (.slice p len cap) (.sl sz rows)) {l j m : Nat} (h1 : l ≤ j) (h2 : j ≤ len) (h3 : j ≤ m) (hm : m ≤ cap) :
    RepD w O (.slice (if m = l then p else p.map (·.add (l * sz))) (j - l) (m - l)) (.sl sz ((rows.take j).drop l)) := by
  cases h with
  | sl _ _ _ _ _ c hl hc hr ho hmm hd =>
    have key : ∀ (i q : Nat) (r : List D) (x : D), ((rows.take j).drop l)[i]? = some r → r[q]? = some x → rows[l + i]? = some r ∧ l + i < j := by
      intro i q r x hi hq
      rw [List.getElem?_drop, List.getElem?_take] at hi
      split at hi
      · exact ⟨hi, by assumption⟩
      · cases hi
    refine .sl _ _ _ _ _ (fun i q => c (l + i) q) (by simp; omega) (by omega) (fun r hr' => hr r (List.mem_of_mem_take (List.mem_of_mem_drop hr')))
      (fun r hr' => ho r (List.mem_of_mem_take (List.mem_of_mem_drop hr'))) (fun i q r x hi hq => ?_) (fun i q r x hi hq => hd _ _ _ _ (key i q r x hi hq).1 hq)
    obtain ⟨h4, h5⟩ := key i q r x hi hq
    obtain ⟨ad, rfl, h6, h7⟩ := hmm _ _ _ _ h4 hq
    have hne : ¬ m = l := by omega
    refine ⟨ad.add (l * sz), by simp [hne], by rw [addr_add_block]; exact h6, ?_⟩
    rw [addr_add_add, ← Nat.add_assoc, ← Nat.add_mul]
    exact h7
theorem Q.cut_sl {t sz : Nat} {rows : List (List D)} {x : Operand} {lo hi : Option Operand} {i j : Int} (ht : tSl P t = some sz) (hx : oev σ x = .d (.sl sz rows)) (hl : OI σ lo 0 i) (hh : OI σ hi rows.length j)
    (h0 : 0 ≤ i) (h1 : i ≤ j) (h2 : j ≤ rows.length) : Quiet P N σ hs ⟨d, .slice t x lo hi none, ty, pos, af, g⟩ (.d (.sl sz ((rows.take j.toNat).drop i.toNat))) :=
  .of_run fun κ a w s => by
    have h3 := s.oev x; rw [hx] at h3
    obtain ⟨p, cap, c, hv, hc, _⟩ := h3.sl_inv
    obtain ⟨e, inf, hu, hin, rfl⟩ := tSl_spec ht
    have hb := bounds_run (P := P) s true (cap := cap) hl hh h0 h1 (by omega)
    refine ⟨.slice (if cap = i.toNat then p else p.map (·.add (i.toNat * inf.size))) (j.toNat - i.toNat) (cap - i.toNat), ?_, .d ?_⟩
    · rw [show execOp a.eval ⟨d, .slice t x lo hi none, ty, pos, af, g⟩ = (do pure (.value (← Instr.sliceAt t (a.eval x) (lo.map a.eval) (hi.map a.eval) (Option.map a.eval none)))) from rfl, hv, Sem.run_bind]
      simp only [Option.map_none]
      rw [sliceAt_run hu hin hb]
      rfl
    · have h4 := h3.d_inv
      rw [hv] at h4
      exact h4.cut (by omega) (by omega) (by omega) (by omega)
theorem RepA.vs_inv {κ : Kap} {w : World} {O : Nat → Prop} {v : Value} {id lo n sz : Nat} (h : RepA κ w O v (.vs id lo n sz)) :
    ∃ ob cap p, κ id = some (ob, cap) ∧ lo + n ≤ cap ∧ (lo < cap → p = ob.map fun b => (⟨b, lo * sz, none⟩ : Addr)) ∧ v = .slice p n (cap - lo) := by
  cases h with | vs ob cap p _ _ _ _ hk hn hp => exact ⟨ob, cap, p, hk, hn, hp, rfl⟩
theorem Q.cut_vs {t sz id lo0 n : Nat} {x : Operand} {lo hi : Option Operand} {i j : Int} (ht : tSl P t = some sz) (hx : oev σ x = .vs id lo0 n sz) (hl : OI σ lo 0 i) (hh : OI σ hi n j)
    (h0 : 0 ≤ i) (h1 : i ≤ j) (h2 : j ≤ n) : Quiet P N σ hs ⟨d, .slice t x lo hi none, ty, pos, af, g⟩ (.vs id (lo0 + i.toNat) (j.toNat - i.toNat) sz) :=
  .of_run fun κ a w s => by
    have h3 := s.oev x; rw [hx] at h3
    obtain ⟨ob, cap, p, hk, hn, hp, hv⟩ := h3.vs_inv
    obtain ⟨e, inf, hu, hin, rfl⟩ := tSl_spec ht
    have hb := bounds_run (P := P) s true (cap := cap - lo0) hl hh h0 h1 (by omega)
    refine ⟨.slice (if cap - lo0 = i.toNat then p else p.map (·.add (i.toNat * inf.size))) (j.toNat - i.toNat) (cap - lo0 - i.toNat), ?_, ?_⟩
    · rw [show execOp a.eval ⟨d, .slice t x lo hi none, ty, pos, af, g⟩ = (do pure (.value (← Instr.sliceAt t (a.eval x) (lo.map a.eval) (hi.map a.eval) (Option.map a.eval none)))) from rfl, hv, Sem.run_bind]
      simp only [Option.map_none]
      rw [sliceAt_run hu hin hb]
      rfl
    · rw [Nat.sub_sub]
      refine .vs ob cap _ id _ _ _ hk (by omega) fun hlt => ?_
      have hne : ¬ cap - lo0 = i.toNat := by omega
      rw [if_neg hne, hp (by omega)]
      cases ob with
      | none => rfl
      | some b => simp only [Option.map_some, addr_add_lit, Nat.add_mul]
theorem Q.cut_vs2 {t sz id lo0 n kk : Nat} {rows : List (List D)} {x : Operand} {lo hi : Option Operand} {i j : Int} (ht : tSl P t = some sz) (hx : oev σ x = .vs id lo0 n sz) (hk : hs[kk]? = some (id, .lst sz rows)) (hl : OI σ lo 0 i) (hh : OI σ hi n j)
    (h0 : 0 ≤ i) (h1 : i ≤ j) (h2 : lo0 + j ≤ rows.length) : Quiet P N σ hs ⟨d, .slice t x lo hi none, ty, pos, af, g⟩ (.vs id (lo0 + i.toNat) (j.toNat - i.toNat) sz) :=
  .of_run fun κ a w s => by
    have h3 := s.oev x; rw [hx] at h3
    obtain ⟨ob, cap, p, hkk, hn, hp, hv⟩ := h3.vs_inv
    obtain ⟨y, hy, hok⟩ := s.heap.ok id _ (List.mem_of_getElem? hk)
    rw [hkk] at hy
    obtain rfl := Option.some.inj hy
    have hcap : rows.length ≤ cap := hok.1
    obtain ⟨e, inf, hu, hin, rfl⟩ := tSl_spec ht
    have hb := bounds_run (P := P) s true (cap := cap - lo0) hl hh h0 h1 (by omega)
    refine ⟨.slice (if cap - lo0 = i.toNat then p else p.map (·.add (i.toNat * inf.size))) (j.toNat - i.toNat) (cap - lo0 - i.toNat), ?_, ?_⟩
    · rw [show execOp a.eval ⟨d, .slice t x lo hi none, ty, pos, af, g⟩ = (do pure (.value (← Instr.sliceAt t (a.eval x) (lo.map a.eval) (hi.map a.eval) (Option.map a.eval none)))) from rfl, hv, Sem.run_bind]
      simp only [Option.map_none]
      rw [sliceAt_run hu hin hb]
      rfl
    · rw [Nat.sub_sub]
      refine .vs ob cap _ id _ _ _ hkk (by omega) fun hlt => ?_
      have hne : ¬ cap - lo0 = i.toNat := by omega
      rw [if_neg hne, hp (by omega)]
      cases ob with
      | none => rfl
      | some b => simp only [Option.map_some, addr_add_lit, Nat.add_mul]
theorem bounds3_run {κ : Kap} {w : World} {a : Act} (s : Sim N κ hs w σ a) {len cap : Nat} {lo : Option Operand} {hi mx : Operand} {i j m : Int} (hl : OI σ lo 0 i) (hh : oev σ hi = .d (.int .i64 j)) (hmx : oev σ mx = .d (.int .i64 m))
    (h0 : 0 ≤ i) (h1 : i ≤ j) (h2 : j ≤ m) (h3 : m ≤ cap) : (Instr.sliceBounds true len cap (lo.map a.eval) (some (a.eval hi)) (some (a.eval mx))).run P w = .ok (i.toNat, j.toNat, m.toNat) w := by
  have hh1 := s.oev hi; rw [hh] at hh1
  have hm1 := s.oev mx; rw [hmx] at hm1
  have b1 := bound_run (P := P) (i := m) (y := cap) .slice3Acap (by omega) h3 w
  have b2 := bound_run (P := P) (i := j) (y := m.toNat) .slice3B (by omega) (by omega) w
  have b3 := bound_run (P := P) (i := i) (y := j.toNat) .slice3C h0 (by omega) w
  rcases hl.val s with ⟨rfl, rfl⟩ | ⟨x, rfl, hx⟩
  · simp [Instr.sliceBounds, hh1.int_inv, hm1.int_inv, b1, b2]
  · simp [Instr.sliceBounds, hh1.int_inv, hm1.int_inv, b1, b2, hx, b3]
theorem Q.cut3_vs {t sz id lo0 n : Nat} {x hi mx : Operand} {lo : Option Operand} {i j m : Int} (ht : tSl P t = some sz) (hx : oev σ x = .vs id lo0 n sz) (hl : OI σ lo 0 i) (hh : oev σ hi = .d (.int .i64 j))
    (hmx : oev σ mx = .d (.int .i64 m)) (h0 : 0 ≤ i) (h1 : i ≤ j) (h2 : j ≤ m) (h3 : m ≤ n) : Quiet P N σ hs ⟨d, .slice t x lo (some hi) (some mx), ty, pos, af, g⟩ .any :=
  .of_run fun κ a w s => by
    have h4 := s.oev x; rw [hx] at h4
    obtain ⟨ob, cap, p, hk, hn, hp, hv⟩ := h4.vs_inv
    obtain ⟨e, inf, hu, hin, rfl⟩ := tSl_spec ht
    have hb := bounds3_run (P := P) s (len := n) (cap := cap - lo0) hl hh hmx h0 h1 h2 (by omega)
    refine ⟨.slice (if m.toNat = i.toNat then p else p.map (·.add (i.toNat * inf.size))) (j.toNat - i.toNat) (m.toNat - i.toNat), ?_, .any _⟩
    rw [show execOp a.eval ⟨d, .slice t x lo (some hi) (some mx), ty, pos, af, g⟩ = (do pure (.value (← Instr.sliceAt t (a.eval x) (lo.map a.eval) (some (a.eval hi)) (some (a.eval mx))))) from rfl, hv, Sem.run_bind]
    rw [sliceAt_run hu hin hb]
    rfl
theorem Q.idx_str {t : Nat} {b : ByteArray} {x ix : Operand} {k : IntKind} {i : Int} (ht : isStr P t = true) (hx : oev σ x = .d (.str b)) (hi : oev σ ix = .d (.int k i)) (h0 : 0 ≤ i) (h1 : i < b.size) :
    Quiet P N σ hs ⟨d, .index t x ix, ty, pos, af, g⟩ (.d (.int .u8 ((b.data.toList.getD i.toNat 0).toNat))) :=
  .of_run fun κ a w s => by
    have h3 := s.oev x; rw [hx] at h3
    have h4 := s.oev ix; rw [hi] at h4
    refine ⟨.int .u8 ((b.data.toList.getD i.toNat 0).toNat), ?_, .d (.int _ _)⟩
    have hlt : i.toNat < b.size := by omega
    have hb : b[i.toNat]? = some (b.data.toList.getD i.toNat 0) := by
      rw [getElem?_pos b i.toNat hlt]
      have : b.data.toList.getD i.toNat 0 = b.data.toList[i.toNat]'(by simpa using hlt) := by
        rw [List.getD, List.getElem?_eq_getElem (by simpa using hlt)]; rfl
      rw [this]
      rfl
    simp only [execOp, h3.str_inv, h4.int_inv, Sem.run_bind, Instr.index, asIntOf_run, Result.andThen_ok, run_underlying (isStr_spec ht), h0, if_true, hb, Sem.run_pure]
end cuts
def dcells : AV → Option (List D)
  | .d (.agg ds) => some ds
  | .d x => some [x]
  | .nilsl => some [.sl 0 []]
  | _ => none
def afill (place : Nat → Option (Nat × Nat)) : List D → List (Nat × AV) → Option (List D)
  | l, [] => some l
  | l, (i, x) :: rest => match place i, dcells x with
    | some (off, size), some ds => match Nat.beq ds.length size && Nat.ble (off + size) l.length with
      | true => afill place (l.take off ++ ds ++ l.drop (off + size)) rest
      | false => none
    | _, _ => none
def Filled (w : World) (O : Nat → Prop) (cs : Array Value) (l : List D) : Prop :=
  cs.size = l.length ∧ (∀ x ∈ l, x.one = true) ∧ ∀ (i : Nat) (v : Value) (x : D), cs[i]? = some v → l[i]? = some x → RepD w O v x
theorem dcells_rep {κ : Kap} {w : World} {O : Nat → Prop} {v : Value} {x : AV} {ds : List D} (h : RepA κ w O v x) (hd : dcells x = some ds) : Filled w O v.cells ds := by
  unfold dcells at hd
  split at hd <;> first | (cases hd; done) | (obtain rfl := Option.some.inj hd)
  · have h1 := h.d_inv
    cases h1 with | agg cs _ hs ho hr => exact ⟨hs, ho, hr⟩
  · rename_i y hne
    have h1 := h.d_inv
    have ho : y.one = true := by cases y <;> first | rfl | exact absurd rfl (hne _)
    have hc := cells_one (h1.oneCell ho)
    refine ⟨by rw [← Array.length_toList, hc]; rfl, by simpa using ho, fun i u z hi hz => ?_⟩
    have hi' : v.cells.toList[i]? = some u := by simpa using hi
    rw [hc] at hi'
    cases i with
    | zero => simp at hi' hz; subst hi' hz; exact h1
    | succ i => simp at hz
  · cases h
    refine ⟨rfl, by simp [D.one], fun i u z hi hz => ?_⟩
    cases i with
    | zero =>
      simp [Value.cells] at hi hz
      subst hi hz
      exact .sl none 0 0 0 [] (fun _ _ => undef) rfl (Nat.le_refl _) (by simp) (by simp) (by simp) (by simp)
    | succ i => simp at hz
theorem foldPut : ∀ (vs : List Value) (off k : Nat) (cs : Array Value), ((vs.zipIdx k).foldl (fun (cs : Array Value) (x : Value × Nat) => cs.setIfInBounds (off + x.2) x.1) cs).size = cs.size ∧
    ∀ q, ((vs.zipIdx k).foldl (fun (cs : Array Value) (x : Value × Nat) => cs.setIfInBounds (off + x.2) x.1) cs)[q]? =
      if off + k ≤ q ∧ q < off + k + vs.length ∧ q < cs.size then vs[q - (off + k)]? else cs[q]?
  | [], off, k, cs => ⟨rfl, fun q => by simp; intro h1 h2; omega⟩
  | v :: vs, off, k, cs => by
    obtain ⟨h1, h2⟩ := foldPut vs off (k + 1) (cs.setIfInBounds (off + k) v)
    simp only [List.zipIdx_cons, List.foldl_cons]
    refine ⟨by rw [h1]; simp, fun q => ?_⟩
    rw [h2 q]
    simp only [Array.size_setIfInBounds, List.length_cons]
    by_cases hq : off + (k + 1) ≤ q ∧ q < off + (k + 1) + vs.length ∧ q < cs.size
    · rw [if_pos hq, if_pos (by omega)]
      have : q - (off + k) = q - (off + (k + 1)) + 1 := by omega
      rw [this]; rfl
    · rw [if_neg hq]
      by_cases hqk : q = off + k
      · subst hqk
        by_cases hlt : off + k < cs.size
        · rw [if_pos (by omega)]; simp [hlt]
        · rw [if_neg (by omega)]
          simp [Array.getElem?_eq_none (show cs.size ≤ off + k by omega), Array.getElem?_eq_none (show (cs.setIfInBounds (off + k) v).size ≤ off + k by simp; omega)]
      · rw [if_neg (by omega)]
        exact Array.getElem?_setIfInBounds_ne (by omega)
theorem fill_run {κ : Kap} {w : World} {O : Nat → Prop} {place : Nat → Option (Nat × Nat)} : ∀ (parts : List (Nat × Value)) (xs : List (Nat × AV)) (cs : Array Value) (l l' : List D),
    parts.length = xs.length → (∀ (i : Nat) p x, parts[i]? = some p → xs[i]? = some x → p.1 = x.1 ∧ RepA κ w O p.2 x.2) → Filled w O cs l → afill place l xs = some l' →
    ∃ cs', Instr.fill place cs parts = some cs' ∧ Filled w O cs' l'
  | [], [], cs, l, l', _, _, hf, ha => by
    simp [afill] at ha; subst ha
    exact ⟨cs, rfl, hf⟩
  | [], _ :: _, _, _, _, h, _, _, _ => by simp at h
  | _ :: _, [], _, _, _, h, _, _, _ => by simp at h
  | (i, v) :: parts, (i', x) :: xs, cs, l, l', hlen, hr, hf, ha => by
    obtain ⟨he, hrep⟩ := hr 0 _ _ rfl rfl
    simp only at he hrep
    subst he
    simp only [afill] at ha
    cases hp : place i with
    | none => simp [hp] at ha
    | some os =>
      obtain ⟨off, size⟩ := os
      cases hd : dcells x with
      | none => simp [hp, hd] at ha
      | some ds =>
        simp only [hp, hd] at ha
        cases hb : Nat.beq ds.length size && Nat.ble (off + size) l.length with
        | false => simp [hb] at ha
        | true =>
          simp only [hb] at ha
          have hb2 := Bool.and_eq_true_iff.1 hb
          have hsz : ds.length = size := Nat.eq_of_beq_eq_true hb2.1
          have hle : off + size ≤ l.length := Nat.le_of_ble_eq_true hb2.2
          obtain ⟨g1, g2, g3⟩ := dcells_rep hrep hd
          obtain ⟨f1, f2, f3⟩ := hf
          have hput := foldPut v.cells.toList off 0 cs
          simp only [Nat.add_zero] at hput
          have hnew : Filled w O ((v.cells.toList.zipIdx 0).foldl (fun (cs : Array Value) (x : Value × Nat) => cs.setIfInBounds (off + x.2) x.1) cs) (l.take off ++ ds ++ l.drop (off + size)) := by
            refine ⟨by rw [hput.1, f1]; simp; omega, fun y hy => ?_, fun q u y hu hy => ?_⟩
            · simp only [List.append_assoc, List.mem_append] at hy
              rcases hy with hy | hy | hy
              · exact f2 y (List.mem_of_mem_take hy)
              · exact g2 y hy
              · exact f2 y (List.mem_of_mem_drop hy)
            · rw [hput.2 q] at hu
              rw [List.append_assoc, List.getElem?_append] at hy
              have hto : (l.take off).length = off := by simp; omega
              rw [hto] at hy
              have hvl : v.cells.toList.length = size := by rw [Array.length_toList, g1, hsz]
              split at hy
              · rename_i hq
                rw [if_neg (by omega)] at hu
                rw [List.getElem?_take, if_pos hq] at hy
                exact f3 q u y hu hy
              · rename_i hq
                rw [List.getElem?_append] at hy
                split at hy
                · rename_i hq2
                  rw [if_pos (by omega)] at hu
                  exact g3 _ u y (by simpa using hu) hy
                · rename_i hq2
                  rw [if_neg (by omega)] at hu
                  rw [List.getElem?_drop] at hy
                  have : off + size + (q - off - ds.length) = q := by omega
                  rw [this] at hy
                  exact f3 q u y hu hy
          obtain ⟨cs', h1, h2⟩ := fill_run parts xs _ _ l' (by simpa using hlen) (fun k p y hk hy => hr (k + 1) p y (by simpa using hk) (by simpa using hy)) hnew ha
          refine ⟨cs', ?_, h2⟩
          simp only [Instr.fill, hp]
          have hcs : v.cells.size = size := by rw [g1, hsz]
          rw [if_neg (by simp [hcs]; omega)]
          rw [← h1]
          congr 1
          rw [← Array.foldl_toList]
          simp [Array.toList_zipIdx]
def tPl (P : Program) (t : TypeId) : Option (List (Nat × Nat)) := match P.underlying t with
  | some (.struct fs) => fs.toList.mapM fun f => (P.info? f.type).map fun i => (f.offset, i.size)
  | _ => none
theorem places_run {P : Program} (w : World) : ∀ (fs : List Field) (pl : List (Nat × Nat)), (fs.mapM fun f => (P.info? f.type).map fun i => (f.offset, i.size)) = some pl →
    (fs.mapM (m := Sem) fun f => (do let n ← sizeOf f.type; pure (f.offset, n))).run P w = .ok pl w
  | [], pl, h => by simp at h; subst h; rfl
  | f :: fs, pl, h => by
    simp only [List.mapM_cons, Option.bind_eq_bind, Option.pure_def] at h
    obtain ⟨x, hx, h⟩ := Option.bind_eq_some_iff.1 h
    obtain ⟨ys, hy, h⟩ := Option.bind_eq_some_iff.1 h
    obtain rfl := Option.some.inj h
    obtain ⟨i, hi, rfl⟩ := Option.map_eq_some_iff.1 hx
    have ih := places_run (P := P) w fs ys hy
    rw [List.mapM_cons, Sem.run_bind, Sem.run_bind, size_run hi]
    simp only [Result.andThen_ok, Sem.run_pure, Sem.run_bind, ih]
theorem cellD_rep (w : World) (O : Nat → Prop) : ∀ (v : Value) (x : D), cellD v = some x → RepD w O v x ∧ x.one = true := by
  intro v x h
  unfold cellD at h
  split at h <;> first | (cases h; done) | (obtain rfl := Option.some.inj h)
  · exact ⟨.int _ _, rfl⟩
  · exact ⟨.bool _, rfl⟩
  · exact ⟨.str _, rfl⟩
  · exact ⟨.nilp, rfl⟩
  · exact ⟨.nilif, rfl⟩
  · exact ⟨.sl none 0 0 0 [] (fun _ _ => undef) rfl (Nat.le_refl _) (by simp) (by simp) (by simp) (by simp), rfl⟩
theorem cellsD_rep (w : World) (O : Nat → Prop) : ∀ (vs : List Value) (l : List D), cellsD vs = some l → Filled w O vs.toArray l
  | [], l, h => by simp [cellsD] at h; subst h; exact ⟨rfl, by simp, by simp⟩
  | v :: vs, l, h => by
    simp only [cellsD] at h
    cases h1 : cellD v with
    | none => simp [h1] at h
    | some x =>
      cases h2 : cellsD vs with
      | none => simp [h1, h2] at h
      | some r =>
        simp only [h1, h2] at h
        obtain rfl := Option.some.inj h
        obtain ⟨f1, f2, f3⟩ := cellsD_rep w O vs r h2
        obtain ⟨g1, g2⟩ := cellD_rep w O v x h1
        refine ⟨by simpa using f1, by simpa using ⟨g2, f2⟩, fun i u y hi hy => ?_⟩
        cases i with
        | zero => simp at hi hy; subst hi hy; exact g1
        | succ i => exact f3 i u y (by simpa using hi) (by simpa using hy)
section build
variable {P : Program} {N : Nm} {σ : Env} {hs : Hp} {d : Option Tmp} {ty : TypeId} {pos : String} {af : Array Edge} {g : Option (Nat × Bool)}
theorem parts_rep {κ : Kap} {w : World} {a : Act} (s : Sim N κ hs w σ a) (parts : Array (Nat × Operand)) : ((parts.map fun (i, x) => (i, a.eval x)).toList).length = (parts.toList.map fun p => (p.1, oev σ p.2)).length ∧
    ∀ (i : Nat) p x, ((parts.map fun (i, x) => (i, a.eval x)).toList)[i]? = some p → (parts.toList.map fun p => (p.1, oev σ p.2))[i]? = some x → p.1 = x.1 ∧ RepA κ w (Own κ hs) p.2 x.2 := by
  refine ⟨by simp, fun i p x hp hx => ?_⟩
  rw [List.getElem?_map] at hx
  obtain ⟨q, hq, rfl⟩ := Option.map_eq_some_iff.1 hx
  have hq' : parts[i]? = some q := by simpa using hq
  simp [hq'] at hp
  subst hp
  exact ⟨rfl, s.oev _⟩
theorem Q.build {t : Nat} {pl : List (Nat × Nat)} {z : List Value} {zd l : List D} {parts : Array (Nat × Operand)} (ht : tPl P t = some pl) (hz : tZero P t = some z) (hzd : cellsD z = some zd)
    (hf : afill (fun i => pl[i]?) zd (parts.toList.map fun p => (p.1, oev σ p.2)) = some l) : Quiet P N σ hs ⟨d, .build t parts, ty, pos, af, g⟩ (.d (.agg l)) :=
  .of_run fun κ a w s => by
    obtain ⟨inf, hi, hz⟩ := Option.bind_eq_some_iff.1 hz
    obtain ⟨zv, hzv, rfl⟩ := Option.map_eq_some_iff.1 hz
    obtain ⟨h1, h2⟩ := parts_rep s parts
    obtain ⟨cs', h3, f1, f2, f3⟩ := fill_run _ _ _ _ l h1 h2 (cellsD_rep w (Own κ hs) _ zd hzd) hf
    unfold tPl at ht
    split at ht
    · rename_i fs hu
      have hpl := places_run (P := P) w fs.toList pl ht
      refine ⟨.agg cs', ?_, .d (.agg _ _ f1 f2 f3)⟩
      have hzr : (zeroValue t).run P w = .ok zv w := by simp [zeroValue, typeInfo, hi, hzv]
      have hpl2 : (fs.mapM (m := Sem) fun f => (do let n ← sizeOf f.type; pure (f.offset, n))).run P w = .ok pl.toArray w := by
        rw [Array.mapM_eq_mapM_toList, Sem.run_map, hpl]; rfl
      rw [show execOp a.eval ⟨d, .build t parts, ty, pos, af, g⟩ = (do pure (.value (← Instr.build t (parts.map fun (i, x) => (i, a.eval x))))) from rfl, Sem.run_bind]
      have hb : (Instr.build t (parts.map fun (i, x) => (i, a.eval x))).run P w = .ok (.agg cs') w := by
        simp only [Instr.build, Sem.run_bind, hzr, Result.andThen_ok, run_underlying hu, hpl2]
        simp only [List.getElem?_toArray]
        simp only [Array.toArray_toList] at h3
        rw [h3]
        rfl
      rw [hb]; rfl
    · cases ht
end build
end Go.Proofs.YtaegeaajhbfkgaaGreatDoorA
/- Lists that grow, over abstract states: append, slices that are written out, make, clear. -/
namespace Go.Proofs.YtaegeaajhbfkgaaGreatDoorA
open Go
set_option linter.unusedVariables false
set_option linter.unusedSimpArgs false
def tApp (P : Program) (t : TypeId) : Option (Nat × Nat) := match P.underlying t with
  | some (.slice e) => match P.info? e with
    | some i => match i.zero with
      | some z => match Nat.beq z.cells.size i.size && Nat.blt 0 i.size && Nat.blt 0 i.bytes with
        | true => some (i.size, i.bytes)
        | false => none
      | none => none
    | none => none
  | _ => none
theorem tApp_spec {P : Program} {t sz bytes : Nat} (h : tApp P t = some (sz, bytes)) : ∃ e i z, P.underlying t = some (.slice e) ∧ P.info? e = some i ∧ i.zero = some z ∧ i.size = sz ∧ i.bytes = bytes ∧
    z.cells.size = sz ∧ 0 < sz ∧ 0 < bytes := by
  unfold tApp at h
  split at h
  · rename_i e hu
    split at h
    · rename_i i hi
      split at h
      · rename_i z hz
        split at h
        · rename_i hb
          obtain ⟨rfl, rfl⟩ := Prod.mk.inj (Option.some.inj h)
          simp only [Bool.and_eq_true] at hb
          obtain ⟨⟨h1, h2⟩, h3⟩ := hb
          exact ⟨e, i, z, hu, hi, hz, rfl, rfl, Nat.eq_of_beq_eq_true h1, by simpa [Nat.blt_eq] using h2, by simpa [Nat.blt_eq] using h3⟩
        · cases h
      · cases h
    · cases h
  · cases h
def Lined (w : World) (O : Nat → Prop) (sz : Nat) (rows : List (List D)) (vs : List Value) : Prop :=
  vs.length = rows.length * sz ∧ (∀ u ∈ vs, u.oneCell' = true) ∧ ∀ (i j : Nat) (r : List D) (x : D), rows[i]? = some r → r[j]? = some x → ∃ u, vs[i * sz + j]? = some u ∧ RepD w O u x
theorem at_row {sz : Nat} (hz : 0 < sz) {rows : List (List D)} (hr : ∀ r ∈ rows, r.length = sz) {q : Nat} (hq : q < rows.length * sz) :
    ∃ i j r x, q = i * sz + j ∧ i = q / sz ∧ j = q % sz ∧ rows[i]? = some r ∧ r[j]? = some x := by
  have hi : q / sz < rows.length := Nat.div_lt_of_lt_mul (by rw [Nat.mul_comm]; exact hq)
  have hj : q % sz < sz := Nat.mod_lt _ hz
  have hl := hr rows[q / sz] (List.getElem_mem hi)
  exact ⟨q / sz, q % sz, rows[q / sz], (rows[q / sz])[q % sz]'(by omega), by rw [Nat.mul_comm]; exact (Nat.div_add_mod q sz).symm, rfl, rfl, List.getElem?_eq_getElem hi, List.getElem?_eq_getElem _⟩
theorem src_cells {κ : Kap} {w : World} {O : Nat → Prop} {v : Value} {sz : Nat} {rows : List (List D)} (hz : 0 < sz) (h : RepD w O v (.sl sz rows)) :
    ∃ p cap vs, v = .slice p rows.length cap ∧ rows.length ≤ cap ∧ Lined w O sz rows vs ∧ (∀ (j : Nat) u, vs[j]? = some u → ∃ ad, p = some ad ∧ w.cell? (ad.add j) = some u) ∧ (∀ r ∈ rows, r.length = sz) ∧
      ∀ r ∈ rows, ∀ x ∈ r, x.one = true := by
  cases h with
  | sl p len cap _ _ c hl hc hr ho hm hd =>
    subst hl
    refine ⟨p, cap, (List.range (rows.length * sz)).map fun q => c (q / sz) (q % sz), rfl, hc, ⟨by simp, fun u hu => ?_, fun i j r x hi hj => ?_⟩, fun q u hq => ?_, hr, ho⟩
    · obtain ⟨q, hq, rfl⟩ := List.mem_map.1 hu
      obtain ⟨i, j, r, x, _, rfl, rfl, h3, h4⟩ := at_row hz hr (List.mem_range.1 hq)
      exact (hd _ _ r x h3 h4).oneCell (ho r (List.mem_of_getElem? h3) x (List.mem_of_getElem? h4))
    · have hi' : i < rows.length := (List.getElem?_eq_some_iff.1 hi).1
      have hj' : j < sz := by rw [← hr r (List.mem_of_getElem? hi)]; exact (List.getElem?_eq_some_iff.1 hj).1
      have hlt : i * sz + j < rows.length * sz := by
        have := Nat.mul_le_mul_right sz (show i + 1 ≤ rows.length from hi')
        rw [Nat.succ_mul] at this; omega
      have h1 : (i * sz + j) / sz = i := by rw [Nat.mul_comm, Nat.mul_add_div hz, Nat.div_eq_of_lt hj', Nat.add_zero]
      have h2 : (i * sz + j) % sz = j := by rw [Nat.mul_comm, Nat.mul_add_mod, Nat.mod_eq_of_lt hj']
      exact ⟨c i j, by simp [hlt, h1, h2], hd i j r x hi hj⟩
    · rw [List.getElem?_map] at hq
      obtain ⟨q', hq', rfl⟩ := Option.map_eq_some_iff.1 hq
      have hlt : q < rows.length * sz := by
        have := (List.getElem?_eq_some_iff.1 hq').1; simpa using this
      simp [hlt] at hq'
      subst hq'
      obtain ⟨i, j, r, x, h0, h1, h2, h3, h4⟩ := at_row hz hr hlt
      obtain ⟨ad, hp, _, h5⟩ := hm i j r x h3 h4
      refine ⟨ad, hp, ?_⟩
      rw [← h1, ← h2, h0]; exact h5
theorem Lined.append {w : World} {O : Nat → Prop} {sz : Nat} {r₁ r₂ : List (List D)} {v₁ v₂ : List Value} (h₁ : Lined w O sz r₁ v₁) (h₂ : Lined w O sz r₂ v₂) (hr : ∀ r ∈ r₁, r.length = sz) : Lined w O sz (r₁ ++ r₂) (v₁ ++ v₂) := by
  obtain ⟨a1, a2, a3⟩ := h₁
  obtain ⟨b1, b2, b3⟩ := h₂
  refine ⟨by simp [a1, b1, Nat.add_mul], fun u hu => (List.mem_append.1 hu).elim (a2 u) (b2 u), fun i j r x hi hj => ?_⟩
  rw [List.getElem?_append] at hi
  split at hi
  · obtain ⟨u, hu, hd⟩ := a3 i j r x hi hj
    exact ⟨u, by rw [List.getElem?_append_left (List.getElem?_eq_some_iff.1 hu).1]; exact hu, hd⟩
  · rename_i hge
    obtain ⟨u, hu, hd⟩ := b3 _ j r x hi hj
    refine ⟨u, ?_, hd⟩
    have hm : r₁.length * sz ≤ i * sz := Nat.mul_le_mul_right _ (by omega)
    rw [List.getElem?_append_right (by omega), a1, ← hu]
    congr 1
    rw [Nat.sub_mul]; omega
theorem Lined.mono {w w' : World} {O O' : Nat → Prop} {sz : Nat} {rows : List (List D)} {vs : List Value} (h : Lined w O sz rows vs) (hm : ∀ v x, RepD w O v x → RepD w' O' v x) : Lined w' O' sz rows vs :=
  ⟨h.1, h.2.1, fun i j r x hi hj => let ⟨u, h1, h2⟩ := h.2.2 i j r x hi hj; ⟨u, h1, hm _ _ h2⟩⟩
theorem new_lst {κ : Kap} {w : World} {hs : Hp} (h : HS κ w hs) {sz cap : Nat} {rows : List (List D)} {vs rest : List Value} (T : TypeId) (hz : 0 < sz) (hl : Lined w (Own κ hs) sz rows vs)
    (hr : ∀ r ∈ rows, r.length = sz) (ho : ∀ r ∈ rows, ∀ x ∈ r, x.one = true) (hc : rows.length ≤ cap) (hm : cap ≤ maxLen) (hrest : rest.length = (cap - rows.length) * sz) :
    ∃ id κ', HS κ' (w.drew.alloc (.cells (vs ++ rest).toArray T)) ((id, .lst sz rows) :: hs) ∧ Ext κ hs w κ' ((id, .lst sz rows) :: hs) (w.drew.alloc (.cells (vs ++ rest).toArray T)) ∧ κ' id = some (some w.heap.size, cap) := by
  obtain ⟨h1, e1⟩ := h.drew (w.drawn + 1) (Nat.le_succ _)
  have h1' : HS κ w.drew hs := h1
  have e1' : Ext κ hs w κ hs w.drew := e1
  have hl' : Lined w.drew (Own κ hs) sz rows vs := hl.mono fun v x hx => hx.ext e1'
  obtain ⟨id, κ', h2, e2, hk⟩ := h1'.alloc (vs ++ rest).toArray T (.lst sz rows) cap fun κ' id hk O hA hD => by
    refine ⟨hc, hm, hz, hr, ho, (fun h => by cases h), fun b hb => ?_⟩
    obtain rfl := Option.some.inj hb
    refine ⟨_, T, heap_alloc_new w.drew _, ?_, fun i j r x hi hj => ?_⟩
    · rw [List.size_toArray, List.length_append, hl.1, hrest, ← Nat.add_mul, Nat.add_sub_of_le hc]
    · obtain ⟨u, hu, hd⟩ := hl'.2.2 i j r x hi hj
      exact ⟨u, by simp [List.getElem?_append_left (List.getElem?_eq_some_iff.1 hu).1, hu], hD _ _ hd⟩
  exact ⟨id, κ', h2, e1'.trans e2, hk⟩
theorem lst_cells {κ : Kap} {w : World} {hs : Hp} (h : HS κ w hs) {k id sz cap : Nat} {ob : Option Nat} {rows : List (List D)} (hk : hs[k]? = some (id, .lst sz rows)) (hκ : κ id = some (ob, cap)) :
    ∃ vs, Lined w (Own κ hs) sz rows vs ∧ ∀ b, ob = some b → ∃ cs T, w.heap[b]? = some (.cells cs T (0, 0)) ∧ cs.size = cap * sz ∧ vs = cs.toList.take (rows.length * sz) := by
  obtain ⟨y, hy, hok⟩ := h.ok id _ (List.mem_of_getElem? hk)
  rw [hκ] at hy
  obtain rfl := Option.some.inj hy
  obtain ⟨g0, g0', g1, g2, g3, g4, g5⟩ := hok
  cases ob with
  | none =>
    have hr0 : rows = [] := List.eq_nil_of_length_eq_zero (by have := g4 rfl; omega)
    subst hr0
    exact ⟨[], ⟨by simp, by simp, by simp⟩, fun b hb => by cases hb⟩
  | some b =>
    obtain ⟨cs, T, hw, hsz, hrep⟩ := g5 b rfl
    have hm : rows.length * sz ≤ cap * sz := Nat.mul_le_mul_right _ g0
    refine ⟨cs.toList.take (rows.length * sz), ⟨by simp; omega, fun u hu => ?_, fun i j r x hi hj => ?_⟩, fun b' hb' => ?_⟩
    · obtain ⟨q, hq⟩ := List.getElem?_of_mem hu
      rw [List.getElem?_take] at hq
      split at hq
      · rename_i hlt
        obtain ⟨i, j, r, x, h0, _, _, h3, h4⟩ := at_row g1 g2 hlt
        obtain ⟨v, hv, hd⟩ := hrep i j r x h3 h4
        rw [← h0] at hv
        have hq' : cs[q]? = some u := by simpa using hq
        rw [hv] at hq'
        obtain rfl := Option.some.inj hq'
        exact hd.oneCell (g3 r (List.mem_of_getElem? h3) x (List.mem_of_getElem? h4))
      · cases hq
    · obtain ⟨v, hv, hd⟩ := hrep i j r x hi hj
      have hi' : i < rows.length := (List.getElem?_eq_some_iff.1 hi).1
      have hj' : j < sz := by rw [← g2 r (List.mem_of_getElem? hi)]; exact (List.getElem?_eq_some_iff.1 hj).1
      have hlt : i * sz + j < rows.length * sz := by
        have := Nat.mul_le_mul_right sz (show i + 1 ≤ rows.length from hi')
        rw [Nat.succ_mul] at this; omega
      exact ⟨v, by rw [List.getElem?_take, if_pos hlt]; simpa using hv, hd⟩
    · obtain rfl := Option.some.inj hb'
      exact ⟨cs, T, hw, hsz, rfl⟩
theorem write_rows {P : Program} {κ : Kap} {w : World} {hs : Hp} (h : HS κ w hs) {k id b cap sz i : Nat} {rows new : List (List D)} {vs : List Value} (hk : hs[k]? = some (id, .lst sz rows)) (hκ : κ id = some (some b, cap))
    (hl : Lined w (Own κ hs) sz new vs) (hr : ∀ r ∈ new, r.length = sz) (ho : ∀ r ∈ new, ∀ x ∈ r, x.one = true) (hi : i ≤ rows.length) (hc : i + new.length ≤ cap) :
    ∃ w', (storeCells ⟨b, i * sz, none⟩ vs).run P w = .ok () w' ∧ HS κ w' (hs.set k (id, .lst sz (rows.take i ++ new ++ rows.drop (i + new.length)))) ∧
      Ext κ hs w κ (hs.set k (id, .lst sz (rows.take i ++ new ++ rows.drop (i + new.length)))) w' := by
  obtain ⟨y, hy, hok⟩ := h.ok id _ (List.mem_of_getElem? hk)
  rw [hκ] at hy
  obtain rfl := Option.some.inj hy
  obtain ⟨g0, g0', g1, g2, g3, g4, g5⟩ := hok
  obtain ⟨cs, T, hw, hsz, hrp⟩ := g5 b rfl
  have hmul : (i + new.length) * sz ≤ cap * sz := Nat.mul_le_mul_right _ hc
  rw [Nat.add_mul] at hmul
  have hst := run_storeCells_at P b (i * sz) T vs 0 cs w hw (by rw [hl.1]; omega) hl.2.1
  simp only [Nat.add_zero] at hst
  refine ⟨_, hst, h.write hk hκ (by simp) rfl rfl rfl rfl (fun q hq => setRow_other w b q _ hq) fun hA hD => ?_⟩
  refine ⟨by simp; omega, g0', g1, ?_, ?_, g4, fun b' hb' => ?_⟩
  · intro r hr'
    simp only [List.append_assoc, List.mem_append] at hr'
    rcases hr' with hr' | hr' | hr'
    · exact g2 r (List.mem_of_mem_take hr')
    · exact hr r hr'
    · exact g2 r (List.mem_of_mem_drop hr')
  · intro r hr'
    simp only [List.append_assoc, List.mem_append] at hr'
    rcases hr' with hr' | hr' | hr'
    · exact g3 r (List.mem_of_mem_take hr')
    · exact ho r hr'
    · exact g3 r (List.mem_of_mem_drop hr')
  · obtain rfl := Option.some.inj hb'
    refine ⟨_, T, setRow_heap w b cs _ T (0, 0) hw, by simp [hl.1]; omega, ?_⟩
    have get : ∀ q, (cs.toList.take (i * sz) ++ vs ++ cs.toList.drop (i * sz + vs.length)).toArray[q]? =
        if q < i * sz then cs[q]? else if q < i * sz + new.length * sz then vs[q - i * sz]? else cs[q]? := by
      intro q
      simp only [List.getElem?_toArray, List.append_assoc, List.getElem?_append, List.length_take, Array.length_toList, hl.1]
      have : min (i * sz) cs.size = i * sz := by omega
      rw [this]
      by_cases hq : q < i * sz
      · simp [hq]
      · rw [if_neg hq, if_neg hq]
        by_cases hq2 : q < i * sz + new.length * sz
        · rw [if_pos (by omega), if_pos hq2]
        · rw [if_neg (by omega), if_neg hq2, List.getElem?_drop]
          have : i * sz + new.length * sz + (q - i * sz - new.length * sz) = q := by omega
          rw [this]; simp
    intro i' j r x hi' hj
    rw [get]
    rw [List.append_assoc, List.getElem?_append] at hi'
    have hto : (rows.take i).length = i := by simp; omega
    rw [hto] at hi'
    split at hi'
    · rename_i hlt
      rw [List.getElem?_take, if_pos hlt] at hi'
      have hj' : j < sz := by rw [← g2 r (List.mem_of_getElem? hi')]; exact (List.getElem?_eq_some_iff.1 hj).1
      have := Nat.mul_le_mul_right sz (show i' + 1 ≤ i by omega)
      rw [Nat.succ_mul] at this
      obtain ⟨u, hu, hd⟩ := hrp i' j r x hi' hj
      exact ⟨u, by rw [if_pos (by omega)]; exact hu, hD _ _ hd⟩
    · rename_i hge
      have hge2 := Nat.mul_le_mul_right sz (show i ≤ i' by omega)
      rw [List.getElem?_append] at hi'
      split at hi'
      · rename_i hlt
        have hj' : j < sz := by rw [← hr r (List.mem_of_getElem? hi')]; exact (List.getElem?_eq_some_iff.1 hj).1
        obtain ⟨u, hu, hd⟩ := hl.2.2 _ j r x hi' hj
        have h2 := Nat.mul_le_mul_right sz (show i' - i + 1 ≤ new.length by omega)
        rw [Nat.succ_mul, Nat.sub_mul] at h2
        refine ⟨u, ?_, hD _ _ hd⟩
        rw [if_neg (by omega), if_pos (by omega), ← hu, Nat.sub_mul]
        congr 1; omega
      · rename_i hge3
        rw [List.getElem?_drop] at hi'
        have he : i + new.length + (i' - i - new.length) = i' := by omega
        rw [he] at hi'
        obtain ⟨u, hu, hd⟩ := hrp i' j r x hi' hj
        have h2 := Nat.mul_le_mul_right sz (show i + new.length ≤ i' by omega)
        rw [Nat.add_mul] at h2
        exact ⟨u, by rw [if_neg (by omega), if_neg (by omega)]; exact hu, hD _ _ hd⟩
section
variable {P : Program} {N : Nm} {σ : Env} {hs : Hp} {ty : TypeId} {pos : String} {af : Array Edge} {g : Option (Nat × Bool)}
theorem grow_run {w : World} {t e sz bytes ty : Nat} {inf : TypeInfo} {z : Value} (hu : P.underlying t = some (.slice e)) (hi : P.info? e = some inf) (hz : inf.zero = some z) (h1 : inf.size = sz) (h2 : inf.bytes = bytes) (h3 : z.cells.size = sz)
    {p : Option Addr} {n cap : Nat} (olds : List Value) (hlo : olds.length = n * sz) (hcn : n ≤ cap) (hp0 : p = none → cap = 0) (holds : ∀ (j : Nat) u, olds[j]? = some u → ∃ ad, p = some ad ∧ w.cell? (ad.add j) = some u)
    {q : Option Addr} {m c : Nat} (news : List Value) (hl : news.length = m * sz) (hnews : ∀ (j : Nat) u, news[j]? = some u → ∃ ad, q = some ad ∧ w.cell? (ad.add j) = some u) (hm : 0 < m) (hsz : 0 < sz)
    (hg : cap < n + m) (hb : (n + m) * bytes ≤ 140737488355328) (hbb : 0 < bytes) :
    ∃ ncap rest, (Builtin.append_ #[t, t] ty #[.slice p n cap, .slice q m c]).run P w = .ok (.slice (some ⟨w.heap.size, 0, none⟩) (n + m) ncap) (w.drew.alloc (.cells ((olds ++ news) ++ rest).toArray e)) ∧
      n + m ≤ ncap ∧ ncap ≤ maxLen ∧ rest.length = (ncap - (n + m)) * sz := by
  subst h1 h2
  have hnm : n + m ≤ 140737488355328 := by
    have := Nat.mul_le_mul_left (n + m) hbb
    omega
  have h63 : n + m ≤ maxLen := by simp only [maxLen]; omega
  have hmpos : 0 < news.length := by rw [hl]; exact Nat.mul_pos hm hsz
  obtain ⟨qa, hqa, _⟩ := hnews 0 news[0] (List.getElem?_eq_getElem hmpos)
  subst hqa
  have hn' : ∀ (j : Nat) u, news[j]? = some u → w.cell? (qa.add j) = some u := fun j u hj => by
    obtain ⟨ad, he, h⟩ := hnews j u hj
    obtain rfl := Option.some.inj he
    exact h
  have hbytes : (n + m) * inf.bytes ≤ 281474976710656 := by omega
  cases p with
  | none =>
    have hc0 := hp0 rfl
    subst hc0
    have hn0 : n = 0 := by omega
    subst hn0
    have ho : olds = [] := List.eq_nil_of_length_eq_zero (by simpa using hlo)
    subst ho
    have hr := run_append_nil (P := P) w t ty e inf z hu hi hz qa m c news hl hn' hm (by omega) (by rw [Nat.zero_add] at hbytes; exact hbytes)
    refine ⟨grownCap w m 0 e, (Builtin.zeroCells z.cells (grownCap w m 0 e - m)).toList, ?_, by have := grownCap_ge w m 0 e; omega, grownCap_le_maxLen w m 0 e (by omega), ?_⟩
    · rw [hr, show ((([] : List Value) ++ news) ++ (Builtin.zeroCells z.cells (grownCap w m 0 e - m)).toList).toArray = news.toArray ++ Builtin.zeroCells z.cells (grownCap w m 0 e - m) from by apply Array.ext'; simp, Nat.zero_add]
    · rw [Array.length_toList, size_zeroCells, h3, Nat.zero_add]
  | some pa =>
    have ho' : ∀ (j : Nat) u, olds[j]? = some u → w.cell? (pa.add j) = some u := fun j u hj => by
      obtain ⟨ad, he, h⟩ := holds j u hj
      obtain rfl := Option.some.inj he
      exact h
    have hr := run_append_grow (P := P) w t ty e inf z hu hi hz pa n cap olds hlo ho' qa m c news hl hn' hg (by omega) (growslice_fits hg hb)
    refine ⟨grownCap w (n + m) cap e, (Builtin.zeroCells z.cells (grownCap w (n + m) cap e - (n + m))).toList, ?_, grownCap_ge w (n + m) cap e, grownCap_le_maxLen w (n + m) cap e h63, ?_⟩
    · rw [hr, show ((olds ++ news) ++ (Builtin.zeroCells z.cells (grownCap w (n + m) cap e - (n + m))).toList).toArray = olds.toArray ++ news.toArray ++ Builtin.zeroCells z.cells (grownCap w (n + m) cap e - (n + m)) from by apply Array.ext'; simp]
    · rw [Array.length_toList, size_zeroCells, h3]
theorem app0_run {w : World} {t e ty : Nat} {inf : TypeInfo} (hu : P.underlying t = some (.slice e)) (hi : P.info? e = some inf) {p q : Option Addr} {n cap c : Nat} (hn : n ≤ cap) :
    (Builtin.append_ #[t, t] ty #[.slice p n cap, .slice q 0 c]).run P w = .ok (.slice p n cap) w := by
  cases p <;> cases q <;> simp [Builtin.append_, run_underlying hu, sizeOf, typeInfo, hi, Builtin.lenOf, Builtin.firstCells, loadCells, loadCellsFrom, storeCells, hn]
theorem app_op {d : Tmp} {t : Nat} {x y : Operand} {a : Act} {w w' : World} {v u : Value} (hx : a.eval x = v) (hy : a.eval y = u) {r : Value} (h : (Builtin.append_ #[t, t] ty #[v, u]).run P w = .ok r w') :
    (execOp a.eval ⟨some d, .call ⟨.builtin .append, #[x, y], #[t, t]⟩, ty, pos, af, g⟩).run P w = .ok (.value r) w' := by
  rw [builtin_run]
  simp [builtin, hx, hy, h]
theorem L.app {d : Tmp} {t id n sz bytes k : Nat} {rows rows2 : List (List D)} {x y : Operand} (ht : tApp P t = some (sz, bytes)) (hx : oev σ x = .vs id 0 n sz) (hk : hs[k]? = some (id, .lst sz rows)) (hn : n = rows.length)
    (hy : oev σ y = .d (.sl sz rows2)) (hb : (rows.length + rows2.length) * bytes ≤ 140737488355328) (hd : Nat.blt d N.n = true) :
    Loud P N σ hs ⟨some d, .call ⟨.builtin .append, #[x, y], #[t, t]⟩, ty, pos, af, g⟩
      (fun σ' hs' => ∃ id', σ' = (d, .vs id' 0 (rows.length + rows2.length) sz) :: σ ∧ hs' = (id', .lst sz (rows ++ rows2)) :: hs.eraseIdx k) := by
  intro κ a w s K Q hK
  subst hn
  have hdN : d < N.n := by simpa [Nat.blt_eq] using hd
  obtain ⟨e, inf, z, hu, hi, hz, h1, h2, h3, hsz, hbb⟩ := tApp_spec ht
  have hx1 := s.oev x; rw [hx] at hx1
  have hy1 := s.oev y; rw [hy] at hy1
  obtain ⟨ob, cap, p, hκ, hle, hp, hv⟩ := hx1.vs_inv
  obtain ⟨q, c, news, hv2, hqc, hl2, hn2, hr2, ho2⟩ := src_cells (κ := κ) hsz hy1.d_inv
  obtain ⟨olds, hl1, hblk⟩ := lst_cells s.heap hk hκ
  obtain ⟨yy, hyy, hok⟩ := s.heap.ok id _ (List.mem_of_getElem? hk)
  rw [hκ] at hyy
  obtain rfl := Option.some.inj hyy
  obtain ⟨g0, g0', g1, g2, g3, g4, g5⟩ := hok
  have hcapn : ∀ b, ob = some b → 0 < cap → p = some ⟨b, 0, none⟩ := fun b hb hc => by rw [hp hc, hb]; simp
  have hrr : ∀ r ∈ rows ++ rows2, r.length = sz := fun r hr => (List.mem_append.1 hr).elim (g2 r) (hr2 r)
  have hoo : ∀ r ∈ rows ++ rows2, ∀ x ∈ r, x.one = true := fun r hr => (List.mem_append.1 hr).elim (g3 r) (ho2 r)
  rw [Nat.sub_zero] at hv
  by_cases hm : rows2 = []
  · subst hm
    have hrun := app_op (P := P) (ty := ty) (pos := pos) (af := af) (g := g) (d := d) (t := t) hv hv2 (app0_run (P := P) (w := w) (ty := ty) hu hi (c := c) (show rows.length ≤ cap by omega))
    obtain ⟨h5, e5⟩ := s.heap.perm (erase_perm hs k _ hk)
    unfold oWp
    rw [hrun]
    refine hK κ _ w _ _ (s.put e5 h5 hdN ?_) e5 ⟨id, rfl, by simp⟩
    have := RepA.vs (κ := κ) (w := w) (O := Own κ ((id, HO.lst sz rows) :: hs.eraseIdx k)) ob cap p id 0 rows.length sz hκ hle hp
    simpa using this
  · have hmpos : 0 < rows2.length := List.length_pos_iff.2 hm
    by_cases hroom : rows.length + rows2.length ≤ cap
    · cases ob with
      | none => exact absurd (g4 rfl) (by omega)
      | some b =>
        have hpe := hcapn b rfl (by omega)
        subst hpe
        obtain ⟨cs, T, hw, hcs, hvs⟩ := hblk b rfl
        have hnpos : 0 < news.length := by rw [hl2.1]; exact Nat.mul_pos hmpos hsz
        obtain ⟨qa, hqa, _⟩ := hn2 0 news[0] (List.getElem?_eq_getElem hnpos)
        subst hqa
        have hn' : ∀ (j : Nat) u, news[j]? = some u → w.cell? (qa.add j) = some u := fun j u hj => by
          obtain ⟨ad, he, h⟩ := hn2 j u hj
          obtain rfl := Option.some.inj he
          exact h
        obtain ⟨w', hst, h5, e5⟩ := write_rows (P := P) s.heap hk hκ hl2 hr2 ho2 (Nat.le_refl _) hroom
        rw [List.take_length, List.drop_of_length_le (by omega), List.append_nil] at h5 e5
        obtain ⟨id', κ', h6, e6, hκ'⟩ := h5.rename (k := k) (id := id) (o := .lst sz (rows ++ rows2)) (by rw [List.getElem?_set]; simp [(List.getElem?_eq_some_iff.1 hk).1])
        have hers : (hs.set k (id, HO.lst sz (rows ++ rows2))).eraseIdx k = hs.eraseIdx k := List.eraseIdx_set_eq ..
        rw [hers] at h6 e6
        subst h1
        have hf := run_firstCells_some (P := P) w inf.size rows2.length qa rows2.length c news hl2.1 hn'
        have hrun : (Builtin.append_ #[t, t] ty #[.slice (some ⟨b, 0, none⟩) rows.length cap, .slice (some qa) rows2.length c]).run P w = .ok (.slice (some ⟨b, 0, none⟩) (rows.length + rows2.length) cap) w' := by
          simp [Builtin.append_, run_underlying hu, sizeOf, typeInfo, hi, Builtin.lenOf, hroom, hf, Addr.add_lit, hst]
        unfold oWp
        rw [app_op hv hv2 hrun]
        refine hK κ' _ w' _ _ (s.put (e5.trans e6) h6 hdN ?_) (e5.trans e6) ⟨id', rfl, rfl⟩
        have := RepA.vs (κ := κ') (w := w') (O := Own κ' ((id', HO.lst inf.size (rows ++ rows2)) :: hs.eraseIdx k)) (some b) cap (some ⟨b, 0, none⟩) id' 0 (rows.length + rows2.length) inf.size (hκ'.trans hκ) (by omega) (fun _ => by simp)
        simpa using this
    · have holds : ∀ (j : Nat) u, olds[j]? = some u → ∃ ad, p = some ad ∧ w.cell? (ad.add j) = some u := fun j u hj => by
        have hlt : j < olds.length := (List.getElem?_eq_some_iff.1 hj).1
        rw [hl1.1] at hlt
        have hrl : 0 < rows.length := Nat.pos_of_ne_zero fun h => by rw [h, Nat.zero_mul] at hlt; omega
        cases ob with
        | none => exact absurd (g4 rfl) (by omega)
        | some b =>
          obtain ⟨cs, T, hw, hcs, hvs⟩ := hblk b rfl
          refine ⟨_, hcapn b rfl (by omega), ?_⟩
          rw [addr_add_lit, Nat.zero_add]
          rw [hvs, List.getElem?_take, if_pos hlt] at hj
          simp [World.cell?, hw]; simpa using hj
      have hp0 : p = none → cap = 0 := fun h => Classical.byContradiction fun hc => by
        cases ob with
        | none => exact hc (g4 rfl)
        | some b => rw [hcapn b rfl (by omega)] at h; cases h
      obtain ⟨ncap, rest, hrun, hge, hmx, hrest⟩ := grow_run (P := P) (w := w) (ty := ty) hu hi hz h1 h2 h3 olds hl1.1 (by omega) hp0 holds (c := c) news hl2.1 hn2 hmpos hsz (by omega) hb hbb
      obtain ⟨h5, e5⟩ := s.heap.sublist (List.eraseIdx_sublist hs k)
      obtain ⟨id', κ', h6, e6, hκ'⟩ := new_lst h5 (cap := ncap) (rest := rest) e hsz ((hl1.append hl2 g2).mono fun v x hx => hx.ext e5) hrr hoo (by simpa using hge) hmx (by simpa using hrest)
      unfold oWp
      rw [app_op hv hv2 hrun]
      refine hK κ' _ _ _ _ (s.put (e5.trans e6) h6 hdN ?_) (e5.trans e6) ⟨id', rfl, rfl⟩
      have := RepA.vs (κ := κ') (w := w.drew.alloc (.cells ((olds ++ news) ++ rest).toArray e)) (O := Own κ' ((id', HO.lst sz (rows ++ rows2)) :: hs.eraseIdx k)) (some w.heap.size) ncap (some ⟨w.heap.size, 0, none⟩) id' 0 (rows.length + rows2.length) sz hκ' (by omega) (fun _ => by simp)
      simpa using this
theorem L.app_new {d : Tmp} {t sz bytes : Nat} {rows rows2 : List (List D)} {x y : Operand} (ht : tApp P t = some (sz, bytes)) (hx : oev σ x = .dcut sz rows ∨ oev σ x = .nilsl ∧ rows = []) (hne : rows = [] ∨ rows2 ≠ [])
    (hy : oev σ y = .d (.sl sz rows2)) (hb : (rows.length + rows2.length) * bytes ≤ 140737488355328) (hd : Nat.blt d N.n = true) :
    Loud P N σ hs ⟨some d, .call ⟨.builtin .append, #[x, y], #[t, t]⟩, ty, pos, af, g⟩
      (fun σ' hs' => ∃ id', σ' = (d, .vs id' 0 (rows.length + rows2.length) sz) :: σ ∧ hs' = (id', .lst sz (rows ++ rows2)) :: hs) := by
  intro κ a w s K Q hK
  have hdN : d < N.n := by simpa [Nat.blt_eq] using hd
  obtain ⟨e, inf, z, hu, hi, hz, h1, h2, h3, hsz, hbb⟩ := tApp_spec ht
  have hx1 := s.oev x
  have hy1 := s.oev y; rw [hy] at hy1
  obtain ⟨q, c, news, hv2, hqc, hl2, hn2, hr2, ho2⟩ := src_cells (κ := κ) hsz hy1.d_inv
  have hx2 : ∃ p, a.eval x = .slice p rows.length rows.length ∧ RepD w (Own κ hs) (.slice p rows.length rows.length) (.sl sz rows) := by
    rcases hx with hx | ⟨hx, rfl⟩
    · rw [hx] at hx1
      generalize hv : a.eval x = v at hx1
      cases hx1 with
      | dcut p n _ _ h => cases h with
        | sl _ _ _ _ _ c hl hc hr h1 hm hd => subst hl; exact ⟨p, rfl, .sl _ _ _ _ _ c rfl hc hr h1 hm hd⟩
    · rw [hx] at hx1
      generalize hv : a.eval x = v at hx1
      cases hx1
      exact ⟨none, rfl, .sl none 0 0 sz [] (fun _ _ => undef) rfl (Nat.le_refl _) (by simp) (by simp) (by simp) (by simp)⟩
  obtain ⟨p, hv, hrep⟩ := hx2
  obtain ⟨p', c', olds, hv3, _, hl1, holds, hr1, ho1⟩ := src_cells (κ := κ) hsz hrep
  obtain ⟨rfl, _, _⟩ := Value.slice.inj hv3
  have hrr : ∀ r ∈ rows ++ rows2, r.length = sz := fun r hr => (List.mem_append.1 hr).elim (hr1 r) (hr2 r)
  have hoo : ∀ r ∈ rows ++ rows2, ∀ x ∈ r, x.one = true := fun r hr => (List.mem_append.1 hr).elim (ho1 r) (ho2 r)
  by_cases hm : rows2 = []
  · subst hm
    have hr0 : rows = [] := hne.resolve_right (by simp)
    subst hr0
    have hrun := app_op (P := P) (ty := ty) (pos := pos) (af := af) (g := g) (d := d) (t := t) hv hv2 (app0_run (P := P) (w := w) (ty := ty) hu hi (c := c) (Nat.le_refl _))
    obtain ⟨id, κ', h5, e5, hκ⟩ := s.heap.none sz hsz
    unfold oWp
    rw [hrun]
    exact hK κ' _ w _ _ (s.put e5 h5 hdN (.vs _ 0 p id 0 0 sz hκ (Nat.le_refl _) (fun h => absurd h (Nat.lt_irrefl _)))) e5 ⟨id, rfl, rfl⟩
  · have hmpos : 0 < rows2.length := List.length_pos_iff.2 hm
    have hp0 : p = none → rows.length = 0 := fun h => Classical.byContradiction fun hc => by
      have hlt : 0 < olds.length := by rw [hl1.1]; exact Nat.mul_pos (by omega) hsz
      obtain ⟨ad, he, _⟩ := holds 0 olds[0] (List.getElem?_eq_getElem hlt)
      rw [h] at he; cases he
    obtain ⟨ncap, rest, hrun, hge, hmx, hrest⟩ := grow_run (P := P) (w := w) (ty := ty) hu hi hz h1 h2 h3 olds hl1.1 (Nat.le_refl _) hp0 holds (c := c) news hl2.1 hn2 hmpos hsz (by omega) hb hbb
    obtain ⟨id', κ', h6, e6, hκ'⟩ := new_lst s.heap (cap := ncap) (rest := rest) e hsz (hl1.append hl2 hr1) hrr hoo (by simpa using hge) hmx (by simpa using hrest)
    unfold oWp
    rw [app_op hv hv2 hrun]
    refine hK κ' _ _ _ _ (s.put e6 h6 hdN ?_) e6 ⟨id', rfl, rfl⟩
    have := RepA.vs (κ := κ') (w := w.drew.alloc (.cells ((olds ++ news) ++ rest).toArray e)) (O := Own κ' ((id', HO.lst sz (rows ++ rows2)) :: hs)) (some w.heap.size) ncap (some ⟨w.heap.size, 0, none⟩) id' 0 (rows.length + rows2.length) sz hκ' (by omega) (fun _ => by simp)
    simpa using this
end
def chop (sz : Nat) : Nat → List D → List (List D)
  | 0, _ => []
  | n + 1, l => l.take sz :: chop sz n (l.drop sz)
theorem chop_length (sz : Nat) : ∀ (n : Nat) (l : List D), (chop sz n l).length = n
  | 0, _ => rfl
  | n + 1, l => by simp [chop, chop_length sz n]
theorem chop_get (sz : Nat) : ∀ (n : Nat) (l : List D) (i : Nat) (r : List D), (chop sz n l)[i]? = some r → r = (l.drop (i * sz)).take sz ∧ i < n
  | 0, l, i, r, h => by simp [chop] at h
  | n + 1, l, 0, r, h => by simp [chop] at h; subst h; simp
  | n + 1, l, i + 1, r, h => by
    have h' : (chop sz n (l.drop sz))[i]? = some r := by simpa [chop] using h
    obtain ⟨h1, h2⟩ := chop_get sz n (l.drop sz) i r h'
    refine ⟨?_, by omega⟩
    rw [h1, List.drop_drop, Nat.succ_mul, Nat.add_comm]
def zeroList (z : List D) : Nat → List D
  | 0 => []
  | n + 1 => z ++ zeroList z n
def tZrow (P : Program) (t : TypeId) : Option (List Value) := match P.underlying t with | some (.slice e) => tZero P e | _ => none
theorem zero_filled {w : World} {O : Nat → Prop} {z : Array Value} {zd : List D} (hf : Filled w O z zd) (hz : 0 < z.size) (n : Nat) : Filled w O ((Array.range (n * z.size)).map (fun i => z[i % z.size]!)) (zeroList zd n) := by
  obtain ⟨f1, f2, f3⟩ := hf
  have hget : ∀ (n i : Nat) (x : D), (zeroList zd n)[i]? = some x → i < n * z.size ∧ zd[i % z.size]? = some x := by
    intro n
    induction n with
    | zero => intro i x h; simp [zeroList] at h
    | succ n ih =>
      intro i x h
      simp only [zeroList] at h
      rw [List.getElem?_append] at h
      rw [Nat.succ_mul]
      split at h
      · rename_i hlt
        rw [← f1] at hlt
        exact ⟨by omega, by rw [Nat.mod_eq_of_lt hlt]; exact h⟩
      · rename_i hge
        rw [← f1] at hge h
        obtain ⟨h1, h2⟩ := ih _ x h
        refine ⟨by omega, ?_⟩
        rw [← h2, ← Nat.mod_eq_sub_mod (by omega)]
  have hlen : (zeroList zd n).length = n * z.size := by
    clear hget
    induction n with
    | zero => simp [zeroList]
    | succ n ih => simp [zeroList, ih, Nat.succ_mul, f1, Nat.add_comm]
  refine ⟨by simp [hlen], fun x hx => ?_, fun i v x hi hx => ?_⟩
  · obtain ⟨i, hi⟩ := List.getElem?_of_mem hx
    exact f2 x (List.mem_of_getElem? (hget n i x hi).2)
  · obtain ⟨h1, h2⟩ := hget n i x hx
    simp [h1] at hi
    have hlt : i % z.size < z.size := Nat.mod_lt _ hz
    rw [getElem!_pos z _ hlt] at hi
    exact f3 _ v x (by rw [← hi]; exact Array.getElem?_eq_getElem hlt) h2
section
variable {P : Program} {N : Nm} {σ : Env} {hs : Hp} {d : Option Tmp} {ty : TypeId} {pos : String} {af : Array Edge} {g : Option (Nat × Bool)}
theorem Q.bsl {t sz len : Nat} {z : List Value} {zd l : List D} {rows : List (List D)} {parts : Array (Nat × Operand)} (ht : tSl P t = some sz) (hsz : 0 < sz) (hz : tZrow P t = some z) (hzl : z.length = sz) (hzd : cellsD z = some zd)
    (hlen : len * sz ≤ 16777216) (hf : afill (fun i => some (i * sz, sz)) (zeroList zd len) (parts.toList.map fun p => (p.1, oev σ p.2)) = some l) (hrows : chop sz len l = rows) :
    Quiet P N σ hs ⟨d, .buildSlice t len parts, ty, pos, af, g⟩ (.d (.sl sz rows)) := by
  intro κ a w s K Q hK
  obtain ⟨e, inf, hu, hi, rfl⟩ := tSl_spec ht
  unfold tZrow at hz
  rw [hu] at hz
  obtain ⟨inf', hi', hz⟩ := Option.bind_eq_some_iff.1 hz
  rw [hi] at hi'
  obtain rfl := Option.some.inj hi'
  obtain ⟨zv, hzv, rfl⟩ := Option.map_eq_some_iff.1 hz
  obtain ⟨h1, h2⟩ := parts_rep s parts
  have hzs : zv.cells.size = inf.size := by rw [← Array.length_toList]; exact hzl
  have hzf : Filled w (Own κ hs) ((Array.range (len * inf.size)).map (fun i => zv.cells[i % zv.cells.size]!)) (zeroList zd len) := by
    have := zero_filled (cellsD_rep w (Own κ hs) _ zd hzd) (by simpa [hzs] using hsz) len
    simpa [hzs] using this
  obtain ⟨cs', h3, f1, f2, f3⟩ := fill_run _ _ _ _ l h1 h2 hzf hf
  have hl : l.length = len * inf.size := by
    have key : ∀ (parts : List (Nat × AV)) (l₀ l : List D), afill (fun i => some (i * inf.size, inf.size)) l₀ parts = some l → l.length = l₀.length := by
      intro parts
      induction parts with
      | nil => intro l₀ l h; simp [afill] at h; rw [h]
      | cons p parts ih =>
        intro l₀ l h
        obtain ⟨i, x⟩ := p
        simp only [afill] at h
        cases hd : dcells x with
        | none => simp [hd] at h
        | some ds =>
          simp only [hd] at h
          cases hb : Nat.beq ds.length inf.size && Nat.ble (i * inf.size + inf.size) l₀.length with
          | false => simp [hb] at h
          | true =>
            simp only [hb] at h
            have hb2 := Bool.and_eq_true_iff.1 hb
            have e1 : ds.length = inf.size := Nat.eq_of_beq_eq_true hb2.1
            have e2 : i * inf.size + inf.size ≤ l₀.length := Nat.le_of_ble_eq_true hb2.2
            rw [ih _ _ h]; simp; omega
    rw [key _ _ _ hf, ← hzf.1]; simp
  have hnew : ∀ O, (∀ v x, RepD w (Own κ hs) v x → RepD (w.alloc (.cells cs' e)) O v x) → ¬ O w.heap.size → RepD (w.alloc (.cells cs' e)) O (.slice (some ⟨w.heap.size, 0, none⟩) len len) (.sl inf.size rows) := by
    intro O hO hn
    have hget : ∀ (i j : Nat) (r : List D) (x : D), rows[i]? = some r → r[j]? = some x → j < inf.size ∧ l[i * inf.size + j]? = some x := by
      intro i j r x hi hj
      rw [← hrows] at hi
      obtain ⟨rfl, _⟩ := chop_get _ _ _ _ _ hi
      rw [List.getElem?_take] at hj
      split at hj
      · rw [List.getElem?_drop] at hj; exact ⟨by assumption, hj⟩
      · cases hj
    refine .sl _ _ _ _ _ (fun i j => cs'.getD (i * inf.size + j) undef) (by rw [← hrows, chop_length]) (Nat.le_refl _) (fun r hr => ?_) (fun r hr x hx => ?_) (fun i j r x hi hj => ?_) (fun i j r x hi hj => ?_)
    · obtain ⟨i, hi⟩ := List.getElem?_of_mem hr
      rw [← hrows] at hi
      obtain ⟨rfl, hlt⟩ := chop_get _ _ _ _ _ hi
      have := Nat.mul_le_mul_right inf.size (show i + 1 ≤ len from hlt)
      rw [Nat.succ_mul] at this
      simp; omega
    · obtain ⟨i, hi⟩ := List.getElem?_of_mem hr
      obtain ⟨j, hj⟩ := List.getElem?_of_mem hx
      exact f2 x (List.mem_of_getElem? (hget i j r x hi hj).2)
    · obtain ⟨_, hg⟩ := hget i j r x hi hj
      have hlt : i * inf.size + j < cs'.size := by rw [f1]; exact (List.getElem?_eq_some_iff.1 hg).1
      refine ⟨_, rfl, hn, ?_⟩
      rw [addr_add_lit, Nat.zero_add]
      simp [hlt]
    · obtain ⟨_, hg⟩ := hget i j r x hi hj
      have hlt : i * inf.size + j < cs'.size := by rw [f1]; exact (List.getElem?_eq_some_iff.1 hg).1
      have : cs'.getD (i * inf.size + j) undef = cs'[i * inf.size + j] := by simp [hlt]
      rw [this]
      exact hO _ _ (f3 _ _ x (Array.getElem?_eq_getElem hlt) hg)
  have ex : Ext κ hs w κ hs (w.alloc (.cells cs' e)) :=
    ⟨fun _ _ h => h, by simp, fun _ => Nat.le_refl _, rfl, rfl, rfl, fun b hb _ => allocOld w _ b hb, fun b _ h => h, fun _ o h => .inl ⟨o, h⟩, SameT.lt fun b hb => allocOld w _ b hb⟩
  have hsz2 : HS κ (w.alloc (.cells cs' e)) hs := ⟨s.heap.nodup, fun id o hi => by
      obtain ⟨x, hx, hok⟩ := s.heap.ok id o hi
      refine ⟨x, hx, hok.ext ex fun b hb => allocOld w _ b (s.heap.block_lt hi (c := x.2) ?_)⟩
      rw [hx, ← hb], s.heap.inj, s.heap.fresh⟩
  have hnotown : ¬ Own κ hs w.heap.size := fun ⟨id, o, c, hi, hk⟩ => absurd (s.heap.block_lt hi hk) (Nat.lt_irrefl _)
  have hrun : (execOp a.eval ⟨d, .buildSlice t len parts, ty, pos, af, g⟩).run P w = .ok (.value (.slice (some ⟨w.heap.size, 0, none⟩) len len)) (w.alloc (.cells cs' e)) := by
    rw [show execOp a.eval ⟨d, .buildSlice t len parts, ty, pos, af, g⟩ = (do pure (.value (← Instr.buildSlice t len (parts.map fun (i, x) => (i, a.eval x))))) from rfl, Sem.run_bind]
    have hb : (Instr.buildSlice t len (parts.map fun (i, x) => (i, a.eval x))).run P w = .ok (.slice (some ⟨w.heap.size, 0, none⟩) len len) (w.alloc (.cells cs' e)) := by
      have hzr : (zeroValue e).run P w = .ok zv w := by simp [zeroValue, typeInfo, hi, hzv]
      simp only [Instr.buildSlice, Sem.run_bind, run_underlying hu, Result.andThen_ok, size_run hi]
      rw [if_neg (by simpa using hlen)]
      by_cases hl0 : len * inf.size = 0
      · have hlen0 : len = 0 := by rcases Nat.mul_eq_zero.1 hl0 with h | h <;> omega
        subst hlen0
        simp only [Nat.zero_mul, if_true, Sem.run_pure, Result.andThen_ok, Sem.run_bind] at h3 ⊢
        have h4 : (Array.range 0).map (fun i => (#[] : Array Value)[i % (#[] : Array Value).size]!) = (Array.range 0).map (fun i => zv.cells[i % zv.cells.size]!) := by simp
        rw [h4]
        rw [h3]
        simp [newRow_run]
      · rw [if_neg hl0]
        simp only [Sem.run_bind, hzr, Result.andThen_ok, Sem.run_pure]
        rw [h3]
        simp [newRow_run]
    rw [hb]; rfl
  unfold oWp
  rw [hrun]
  exact hK κ _ _ hsz2 ex (.d (hnew _ (fun v x hx => hx.ext ex) hnotown))
end
end Go.Proofs.YtaegeaajhbfkgaaGreatDoorA

