/- Calls over abstract states, calls with borrowed arguments, regions that draw their order. -/
import Derived.Test.YtldkkoecehdicaaDoorAbs6
namespace Go.Proofs.YtldkkoecehdicaaDoorA
open Go
set_option linter.unusedVariables false
set_option linter.unusedSimpArgs false

/-- A function with a Go body. -/
def callGo (fn : Func) : Bool := !(fn.name == "runtime.NumGoroutine") && fn.body.isSome

theorem callFunc_run {P : Program} {f : FuncId} {fn : Func} (hf : P.funcs[f]? = some fn) (hg : callGo fn = true) (args : Array Value) (w : World) : (callFunc f args).run P w = .ok (.enter f args) w := by
  unfold callGo at hg
  have h1 := (Bool.and_eq_true_iff.1 hg).1
  have h2 := (Bool.and_eq_true_iff.1 hg).2
  have h1' : (fn.name == "runtime.NumGoroutine") = false := by simpa using h1
  have h2' : fn.body.isNone = false := by
    cases hb : fn.body with
    | none => rw [hb] at h2; cases h2
    | some c => rfl
  have h3 : ¬ fn.name = "runtime.NumGoroutine" := by simpa using h1'
  have h4 : ¬ fn.body = none := fun h => by rw [h] at h2'; cases h2'
  simp [callFunc, hf, h3, h4]

section calls
variable {P : Program} {N : Nm} {σ : Env} {hs : Hp} {d : Option Tmp} {ty : TypeId} {pos : String} {af : Array Edge} {g : Option (Nat × Bool)}

theorem enter_run {x : Operand} {args : Array Operand} {tys : Array TypeId} {f : FuncId} {fn : Func} {caps : Array Value} {a : Act} {w : World} (hx : a.eval x = .func (.func f) #[] caps) (hf : P.funcs[f]? = some fn) (hg : callGo fn = true) :
    (execOp a.eval ⟨d, .call ⟨.value x, args, tys⟩, ty, pos, af, g⟩).run P w = .ok (.enter f (args.map a.eval ++ caps)) w := by
  simp [execOp, resolve, invoke, hx, Deferred.ofValue, callFunc_run hf hg]

theorem RepA.fn_inv {κ : Kap} {w : World} {O : Nat → Prop} {v : Value} {f : FuncId} {caps : List AV} (h : RepA κ w O v (.fn f caps)) : ∃ cs : Array Value, v = .func (.func f) #[] cs ∧ cs.size = caps.length ∧
    ∀ (i : Nat) (v : Value) (x : AV), cs[i]? = some v → caps[i]? = some x → RepA κ w O v x := by
  cases h with | fn _ cs _ hs h => exact ⟨cs, rfl, hs, h⟩

theorem args_rep {κ : Kap} {w : World} {a : Act} (s : Sim N κ hs w σ a) {args : Array Operand} {caps : List AV} {cs : Array Value} (hs1 : cs.size = caps.length) (h : ∀ (i : Nat) (v : Value) (x : AV), cs[i]? = some v → caps[i]? = some x → RepA κ w (Own κ hs) v x) :
    (args.map a.eval ++ cs).size = (args.toList.map (oev σ) ++ caps).length ∧ ∀ (i : Nat) (v : Value) (x : AV), (args.map a.eval ++ cs)[i]? = some v → (args.toList.map (oev σ) ++ caps)[i]? = some x → RepA κ w (Own κ hs) v x := by
  refine ⟨by simp [hs1], fun i v x hi hx => ?_⟩
  rw [Array.getElem?_append] at hi
  rw [List.getElem?_append] at hx
  simp only [Array.size_map, List.length_map, Array.length_toList] at hi hx
  split at hi
  · rename_i hlt
    rw [if_pos hlt] at hx
    simp [hlt] at hi hx
    subst hi hx
    exact s.oev _
  · rename_i hge
    rw [if_neg hge] at hx
    exact h _ _ _ hi hx

theorem L.call {x : Operand} {args : Array Operand} {tys : Array TypeId} {f : FuncId} {fn : Func} {caps xs : List AV} {R : AV → Hp → Prop} (hx : oev σ x = .fn f caps) (hf : P.funcs[f]? = some fn) (hg : callGo fn = true)
    (ha : args.toList.map (oev σ) ++ caps = xs) (hc : AC P f xs hs R) (hd : dstOk N d = true) :
    Loud P N σ hs ⟨d, .call ⟨.value x, args, tys⟩, ty, pos, af, g⟩ (fun σ' hs' => ∃ r, σ' = putE d r σ ∧ R r hs') := by
  intro κ a w s K Q hK
  have hx1 := s.oev x; rw [hx] at hx1
  obtain ⟨cs, hv, h1, h2⟩ := hx1.fn_inv
  obtain ⟨h3, h4⟩ := args_rep s (args := args) h1 h2
  subst ha
  unfold oWp
  rw [enter_run hv hf hg, Oper.uponIn_enter]
  refine ⟨fun h => (by cases h), callsIn_wide.2 ((hc κ _ w s.heap h3 h4).mono ?_)⟩
  rintro e w' ⟨κ', hs', v, r, rfl, h5, h6, h7, h8⟩
  exact hK κ' _ w' _ hs' (s.putO h6 h5 hd h7) h6 ⟨r, rfl, h8⟩

theorem Q.call {x : Operand} {args : Array Operand} {tys : Array TypeId} {f : FuncId} {fn : Func} {caps xs : List AV} {v : AV} (hx : oev σ x = .fn f caps) (hf : P.funcs[f]? = some fn) (hg : callGo fn = true)
    (ha : args.toList.map (oev σ) ++ caps = xs) (hc : AC P f xs hs (fun r hs' => r = v ∧ hs' = hs)) : Quiet P N σ hs ⟨d, .call ⟨.value x, args, tys⟩, ty, pos, af, g⟩ v := by
  intro κ a w s K Q hK
  have hx1 := s.oev x; rw [hx] at hx1
  obtain ⟨cs, hv, h1, h2⟩ := hx1.fn_inv
  obtain ⟨h3, h4⟩ := args_rep s (args := args) h1 h2
  subst ha
  unfold oWp
  rw [enter_run hv hf hg, Oper.uponIn_enter]
  refine ⟨fun h => (by cases h), callsIn_wide.2 ((hc κ _ w s.heap h3 h4).mono ?_)⟩
  rintro e w' ⟨κ', hs', u, r, rfl, h5, h6, h7, rfl, rfl⟩
  exact hK κ' w' u h5 h6 h7

/-! ### borrowed arguments -/
inductive Brw0 (hs : Hp) : AV → AV → Prop
  | d (x) : Brw0 hs (.d x) (.d x)
  | nilsl : Brw0 hs .nilsl .nilsl
  | nild (sz) : Brw0 hs .nilsl (.d (.sl sz []))
  | dp (l) : Brw0 hs (.dp l) (.dp l)
  | dcut (sz rows) : Brw0 hs (.dcut sz rows) (.dcut sz rows)
  | dcutd (sz rows) : Brw0 hs (.dcut sz rows) (.d (.sl sz rows))
  | vs {id n sz rows} (k : Nat) (hk : hs[k]? = some (id, .lst sz rows)) (hn : n = rows.length) : Brw0 hs (.vs id 0 n sz) (.d (.sl sz rows))
  | any (x) : Brw0 hs x .any

/-- A list of one's own, looked at as data. -/
theorem vs_data {κ : Kap} {w : World} {v : Value} {id n sz k : Nat} {rows : List (List D)} (h : HS κ w hs) (hv : RepA κ w (Own κ hs) v (.vs id 0 n sz)) (hk : hs[k]? = some (id, .lst sz rows)) (hn : n = rows.length)
    {O : Nat → Prop} (hO : ∀ b, ¬ O b) : RepD w O v (.sl sz rows) := by
  obtain ⟨ob, cap, p, hκ, hle, hp, rfl⟩ := hv.vs_inv
  obtain ⟨y, hy, hok⟩ := h.ok id _ (List.mem_of_getElem? hk)
  rw [hκ] at hy
  obtain rfl := Option.some.inj hy
  obtain ⟨g0, g0', g1, g2, g3, g4, g5⟩ := hok
  cases ob with
  | none =>
    have hr0 : rows = [] := List.eq_nil_of_length_eq_zero (by have := g4 rfl; omega)
    subst hr0
    exact .sl _ _ _ _ _ (fun _ _ => undef) hn (by omega) (by simp) (by simp) (by simp) (by simp)
  | some b =>
    obtain ⟨cs, T, hw, hsz, hr⟩ := g5 b rfl
    refine .sl _ _ _ _ _ (fun i j => cs.getD (i * sz + j) undef) hn (by omega) g2 g3 (fun i j r d hi hj => ?_) (fun i j r d hi hj => ?_)
    · obtain ⟨u, hu, _⟩ := hr i j r d hi hj
      have hlt : i < rows.length := (List.getElem?_eq_some_iff.1 hi).1
      refine ⟨⟨b, 0, none⟩, by rw [hp (by omega)]; simp, hO _, ?_⟩
      rw [addr_add_lit, Nat.zero_add]
      simp [World.cell?, hw, hu]
    · obtain ⟨u, hu, hd⟩ := hr i j r d hi hj
      have : cs.getD (i * sz + j) undef = u := by simp [hu]
      rw [this]
      exact hd.mono (fun b _ ho => absurd ho (hO b)) (fun _ _ _ => rfl)

theorem Brw0.rep {κ : Kap} {w : World} {v : Value} {x y : AV} (b : Brw0 hs x y) (h : HS κ w hs) (hv : RepA κ w (Own κ hs) v x) {O : Nat → Prop} (hO : ∀ b, ¬ O b) : RepA κ w O v y := by
  have mono : ∀ z, RepA κ w (Own κ hs) v z → RepA κ w O v z := fun z hz => hz.mono (fun _ _ h => h) (fun b _ ho => absurd ho (hO b)) (fun _ _ _ => rfl)
  cases b with
  | d x => exact mono _ hv
  | nilsl => exact mono _ hv
  | nild sz => cases hv; exact .d (.sl none 0 0 sz [] (fun _ _ => undef) rfl (Nat.le_refl _) (by simp) (by simp) (by simp) (by simp))
  | dp l => exact mono _ hv
  | dcut sz rows => exact mono _ hv
  | dcutd sz rows =>
    have h2 := mono _ hv
    cases h2 with | dcut a n _ _ h3 => exact .d h3
  | vs k hk hn => exact .d (vs_data h hv hk hn hO)
  | any => exact .any _

/-- .. a variable of one's own, looked at as data. -/
inductive BrwL (hs : Hp) : List AV → List D → Prop
  | nil (l) : BrwL hs l []
  | cons {x d l ds} (h : Brw0 hs x (.d d)) (h1 : d.one = true) (ht : BrwL hs l ds) : BrwL hs (x :: l) (d :: ds)

theorem BrwL.get {l : List AV} {ds : List D} (h : BrwL hs l ds) : ∀ (j : Nat) (d : D), ds[j]? = some d → ∃ x, l[j]? = some x ∧ Brw0 hs x (.d d) ∧ d.one = true := by
  induction h with
  | nil l => intro j d hj; simp at hj
  | cons h h1 _ ih =>
    intro j d hj
    cases j with
    | zero => simp at hj; subst hj; exact ⟨_, rfl, h, h1⟩
    | succ j => obtain ⟨x, hx, h2⟩ := ih j d (by simpa using hj); exact ⟨x, by simpa using hx, h2⟩

inductive Brw1 (hs : Hp) : AV → AV → Prop
  | b0 {x y} (h : Brw0 hs x y) : Brw1 hs x y
  | ptr {id off l ds} (k : Nat) (hk : hs[k]? = some (id, .cells l)) (h : BrwL hs (l.drop off) ds) : Brw1 hs (.ptr id off) (.dp ds)

theorem Brw1.rep {κ : Kap} {w : World} {v : Value} {x y : AV} (b : Brw1 hs x y) (h : HS κ w hs) (hv : RepA κ w (Own κ hs) v x) {O : Nat → Prop} (hO : ∀ b, ¬ O b) : RepA κ w O v y := by
  cases b with
  | b0 h0 => exact h0.rep h hv hO
  | @ptr id off l ds k hk hl =>
    obtain ⟨b, cap, hκ, rfl⟩ := hv.ptr_inv
    obtain ⟨y, hy, hok⟩ := h.ok id _ (List.mem_of_getElem? hk)
    rw [hκ] at hy
    obtain rfl := Option.some.inj hy
    obtain ⟨b', cs, hbe, hw, hsz, hone, hr⟩ := hok
    obtain rfl := Option.some.inj hbe
    have key : ∀ (j : Nat) (d : D), ds[j]? = some d → ∃ u, cs[off + j]? = some u ∧ RepD w O u d := fun j d hj => by
      obtain ⟨x, hx, h0, _⟩ := hl.get j d hj
      rw [List.getElem?_drop] at hx
      have hlt : off + j < cs.size := by rw [hsz]; exact (List.getElem?_eq_some_iff.1 hx).1
      exact ⟨cs[off + j], Array.getElem?_eq_getElem hlt, (h0.rep h (hr _ _ _ (Array.getElem?_eq_getElem hlt) hx) hO).d_inv⟩
    refine .dp _ _ (fun j => cs.getD (off + j) undef) (fun d hd => ?_) (fun j d hj => ⟨hO _, ?_⟩) (fun j d hj => ?_)
    · obtain ⟨j, hj⟩ := List.getElem?_of_mem hd
      exact (hl.get j d hj).choose_spec.2.2
    · obtain ⟨u, hu, _⟩ := key j d hj
      rw [addr_add_lit]
      simp [World.cell?, hw, hu]
    · obtain ⟨u, hu, hd⟩ := key j d hj
      have : cs.getD (off + j) undef = u := by simp [hu]
      rw [this]; exact hd

inductive BrwA (hs : Hp) : List AV → List AV → Prop
  | nil : BrwA hs [] []
  | cons {x y l m} (h : Brw1 hs x y) (ht : BrwA hs l m) : BrwA hs (x :: l) (y :: m)

theorem BrwA.get {l m : List AV} (h : BrwA hs l m) : l.length = m.length ∧ ∀ (j : Nat) (x y : AV), l[j]? = some x → m[j]? = some y → Brw1 hs x y := by
  induction h with
  | nil => exact ⟨rfl, by simp⟩
  | cons h _ ih =>
    refine ⟨by simp [ih.1], fun j x y hx hy => ?_⟩
    cases j with
    | zero => simp at hx hy; subst hx hy; exact h
    | succ j => exact ih.2 j x y (by simpa using hx) (by simpa using hy)

inductive Brw2 (hs : Hp) : AV → AV → Prop
  | b1 {x y} (h : Brw1 hs x y) : Brw2 hs x y
  | fn {f caps caps'} (h : BrwA hs caps caps') : Brw2 hs (.fn f caps) (.fn f caps')

theorem Brw2.rep {κ : Kap} {w : World} {v : Value} {x y : AV} (b : Brw2 hs x y) (h : HS κ w hs) (hv : RepA κ w (Own κ hs) v x) {O : Nat → Prop} (hO : ∀ b, ¬ O b) : RepA κ w O v y := by
  cases b with
  | b1 h1 => exact h1.rep h hv hO
  | fn h1 =>
    obtain ⟨cs, rfl, h2, h3⟩ := hv.fn_inv
    obtain ⟨h4, h5⟩ := h1.get
    refine .fn _ _ _ (by omega) (fun i u y hi hy => ?_)
    have hlt : i < cs.size := (Array.getElem?_eq_some_iff.1 hi).1
    have hx := List.getElem?_eq_getElem (show i < _ from h2 ▸ hlt)
    exact (h5 i _ y hx hy).rep h (h3 i u _ hi hx) hO

inductive Brws (hs : Hp) : List AV → List AV → Prop
  | nil : Brws hs [] []
  | cons {x y l m} (h : Brw2 hs x y) (ht : Brws hs l m) : Brws hs (x :: l) (y :: m)

theorem Brws.get {l m : List AV} (h : Brws hs l m) : l.length = m.length ∧ ∀ (j : Nat) (x y : AV), l[j]? = some x → m[j]? = some y → Brw2 hs x y := by
  induction h with
  | nil => exact ⟨rfl, by simp⟩
  | cons h _ ih =>
    refine ⟨by simp [ih.1], fun j x y hx hy => ?_⟩
    cases j with
    | zero => simp at hx hy; subst hx hy; exact h
    | succ j => exact ih.2 j x y (by simpa using hx) (by simpa using hy)

def D.flat : D → Bool
  | .agg _ | .sl _ _ => false
  | _ => true

def Ok1 : AV → Prop
  | .d y => y.flat = true
  | .vs .. | .nilsl | .ptr .. => True
  | _ => False

/-- What hangs on no memory but what is new. -/
def OkH : HO → Prop
  | .lst _ rows => ∀ r ∈ rows, ∀ x ∈ r, x.flat = true
  | .cells l => ∀ x ∈ l, Ok1 x
  | .glob .. => False
  | .cap .. => True
  | .typ .. => True
  | .byt .. => True
  | .lsv l => ∀ x ∈ l, Ok1 x
  | .loopr .. => False


def OkR : AV → Prop
  | .tup l => ∀ x ∈ l, Ok1 x
  | x => Ok1 x

theorem RepD.flat {w w' : World} {O O' : Nat → Prop} {v : Value} {x : D} (h : RepD w O v x) (hf : x.flat = true) : RepD w' O' v x := by
  cases h <;> first | (simp [D.flat] at hf; done) | constructor

theorem RepA.ok1 {κ : Kap} {w w' : World} {O O' : Nat → Prop} {v : Value} {x : AV} (h : RepA κ w O v x) (hf : Ok1 x) : RepA κ w' O' v x := by
  cases h with
  | d h => exact .d (h.flat hf)
  | vs ob cap p id lo n sz h1 h2 h3 => exact .vs ob cap p id lo n sz h1 h2 h3
  | nilsl => exact .nilsl
  | ptr b cap id off h => exact .ptr b cap id off h
  | _ => exact hf.elim

theorem RepA.okR {κ : Kap} {w w' : World} {O O' : Nat → Prop} {v : Value} {x : AV} (h : RepA κ w O v x) (hf : OkR x) : RepA κ w' O' v x := by
  cases h with
  | tup cs l h1 h2 => exact .tup cs l h1 fun i v x hi hx => (h2 i v x hi hx).ok1 (hf x (List.mem_of_getElem? hx))
  | d h => exact .d (h.flat hf)
  | vs ob cap p id lo n sz h1 h2 h3 => exact .vs ob cap p id lo n sz h1 h2 h3
  | nilsl => exact .nilsl
  | ptr b cap id off h => exact .ptr b cap id off h
  | _ => exact hf.elim

/-- What was laid aside for a call is as it was; what is new stands beside it. -/
theorem HS.back {κ κ' : Kap} {w w' : World} {hs' : Hp} (h : HS κ w hs) (h' : HS κ' w' hs') (e : Ext κ [] w κ' hs' w') (hok : ∀ p ∈ hs', OkH p.2) : HS κ' w' (hs' ++ hs) ∧ Ext κ hs w κ' (hs' ++ hs) w' := by
  have hnone : ∀ b, ¬ Own κ [] b := fun b ⟨_, _, _, hi, _⟩ => by cases hi
  have hnew : ∀ id o, (id, o) ∈ hs' → κ id = Option.none := fun id o hi => (e.ids id o hi).resolve_left fun ⟨_, h⟩ => by cases h
  have hbig : ∀ id o b c, (id, o) ∈ hs' → κ' id = some (some b, c) → w.heap.size ≤ b := fun id o b c hi hk => Nat.le_of_not_lt fun hlt => hnone b (e.own b hlt ⟨id, o, c, hi, hk⟩)
  have hold : ∀ id o x, (id, o) ∈ hs → κ' id = some x → κ id = some x := fun id o x hi hk => by
    obtain ⟨y, hy, _⟩ := h.ok id o hi
    rw [e.kap id y hy] at hk
    rw [hy, hk]
  have ext : Ext κ hs w κ' (hs' ++ hs) w' := by
    refine ⟨e.kap, e.size, e.drawn, e.os, e.tape, e.output, fun b hb _ => e.same b hb (hnone b), fun b hb ⟨id, o, c, hi, hk⟩ => ?_, fun id o hi => ?_, e.ty⟩
    · rcases List.mem_append.1 hi with hi | hi
      · exact absurd (hbig id o b c hi hk) (by omega)
      · exact ⟨id, o, c, hi, hold id o _ hi hk⟩
    · rcases List.mem_append.1 hi with hi | hi
      · exact .inr (hnew id o hi)
      · exact .inl ⟨o, hi⟩
  refine ⟨⟨?_, fun id o hi => ?_, fun id id' o o' b c c' hi hi' h1 h2 => ?_, h'.fresh⟩, ext⟩
  · rw [List.map_append]
    refine List.nodup_append.2 ⟨h'.nodup, h.nodup, fun x hx y hy hxy => ?_⟩
    obtain ⟨⟨id, o⟩, hi, rfl⟩ := List.mem_map.1 hx
    obtain ⟨⟨id', o'⟩, hi', rfl⟩ := List.mem_map.1 hy
    simp only at hxy
    subst hxy
    obtain ⟨z, hz, _⟩ := h.ok id o' hi'
    rw [hnew id o hi] at hz; cases hz
  · rcases List.mem_append.1 hi with hi | hi
    · obtain ⟨⟨ob, cap⟩, hx, hok2⟩ := h'.ok id o hi
      refine ⟨_, hx, ?_⟩
      have hf := hok _ hi
      cases o with
      | cells l =>
        obtain ⟨b, cs, h1, h2, h3, h4, h5⟩ := hok2
        exact ⟨b, cs, h1, h2, h3, h4, fun i v x hi hx => (h5 i v x hi hx).ok1 (hf x (List.mem_of_getElem? hx))⟩
      | lst sz rows =>
        obtain ⟨h0, h0', h1, h2, h3, h4, h5⟩ := hok2
        refine ⟨h0, h0', h1, h2, h3, h4, fun b hb => ?_⟩
        obtain ⟨cs, T, h6, h7, h8⟩ := h5 b hb
        exact ⟨cs, T, h6, h7, fun i j r d hi hj => let ⟨u, hu, hd⟩ := h8 i j r d hi hj; ⟨u, hu, hd.flat (hf r (List.mem_of_getElem? hi) d (List.mem_of_getElem? hj))⟩⟩
      | glob b l => exact hf.elim
      | cap id' c' => exact hok2
      | typ id' T => exact hok2
      | byt l => exact hok2
      | lsv l =>
        obtain ⟨h0, h0', h4, h5⟩ := hok2
        refine ⟨h0, h0', h4, fun b hb => ?_⟩
        obtain ⟨cs, T, h6, h7, h1, h8⟩ := h5 b hb
        exact ⟨cs, T, h6, h7, h1, fun i v x hi hx => (h8 i v x hi hx).ok1 (hf x (List.mem_of_getElem? hx))⟩
      | loopr => exact hf.elim
    · obtain ⟨x, hx, hok2⟩ := h.ok id o hi
      refine ⟨x, e.kap _ _ hx, hok2.ext ext fun b hb => e.same b (h.block_lt hi (c := x.2) ?_) (hnone b)⟩
      rw [hx, ← hb]
  · rcases List.mem_append.1 hi with gi | gi <;> rcases List.mem_append.1 hi' with gi' | gi'
    · exact h'.inj id id' o o' b c c' gi gi' h1 h2
    · have := hbig id o b c gi h1
      have h3 := h.block_lt gi' (hold id' o' _ gi' h2)
      omega
    · have := hbig id' o' b c' gi' h2
      have h3 := h.block_lt gi (hold id o _ gi h1)
      omega
    · exact h.inj id id' o o' b c c' gi gi' (hold id o _ gi h1) (hold id' o' _ gi' h2)

theorem brw_args {κ : Kap} {w : World} {a : Act} (s : Sim N κ hs w σ a) {args : Array Operand} {caps xs ys : List AV} {cs : Array Value} (hs1 : cs.size = caps.length)
    (h : ∀ (i : Nat) (v : Value) (x : AV), cs[i]? = some v → caps[i]? = some x → RepA κ w (Own κ hs) v x) (ha : args.toList.map (oev σ) ++ caps = xs) (hb : Brws hs xs ys) :
    (args.map a.eval ++ cs).size = ys.length ∧ ∀ (i : Nat) (v : Value) (x : AV), (args.map a.eval ++ cs)[i]? = some v → ys[i]? = some x → RepA κ w (Own κ []) v x := by
  obtain ⟨h3, h4⟩ := args_rep s (args := args) hs1 h
  rw [ha] at h3 h4
  obtain ⟨h5, h6⟩ := hb.get
  refine ⟨by omega, fun i v y hi hy => ?_⟩
  have hlt : i < (args.map a.eval ++ cs).size := (Array.getElem?_eq_some_iff.1 hi).1
  have hx := List.getElem?_eq_getElem (show i < xs.length by omega)
  exact (h6 i _ y hx hy).rep s.heap (h4 i v _ hi hx) fun b ⟨_, _, _, hi, _⟩ => by cases hi

/-- A call that is handed one's own things to look at, and answers with what is new. -/
theorem L.bcall {x : Operand} {args : Array Operand} {tys : Array TypeId} {f : FuncId} {fn : Func} {caps xs ys : List AV} {R : AV → Hp → Prop} (hx : oev σ x = .fn f caps) (hf : P.funcs[f]? = some fn) (hg : callGo fn = true)
    (ha : args.toList.map (oev σ) ++ caps = xs) (hb : Brws hs xs ys) (hc : AC P f ys [] R) (hok : ∀ r hs', R r hs' → OkR r ∧ ∀ p ∈ hs', OkH p.2) (hd : dstOk N d = true) :
    Loud P N σ hs ⟨d, .call ⟨.value x, args, tys⟩, ty, pos, af, g⟩ (fun σ' hs' => ∃ r h', σ' = putE d r σ ∧ R r h' ∧ hs' = h' ++ hs) := by
  intro κ a w s K Q hK
  have hx1 := s.oev x; rw [hx] at hx1
  obtain ⟨cs, hv, h1, h2⟩ := hx1.fn_inv
  obtain ⟨h3, h4⟩ := brw_args s (args := args) h1 h2 ha hb
  unfold oWp
  rw [enter_run hv hf hg, Oper.uponIn_enter]
  obtain ⟨h0, _⟩ := s.heap.sublist (List.nil_sublist hs)
  refine ⟨fun h => (by cases h), callsIn_wide.2 ((hc κ _ w h0 h3 h4).mono ?_)⟩
  rintro e w' ⟨κ', hs', v, r, rfl, h5, h6, h7, h8⟩
  obtain ⟨ok1, ok2⟩ := hok r hs' h8
  obtain ⟨g1, g2⟩ := s.heap.back h5 h6 ok2
  exact hK κ' _ w' _ _ (s.putO g2 g1 hd (h7.okR ok1)) g2 ⟨r, hs', rfl, h8, rfl⟩

theorem Q.bcall {x : Operand} {args : Array Operand} {tys : Array TypeId} {f : FuncId} {fn : Func} {caps xs ys : List AV} {v : AV} (hx : oev σ x = .fn f caps) (hf : P.funcs[f]? = some fn) (hg : callGo fn = true)
    (ha : args.toList.map (oev σ) ++ caps = xs) (hb : Brws hs xs ys) (hc : AC P f ys [] (fun r hs' => r = v ∧ hs' = [])) (hok : OkR v) :
    Quiet P N σ hs ⟨d, .call ⟨.value x, args, tys⟩, ty, pos, af, g⟩ v := by
  intro κ a w s K Q hK
  have hx1 := s.oev x; rw [hx] at hx1
  obtain ⟨cs, hv, h1, h2⟩ := hx1.fn_inv
  obtain ⟨h3, h4⟩ := brw_args s (args := args) h1 h2 ha hb
  unfold oWp
  rw [enter_run hv hf hg, Oper.uponIn_enter]
  obtain ⟨h0, _⟩ := s.heap.sublist (List.nil_sublist hs)
  refine ⟨fun h => (by cases h), callsIn_wide.2 ((hc κ _ w h0 h3 h4).mono ?_)⟩
  rintro e w' ⟨κ', hs', u, r, rfl, h5, h6, h7, rfl, rfl⟩
  obtain ⟨g1, g2⟩ := s.heap.back h5 h6 (by simp)
  rw [List.nil_append] at g1 g2
  exact hK κ' w' u g1 g2 (h7.okR hok)

end calls

/-! ### a region that draws its order -/
section draw
variable {P : Program} {N : Nm} {ops : Array Oper} {hs : Hp}

def wpO (P : Program) (ops : Array Oper) (Q : Exit → Act → World → Prop) (o : Oper) (K : Act → World → Prop) (a : Act) (w : World) : Prop :=
  if Region.wanted o (yielded ops a.tmps) then oWp P o a w K Q else K (a.put o.dst undef) w

def wpAnyO (P : Program) (ops : Array Oper) (Q : Exit → Act → World → Prop) : Nat → Array Bool → Act → World → Prop
  | 0, listed, a, w => Region.ready .any ops listed = [] ∧ Q .normal a w
  | fuel + 1, listed, a, w =>
    (Region.ready .any ops listed = [] → Q .normal a w) ∧
    ∀ i ∈ Region.ready .any ops listed, ∃ o, ops[i]? = some o ∧ wpO P ops Q o (wpAnyO P ops Q fuel (listed.setIfInBounds i true)) a w

theorem wpAnyO_in {ro : Option Nat} {Q : Exit → Act → World → Prop} (hnd : ndOk ro ops = true) : ∀ (fuel : Nat) (listed : Array Bool) (a : Act) (w : World), wpAnyO P ops Q fuel listed a w → wpAnyIn (FR ro) 0 P .any ops Q fuel listed a w
  | 0, _, _, _, h => h
  | fuel + 1, listed, a, w, ⟨h1, h2⟩ => ⟨h1, fun i hi => by
      obtain ⟨o, ho, h3⟩ := h2 i hi
      simp only [wpOpIn, ho]
      unfold wpO at h3
      split
      · rename_i hw
        rw [if_pos hw] at h3
        exact oWp_in (ndOk_at hnd ho) (oWp_mono (fun a w h => wpAnyO_in hnd fuel _ a w h) h3)
      · rename_i hw
        rw [if_neg hw] at h3
        exact ⟨fun _ _ => trivial, wpAnyO_in hnd fuel _ _ _ h3⟩⟩

/-- An operation with its guard: what it yields. -/
def GQ (P : Program) (N : Nm) (ops : Array Oper) (σ : Env) (hs : Hp) (o : Oper) (v : AV) : Prop :=
  ∀ κ a w, Sim N κ hs w σ a → ∀ (K : Act → World → Prop) (Q : Exit → Act → World → Prop),
    (∀ κ' w' u, HS κ' w' hs → Ext κ hs w κ' hs w' → RepA κ' w' (Own κ' hs) u v → K (a.put o.dst u) w') → wpO P ops Q o K a w

theorem GQ.q {σ : Env} {o : Oper} {v : AV} (hg : o.guard = none) (h : Quiet P N σ hs o v) : GQ P N ops σ hs o v := by
  intro κ a w s K Q hK
  have hw : Region.wanted o (yielded ops a.tmps) = true := by simp [Region.wanted, hg]
  rw [wpO, if_pos hw]
  exact h κ a w s K Q hK

theorem GQ.g {σ : Env} {o oj : Oper} {v : AV} {j t : Nat} {b want : Bool} (hg : o.guard = some (j, want)) (hj : ops[j]? = some oj) (hjd : oj.dst = some t) (hb : eget σ t = .d (.bool b)) (htN : Nat.blt t N.n = true)
    (h : (b == want) = true → Quiet P N σ hs o v) : GQ P N ops σ hs o (.when (b == want) v) := by
  intro κ a w s K Q hK
  have hv := s.get t
  rw [hb] at hv
  have htl : t < a.tmps.size := by rw [s.size]; simpa [Nat.blt_eq] using htN
  have hv2 := hv.bool_inv
  have hy : yielded ops a.tmps j = some b := by
    have hv3 : a.tmps[t]? = some (.bool b) := by
      rw [Array.getElem?_eq_getElem htl]
      rw [show a.tmps.getD t undef = a.tmps[t] from by simp [htl]] at hv2
      rw [hv2]
    simp [yielded, hj, hjd, hv3]
  have hw : Region.wanted o (yielded ops a.tmps) = (b == want) := by
    simp only [Region.wanted, hg, hy]
    cases b <;> cases want <;> rfl
  rw [wpO, hw]
  cases hbw : (b == want) with
  | true =>
    rw [if_pos rfl]
    exact h hbw κ a w s K Q fun κ' w' u h1 e hu => hK κ' w' u h1 e (by rw [hbw]; exact .when _ _ _ (fun _ => hu) fun h => by cases h)
  | false =>
    rw [if_neg (by simp)]
    exact hK κ w undef s.heap (.refl _ _ _) (by rw [hbw]; exact .when _ _ _ (fun h => by cases h) fun _ => rfl)

theorem GQ.gw {σ : Env} {o oj : Oper} {v : AV} {j t : Nat} {g0 b want : Bool} (hg : o.guard = some (j, want)) (hj : ops[j]? = some oj) (hjd : oj.dst = some t) (hb : eget σ t = .when g0 (.d (.bool b))) (htN : Nat.blt t N.n = true)
    (h : (g0 && (b == want)) = true → Quiet P N σ hs o v) : GQ P N ops σ hs o (.when (g0 && (b == want)) v) := by
  intro κ a w s K Q hK
  have hv := s.get t
  rw [hb] at hv
  have htl : t < a.tmps.size := by rw [s.size]; simpa [Nat.blt_eq] using htN
  have hv3 : a.tmps[t]? = some (a.tmps.getD t undef) := by rw [Array.getElem?_eq_getElem htl]; simp [htl]
  have hw : Region.wanted o (yielded ops a.tmps) = (g0 && (b == want)) := by
    generalize a.tmps.getD t undef = u at hv hv3
    cases hv with
    | when _ _ _ h1 h2 =>
      cases g0 with
      | true =>
        obtain rfl := (h1 rfl).bool_inv
        have hy : yielded ops a.tmps j = some b := by simp [yielded, hj, hjd, hv3]
        simp only [Region.wanted, hg, hy]
        cases b <;> cases want <;> rfl
      | false =>
        obtain rfl := h2 rfl
        have hy : yielded ops a.tmps j = none := by simp [yielded, hj, hjd, hv3, undef]
        simp only [Region.wanted, hg, hy]
        rfl
  rw [wpO, hw]
  cases hbw : (g0 && (b == want)) with
  | true =>
    rw [if_pos rfl]
    exact h hbw κ a w s K Q fun κ' w' u h1 e hu => hK κ' w' u h1 e (by rw [hbw]; exact .when _ _ _ (fun _ => hu) fun h => by cases h)
  | false =>
    rw [if_neg (by simp)]
    exact hK κ w undef s.heap (.refl _ _ _) (by rw [hbw]; exact .when _ _ _ (fun h => by cases h) fun _ => rfl)

def restr (σ : Env) (ts : List Tmp) : Env := ts.map fun t => (t, eget σ t)

/-- The operations of a region, in the text's order, each over the slots that it looks at. -/
inductive Chain (P : Program) (N : Nm) (ops : Array Oper) (hs : Hp) : List Oper → Env → (Env → Prop) → Prop
  | nil {σ R} (h : R σ) : Chain P N ops hs [] σ R
  | cons {o l σ R} (v : AV) (h : GQ P N ops (restr σ (o.looksAt ops)) hs o v) (hd : dstOk N o.dst = true) (ht : Chain P N ops hs l (putE o.dst v σ) R) : Chain P N ops hs (o :: l) σ R

def depB (ops : Array Oper) (j i : Nat) : Bool := match ops[j]? with | some o => o.after.any fun e => Region.binds .any e && e.on == i | none => false
def clashB (ops : Array Oper) (i j : Nat) : Bool := match ops[i]?, ops[j]? with
  | some oi, some oj => match oi.dst with | some t => (oj.looksAt ops).contains t || oj.dst == some t | none => false
  | _, _ => false

/-- The first h operations may come in any order; those behind them come in theirs. -/
def drawOk (h : Nat) (ops : Array Oper) : Bool :=
  Nat.ble h ops.size &&
  (List.range ops.size).all fun j => (match ops[j]? with | some o => o.after.all (fun e => !Region.binds .any e || Nat.blt e.on j) | none => false) &&
    (List.range ops.size).all fun i => i == j || (if j < h then (if i < h then !clashB ops i j || (if i < j then depB ops j i else depB ops i j) else true) else (!(Nat.blt i j) || depB ops j i))

def dstAt (ops : Array Oper) (i : Nat) : Option Tmp := (ops[i]?).bind (·.dst)

def envL (σ : Env) (ops : Array Oper) (vals : Nat → AV) (S : Nat → Bool) : Nat → Env
  | 0 => σ
  | j + 1 => if S j = true then putE (dstAt ops j) (vals j) (envL σ ops vals S j) else envL σ ops vals S j

theorem putE_get (d : Option Tmp) (v : AV) (σ : Env) (t : Nat) : eget (putE d v σ) t = if d = some t then v else eget σ t := by
  cases d with
  | none => simp [putE]
  | some u =>
    by_cases h : u = t
    · subst h; simp [putE, eget_same]
    · simp [putE, eget_ne σ v h, h]

theorem envL_step (σ : Env) (vals : Nat → AV) (S : Nat → Bool) (j t : Nat) : eget (envL σ ops vals S (j + 1)) t = if dstAt ops j = some t ∧ S j = true then vals j else eget (envL σ ops vals S j) t := by
  simp only [envL]
  cases hS : S j with
  | false => simp
  | true => simp [putE_get]

theorem envL_high (σ : Env) (vals : Nat → AV) (S : Nat → Bool) (t j : Nat) : ∀ n, j ≤ n → (∀ i, j ≤ i → i < n → S i = true → dstAt ops i ≠ some t) → eget (envL σ ops vals S n) t = eget (envL σ ops vals S j) t
  | 0, hj, _ => by rw [Nat.le_zero.1 hj]
  | n + 1, hj, h => by
    by_cases he : j = n + 1
    · rw [he]
    · rw [envL_step, if_neg (fun hc => h n (by omega) (by omega) hc.2 hc.1)]
      exact envL_high σ vals S t j n (by omega) fun i h1 h2 => h i h1 (by omega)

theorem envL_low (σ : Env) (vals : Nat → AV) (S S' : Nat → Bool) (t : Nat) : ∀ n, (∀ i, i < n → dstAt ops i = some t → S i = S' i) → eget (envL σ ops vals S n) t = eget (envL σ ops vals S' n) t
  | 0, _ => rfl
  | n + 1, h => by
    rw [envL_step, envL_step, envL_low σ vals S S' t n fun i hi => h i (by omega)]
    by_cases hd : dstAt ops n = some t
    · rw [h n (by omega) hd]
    · simp [hd]

theorem envL_vals (σ : Env) (vals vals' : Nat → AV) (S : Nat → Bool) : ∀ n, (∀ i, i < n → vals i = vals' i) → envL σ ops vals S n = envL σ ops vals' S n
  | 0, _ => rfl
  | n + 1, h => by simp only [envL]; rw [envL_vals σ vals vals' S n fun i hi => h i (by omega), h n (by omega)]

theorem Chain.vals {l : List Oper} {σ : Env} {R : Env → Prop} (c : Chain P N ops hs l σ R) : ∀ (k : Nat) (σ₀ : Env) (v₀ : Nat → AV), (∀ (j : Nat) o, l[j]? = some o → ops[k + j]? = some o) → σ = envL σ₀ ops v₀ (fun _ => true) k →
    ∃ vals, (∀ i, i < k → vals i = v₀ i) ∧ (∀ (j : Nat) o, l[j]? = some o → GQ P N ops (restr (envL σ₀ ops vals (fun _ => true) (k + j)) (o.looksAt ops)) hs o (vals (k + j)) ∧ dstOk N o.dst = true) ∧
      R (envL σ₀ ops vals (fun _ => true) (k + l.length)) := by
  induction c with
  | nil h => intro k σ₀ v₀ _ he; exact ⟨v₀, fun _ _ => rfl, by simp, by subst he; exact h⟩
  | @cons o l σ R v h hd _ ih =>
    intro k σ₀ v₀ hops he
    have hk : ops[k]? = some o := hops 0 o rfl
    let v₁ : Nat → AV := fun i => if i = k then v else v₀ i
    have e1 : envL σ₀ ops v₁ (fun _ => true) k = envL σ₀ ops v₀ (fun _ => true) k := envL_vals _ _ _ _ _ fun i hi => by simp [v₁, Nat.ne_of_lt hi]
    obtain ⟨vals, g1, g2, g3⟩ := ih (k + 1) σ₀ v₁ (fun j o' hj => by have := hops (j + 1) o' (by simpa using hj); rwa [show k + 1 + j = k + (j + 1) by omega]) (by
      simp only [envL, if_true]
      rw [e1, ← he, show dstAt ops k = o.dst from by simp [dstAt, hk]]
      simp [v₁])
    have e2 : envL σ₀ ops vals (fun _ => true) k = σ := by
      rw [he, ← e1]; exact envL_vals _ _ _ _ _ fun i hi => g1 i (by omega)
    have hv : vals k = v := by rw [g1 k (by omega)]; simp [v₁]
    refine ⟨vals, fun i hi => by rw [g1 i (by omega)]; simp [v₁, Nat.ne_of_lt hi], fun j o' hj => ?_, by rw [List.length_cons, show k + (l.length + 1) = k + 1 + l.length by omega]; exact g3⟩
    cases j with
    | zero =>
      simp at hj; subst hj
      rw [Nat.add_zero, e2, hv]
      exact ⟨h, hd⟩
    | succ j =>
      have := g2 j o' (by simpa using hj)
      rwa [show k + 1 + j = k + (j + 1) by omega] at this

theorem ready_dep {listed : Array Bool} {j i : Nat} (hr : j ∈ Region.ready .any ops listed) (hd : depB ops j i = true) : listed.getD i false = true := by
  obtain ⟨_, o, ho, hall⟩ := mem_ready.1 hr
  simp only [depB, ho, Array.any_eq_true'] at hd
  obtain ⟨e, he, hb⟩ := hd
  have hb2 := Bool.and_eq_true_iff.1 hb
  have : e.on = i := by simpa using hb2.2
  subst this
  exact hall e he hb2.1

structure DrawOk (h : Nat) (ops : Array Oper) : Prop where
  le : h ≤ ops.size
  back : ∀ j o, ops[j]? = some o → ∀ e ∈ o.after, Region.binds .any e = true → e.on < j
  head : ∀ i j, i < h → j < h → i ≠ j → clashB ops i j = true → (i < j → depB ops j i = true) ∧ (j < i → depB ops i j = true)
  tail : ∀ i j, h ≤ j → j < ops.size → i < j → depB ops j i = true

theorem drawOk_spec {h : Nat} (hd : drawOk h ops = true) : DrawOk h ops := by
  unfold drawOk at hd
  obtain ⟨h1, h2⟩ := Bool.and_eq_true_iff.1 hd
  have h1' : h ≤ ops.size := Nat.le_of_ble_eq_true h1
  rw [List.all_eq_true] at h2
  have key : ∀ j, j < ops.size → _ := fun j hj => Bool.and_eq_true_iff.1 (h2 j (List.mem_range.2 hj))
  refine ⟨h1', fun j o ho e he hb => ?_, fun i j hi hj hne hc => ?_, fun i j hj hjs hij => ?_⟩
  · have hlt := (Array.getElem?_eq_some_iff.1 ho).1
    have := (key j hlt).1
    simp only [ho, Array.all_eq_true_iff_forall_mem] at this
    have h3 := this e he
    simp only [hb, Bool.not_true, Bool.false_or] at h3
    simpa [Nat.blt_eq] using h3
  · have h3 := (key j (by omega)).2
    rw [List.all_eq_true] at h3
    have h4 := h3 i (List.mem_range.2 (by omega))
    have hne' : (i == j) = false := by simpa using hne
    simp only [hne', Bool.false_or, if_pos hj, if_pos hi, hc, Bool.not_true] at h4
    exact ⟨fun hlt => by rw [if_pos hlt] at h4; exact h4, fun hlt => by rw [if_neg (by omega)] at h4; exact h4⟩
  · have h3 := (key j hjs).2
    rw [List.all_eq_true] at h3
    have h4 := h3 i (List.mem_range.2 (by omega))
    have hne' : (i == j) = false := by simp; omega
    have hlt : Nat.blt i j = true := by simpa [Nat.blt_eq] using hij
    simp only [hne', Bool.false_or, if_neg (show ¬ j < h by omega), hlt, Bool.not_true] at h4
    exact h4

theorem min_unlisted {listed : Array Bool} (hsz : listed.size = ops.size) {j : Nat} (hj : j < ops.size) (hu : listed.getD j false = false) (hb : ∀ j o, ops[j]? = some o → ∀ e ∈ o.after, Region.binds .any e = true → e.on < j) :
    Region.ready .any ops listed ≠ [] := by
  induction j using Nat.strongRecOn with
  | _ j ih =>
    by_cases hm : ∃ i, i < j ∧ listed.getD i false = false
    · obtain ⟨i, hi, h⟩ := hm
      exact ih i hi (by omega) h
    · have hr : j ∈ Region.ready .any ops listed := by
        rw [mem_ready]
        have ho : ops[j]? = some ops[j] := Array.getElem?_eq_getElem hj
        refine ⟨?_, ops[j], ho, fun e he hbd => ?_⟩
        · have hlt : j < listed.size := by omega
          simpa [hlt] using hu
        · have hlt := hb j _ ho e he hbd
          cases hx : listed.getD e.on false with
          | true => rfl
          | false => exact absurd ⟨e.on, hlt, hx⟩ hm
      intro he
      rw [he] at hr; cases hr

theorem tail_any {Q : Exit → Act → World → Prop} {h : Nat} (ok : DrawOk h ops) : ∀ (fuel m : Nat) (listed : Array Bool) (a : Act) (w : World), h ≤ m → m ≤ ops.size → ops.size - m ≤ fuel → listed.size = ops.size →
    (∀ i, i < ops.size → (listed.getD i false = true ↔ i < m)) → wpL P ops Q (ops.toList.drop m) a w → wpAnyO P ops Q fuel listed a w := by
  intro fuel
  induction fuel with
  | zero =>
    intro m listed a w h1 h2 h3 hsz hl hw
    have hm : m = ops.size := by omega
    subst hm
    rw [show ops.toList.drop ops.size = [] from by rw [← Array.length_toList]; exact List.drop_length] at hw
    refine ⟨?_, hw⟩
    rw [List.eq_nil_iff_forall_not_mem]
    intro i hi
    obtain ⟨hu, o, ho, _⟩ := mem_ready.1 hi
    have hlt := (Array.getElem?_eq_some_iff.1 ho).1
    have := (hl i hlt).2 hlt
    have hlt2 : i < listed.size := by omega
    simp [hlt2] at hu this
    rw [hu] at this; cases this
  | succ fuel ih =>
    intro m listed a w h1 h2 h3 hsz hl hw
    by_cases hm : m = ops.size
    · subst hm
      rw [show ops.toList.drop ops.size = [] from by rw [← Array.length_toList]; exact List.drop_length] at hw
      refine ⟨fun _ => hw, fun i hi => ?_⟩
      obtain ⟨hu, o, ho, _⟩ := mem_ready.1 hi
      have hlt := (Array.getElem?_eq_some_iff.1 ho).1
      have := (hl i hlt).2 hlt
      have hlt2 : i < listed.size := by omega
      simp [hlt2] at hu this
      rw [hu] at this; cases this
    · have hlt : m < ops.size := by omega
      have hmu : listed.getD m false = false := by
        cases hx : listed.getD m false with
        | false => rfl
        | true => exact absurd ((hl m hlt).1 hx) (Nat.lt_irrefl _)
      refine ⟨fun hr => absurd hr (min_unlisted hsz hlt hmu ok.back), fun i hi => ?_⟩
      obtain ⟨hu, o, ho, _⟩ := mem_ready.1 hi
      have hil := (Array.getElem?_eq_some_iff.1 ho).1
      have him : i = m := by
        by_cases hlt2 : i < m
        · have := (hl i hil).2 hlt2
          have hlt3 : i < listed.size := by omega
          simp [hlt3] at hu this
          rw [hu] at this; cases this
        · by_cases hgt : m < i
          · have := ready_dep hi (ok.tail m i (by omega) hil hgt)
            rw [hmu] at this; cases this
          · omega
      subst him
      have hdrop : ops.toList.drop i = o :: ops.toList.drop (i + 1) := by
        rw [List.drop_eq_getElem_cons (by simpa using hil)]
        congr 1
        have := (Array.getElem?_eq_some_iff.1 ho).2
        simpa using this
      rw [hdrop] at hw
      have hnext : ∀ a w, wpL P ops Q (ops.toList.drop (i + 1)) a w → wpAnyO P ops Q fuel (listed.setIfInBounds i true) a w := fun a w hw =>
        ih (i + 1) _ a w (by omega) (by omega) (by omega) (by simpa using hsz) (fun q hq => by
          by_cases hqi : q = i
          · subst hqi
            have : q < listed.size := by omega
            simp [this]
          · rw [getD_set_ne false (Ne.symm hqi), hl q hq]; omega) hw
      refine ⟨o, ho, ?_⟩
      unfold wpO
      simp only [wpL] at hw
      split
      · rename_i hwn
        rw [if_pos hwn] at hw
        exact oWp_mono hnext hw
      · rename_i hwn
        rw [if_neg hwn] at hw
        exact hnext _ _ hw

theorem countP_lt {p q : Nat → Bool} : ∀ (l : List Nat), (∀ x, q x = true → p x = true) → (∃ x ∈ l, p x = true ∧ q x = false) → l.countP q < l.countP p
  | [], _, ⟨x, hx, _⟩ => by cases hx
  | y :: l, h, ⟨x, hx, h1, h2⟩ => by
    have hle : l.countP q ≤ l.countP p := List.countP_mono_left fun x _ => h x
    rw [List.countP_cons, List.countP_cons]
    rcases List.mem_cons.1 hx with rfl | hx
    · rw [h1, h2]; simp; omega
    · have ih := countP_lt l h ⟨x, hx, h1, h2⟩
      cases hq : q y with
      | true => rw [h y hq]; simp; omega
      | false => rw [if_neg (by simp)]; omega

theorem head_any {Q : Exit → Act → World → Prop} {h : Nat} {σ : Env} {vals : Nat → AV} (ok : DrawOk h ops)
    (G : ∀ (j : Nat) o, j < h → ops[j]? = some o → GQ P N ops (restr (envL σ ops vals (fun _ => true) j) (o.looksAt ops)) hs o (vals j) ∧ dstOk N o.dst = true)
    {κ : Kap} {w₀ : World} (T : ∀ κ' a w, Sim N κ' hs w (envL σ ops vals (fun _ => true) h) a → Ext κ hs w₀ κ' hs w → wpL P ops Q (ops.toList.drop h) a w) :
    ∀ (fuel : Nat) (listed : Array Bool) (κ' : Kap) (a : Act) (w : World), (List.range ops.size).countP (fun i => !listed.getD i false) ≤ fuel → listed.size = ops.size → (∀ i, h ≤ i → listed.getD i false = false) →
      (∀ i o, ops[i]? = some o → listed.getD i false = true → ∀ e ∈ o.after, Region.binds .any e = true → listed.getD e.on false = true) →
      Sim N κ' hs w (envL σ ops vals (fun i => listed.getD i false) h) a → Ext κ hs w₀ κ' hs w → wpAnyO P ops Q fuel listed a w := by
  intro fuel
  induction fuel with
  | zero =>
    intro listed κ' a w hc hsz hno hdep s e
    have hall : ∀ i, i < ops.size → listed.getD i false = true := fun i hi => by
      have := List.countP_eq_zero.1 (Nat.le_zero.1 hc) i (List.mem_range.2 hi)
      simpa using this
    have hh : h = ops.size := by
      have := ok.le
      rcases Nat.lt_or_ge h ops.size with hlt | hge
      · have h5 := hall h hlt; rw [hno h (Nat.le_refl _)] at h5; cases h5
      · omega
    have se : Sim N κ' hs w (envL σ ops vals (fun _ => true) h) a := ⟨s.heap, s.size, s.defers, fun t => by
      rw [envL_low σ vals (fun _ => true) (fun i => listed.getD i false) t h fun i hi _ => (hall i (by omega)).symm]
      exact s.get t⟩
    exact tail_any ok 0 h listed a w (Nat.le_refl _) ok.le (by omega) hsz (fun i hi => ⟨fun _ => by omega, fun _ => hall i hi⟩) (T κ' a w se e)
  | succ fuel ih =>
    intro listed κ' a w hc hsz hno hdep s e
    by_cases hall : ∀ j, j < h → listed.getD j false = true
    · have se : Sim N κ' hs w (envL σ ops vals (fun _ => true) h) a := ⟨s.heap, s.size, s.defers, fun t => by
        rw [envL_low σ vals (fun _ => true) (fun i => listed.getD i false) t h fun i hi _ => (hall i hi).symm]
        exact s.get t⟩
      have hcount : ops.size - h ≤ fuel + 1 := by
        have : ops.size - h ≤ (List.range ops.size).countP (fun i => !listed.getD i false) := by
          have h1 : (List.range ops.size).countP (fun i => decide (h ≤ i)) = ops.size - h := by
            have key : ∀ n, (List.range n).countP (fun i => decide (h ≤ i)) = n - h := by
              intro n
              induction n with
              | zero => simp
              | succ n ihn =>
                rw [List.range_succ, List.countP_append, ihn]
                by_cases hn : h ≤ n
                · simp [hn]; omega
                · simp [hn]; omega
            exact key _
          rw [← h1]
          exact List.countP_mono_left fun i _ hi => by simp [hno i (by simpa using hi)]
        omega
      exact tail_any ok (fuel + 1) h listed a w (Nat.le_refl _) ok.le hcount hsz (fun i hi => ⟨fun hx => Nat.lt_of_not_le (fun hge => by rw [hno i hge] at hx; cases hx), fun hlt => hall i hlt⟩) (T κ' a w se e)
    · obtain ⟨j₀, hj₀⟩ := Classical.not_forall.1 hall
      obtain ⟨hj₀h, hj₀u⟩ := Classical.not_imp.1 hj₀
      have hj₀u' : listed.getD j₀ false = false := by simpa using hj₀u
      have hle := ok.le
      refine ⟨fun hr => absurd hr (min_unlisted hsz (by omega) hj₀u' ok.back), fun j hj => ?_⟩
      obtain ⟨hu, o, ho, hdeps⟩ := mem_ready.1 hj
      have hjs := (Array.getElem?_eq_some_iff.1 ho).1
      have hju : listed.getD j false = false := by
        have hlt : j < listed.size := by omega
        simpa [hlt] using hu
      have hjh : j < h := Nat.lt_of_not_le fun hge => by
        have := ready_dep hj (ok.tail j₀ j hge hjs (by omega))
        rw [hj₀u'] at this; cases this
      obtain ⟨hG, hd⟩ := G j o hjh ho
      -- a listed operation behind j has j among those that it waits for: so it is not listed
      have hafter : ∀ i, i < ops.size → depB ops i j = true → listed.getD i false = false := fun i hi hdp => by
        cases hx : listed.getD i false with
        | false => rfl
        | true =>
          have hio : ops[i]? = some ops[i] := Array.getElem?_eq_getElem hi
          simp only [depB, hio, Array.any_eq_true'] at hdp
          obtain ⟨ed, he, hb⟩ := hdp
          have hb2 := Bool.and_eq_true_iff.1 hb
          have hon : ed.on = j := by simpa using hb2.2
          have := hdep i _ hio hx ed he hb2.1
          rw [hon, hju] at this; cases this
      have hclash : ∀ i t, i < h → i ≠ j → dstAt ops i = some t → (t ∈ o.looksAt ops ∨ o.dst = some t) → (i < j → listed.getD i false = true) ∧ (j < i → listed.getD i false = false) := by
        intro i t hi hne hdi ht
        have hio : ops[i]? = some (ops[i]'(by omega)) := Array.getElem?_eq_getElem (by omega)
        have hdst : (ops[i]'(by omega)).dst = some t := by simpa [dstAt, hio] using hdi
        have hc : clashB ops i j = true := by
          simp only [clashB, hio, ho, hdst]
          rcases ht with ht | ht
          · simp [ht]
          · simp [ht]
        obtain ⟨h1, h2⟩ := ok.head i j hi hjh hne hc
        exact ⟨fun hlt => ready_dep hj (h1 hlt), fun hlt => hafter i (by omega) (h2 hlt)⟩
      have hlook : ∀ t ∈ o.looksAt ops, eget (envL σ ops vals (fun i => listed.getD i false) h) t = eget (envL σ ops vals (fun _ => true) j) t := by
        intro t ht
        rw [envL_high σ vals _ t j h (by omega) fun i h1 h2 h3 h4 => by
          by_cases hij : i = j
          · subst hij; rw [hju] at h3; cases h3
          · rw [(hclash i t h2 hij h4 (.inl ht)).2 (by omega)] at h3; cases h3]
        exact envL_low σ vals _ _ t j fun i hi hdi => (hclash i t (by omega) (by omega) hdi (.inl ht)).1 hi
      have sr : Sim N κ' hs w (restr (envL σ ops vals (fun _ => true) j) (o.looksAt ops)) a := by
        refine ⟨s.heap, s.size, s.defers, fun t => ?_⟩
        have hrestr : eget (restr (envL σ ops vals (fun _ => true) j) (o.looksAt ops)) t = .any ∨ t ∈ o.looksAt ops ∧ eget (restr (envL σ ops vals (fun _ => true) j) (o.looksAt ops)) t = eget (envL σ ops vals (fun _ => true) j) t := by
          unfold restr
          generalize o.looksAt ops = ts
          induction ts with
          | nil => exact .inl rfl
          | cons u ts ih2 =>
            by_cases hut : u = t
            · subst hut; exact .inr ⟨List.mem_cons_self, by rw [List.map_cons, eget_same]⟩
            · rw [List.map_cons, eget_ne _ _ hut]
              rcases ih2 with h1 | ⟨h1, h2⟩
              · exact .inl h1
              · exact .inr ⟨List.mem_cons_of_mem _ h1, h2⟩
        rcases hrestr with h1 | ⟨h1, h2⟩
        · rw [h1]; exact .any _
        · rw [h2, ← hlook t h1]; exact s.get t
      have hcount : (List.range ops.size).countP (fun i => !(listed.setIfInBounds j true).getD i false) ≤ fuel := by
        have hlt : j < listed.size := by omega
        have := countP_lt (p := fun i => !listed.getD i false) (q := fun i => !(listed.setIfInBounds j true).getD i false) (List.range ops.size)
          (fun i hi => by
            by_cases hij : j = i
            · subst hij; simp [hlt] at hi
            · rw [getD_set_ne false hij] at hi; exact hi)
          ⟨j, List.mem_range.2 hjs, by rw [hju]; rfl, by simp [hlt]⟩
        omega
      refine ⟨o, ho, ?_⟩
      refine hG κ' a w sr _ Q fun κ₂ w₂ u h1 e2 hu2 => ?_
      refine ih _ κ₂ _ w₂ hcount (by simpa using hsz) (fun i hi => by rw [getD_set_ne false (by omega)]; exact hno i hi) (fun i oi hoi hx ed he hb => ?_) ?_ (e.trans e2)
      · by_cases hij : i = j
        · subst hij
          rw [ho] at hoi
          obtain rfl := Option.some.inj hoi
          exact getD_set_true (hdeps ed he hb)
        · rw [getD_set_ne false (Ne.symm hij)] at hx
          exact getD_set_true (hdep i oi hoi hx ed he hb)
      · have sp := s.putO e2 h1 hd hu2
        refine ⟨sp.heap, sp.size, sp.defers, fun t => ?_⟩
        have hget := sp.get t
        rw [putE_get] at hget
        have hlt : j < listed.size := by omega
        by_cases hdt : o.dst = some t
        · rw [if_pos hdt] at hget
          have hdj : dstAt ops j = some t := by simp [dstAt, ho, hdt]
          rw [envL_high σ vals _ t (j + 1) h (by omega) fun i h3 h4 h5 h6 => by
            rw [getD_set_ne false (by omega), (hclash i t h4 (by omega) h6 (.inr hdt)).2 (by omega)] at h5; cases h5]
          rw [envL_step, if_pos ⟨hdj, by simp [hlt]⟩]
          exact hget
        · rw [if_neg hdt] at hget
          have : eget (envL σ ops vals (fun i => (listed.setIfInBounds j true).getD i false) h) t = eget (envL σ ops vals (fun i => listed.getD i false) h) t :=
            envL_low σ vals _ _ t h fun i hi hdi => by
              have hne : j ≠ i := by rintro rfl; simp [dstAt, ho] at hdi; exact hdt hdi
              exact getD_set_ne false hne
          rw [this]; exact hget

/-- A region that draws its order: h operations that leave the objects alone, the others behind them. -/
theorem W.draw {Q : Post} {σ : Env} {id : Nat} (h : Nat) (hm : P.follows .mixedOrders = true) (hok : drawOk h ops = true) (c : Chain P N ops hs (ops.toList.take h) σ (fun σ' => XOps P N ops (ops.toList.drop h) σ' hs (fun σ'' hs' => Q .normal σ'' hs'))) (hnd : ndOk N.ro ops = true := by rfl) :
    W P N (.region id ops true) Q σ hs := by
  intro κ a w s
  have ok := drawOk_spec hok
  obtain ⟨vals, _, g2, g3⟩ := c.vals 0 σ (fun _ => .any) (fun j o hj => by
    rw [List.getElem?_take] at hj
    split at hj
    · simpa using hj
    · cases hj) rfl
  simp only [Nat.zero_add] at g2 g3
  have hlen : (ops.toList.take h).length = h := by simp [ok.le]
  rw [hlen] at g3
  refine wpIn_region_any hm (wpAnyO_in hnd _ _ _ _ ?_)
  obtain ⟨h1, e1⟩ := s.heap.drew (w.drawn + 1) (Nat.le_succ _)
  refine head_any (h := h) (σ := σ) (vals := vals) ok (fun j o hj ho => g2 j o (by rw [List.getElem?_take, if_pos hj]; simpa using ho)) (κ := κ) (w₀ := w)
    (fun κ' a' w' s' e' => g3 κ' a' w' s' _ fun κ₂ a₂ w₂ σ₂ hs₂ s₂ e₂ hr => ⟨.normal, κ₂, σ₂, hs₂, rfl, s₂, e'.trans e₂, hr⟩)
    ops.size _ κ a _ ?_ (by simp) (fun i _ => getD_false i) (fun i o ho hx => by rw [getD_false] at hx; cases hx) ?_ e1
  · exact Nat.le_trans List.countP_le_length (by simp)
  · have hz : ∀ n, envL σ ops vals (fun i => (Array.replicate ops.size false).getD i false) n = σ := by
      intro n
      induction n with
      | zero => rfl
      | succ n ih =>
        simp only [envL]
        exact (if_neg (show ¬ (Array.replicate ops.size false).getD n false = true from fun h => by rw [getD_false] at h; cases h)).trans ih
    rw [hz]
    exact s.ext e1 h1
where
  getD_false (i : Nat) : (Array.replicate ops.size false).getD i false = false := by
    by_cases h : i < ops.size <;> simp [h]

theorem W.drawreg {Q : Post} {σ : Env} {id : Nat} {y : Code} (h : Nat) (hm : P.follows .mixedOrders = true) (hok : drawOk h ops = true) (c : Chain P N ops hs (ops.toList.take h) σ (fun σ' => XOps P N ops (ops.toList.drop h) σ' hs (fun σ'' hs' => W P N y Q σ'' hs'))) (hnd : ndOk N.ro ops = true := by rfl) :
    W P N (.seq (.region id ops true) y) Q σ hs := W.seq (W.draw h hm hok c hnd)

end draw
end Go.Proofs.YtldkkoecehdicaaDoorA
