/- Our framework: Abs7 Abs8 Abs10 Base Abs9 Abs11 Abs12 Abs13 Abs14 Abs15 Abs16. -/
import Derived.Test.YtaegeaajhbfkgaaGreatDoorFrA
import Derived.IntWalk
import Derived.KernelRfl
import Derived.Test.YtaegeaajhbfkgaaGreatDoorProg
import Derived.WalkKit
import Derived.ProofKit
import Derived.OpenShut
import Derived.ShutString
import Derived.ChangeOld
import Derived.Below
import Derived.SizedLaws
import Derived.Carry
import Derived.ChangeCalls
/- Calls over abstract states, calls with borrowed arguments, regions that draw their order. -/
namespace Go.Proofs.YtaegeaajhbfkgaaGreatDoorA
open Go
set_option linter.unusedVariables false
set_option linter.unusedSimpArgs false
def callGo (fn : Func) : Bool := !(fn.name == "runtime.NumGoroutine") && fn.body.isSome
theorem callFunc_run {P : Program} {f : FuncId} {fn : Func} (hf : P.funcs[f]? = some fn) (hg : callGo fn = true) (args : Array Value) (w : World) : (callFunc f args).run P w = .ok (.enter f args) w := by
  unfold callGo at hg
  have h1 := (Bool.and_eq_true_iff.1 hg).1
  have h2 := (Bool.and_eq_true_iff.1 hg).2
  have h1' : (fn.name == "runtime.NumGoroutine") = false := by simpa using h1
  have h2' : fn.body.isNone = false := by
    cases hb : fn.body with
    | none => rw [hb] at h2; cases h2
    | some c => rfl
  have h3 : ¬ fn.name = "runtime.NumGoroutine" := by simpa using h1'
  have h4 : ¬ fn.body = none := fun h => by rw [h] at h2'; cases h2'
  simp [callFunc, hf, h3, h4]
section calls
variable {P : Program} {N : Nm} {σ : Env} {hs : Hp} {d : Option Tmp} {ty : TypeId} {pos : String} {af : Array Edge} {g : Option (Nat × Bool)}
theorem enter_run {x : Operand} {args : Array Operand} {tys : Array TypeId} {f : FuncId} {fn : Func} {caps : Array Value} {a : Act} {w : World} (hx : a.eval x = .func (.func f) #[] caps) (hf : P.funcs[f]? = some fn) (hg : callGo fn = true) :
    (execOp a.eval ⟨d, .call ⟨.value x, args, tys⟩, ty, pos, af, g⟩).run P w = .ok (.enter f (args.map a.eval ++ caps)) w := by
  simp [execOp, resolve, invoke, hx, Deferred.ofValue, callFunc_run hf hg]
theorem RepA.fn_inv {κ : Kap} {w : World} {O : Nat → Prop} {v : Value} {f : FuncId} {caps : List AV} (h : RepA κ w O v (.fn f caps)) : ∃ cs : Array Value, v = .func (.func f) #[] cs ∧ cs.size = caps.length ∧
    ∀ (i : Nat) (v : Value) (x : AV), cs[i]? = some v → caps[i]? = some x → RepA κ w O v x := by
  cases h with | fn _ cs _ hs h => exact ⟨cs, rfl, hs, h⟩
theorem args_rep {κ : Kap} {w : World} {a : Act} (s : Sim N κ hs w σ a) {args : Array Operand} {caps : List AV} {cs : Array Value} (hs1 : cs.size = caps.length) (h : ∀ (i : Nat) (v : Value) (x : AV), cs[i]? = some v → caps[i]? = some x → RepA κ w (Own κ hs) v x) :
    (args.map a.eval ++ cs).size = (args.toList.map (oev σ) ++ caps).length ∧ ∀ (i : Nat) (v : Value) (x : AV), (args.map a.eval ++ cs)[i]? = some v → (args.toList.map (oev σ) ++ caps)[i]? = some x → RepA κ w (Own κ hs) v x := by
  refine ⟨by simp [hs1], fun i v x hi hx => ?_⟩
  rw [Array.getElem?_append] at hi
  rw [List.getElem?_append] at hx
  simp only [Array.size_map, List.length_map, Array.length_toList] at hi hx
  split at hi
  · rename_i hlt
    rw [if_pos hlt] at hx
    simp [hlt] at hi hx
    subst hi hx
    exact s.oev _
  · rename_i hge
    rw [if_neg hge] at hx
    exact h _ _ _ hi hx
theorem L.call {x : Operand} {args : Array Operand} {tys : Array TypeId} {f : FuncId} {fn : Func} {caps xs : List AV} {R : AV → Hp → Prop} (hx : oev σ x = .fn f caps) (hf : P.funcs[f]? = some fn) (hg : callGo fn = true)
    (ha : args.toList.map (oev σ) ++ caps = xs) (hc : AC P f xs hs R) (hd : dstOk N d = true) :
    Loud P N σ hs ⟨d, .call ⟨.value x, args, tys⟩, ty, pos, af, g⟩ (fun σ' hs' => ∃ r, σ' = putE d r σ ∧ R r hs') := by
  intro κ a w s K Q hK
  have hx1 := s.oev x; rw [hx] at hx1
  obtain ⟨cs, hv, h1, h2⟩ := hx1.fn_inv
  obtain ⟨h3, h4⟩ := args_rep s (args := args) h1 h2
  subst ha
  unfold oWp
  rw [enter_run hv hf hg, Oper.uponIn_enter]
  refine ⟨fun h => (by cases h), callsIn_wide.2 ((hc κ _ w s.heap h3 h4).mono ?_)⟩
  rintro e w' ⟨κ', hs', v, r, rfl, h5, h6, h7, h8⟩
  exact hK κ' _ w' _ hs' (s.putO h6 h5 hd h7) h6 ⟨r, rfl, h8⟩
theorem Q.call {x : Operand} {args : Array Operand} {tys : Array TypeId} {f : FuncId} {fn : Func} {caps xs : List AV} {v : AV} (hx : oev σ x = .fn f caps) (hf : P.funcs[f]? = some fn) (hg : callGo fn = true)
    (ha : args.toList.map (oev σ) ++ caps = xs) (hc : AC P f xs hs (fun r hs' => r = v ∧ hs' = hs)) : Quiet P N σ hs ⟨d, .call ⟨.value x, args, tys⟩, ty, pos, af, g⟩ v := by
  intro κ a w s K Q hK
  have hx1 := s.oev x; rw [hx] at hx1
  obtain ⟨cs, hv, h1, h2⟩ := hx1.fn_inv
  obtain ⟨h3, h4⟩ := args_rep s (args := args) h1 h2
  subst ha
  unfold oWp
  rw [enter_run hv hf hg, Oper.uponIn_enter]
  refine ⟨fun h => (by cases h), callsIn_wide.2 ((hc κ _ w s.heap h3 h4).mono ?_)⟩
  rintro e w' ⟨κ', hs', u, r, rfl, h5, h6, h7, rfl, rfl⟩
  exact hK κ' w' u h5 h6 h7
inductive Brw0 (hs : Hp) : AV → AV → Prop
  | d (x) : Brw0 hs (.d x) (.d x)
  | nilsl : Brw0 hs .nilsl .nilsl
  | nild (sz) : Brw0 hs .nilsl (.d (.sl sz []))
  | dp (l) : Brw0 hs (.dp l) (.dp l)
  | dcut (sz rows) : Brw0 hs (.dcut sz rows) (.dcut sz rows)
  | dcutd (sz rows) : Brw0 hs (.dcut sz rows) (.d (.sl sz rows))
  | vs {id n sz rows} (k : Nat) (hk : hs[k]? = some (id, .lst sz rows)) (hn : n = rows.length) : Brw0 hs (.vs id 0 n sz) (.d (.sl sz rows))
  | any (x) : Brw0 hs x .any
theorem vs_data {κ : Kap} {w : World} {v : Value} {id n sz k : Nat} {rows : List (List D)} (h : HS κ w hs) (hv : RepA κ w (Own κ hs) v (.vs id 0 n sz)) (hk : hs[k]? = some (id, .lst sz rows)) (hn : n = rows.length)
    {O : Nat → Prop} (hO : ∀ b, ¬ O b) : RepD w O v (.sl sz rows) := by
  obtain ⟨ob, cap, p, hκ, hle, hp, rfl⟩ := hv.vs_inv
  obtain ⟨y, hy, hok⟩ := h.ok id _ (List.mem_of_getElem? hk)
  rw [hκ] at hy
  obtain rfl := Option.some.inj hy
  obtain ⟨g0, g0', g1, g2, g3, g4, g5⟩ := hok
  cases ob with
  | none =>
    have hr0 : rows = [] := List.eq_nil_of_length_eq_zero (by have := g4 rfl; omega)
    subst hr0
    exact .sl _ _ _ _ _ (fun _ _ => undef) hn (by omega) (by simp) (by simp) (by simp) (by simp)
  | some b =>
    obtain ⟨cs, T, hw, hsz, hr⟩ := g5 b rfl
    refine .sl _ _ _ _ _ (fun i j => cs.getD (i * sz + j) undef) hn (by omega) g2 g3 (fun i j r d hi hj => ?_) (fun i j r d hi hj => ?_)
    · obtain ⟨u, hu, _⟩ := hr i j r d hi hj
      have hlt : i < rows.length := (List.getElem?_eq_some_iff.1 hi).1
      refine ⟨⟨b, 0, none⟩, by rw [hp (by omega)]; simp, hO _, ?_⟩
      rw [addr_add_lit, Nat.zero_add]
      simp [World.cell?, hw, hu]
    · obtain ⟨u, hu, hd⟩ := hr i j r d hi hj
      have : cs.getD (i * sz + j) undef = u := by simp [hu]
      rw [this]
      exact hd.mono (fun b _ ho => absurd ho (hO b)) (fun _ _ _ => rfl)
theorem Brw0.rep {κ : Kap} {w : World} {v : Value} {x y : AV} (b : Brw0 hs x y) (h : HS κ w hs) (hv : RepA κ w (Own κ hs) v x) {O : Nat → Prop} (hO : ∀ b, ¬ O b) : RepA κ w O v y := by
  have mono : ∀ z, RepA κ w (Own κ hs) v z → RepA κ w O v z := fun z hz => hz.mono (fun _ _ h => h) (fun b _ ho => absurd ho (hO b)) (fun _ _ _ => rfl)
  cases b with
  | d x => exact mono _ hv
  | nilsl => exact mono _ hv
  | nild sz => cases hv; exact .d (.sl none 0 0 sz [] (fun _ _ => undef) rfl (Nat.le_refl _) (by simp) (by simp) (by simp) (by simp))
  | dp l => exact mono _ hv
  | dcut sz rows => exact mono _ hv
  | dcutd sz rows =>
    have h2 := mono _ hv
    cases h2 with | dcut a n _ _ h3 => exact .d h3
  | vs k hk hn => exact .d (vs_data h hv hk hn hO)
  | any => exact .any _
inductive BrwL (hs : Hp) : List AV → List D → Prop
  | nil (l) : BrwL hs l []
  | cons {x d l ds} (h : Brw0 hs x (.d d)) (h1 : d.one = true) (ht : BrwL hs l ds) : BrwL hs (x :: l) (d :: ds)
theorem BrwL.get {l : List AV} {ds : List D} (h : BrwL hs l ds) : ∀ (j : Nat) (d : D), ds[j]? = some d → ∃ x, l[j]? = some x ∧ Brw0 hs x (.d d) ∧ d.one = true := by
  induction h with
  | nil l => intro j d hj; simp at hj
  | cons h h1 _ ih =>
    intro j d hj
    cases j with
    | zero => simp at hj; subst hj; exact ⟨_, rfl, h, h1⟩
    | succ j => obtain ⟨x, hx, h2⟩ := ih j d (by simpa using hj); exact ⟨x, by simpa using hx, h2⟩
inductive Brw1 (hs : Hp) : AV → AV → Prop
  | b0 {x y} (h : Brw0 hs x y) : Brw1 hs x y
  | ptr {id off l ds} (k : Nat) (hk : hs[k]? = some (id, .cells l)) (h : BrwL hs (l.drop off) ds) : Brw1 hs (.ptr id off) (.dp ds)
theorem Brw1.rep {κ : Kap} {w : World} {v : Value} {x y : AV} (b : Brw1 hs x y) (h : HS κ w hs) (hv : RepA κ w (Own κ hs) v x) {O : Nat → Prop} (hO : ∀ b, ¬ O b) : RepA κ w O v y := by
  cases b with
  | b0 h0 => exact h0.rep h hv hO
  | @ptr id off l ds k hk hl =>
    obtain ⟨b, cap, hκ, rfl⟩ := hv.ptr_inv
    obtain ⟨y, hy, hok⟩ := h.ok id _ (List.mem_of_getElem? hk)
    rw [hκ] at hy
    obtain rfl := Option.some.inj hy
    obtain ⟨b', cs, hbe, hw, hsz, hone, hr⟩ := hok
    obtain rfl := Option.some.inj hbe
    have key : ∀ (j : Nat) (d : D), ds[j]? = some d → ∃ u, cs[off + j]? = some u ∧ RepD w O u d := fun j d hj => by
      obtain ⟨x, hx, h0, _⟩ := hl.get j d hj
      rw [List.getElem?_drop] at hx
      have hlt : off + j < cs.size := by rw [hsz]; exact (List.getElem?_eq_some_iff.1 hx).1
      exact ⟨cs[off + j], Array.getElem?_eq_getElem hlt, (h0.rep h (hr _ _ _ (Array.getElem?_eq_getElem hlt) hx) hO).d_inv⟩
    refine .dp _ _ (fun j => cs.getD (off + j) undef) (fun d hd => ?_) (fun j d hj => ⟨hO _, ?_⟩) (fun j d hj => ?_)
    · obtain ⟨j, hj⟩ := List.getElem?_of_mem hd
      exact (hl.get j d hj).choose_spec.2.2
    · obtain ⟨u, hu, _⟩ := key j d hj
      rw [addr_add_lit]
      simp [World.cell?, hw, hu]
    · obtain ⟨u, hu, hd⟩ := key j d hj
      have : cs.getD (off + j) undef = u := by simp [hu]
      rw [this]; exact hd
inductive BrwA (hs : Hp) : List AV → List AV → Prop
  | nil : BrwA hs [] []
  | cons {x y l m} (h : Brw1 hs x y) (ht : BrwA hs l m) : BrwA hs (x :: l) (y :: m)
theorem BrwA.get {l m : List AV} (h : BrwA hs l m) : l.length = m.length ∧ ∀ (j : Nat) (x y : AV), l[j]? = some x → m[j]? = some y → Brw1 hs x y := by
  induction h with
  | nil => exact ⟨rfl, by simp⟩
  | cons h _ ih =>
    refine ⟨by simp [ih.1], fun j x y hx hy => ?_⟩
    cases j with
    | zero => simp at hx hy; subst hx hy; exact h
    | succ j => exact ih.2 j x y (by simpa using hx) (by simpa using hy)
inductive Brw2 (hs : Hp) : AV → AV → Prop
  | b1 {x y} (h : Brw1 hs x y) : Brw2 hs x y
  | fn {f caps caps'} (h : BrwA hs caps caps') : Brw2 hs (.fn f caps) (.fn f caps')
theorem Brw2.rep {κ : Kap} {w : World} {v : Value} {x y : AV} (b : Brw2 hs x y) (h : HS κ w hs) (hv : RepA κ w (Own κ hs) v x) {O : Nat → Prop} (hO : ∀ b, ¬ O b) : RepA κ w O v y := by
  cases b with
  | b1 h1 => exact h1.rep h hv hO
  | fn h1 =>
    obtain ⟨cs, rfl, h2, h3⟩ := hv.fn_inv
    obtain ⟨h4, h5⟩ := h1.get
    refine .fn _ _ _ (by omega) (fun i u y hi hy => ?_)
    have hlt : i < cs.size := (Array.getElem?_eq_some_iff.1 hi).1
    have hx := List.getElem?_eq_getElem (show i < _ from h2 ▸ hlt)
    exact (h5 i _ y hx hy).rep h (h3 i u _ hi hx) hO
inductive Brws (hs : Hp) : List AV → List AV → Prop
  | nil : Brws hs [] []
  | cons {x y l m} (h : Brw2 hs x y) (ht : Brws hs l m) : Brws hs (x :: l) (y :: m)
theorem Brws.get {l m : List AV} (h : Brws hs l m) : l.length = m.length ∧ ∀ (j : Nat) (x y : AV), l[j]? = some x → m[j]? = some y → Brw2 hs x y := by
  induction h with
  | nil => exact ⟨rfl, by simp⟩
  | cons h _ ih =>
    refine ⟨by simp [ih.1], fun j x y hx hy => ?_⟩
    cases j with
    | zero => simp at hx hy; subst hx hy; exact h
    | succ j => exact ih.2 j x y (by simpa using hx) (by simpa using hy)
def D.flat : D → Bool
  | .agg _ | .sl _ _ => false
  | _ => true
def Ok1 : AV → Prop
  | .d y => y.flat = true
  | .vs .. | .nilsl | .ptr .. => True
  | _ => False
def OkH : HO → Prop
  | .lst _ rows => ∀ r ∈ rows, ∀ x ∈ r, x.flat = true
  | .cells l => ∀ x ∈ l, Ok1 x
  | .glob .. => False
  | .cap .. => True
  | .typ .. => True
  | .byt .. => True
  | .lsv l => ∀ x ∈ l, Ok1 x
  | .loopr .. => False
def OkR : AV → Prop
  | .tup l => ∀ x ∈ l, Ok1 x
  | x => Ok1 x
theorem RepD.flat {w w' : World} {O O' : Nat → Prop} {v : Value} {x : D} (h : RepD w O v x) (hf : x.flat = true) : RepD w' O' v x := by
  cases h <;> first | (simp [D.flat] at hf; done) | constructor
theorem RepA.ok1 {κ : Kap} {w w' : World} {O O' : Nat → Prop} {v : Value} {x : AV} (h : RepA κ w O v x) (hf : Ok1 x) : RepA κ w' O' v x := by
  cases h with
  | d h => exact .d (h.flat hf)
  | vs ob cap p id lo n sz h1 h2 h3 => exact .vs ob cap p id lo n sz h1 h2 h3
  | nilsl => exact .nilsl
  | ptr b cap id off h => exact .ptr b cap id off h
  | _ => exact hf.elim
theorem RepA.okR {κ : Kap} {w w' : World} {O O' : Nat → Prop} {v : Value} {x : AV} (h : RepA κ w O v x) (hf : OkR x) : RepA κ w' O' v x := by
  cases h with
  | tup cs l h1 h2 => exact .tup cs l h1 fun i v x hi hx => (h2 i v x hi hx).ok1 (hf x (List.mem_of_getElem? hx))
  | d h => exact .d (h.flat hf)
  | vs ob cap p id lo n sz h1 h2 h3 => exact .vs ob cap p id lo n sz h1 h2 h3
  | nilsl => exact .nilsl
  | ptr b cap id off h => exact .ptr b cap id off h
  | _ => exact hf.elim
theorem HS.back {κ κ' : Kap} {w w' : World} {hs' : Hp} (h : HS κ w hs) (h' : HS κ' w' hs') (e : Ext κ [] w κ' hs' w') (hok : ∀ p ∈ hs', OkH p.2) : HS κ' w' (hs' ++ hs) ∧ Ext κ hs w κ' (hs' ++ hs) w' := by
  have hnone : ∀ b, ¬ Own κ [] b := fun b ⟨_, _, _, hi, _⟩ => by cases hi
  have hnew : ∀ id o, (id, o) ∈ hs' → κ id = Option.none := fun id o hi => (e.ids id o hi).resolve_left fun ⟨_, h⟩ => by cases h
  have hbig : ∀ id o b c, (id, o) ∈ hs' → κ' id = some (some b, c) → w.heap.size ≤ b := fun id o b c hi hk => Nat.le_of_not_lt fun hlt => hnone b (e.own b hlt ⟨id, o, c, hi, hk⟩)
  have hold : ∀ id o x, (id, o) ∈ hs → κ' id = some x → κ id = some x := fun id o x hi hk => by
    obtain ⟨y, hy, _⟩ := h.ok id o hi
    rw [e.kap id y hy] at hk
    rw [hy, hk]
  have ext : Ext κ hs w κ' (hs' ++ hs) w' := by
    refine ⟨e.kap, e.size, e.drawn, e.os, e.tape, e.output, fun b hb _ => e.same b hb (hnone b), fun b hb ⟨id, o, c, hi, hk⟩ => ?_, fun id o hi => ?_, e.ty⟩
    · rcases List.mem_append.1 hi with hi | hi
      · exact absurd (hbig id o b c hi hk) (by omega)
      · exact ⟨id, o, c, hi, hold id o _ hi hk⟩
    · rcases List.mem_append.1 hi with hi | hi
      · exact .inr (hnew id o hi)
      · exact .inl ⟨o, hi⟩
  refine ⟨⟨?_, fun id o hi => ?_, fun id id' o o' b c c' hi hi' h1 h2 => ?_, h'.fresh⟩, ext⟩
  · rw [List.map_append]
    refine List.nodup_append.2 ⟨h'.nodup, h.nodup, fun x hx y hy hxy => ?_⟩
    obtain ⟨⟨id, o⟩, hi, rfl⟩ := List.mem_map.1 hx
    obtain ⟨⟨id', o'⟩, hi', rfl⟩ := List.mem_map.1 hy
    simp only at hxy
    subst hxy
    obtain ⟨z, hz, _⟩ := h.ok id o' hi'
    rw [hnew id o hi] at hz; cases hz
  · rcases List.mem_append.1 hi with hi | hi
    · obtain ⟨⟨ob, cap⟩, hx, hok2⟩ := h'.ok id o hi
      refine ⟨_, hx, ?_⟩
      have hf := hok _ hi
      cases o with
      | cells l =>
        obtain ⟨b, cs, h1, h2, h3, h4, h5⟩ := hok2
        exact ⟨b, cs, h1, h2, h3, h4, fun i v x hi hx => (h5 i v x hi hx).ok1 (hf x (List.mem_of_getElem? hx))⟩
      | lst sz rows =>
        obtain ⟨h0, h0', h1, h2, h3, h4, h5⟩ := hok2
        refine ⟨h0, h0', h1, h2, h3, h4, fun b hb => ?_⟩
        obtain ⟨cs, T, h6, h7, h8⟩ := h5 b hb
        exact ⟨cs, T, h6, h7, fun i j r d hi hj => let ⟨u, hu, hd⟩ := h8 i j r d hi hj; ⟨u, hu, hd.flat (hf r (List.mem_of_getElem? hi) d (List.mem_of_getElem? hj))⟩⟩
      | glob b l => exact hf.elim
      | cap id' c' => exact hok2
      | typ id' T => exact hok2
      | byt l => exact hok2
      | lsv l =>
        obtain ⟨h0, h0', h4, h5⟩ := hok2
        refine ⟨h0, h0', h4, fun b hb => ?_⟩
        obtain ⟨cs, T, h6, h7, h1, h8⟩ := h5 b hb
        exact ⟨cs, T, h6, h7, h1, fun i v x hi hx => (h8 i v x hi hx).ok1 (hf x (List.mem_of_getElem? hx))⟩
      | loopr => exact hf.elim
    · obtain ⟨x, hx, hok2⟩ := h.ok id o hi
      refine ⟨x, e.kap _ _ hx, hok2.ext ext fun b hb => e.same b (h.block_lt hi (c := x.2) ?_) (hnone b)⟩
      rw [hx, ← hb]
  · rcases List.mem_append.1 hi with gi | gi <;> rcases List.mem_append.1 hi' with gi' | gi'
    · exact h'.inj id id' o o' b c c' gi gi' h1 h2
    · have := hbig id o b c gi h1
      have h3 := h.block_lt gi' (hold id' o' _ gi' h2)
      omega
    · have := hbig id' o' b c' gi' h2
      have h3 := h.block_lt gi (hold id o _ gi h1)
      omega
    · exact h.inj id id' o o' b c c' gi gi' (hold id o _ gi h1) (hold id' o' _ gi' h2)
theorem brw_args {κ : Kap} {w : World} {a : Act} (s : Sim N κ hs w σ a) {args : Array Operand} {caps xs ys : List AV} {cs : Array Value} (hs1 : cs.size = caps.length)
    (h : ∀ (i : Nat) (v : Value) (x : AV), cs[i]? = some v → caps[i]? = some x → RepA κ w (Own κ hs) v x) (ha : args.toList.map (oev σ) ++ caps = xs) (hb : Brws hs xs ys) :
    (args.map a.eval ++ cs).size = ys.length ∧ ∀ (i : Nat) (v : Value) (x : AV), (args.map a.eval ++ cs)[i]? = some v → ys[i]? = some x → RepA κ w (Own κ []) v x := by
  obtain ⟨h3, h4⟩ := args_rep s (args := args) hs1 h
  rw [ha] at h3 h4
  obtain ⟨h5, h6⟩ := hb.get
  refine ⟨by omega, fun i v y hi hy => ?_⟩
  have hlt : i < (args.map a.eval ++ cs).size := (Array.getElem?_eq_some_iff.1 hi).1
  have hx := List.getElem?_eq_getElem (show i < xs.length by omega)
  exact (h6 i _ y hx hy).rep s.heap (h4 i v _ hi hx) fun b ⟨_, _, _, hi, _⟩ => by cases hi
theorem L.bcall {x : Operand} {args : Array Operand} {tys : Array TypeId} {f : FuncId} {fn : Func} {caps xs ys : List AV} {R : AV → Hp → Prop} (hx : oev σ x = .fn f caps) (hf : P.funcs[f]? = some fn) (hg : callGo fn = true)
    (ha : args.toList.map (oev σ) ++ caps = xs) (hb : Brws hs xs ys) (hc : AC P f ys [] R) (hok : ∀ r hs', R r hs' → OkR r ∧ ∀ p ∈ hs', OkH p.2) (hd : dstOk N d = true) :
    Loud P N σ hs ⟨d, .call ⟨.value x, args, tys⟩, ty, pos, af, g⟩ (fun σ' hs' => ∃ r h', σ' = putE d r σ ∧ R r h' ∧ hs' = h' ++ hs) := by
  intro κ a w s K Q hK
  have hx1 := s.oev x; rw [hx] at hx1
  obtain ⟨cs, hv, h1, h2⟩ := hx1.fn_inv
  obtain ⟨h3, h4⟩ := brw_args s (args := args) h1 h2 ha hb
  unfold oWp
  rw [enter_run hv hf hg, Oper.uponIn_enter]
  obtain ⟨h0, _⟩ := s.heap.sublist (List.nil_sublist hs)
  refine ⟨fun h => (by cases h), callsIn_wide.2 ((hc κ _ w h0 h3 h4).mono ?_)⟩
  rintro e w' ⟨κ', hs', v, r, rfl, h5, h6, h7, h8⟩
  obtain ⟨ok1, ok2⟩ := hok r hs' h8
  obtain ⟨g1, g2⟩ := s.heap.back h5 h6 ok2
  exact hK κ' _ w' _ _ (s.putO g2 g1 hd (h7.okR ok1)) g2 ⟨r, hs', rfl, h8, rfl⟩
theorem Q.bcall {x : Operand} {args : Array Operand} {tys : Array TypeId} {f : FuncId} {fn : Func} {caps xs ys : List AV} {v : AV} (hx : oev σ x = .fn f caps) (hf : P.funcs[f]? = some fn) (hg : callGo fn = true)
    (ha : args.toList.map (oev σ) ++ caps = xs) (hb : Brws hs xs ys) (hc : AC P f ys [] (fun r hs' => r = v ∧ hs' = [])) (hok : OkR v) :
    Quiet P N σ hs ⟨d, .call ⟨.value x, args, tys⟩, ty, pos, af, g⟩ v := by
  intro κ a w s K Q hK
  have hx1 := s.oev x; rw [hx] at hx1
  obtain ⟨cs, hv, h1, h2⟩ := hx1.fn_inv
  obtain ⟨h3, h4⟩ := brw_args s (args := args) h1 h2 ha hb
  unfold oWp
  rw [enter_run hv hf hg, Oper.uponIn_enter]
  obtain ⟨h0, _⟩ := s.heap.sublist (List.nil_sublist hs)
  refine ⟨fun h => (by cases h), callsIn_wide.2 ((hc κ _ w h0 h3 h4).mono ?_)⟩
  rintro e w' ⟨κ', hs', u, r, rfl, h5, h6, h7, rfl, rfl⟩
  obtain ⟨g1, g2⟩ := s.heap.back h5 h6 (by simp)
  rw [List.nil_append] at g1 g2
  exact hK κ' w' u g1 g2 (h7.okR hok)
end calls
section draw
variable {P : Program} {N : Nm} {ops : Array Oper} {hs : Hp}
def wpO (P : Program) (ops : Array Oper) (Q : Exit → Act → World → Prop) (o : Oper) (K : Act → World → Prop) (a : Act) (w : World) : Prop :=
  if Region.wanted o (yielded ops a.tmps) then oWp P o a w K Q else K (a.put o.dst undef) w
def wpAnyO (P : Program) (ops : Array Oper) (Q : Exit → Act → World → Prop) : Nat → Array Bool → Act → World → Prop
  | 0, listed, a, w => Region.ready .any ops listed = [] ∧ Q .normal a w
  | fuel + 1, listed, a, w =>
    (Region.ready .any ops listed = [] → Q .normal a w) ∧
    ∀ i ∈ Region.ready .any ops listed, ∃ o, ops[i]? = some o ∧ wpO P ops Q o (wpAnyO P ops Q fuel (listed.setIfInBounds i true)) a w
theorem wpAnyO_in {ro : Option Nat} {Q : Exit → Act → World → Prop} (hnd : ndOk ro ops = true) : ∀ (fuel : Nat) (listed : Array Bool) (a : Act) (w : World), wpAnyO P ops Q fuel listed a w → wpAnyIn (FR ro) 0 P .any ops Q fuel listed a w
  | 0, _, _, _, h => h
  | fuel + 1, listed, a, w, ⟨h1, h2⟩ => ⟨h1, fun i hi => by
      obtain ⟨o, ho, h3⟩ := h2 i hi
      simp only [wpOpIn, ho]
      unfold wpO at h3
      split
      · rename_i hw
        rw [if_pos hw] at h3
        exact oWp_in (ndOk_at hnd ho) (oWp_mono (fun a w h => wpAnyO_in hnd fuel _ a w h) h3)
      · rename_i hw
        rw [if_neg hw] at h3
        exact ⟨fun _ _ => trivial, wpAnyO_in hnd fuel _ _ _ h3⟩⟩
def GQ (P : Program) (N : Nm) (ops : Array Oper) (σ : Env) (hs : Hp) (o : Oper) (v : AV) : Prop :=
  ∀ κ a w, Sim N κ hs w σ a → ∀ (K : Act → World → Prop) (Q : Exit → Act → World → Prop),
    (∀ κ' w' u, HS κ' w' hs → Ext κ hs w κ' hs w' → RepA κ' w' (Own κ' hs) u v → K (a.put o.dst u) w') → wpO P ops Q o K a w
theorem GQ.q {σ : Env} {o : Oper} {v : AV} (hg : o.guard = none) (h : Quiet P N σ hs o v) : GQ P N ops σ hs o v := by
  intro κ a w s K Q hK
  have hw : Region.wanted o (yielded ops a.tmps) = true := by simp [Region.wanted, hg]
  rw [wpO, if_pos hw]
  exact h κ a w s K Q hK
theorem GQ.g {σ : Env} {o oj : Oper} {v : AV} {j t : Nat} {b want : Bool} (hg : o.guard = some (j, want)) (hj : ops[j]? = some oj) (hjd : oj.dst = some t) (hb : eget σ t = .d (.bool b)) (htN : Nat.blt t N.n = true)
    (h : (b == want) = true → Quiet P N σ hs o v) : GQ P N ops σ hs o (.when (b == want) v) := by
  intro κ a w s K Q hK
  have hv := s.get t
  rw [hb] at hv
  have htl : t < a.tmps.size := by rw [s.size]; simpa [Nat.blt_eq] using htN
  have hv2 := hv.bool_inv
  have hy : yielded ops a.tmps j = some b := by
    have hv3 : a.tmps[t]? = some (.bool b) := by
      rw [Array.getElem?_eq_getElem htl]
      rw [show a.tmps.getD t undef = a.tmps[t] from by simp [htl]] at hv2
      rw [hv2]
    simp [yielded, hj, hjd, hv3]
  have hw : Region.wanted o (yielded ops a.tmps) = (b == want) := by
    simp only [Region.wanted, hg, hy]
    cases b <;> cases want <;> rfl
  rw [wpO, hw]
  cases hbw : (b == want) with
  | true =>
    rw [if_pos rfl]
    exact h hbw κ a w s K Q fun κ' w' u h1 e hu => hK κ' w' u h1 e (by rw [hbw]; exact .when _ _ _ (fun _ => hu) fun h => by cases h)
  | false =>
    rw [if_neg (by simp)]
    exact hK κ w undef s.heap (.refl _ _ _) (by rw [hbw]; exact .when _ _ _ (fun h => by cases h) fun _ => rfl)
theorem GQ.gw {σ : Env} {o oj : Oper} {v : AV} {j t : Nat} {g0 b want : Bool} (hg : o.guard = some (j, want)) (hj : ops[j]? = some oj) (hjd : oj.dst = some t) (hb : eget σ t = .when g0 (.d (.bool b))) (htN : Nat.blt t N.n = true)
    (h : (g0 && (b == want)) = true → Quiet P N σ hs o v) : GQ P N ops σ hs o (.when (g0 && (b == want)) v) := by
  intro κ a w s K Q hK
  have hv := s.get t
  rw [hb] at hv
  have htl : t < a.tmps.size := by rw [s.size]; simpa [Nat.blt_eq] using htN
  have hv3 : a.tmps[t]? = some (a.tmps.getD t undef) := by rw [Array.getElem?_eq_getElem htl]; simp [htl]
  have hw : Region.wanted o (yielded ops a.tmps) = (g0 && (b == want)) := by
    generalize a.tmps.getD t undef = u at hv hv3
    cases hv with
    | when _ _ _ h1 h2 =>
      cases g0 with
      | true =>
        obtain rfl := (h1 rfl).bool_inv
        have hy : yielded ops a.tmps j = some b := by simp [yielded, hj, hjd, hv3]
        simp only [Region.wanted, hg, hy]
        cases b <;> cases want <;> rfl
      | false =>
        obtain rfl := h2 rfl
        have hy : yielded ops a.tmps j = none := by simp [yielded, hj, hjd, hv3, undef]
        simp only [Region.wanted, hg, hy]
        rfl
  rw [wpO, hw]
  cases hbw : (g0 && (b == want)) with
  | true =>
    rw [if_pos rfl]
    exact h hbw κ a w s K Q fun κ' w' u h1 e hu => hK κ' w' u h1 e (by rw [hbw]; exact .when _ _ _ (fun _ => hu) fun h => by cases h)
  | false =>
    rw [if_neg (by simp)]
    exact hK κ w undef s.heap (.refl _ _ _) (by rw [hbw]; exact .when _ _ _ (fun h => by cases h) fun _ => rfl)
def restr (σ : Env) (ts : List Tmp) : Env := ts.map fun t => (t, eget σ t)
inductive Chain (P : Program) (N : Nm) (ops : Array Oper) (hs : Hp) : List Oper → Env → (Env → Prop) → Prop
  | nil {σ R} (h : R σ) : Chain P N ops hs [] σ R
  | cons {o l σ R} (v : AV) (h : GQ P N ops (restr σ (o.looksAt ops)) hs o v) (hd : dstOk N o.dst = true) (ht : Chain P N ops hs l (putE o.dst v σ) R) : Chain P N ops hs (o :: l) σ R
def depB (ops : Array Oper) (j i : Nat) : Bool := match ops[j]? with | some o => o.after.any fun e => Region.binds .any e && e.on == i | none => false
def clashB (ops : Array Oper) (i j : Nat) : Bool := match ops[i]?, ops[j]? with
  | some oi, some oj => match oi.dst with | some t => (oj.looksAt ops).contains t || oj.dst == some t | none => false
  | _, _ => false
def drawOk (h : Nat) (ops : Array Oper) : Bool :=
  Nat.ble h ops.size &&
  (List.range ops.size).all fun j => (match ops[j]? with | some o => o.after.all (fun e => !Region.binds .any e || Nat.blt e.on j) | none => false) &&
    (List.range ops.size).all fun i => i == j || (if j < h then (if i < h then !clashB ops i j || (if i < j then depB ops j i else depB ops i j) else true) else (!(Nat.blt i j) || depB ops j i))
def dstAt (ops : Array Oper) (i : Nat) : Option Tmp := (ops[i]?).bind (·.dst)
def envL (σ : Env) (ops : Array Oper) (vals : Nat → AV) (S : Nat → Bool) : Nat → Env
  | 0 => σ
  | j + 1 => if S j = true then putE (dstAt ops j) (vals j) (envL σ ops vals S j) else envL σ ops vals S j
theorem putE_get (d : Option Tmp) (v : AV) (σ : Env) (t : Nat) : eget (putE d v σ) t = if d = some t then v else eget σ t := by
  cases d with
  | none => simp [putE]
  | some u =>
    by_cases h : u = t
    · subst h; simp [putE, eget_same]
    · simp [putE, eget_ne σ v h, h]
theorem envL_step (σ : Env) (vals : Nat → AV) (S : Nat → Bool) (j t : Nat) : eget (envL σ ops vals S (j + 1)) t = if dstAt ops j = some t ∧ S j = true then vals j else eget (envL σ ops vals S j) t := by
  simp only [envL]
  cases hS : S j with
  | false => simp
  | true => simp [putE_get]
theorem envL_high (σ : Env) (vals : Nat → AV) (S : Nat → Bool) (t j : Nat) : ∀ n, j ≤ n → (∀ i, j ≤ i → i < n → S i = true → dstAt ops i ≠ some t) → eget (envL σ ops vals S n) t = eget (envL σ ops vals S j) t
  | 0, hj, _ => by rw [Nat.le_zero.1 hj]
  | n + 1, hj, h => by
    by_cases he : j = n + 1
    · rw [he]
    · rw [envL_step, if_neg (fun hc => h n (by omega) (by omega) hc.2 hc.1)]
      exact envL_high σ vals S t j n (by omega) fun i h1 h2 => h i h1 (by omega)
theorem envL_low (σ : Env) (vals : Nat → AV) (S S' : Nat → Bool) (t : Nat) : ∀ n, (∀ i, i < n → dstAt ops i = some t → S i = S' i) → eget (envL σ ops vals S n) t = eget (envL σ ops vals S' n) t
  | 0, _ => rfl
  | n + 1, h => by
    rw [envL_step, envL_step, envL_low σ vals S S' t n fun i hi => h i (by omega)]
    by_cases hd : dstAt ops n = some t
    · rw [h n (by omega) hd]
    · simp [hd]
theorem envL_vals (σ : Env) (vals vals' : Nat → AV) (S : Nat → Bool) : ∀ n, (∀ i, i < n → vals i = vals' i) → envL σ ops vals S n = envL σ ops vals' S n
  | 0, _ => rfl
  | n + 1, h => by simp only [envL]; rw [envL_vals σ vals vals' S n fun i hi => h i (by omega), h n (by omega)]
theorem Chain.vals {l : List Oper} {σ : Env} {R : Env → Prop} (c : Chain P N ops hs l σ R) : ∀ (k : Nat) (σ₀ : Env) (v₀ : Nat → AV), (∀ (j : Nat) o, l[j]? = some o → ops[k + j]? = some o) → σ = envL σ₀ ops v₀ (fun _ => true) k →
    ∃ vals, (∀ i, i < k → vals i = v₀ i) ∧ (∀ (j : Nat) o, l[j]? = some o → GQ P N ops (restr (envL σ₀ ops vals (fun _ => true) (k + j)) (o.looksAt ops)) hs o (vals (k + j)) ∧ dstOk N o.dst = true) ∧
      R (envL σ₀ ops vals (fun _ => true) (k + l.length)) := by
  induction c with
  | nil h => intro k σ₀ v₀ _ he; exact ⟨v₀, fun _ _ => rfl, by simp, by subst he; exact h⟩
  | @cons o l σ R v h hd _ ih =>
    intro k σ₀ v₀ hops he
    have hk : ops[k]? = some o := hops 0 o rfl
    let v₁ : Nat → AV := fun i => if i = k then v else v₀ i
    have e1 : envL σ₀ ops v₁ (fun _ => true) k = envL σ₀ ops v₀ (fun _ => true) k := envL_vals _ _ _ _ _ fun i hi => by simp [v₁, Nat.ne_of_lt hi]
    obtain ⟨vals, g1, g2, g3⟩ := ih (k + 1) σ₀ v₁ (fun j o' hj => by have := hops (j + 1) o' (by simpa using hj); rwa [show k + 1 + j = k + (j + 1) by omega]) (by
      simp only [envL, if_true]
      rw [e1, ← he, show dstAt ops k = o.dst from by simp [dstAt, hk]]
      simp [v₁])
    have e2 : envL σ₀ ops vals (fun _ => true) k = σ := by
      rw [he, ← e1]; exact envL_vals _ _ _ _ _ fun i hi => g1 i (by omega)
    have hv : vals k = v := by rw [g1 k (by omega)]; simp [v₁]
    refine ⟨vals, fun i hi => by rw [g1 i (by omega)]; simp [v₁, Nat.ne_of_lt hi], fun j o' hj => ?_, by rw [List.length_cons, show k + (l.length + 1) = k + 1 + l.length by omega]; exact g3⟩
    cases j with
    | zero =>
      simp at hj; subst hj
      rw [Nat.add_zero, e2, hv]
      exact ⟨h, hd⟩
    | succ j =>
      have := g2 j o' (by simpa using hj)
      rwa [show k + 1 + j = k + (j + 1) by omega] at this
theorem ready_dep {listed : Array Bool} {j i : Nat} (hr : j ∈ Region.ready .any ops listed) (hd : depB ops j i = true) : listed.getD i false = true := by
  obtain ⟨_, o, ho, hall⟩ := mem_ready.1 hr
  simp only [depB, ho, Array.any_eq_true'] at hd
  obtain ⟨e, he, hb⟩ := hd
  have hb2 := Bool.and_eq_true_iff.1 hb
  have : e.on = i := by simpa using hb2.2
  subst this
  exact hall e he hb2.1
structure DrawOk (h : Nat) (ops : Array Oper) : Prop where
  le : h ≤ ops.size
  back : ∀ j o, ops[j]? = some o → ∀ e ∈ o.after, Region.binds .any e = true → e.on < j
  head : ∀ i j, i < h → j < h → i ≠ j → clashB ops i j = true → (i < j → depB ops j i = true) ∧ (j < i → depB ops i j = true)
  tail : ∀ i j, h ≤ j → j < ops.size → i < j → depB ops j i = true
theorem drawOk_spec {h : Nat} (hd : drawOk h ops = true) : DrawOk h ops := by
  unfold drawOk at hd
  obtain ⟨h1, h2⟩ := Bool.and_eq_true_iff.1 hd
  have h1' : h ≤ ops.size := Nat.le_of_ble_eq_true h1
  rw [List.all_eq_true] at h2
  have key : ∀ j, j < ops.size → _ := fun j hj => Bool.and_eq_true_iff.1 (h2 j (List.mem_range.2 hj))
  refine ⟨h1', fun j o ho e he hb => ?_, fun i j hi hj hne hc => ?_, fun i j hj hjs hij => ?_⟩
  · have hlt := (Array.getElem?_eq_some_iff.1 ho).1
    have := (key j hlt).1
    simp only [ho, Array.all_eq_true_iff_forall_mem] at this
    have h3 := this e he
    simp only [hb, Bool.not_true, Bool.false_or] at h3
    simpa [Nat.blt_eq] using h3
  · have h3 := (key j (by omega)).2
    rw [List.all_eq_true] at h3
    have h4 := h3 i (List.mem_range.2 (by omega))
    have hne' : (i == j) = false := by simpa using hne
    simp only [hne', Bool.false_or, if_pos hj, if_pos hi, hc, Bool.not_true] at h4
    exact ⟨fun hlt => by rw [if_pos hlt] at h4; exact h4, fun hlt => by rw [if_neg (by omega)] at h4; exact h4⟩
  · have h3 := (key j hjs).2
    rw [List.all_eq_true] at h3
    have h4 := h3 i (List.mem_range.2 (by omega))
    have hne' : (i == j) = false := by simp; omega
    have hlt : Nat.blt i j = true := by simpa [Nat.blt_eq] using hij
    simp only [hne', Bool.false_or, if_neg (show ¬ j < h by omega), hlt, Bool.not_true] at h4
    exact h4
theorem min_unlisted {listed : Array Bool} (hsz : listed.size = ops.size) {j : Nat} (hj : j < ops.size) (hu : listed.getD j false = false) (hb : ∀ j o, ops[j]? = some o → ∀ e ∈ o.after, Region.binds .any e = true → e.on < j) :
    Region.ready .any ops listed ≠ [] := by
  induction j using Nat.strongRecOn with
  | _ j ih =>
    by_cases hm : ∃ i, i < j ∧ listed.getD i false = false
    · obtain ⟨i, hi, h⟩ := hm
      exact ih i hi (by omega) h
    · have hr : j ∈ Region.ready .any ops listed := by
        rw [mem_ready]
        have ho : ops[j]? = some ops[j] := Array.getElem?_eq_getElem hj
        refine ⟨?_, ops[j], ho, fun e he hbd => ?_⟩
        · have hlt : j < listed.size := by omega
          simpa [hlt] using hu
        · have hlt := hb j _ ho e he hbd
          cases hx : listed.getD e.on false with
          | true => rfl
          | false => exact absurd ⟨e.on, hlt, hx⟩ hm
      intro he
      rw [he] at hr; cases hr
theorem tail_any {Q : Exit → Act → World → Prop} {h : Nat} (ok : DrawOk h ops) : ∀ (fuel m : Nat) (listed : Array Bool) (a : Act) (w : World), h ≤ m → m ≤ ops.size → ops.size - m ≤ fuel → listed.size = ops.size →
    (∀ i, i < ops.size → (listed.getD i false = true ↔ i < m)) → wpL P ops Q (ops.toList.drop m) a w → wpAnyO P ops Q fuel listed a w := by
  intro fuel
  induction fuel with
  | zero =>
    intro m listed a w h1 h2 h3 hsz hl hw
    have hm : m = ops.size := by omega
    subst hm
    rw [show ops.toList.drop ops.size = [] from by rw [← Array.length_toList]; exact List.drop_length] at hw
    refine ⟨?_, hw⟩
    rw [List.eq_nil_iff_forall_not_mem]
    intro i hi
    obtain ⟨hu, o, ho, _⟩ := mem_ready.1 hi
    have hlt := (Array.getElem?_eq_some_iff.1 ho).1
    have := (hl i hlt).2 hlt
    have hlt2 : i < listed.size := by omega
    simp [hlt2] at hu this
    rw [hu] at this; cases this
  | succ fuel ih =>
    intro m listed a w h1 h2 h3 hsz hl hw
    by_cases hm : m = ops.size
    · subst hm
      rw [show ops.toList.drop ops.size = [] from by rw [← Array.length_toList]; exact List.drop_length] at hw
      refine ⟨fun _ => hw, fun i hi => ?_⟩
      obtain ⟨hu, o, ho, _⟩ := mem_ready.1 hi
      have hlt := (Array.getElem?_eq_some_iff.1 ho).1
      have := (hl i hlt).2 hlt
      have hlt2 : i < listed.size := by omega
      simp [hlt2] at hu this
      rw [hu] at this; cases this
    · have hlt : m < ops.size := by omega
      have hmu : listed.getD m false = false := by
        cases hx : listed.getD m false with
        | false => rfl
        | true => exact absurd ((hl m hlt).1 hx) (Nat.lt_irrefl _)
      refine ⟨fun hr => absurd hr (min_unlisted hsz hlt hmu ok.back), fun i hi => ?_⟩
      obtain ⟨hu, o, ho, _⟩ := mem_ready.1 hi
      have hil := (Array.getElem?_eq_some_iff.1 ho).1
      have him : i = m := by
        by_cases hlt2 : i < m
        · have := (hl i hil).2 hlt2
          have hlt3 : i < listed.size := by omega
          simp [hlt3] at hu this
          rw [hu] at this; cases this
        · by_cases hgt : m < i
          · have := ready_dep hi (ok.tail m i (by omega) hil hgt)
            rw [hmu] at this; cases this
          · omega
      subst him
      have hdrop : ops.toList.drop i = o :: ops.toList.drop (i + 1) := by
        rw [List.drop_eq_getElem_cons (by simpa using hil)]
        congr 1
        have := (Array.getElem?_eq_some_iff.1 ho).2
        simpa using this
      rw [hdrop] at hw
      have hnext : ∀ a w, wpL P ops Q (ops.toList.drop (i + 1)) a w → wpAnyO P ops Q fuel (listed.setIfInBounds i true) a w := fun a w hw =>
        ih (i + 1) _ a w (by omega) (by omega) (by omega) (by simpa using hsz) (fun q hq => by
          by_cases hqi : q = i
          · subst hqi
            have : q < listed.size := by omega
            simp [this]
          · rw [getD_set_ne false (Ne.symm hqi), hl q hq]; omega) hw
      refine ⟨o, ho, ?_⟩
      unfold wpO
      simp only [wpL] at hw
      split
      · rename_i hwn
        rw [if_pos hwn] at hw
        exact oWp_mono hnext hw
      · rename_i hwn
        rw [if_neg hwn] at hw
        exact hnext _ _ hw
theorem countP_lt {p q : Nat → Bool} : ∀ (l : List Nat), (∀ x, q x = true → p x = true) → (∃ x ∈ l, p x = true ∧ q x = false) → l.countP q < l.countP p
  | [], _, ⟨x, hx, _⟩ => by cases hx
  | y :: l, h, ⟨x, hx, h1, h2⟩ => by
    have hle : l.countP q ≤ l.countP p := List.countP_mono_left fun x _ => h x
    rw [List.countP_cons, List.countP_cons]
    rcases List.mem_cons.1 hx with rfl | hx
    · rw [h1, h2]; simp; omega
    · have ih := countP_lt l h ⟨x, hx, h1, h2⟩
      cases hq : q y with
      | true => rw [h y hq]; simp; omega
      | false => rw [if_neg (by simp)]; omega
theorem head_any {Q : Exit → Act → World → Prop} {h : Nat} {σ : Env} {vals : Nat → AV} (ok : DrawOk h ops)
    (G : ∀ (j : Nat) o, j < h → ops[j]? = some o → GQ P N ops (restr (envL σ ops vals (fun _ => true) j) (o.looksAt ops)) hs o (vals j) ∧ dstOk N o.dst = true)
    {κ : Kap} {w₀ : World} (T : ∀ κ' a w, Sim N κ' hs w (envL σ ops vals (fun _ => true) h) a → Ext κ hs w₀ κ' hs w → wpL P ops Q (ops.toList.drop h) a w) :
    ∀ (fuel : Nat) (listed : Array Bool) (κ' : Kap) (a : Act) (w : World), (List.range ops.size).countP (fun i => !listed.getD i false) ≤ fuel → listed.size = ops.size → (∀ i, h ≤ i → listed.getD i false = false) →
      (∀ i o, ops[i]? = some o → listed.getD i false = true → ∀ e ∈ o.after, Region.binds .any e = true → listed.getD e.on false = true) →
      Sim N κ' hs w (envL σ ops vals (fun i => listed.getD i false) h) a → Ext κ hs w₀ κ' hs w → wpAnyO P ops Q fuel listed a w := by
  intro fuel
  induction fuel with
  | zero =>
    intro listed κ' a w hc hsz hno hdep s e
    have hall : ∀ i, i < ops.size → listed.getD i false = true := fun i hi => by
      have := List.countP_eq_zero.1 (Nat.le_zero.1 hc) i (List.mem_range.2 hi)
      simpa using this
    have hh : h = ops.size := by
      have := ok.le
      rcases Nat.lt_or_ge h ops.size with hlt | hge
      · have h5 := hall h hlt; rw [hno h (Nat.le_refl _)] at h5; cases h5
      · omega
    have se : Sim N κ' hs w (envL σ ops vals (fun _ => true) h) a := ⟨s.heap, s.size, s.defers, fun t => by
      rw [envL_low σ vals (fun _ => true) (fun i => listed.getD i false) t h fun i hi _ => (hall i (by omega)).symm]
      exact s.get t⟩
    exact tail_any ok 0 h listed a w (Nat.le_refl _) ok.le (by omega) hsz (fun i hi => ⟨fun _ => by omega, fun _ => hall i hi⟩) (T κ' a w se e)
  | succ fuel ih =>
    intro listed κ' a w hc hsz hno hdep s e
    by_cases hall : ∀ j, j < h → listed.getD j false = true
    · have se : Sim N κ' hs w (envL σ ops vals (fun _ => true) h) a := ⟨s.heap, s.size, s.defers, fun t => by
        rw [envL_low σ vals (fun _ => true) (fun i => listed.getD i false) t h fun i hi _ => (hall i hi).symm]
        exact s.get t⟩
      have hcount : ops.size - h ≤ fuel + 1 := by
        have : ops.size - h ≤ (List.range ops.size).countP (fun i => !listed.getD i false) := by
          have h1 : (List.range ops.size).countP (fun i => decide (h ≤ i)) = ops.size - h := by
            have key : ∀ n, (List.range n).countP (fun i => decide (h ≤ i)) = n - h := by
              intro n
              induction n with
              | zero => simp
              | succ n ihn =>
                rw [List.range_succ, List.countP_append, ihn]
                by_cases hn : h ≤ n
                · simp [hn]; omega
                · simp [hn]; omega
            exact key _
          rw [← h1]
          exact List.countP_mono_left fun i _ hi => by simp [hno i (by simpa using hi)]
        omega
      exact tail_any ok (fuel + 1) h listed a w (Nat.le_refl _) ok.le hcount hsz (fun i hi => ⟨fun hx => Nat.lt_of_not_le (fun hge => by rw [hno i hge] at hx; cases hx), fun hlt => hall i hlt⟩) (T κ' a w se e)
    · obtain ⟨j₀, hj₀⟩ := Classical.not_forall.1 hall
      obtain ⟨hj₀h, hj₀u⟩ := Classical.not_imp.1 hj₀
      have hj₀u' : listed.getD j₀ false = false := by simpa using hj₀u
      have hle := ok.le
      refine ⟨fun hr => absurd hr (min_unlisted hsz (by omega) hj₀u' ok.back), fun j hj => ?_⟩
      obtain ⟨hu, o, ho, hdeps⟩ := mem_ready.1 hj
      have hjs := (Array.getElem?_eq_some_iff.1 ho).1
      have hju : listed.getD j false = false := by
        have hlt : j < listed.size := by omega
        simpa [hlt] using hu
      have hjh : j < h := Nat.lt_of_not_le fun hge => by
        have := ready_dep hj (ok.tail j₀ j hge hjs (by omega))
        rw [hj₀u'] at this; cases this
      obtain ⟨hG, hd⟩ := G j o hjh ho
      -- a listed operation behind j has j among those that it waits for: so it is not listed
      have hafter : ∀ i, i < ops.size → depB ops i j = true → listed.getD i false = false := fun i hi hdp => by
        cases hx : listed.getD i false with
        | false => rfl
        | true =>
          have hio : ops[i]? = some ops[i] := Array.getElem?_eq_getElem hi
          simp only [depB, hio, Array.any_eq_true'] at hdp
          obtain ⟨ed, he, hb⟩ := hdp
          have hb2 := Bool.and_eq_true_iff.1 hb
          have hon : ed.on = j := by simpa using hb2.2
          have := hdep i _ hio hx ed he hb2.1
          rw [hon, hju] at this; cases this
      have hclash : ∀ i t, i < h → i ≠ j → dstAt ops i = some t → (t ∈ o.looksAt ops ∨ o.dst = some t) → (i < j → listed.getD i false = true) ∧ (j < i → listed.getD i false = false) := by
        intro i t hi hne hdi ht
        have hio : ops[i]? = some (ops[i]'(by omega)) := Array.getElem?_eq_getElem (by omega)
        have hdst : (ops[i]'(by omega)).dst = some t := by simpa [dstAt, hio] using hdi
        have hc : clashB ops i j = true := by
          simp only [clashB, hio, ho, hdst]
          rcases ht with ht | ht
          · simp [ht]
          · simp [ht]
        obtain ⟨h1, h2⟩ := ok.head i j hi hjh hne hc
        exact ⟨fun hlt => ready_dep hj (h1 hlt), fun hlt => hafter i (by omega) (h2 hlt)⟩
      have hlook : ∀ t ∈ o.looksAt ops, eget (envL σ ops vals (fun i => listed.getD i false) h) t = eget (envL σ ops vals (fun _ => true) j) t := by
        intro t ht
        rw [envL_high σ vals _ t j h (by omega) fun i h1 h2 h3 h4 => by
          by_cases hij : i = j
          · subst hij; rw [hju] at h3; cases h3
          · rw [(hclash i t h2 hij h4 (.inl ht)).2 (by omega)] at h3; cases h3]
        exact envL_low σ vals _ _ t j fun i hi hdi => (hclash i t (by omega) (by omega) hdi (.inl ht)).1 hi
      have sr : Sim N κ' hs w (restr (envL σ ops vals (fun _ => true) j) (o.looksAt ops)) a := by
        refine ⟨s.heap, s.size, s.defers, fun t => ?_⟩
        have hrestr : eget (restr (envL σ ops vals (fun _ => true) j) (o.looksAt ops)) t = .any ∨ t ∈ o.looksAt ops ∧ eget (restr (envL σ ops vals (fun _ => true) j) (o.looksAt ops)) t = eget (envL σ ops vals (fun _ => true) j) t := by
          unfold restr
          generalize o.looksAt ops = ts
          induction ts with
          | nil => exact .inl rfl
          | cons u ts ih2 =>
            by_cases hut : u = t
            · subst hut; exact .inr ⟨List.mem_cons_self, by rw [List.map_cons, eget_same]⟩
            · rw [List.map_cons, eget_ne _ _ hut]
              rcases ih2 with h1 | ⟨h1, h2⟩
              · exact .inl h1
              · exact .inr ⟨List.mem_cons_of_mem _ h1, h2⟩
        rcases hrestr with h1 | ⟨h1, h2⟩
        · rw [h1]; exact .any _
        · rw [h2, ← hlook t h1]; exact s.get t
      have hcount : (List.range ops.size).countP (fun i => !(listed.setIfInBounds j true).getD i false) ≤ fuel := by
        have hlt : j < listed.size := by omega
        have := countP_lt (p := fun i => !listed.getD i false) (q := fun i => !(listed.setIfInBounds j true).getD i false) (List.range ops.size)
          (fun i hi => by
            by_cases hij : j = i
            · subst hij; simp [hlt] at hi
            · rw [getD_set_ne false hij] at hi; exact hi)
          ⟨j, List.mem_range.2 hjs, by rw [hju]; rfl, by simp [hlt]⟩
        omega
      refine ⟨o, ho, ?_⟩
      refine hG κ' a w sr _ Q fun κ₂ w₂ u h1 e2 hu2 => ?_
      refine ih _ κ₂ _ w₂ hcount (by simpa using hsz) (fun i hi => by rw [getD_set_ne false (by omega)]; exact hno i hi) (fun i oi hoi hx ed he hb => ?_) ?_ (e.trans e2)
      · by_cases hij : i = j
        · subst hij
          rw [ho] at hoi
          obtain rfl := Option.some.inj hoi
          exact getD_set_true (hdeps ed he hb)
        · rw [getD_set_ne false (Ne.symm hij)] at hx
          exact getD_set_true (hdep i oi hoi hx ed he hb)
      · have sp := s.putO e2 h1 hd hu2
        refine ⟨sp.heap, sp.size, sp.defers, fun t => ?_⟩
        have hget := sp.get t
        rw [putE_get] at hget
        have hlt : j < listed.size := by omega
        by_cases hdt : o.dst = some t
        · rw [if_pos hdt] at hget
          have hdj : dstAt ops j = some t := by simp [dstAt, ho, hdt]
          rw [envL_high σ vals _ t (j + 1) h (by omega) fun i h3 h4 h5 h6 => by
            rw [getD_set_ne false (by omega), (hclash i t h4 (by omega) h6 (.inr hdt)).2 (by omega)] at h5; cases h5]
          rw [envL_step, if_pos ⟨hdj, by simp [hlt]⟩]
          exact hget
        · rw [if_neg hdt] at hget
          have : eget (envL σ ops vals (fun i => (listed.setIfInBounds j true).getD i false) h) t = eget (envL σ ops vals (fun i => listed.getD i false) h) t :=
            envL_low σ vals _ _ t h fun i hi hdi => by
              have hne : j ≠ i := by rintro rfl; simp [dstAt, ho] at hdi; exact hdt hdi
              exact getD_set_ne false hne
          rw [this]; exact hget
theorem W.draw {Q : Post} {σ : Env} {id : Nat} (h : Nat) (hm : P.follows .mixedOrders = true) (hok : drawOk h ops = true) (c : Chain P N ops hs (ops.toList.take h) σ (fun σ' => XOps P N ops (ops.toList.drop h) σ' hs (fun σ'' hs' => Q .normal σ'' hs'))) (hnd : ndOk N.ro ops = true := by rfl) :
    W P N (.region id ops true) Q σ hs := by
  intro κ a w s
  have ok := drawOk_spec hok
  obtain ⟨vals, _, g2, g3⟩ := c.vals 0 σ (fun _ => .any) (fun j o hj => by
    rw [List.getElem?_take] at hj
    split at hj
    · simpa using hj
    · cases hj) rfl
  simp only [Nat.zero_add] at g2 g3
  have hlen : (ops.toList.take h).length = h := by simp [ok.le]
  rw [hlen] at g3
  refine wpIn_region_any hm (wpAnyO_in hnd _ _ _ _ ?_)
  obtain ⟨h1, e1⟩ := s.heap.drew (w.drawn + 1) (Nat.le_succ _)
  refine head_any (h := h) (σ := σ) (vals := vals) ok (fun j o hj ho => g2 j o (by rw [List.getElem?_take, if_pos hj]; simpa using ho)) (κ := κ) (w₀ := w)
    (fun κ' a' w' s' e' => g3 κ' a' w' s' _ fun κ₂ a₂ w₂ σ₂ hs₂ s₂ e₂ hr => ⟨.normal, κ₂, σ₂, hs₂, rfl, s₂, e'.trans e₂, hr⟩)
    ops.size _ κ a _ ?_ (by simp) (fun i _ => getD_false i) (fun i o ho hx => by rw [getD_false] at hx; cases hx) ?_ e1
  · exact Nat.le_trans List.countP_le_length (by simp)
  · have hz : ∀ n, envL σ ops vals (fun i => (Array.replicate ops.size false).getD i false) n = σ := by
      intro n
      induction n with
      | zero => rfl
      | succ n ih =>
        simp only [envL]
        exact (if_neg (show ¬ (Array.replicate ops.size false).getD n false = true from fun h => by rw [getD_false] at h; cases h)).trans ih
    rw [hz]
    exact s.ext e1 h1
where
  getD_false (i : Nat) : (Array.replicate ops.size false).getD i false = false := by
    by_cases h : i < ops.size <;> simp [h]
theorem W.drawreg {Q : Post} {σ : Env} {id : Nat} {y : Code} (h : Nat) (hm : P.follows .mixedOrders = true) (hok : drawOk h ops = true) (c : Chain P N ops hs (ops.toList.take h) σ (fun σ' => XOps P N ops (ops.toList.drop h) σ' hs (fun σ'' hs' => W P N y Q σ'' hs'))) (hnd : ndOk N.ro ops = true := by rfl) :
    W P N (.seq (.region id ops true) y) Q σ hs := W.seq (W.draw h hm hok c hnd)
end draw
end Go.Proofs.YtaegeaajhbfkgaaGreatDoorA
/- Small things for the walks: moves by the kind of what is moved, arithmetic that fits, values of arrays, strings. -/
namespace Go.Proofs.YtaegeaajhbfkgaaGreatDoorA
open Go
set_option linter.unusedVariables false
set_option linter.unusedSimpArgs false
theorem wi64 {z : Int} (h0 : -9223372036854775808 ≤ z) (h1 : z ≤ 9223372036854775807) : IntKind.i64.wrap z = z := Go.IntWalk.i64_in z ⟨h0, h1⟩
theorem wquo {m n : Int} (h0 : 0 ≤ m) (h1 : m ≤ 9223372036854775807) (h2 : 1 ≤ n) : IntKind.i64.wrap (m.tdiv n) = m / n := by
  rw [Int.tdiv_eq_ediv_of_nonneg h0]
  have h3 : 0 ≤ m / n := Int.ediv_nonneg h0 (by omega)
  have h4 : m / n ≤ m := Int.ediv_le_self n h0
  exact wi64 (by omega) (by omega)
theorem wrem {m n : Int} (h0 : 0 ≤ m) : m.tmod n = m % n := Int.tmod_eq_emod_of_nonneg h0
theorem len_eq {k : IntKind} {m n : Nat} (h : m = n) : AV.d (.int k (m : Int)) = AV.d (.int k (n : Int)) := by rw [h]
theorem int_eq {k : IntKind} {m n : Int} (h : m = n) : AV.d (.int k m) = AV.d (.int k n) := by rw [h]
theorem map_at0 {α β : Type} {l : List α} {k : Nat} {x : α} {f : α → β} (hx : l[k]? = some x) : (l.map f)[0 + ((k : Nat) : Int).toNat]? = some (f x) := by
  rw [Nat.zero_add, Int.toNat_natCast, List.getElem?_map, hx]; rfl
theorem map_at {α β : Type} {l : List α} {k : Nat} {x : α} {f : α → β} (hx : l[k]? = some x) : (l.map f)[((k : Nat) : Int).toNat]? = some (f x) := by
  rw [Int.toNat_natCast, List.getElem?_map, hx]; rfl
section
variable {P : Program} {N : Nm} {σ : Env} {hs : Hp} {ty : TypeId} {pos : String} {af : Array Edge} {g : Option (Nat × Bool)} {ops : Array Oper} {l : List Oper} {R : Env → Hp → Prop}
theorem XOps.s {o : Oper} {t : Nat} {v : AV} (hg : o.guard = none) (hd : o.dst = some t) (ht : Nat.blt t N.n = true) (h : Quiet P N σ hs o v) (hl : XOps P N ops l ((t, v) :: σ) hs R) : XOps P N ops (o :: l) σ hs R :=
  XOps.q hg h (by rw [hd]; exact ht) (by rw [hd]; exact hl)
theorem XOps.gs {o oj : Oper} {v : AV} {j t u : Nat} {b want : Bool} (hg : o.guard = some (j, want)) (hj : ops[j]? = some oj) (hjd : oj.dst = some t) (hb : eget σ t = .d (.bool b)) (htN : Nat.blt t N.n = true)
    (hd : o.dst = some u) (hu : Nat.blt u N.n = true) (h : (b == want) = true → Quiet P N σ hs o v) (hl : XOps P N ops l ((u, .when (b == want) v) :: σ) hs R) : XOps P N ops (o :: l) σ hs R :=
  XOps.g hg hj hjd hb htN h (by rw [hd]; exact hu) (by rw [hd]; exact hl)
theorem XOps.gsw {o oj : Oper} {v : AV} {j t u : Nat} {g0 b want : Bool} (hg : o.guard = some (j, want)) (hj : ops[j]? = some oj) (hjd : oj.dst = some t) (hb : eget σ t = .when g0 (.d (.bool b))) (htN : Nat.blt t N.n = true)
    (hd : o.dst = some u) (hu : Nat.blt u N.n = true) (h : (g0 && (b == want)) = true → Quiet P N σ hs o v) (hl : XOps P N ops l ((u, .when (g0 && (b == want)) v) :: σ) hs R) : XOps P N ops (o :: l) σ hs R :=
  XOps.gw hg hj hjd hb htN h (by rw [hd]; exact hu) (by rw [hd]; exact hl)
end
section
variable {P : Program} {N : Nm} {σ : Env} {hs : Hp} {d : Option Tmp} {ty : TypeId} {pos : String} {af : Array Edge} {g : Option (Nat × Bool)}
theorem Q.move_d {x : Operand} {y : D} (hx : oev σ x = .d y) : Quiet P N σ hs ⟨d, .move x, ty, pos, af, g⟩ (.d y) := Q.move hx
theorem Q.move_vs {x : Operand} {id lo n sz : Nat} (hx : oev σ x = .vs id lo n sz) : Quiet P N σ hs ⟨d, .move x, ty, pos, af, g⟩ (.vs id lo n sz) := Q.move hx
theorem Q.move_ptr {x : Operand} {id o : Nat} (hx : oev σ x = .ptr id o) : Quiet P N σ hs ⟨d, .move x, ty, pos, af, g⟩ (.ptr id o) := Q.move hx
theorem Q.move_fn {x : Operand} {f : FuncId} {c : List AV} (hx : oev σ x = .fn f c) : Quiet P N σ hs ⟨d, .move x, ty, pos, af, g⟩ (.fn f c) := Q.move hx
theorem Q.move_tup {x : Operand} {c : List AV} (hx : oev σ x = .tup c) : Quiet P N σ hs ⟨d, .move x, ty, pos, af, g⟩ (.tup c) := Q.move hx
theorem Q.move_dp {x : Operand} {c : List D} (hx : oev σ x = .dp c) : Quiet P N σ hs ⟨d, .move x, ty, pos, af, g⟩ (.dp c) := Q.move hx
theorem Q.assign_d {x : Operand} {y : D} (hx : oev σ x = .d y) : Quiet P N σ hs ⟨d, .assign x, ty, pos, af, g⟩ (.d y) := Q.assign hx
theorem Q.assign_vs {x : Operand} {id lo n sz : Nat} (hx : oev σ x = .vs id lo n sz) : Quiet P N σ hs ⟨d, .assign x, ty, pos, af, g⟩ (.vs id lo n sz) := Q.assign hx
theorem Q.assign_ptr {x : Operand} {id o : Nat} (hx : oev σ x = .ptr id o) : Quiet P N σ hs ⟨d, .assign x, ty, pos, af, g⟩ (.ptr id o) := Q.assign hx
theorem Q.assign_nilsl {x : Operand} (hx : oev σ x = .nilsl) : Quiet P N σ hs ⟨d, .assign x, ty, pos, af, g⟩ .nilsl := Q.assign hx
theorem Q.assign_fn {x : Operand} {f : FuncId} {c : List AV} (hx : oev σ x = .fn f c) : Quiet P N σ hs ⟨d, .assign x, ty, pos, af, g⟩ (.fn f c) := Q.assign hx
theorem tArr_part {t n sz : Nat} {b : Bool} (h : tArr P t = some (n, sz)) (hb : (match P.underlying t with | some (.array _ e) => tAgg P e | _ => none) = some (b, sz)) (w : World) :
    ∃ e i, P.underlying t = some (.array n e) ∧ P.info? e = some i ∧ i.size = sz ∧ (isAgg e).run P w = .ok b w := by
  obtain ⟨e, i, hu, hi, hs⟩ := tArr_spec h
  rw [hu] at hb
  exact ⟨e, i, hu, hi, hs, (tAgg_spec hb w).1⟩
def tEl (P : Program) (t : TypeId) : Option (Bool × Nat) := match P.underlying t with | some (.array _ e) => tAgg P e | _ => none
theorem Q.idx_agg1 {t n : Nat} {cs : List D} {y : D} {x ix : Operand} {k : IntKind} {i : Int} (ht : tArr P t = some (n, 1)) (he : tEl P t = some (false, 1)) (hx : oev σ x = .d (.agg cs)) (hi : oev σ ix = .d (.int k i)) (h0 : 0 ≤ i) (h1 : i < n)
    (hy : cs[i.toNat]? = some y) : Quiet P N σ hs ⟨d, .index t x ix, ty, pos, af, g⟩ (.d y) :=
  .of_run fun κ a w s => by
    have h2 := s.oev x; rw [hx] at h2
    have h3 := s.oev ix; rw [hi] at h3
    obtain ⟨e, inf, hu, hin, hsz, hag⟩ := tArr_part ht he w
    have h4 := h2.d_inv
    generalize hv : a.eval x = v at h4
    cases h4 with
    | agg vs _ hl ho hr =>
      have hlt : i.toNat < vs.size := by rw [hl]; exact (List.getElem?_eq_some_iff.1 hy).1
      have hc : vs[i.toNat]? = some vs[i.toNat] := Array.getElem?_eq_getElem hlt
      refine ⟨vs[i.toNat], ?_, .d (hr _ _ _ hc hy)⟩
      simp [execOp, hv, h3.int_inv, Instr.index, asIntOf, run_underlying hu, h0, h1, part, hag, size_run hin, hsz, hlt]
theorem Q.idx_aggn {t n m : Nat} {cs l : List D} {x ix : Operand} {k : IntKind} {i : Int} (ht : tArr P t = some (n, m)) (he : tEl P t = some (true, m)) (hx : oev σ x = .d (.agg cs)) (hi : oev σ ix = .d (.int k i)) (h0 : 0 ≤ i) (h1 : i < n)
    (hy : (cs.drop (i.toNat * m)).take m = l) : Quiet P N σ hs ⟨d, .index t x ix, ty, pos, af, g⟩ (.d (.agg l)) :=
  .of_run fun κ a w s => by
    have h2 := s.oev x; rw [hx] at h2
    have h3 := s.oev ix; rw [hi] at h3
    obtain ⟨e, inf, hu, hin, hsz, hag⟩ := tArr_part ht he w
    have h4 := h2.d_inv
    generalize hv : a.eval x = v at h4
    cases h4 with
    | agg vs _ hl ho hr =>
      subst hy
      refine ⟨.agg (vs.extract (i.toNat * m) (i.toNat * m + m)), ?_, .d (.agg _ _ ?_ (fun d hd => ho d (List.mem_of_mem_drop (List.mem_of_mem_take hd))) (fun j u d hj hd => ?_))⟩
      · simp [execOp, hv, h3.int_inv, Instr.index, asIntOf, run_underlying hu, h0, h1, part, hag, size_run hin, hsz]
      · simp [hl]; omega
      · rw [List.getElem?_take] at hd
        split at hd
        · rename_i hlt
          rw [List.getElem?_drop] at hd
          rw [Array.getElem?_extract] at hj
          split at hj
          · exact hr _ u d hj hd
          · cases hj
        · cases hd
def isB (P : Program) (t : TypeId) : Bool := match P.underlying t with | some .bool => true | _ => false
theorem isB_spec {t : TypeId} (h : isB P t = true) : P.underlying t = some .bool := by
  unfold isB at h
  split at h
  · assumption
  · cases h
def tInt (P : Program) (t : TypeId) : Option IntKind := match P.underlying t with | some (.int k) => some k | _ => none
theorem tInt_spec {t : TypeId} {k : IntKind} (h : tInt P t = some k) : P.underlying t = some (.int k) := by
  unfold tInt at h
  split at h
  · obtain rfl := Option.some.inj h; assumption
  · cases h
theorem equal_bool {t : TypeId} (ht : isB P t = true) (p q : Bool) (w : World) : (Op.equal t (.bool p) (.bool q)).run P w = .ok (p == q) w := by
  show (Op.equalIn (9999 + 1) t (.bool p) (.bool q)).run P w = _
  rw [Op.equalIn, Sem.run_bind, run_underlying (isB_spec ht)]
  rfl
theorem bin_bool {a : Act} {w : World} {op : BinOp} {t t' : TypeId} {x y : Operand} {p q : Bool} (hx : a.eval x = .bool p) (hy : a.eval y = .bool q) {r : Value} (h : (binOp op t (.bool p) (.bool q)).run P w = .ok r w) :
    (execOp a.eval ⟨d, .binOp op t x y t', ty, pos, af, g⟩).run P w = .ok (.value r) w := by
  have h3 : (eqGuard op t x y (.bool p) (.bool q)).run P w = .ok () w := by
    unfold eqGuard; cases op <;> rfl
  rw [show execOp a.eval ⟨d, .binOp op t x y t', ty, pos, af, g⟩ = (do pure (.value (← (do eqGuard op t x y (a.eval x) (a.eval y); binOp op t (a.eval x) (a.eval y))))) from rfl, hx, hy]
  simp only [Sem.run_bind, h3, Result.andThen_ok, h, Sem.run_pure]
theorem Q.neq_bool {t t' : TypeId} {x y : Operand} {p q : Bool} (ht : isB P t = true) (hx : oev σ x = .d (.bool p)) (hy : oev σ y = .d (.bool q)) : Quiet P N σ hs ⟨d, .binOp .neq t x y t', ty, pos, af, g⟩ (.d (.bool (!(p == q)))) :=
  .of_run fun κ a w s => by
    have h1 := s.oev x; have h2 := s.oev y
    rw [hx] at h1; rw [hy] at h2
    refine ⟨.bool (!(p == q)), bin_bool h1.bool_inv h2.bool_inv ?_, .d (.bool _)⟩
    rw [show binOp .neq t (.bool p) (.bool q) = (do pure (.bool (!(← Op.equal t (.bool p) (.bool q))))) from rfl, Sem.run_bind, equal_bool ht]
    rfl
theorem Q.conv_int {t t' : TypeId} {x : Operand} {k k' : IntKind} {n r : Int} (ht : tInt P t' = some k') (hx : oev σ x = .d (.int k n)) (hs0 : ∃ u, P.underlying t = some u) (hr : k'.wrap n = r) :
    Quiet P N σ hs ⟨d, .convert t t' x, ty, pos, af, g⟩ (.d (.int k' r)) :=
  .of_run fun κ a w s => by
    have h1 := s.oev x; rw [hx] at h1
    obtain ⟨u, hu⟩ := hs0
    exact ⟨.int k' r, by simp [execOp, h1.int_inv, convert, run_underlying hu, run_underlying (tInt_spec ht), Conv.intToInt, hr], .d (.int _ _)⟩
theorem str_run {κ : Kap} {a : Act} {w : World} (s : Sim N κ hs w σ a) {op : BinOp} {t t' : TypeId} {x y : Operand} {m n : ByteArray} (hx : oev σ x = .d (.str m)) (hy : oev σ y = .d (.str n)) (hop : op ≠ .shl ∧ op ≠ .shr) :
    (execOp a.eval ⟨d, .binOp op t x y t', ty, pos, af, g⟩).run P w = ((Op.stringOp op m n).run P w).andThen fun u w' => .ok (.value u) w' := by
  have h1 := s.oev x; have h2 := s.oev y
  rw [hx] at h1; rw [hy] at h2
  have h3 : (eqGuard op t x y (.string m) (.string n)).run P w = .ok () w := by
    unfold eqGuard; cases op <;> simp
  have h4 : binOp op t (.string m) (.string n) = Op.stringOp op m n := by
    cases op <;> first | rfl | exact absurd rfl hop.1 | exact absurd rfl hop.2
  simp [execOp, h1.str_inv, h2.str_inv, h3, h4]
theorem Q.adds {t t' : TypeId} {x y : Operand} {m n : ByteArray} (hx : oev σ x = .d (.str m)) (hy : oev σ y = .d (.str n)) (hl : m.size + n.size ≤ 9223372036854775807) :
    Quiet P N σ hs ⟨d, .binOp .add t x y t', ty, pos, af, g⟩ (.d (.str (m ++ n))) :=
  .of_run fun κ a w s => ⟨.string (m ++ n), by
    rw [str_run s hx hy ⟨by simp, by simp⟩]
    have : ¬ (((m.size + n.size : Nat) : Int) > IntKind.i64.max) := by
      show ¬ (((m.size + n.size : Nat) : Int) > 2 ^ 63 - 1)
      omega
    simp only [Op.stringOp]
    rw [if_neg this]; rfl, .d (.str _)⟩
theorem Q.eql_str {t t' : TypeId} {x y : Operand} {m n : ByteArray} (hx : oev σ x = .d (.str m)) (hy : oev σ y = .d (.str n)) : Quiet P N σ hs ⟨d, .binOp .eql t x y t', ty, pos, af, g⟩ (.d (.bool (m.toList == n.toList))) :=
  .of_run fun κ a w s => ⟨_, by rw [str_run s hx hy ⟨by simp, by simp⟩]; rfl, .d (.bool _)⟩
theorem Q.neq_str {t t' : TypeId} {x y : Operand} {m n : ByteArray} (hx : oev σ x = .d (.str m)) (hy : oev σ y = .d (.str n)) : Quiet P N σ hs ⟨d, .binOp .neq t x y t', ty, pos, af, g⟩ (.d (.bool (!(m.toList == n.toList)))) :=
  .of_run fun κ a w s => ⟨_, by rw [str_run s hx hy ⟨by simp, by simp⟩]; rfl, .d (.bool _)⟩
theorem Q.leq_str {t t' : TypeId} {x y : Operand} {m n : ByteArray} (hx : oev σ x = .d (.str m)) (hy : oev σ y = .d (.str n)) : Quiet P N σ hs ⟨d, .binOp .leq t x y t', ty, pos, af, g⟩ (.d (.bool (Op.bytesLess m.toList n.toList || m.toList == n.toList))) :=
  .of_run fun κ a w s => ⟨_, by rw [str_run s hx hy ⟨by simp, by simp⟩]; rfl, .d (.bool _)⟩
theorem Q.bsl1 {t : Nat} {z : List Value} {zd : List D} {y : D} {x : Operand} (ht : tSl P t = some 1) (hz : tZrow P t = some z) (hzl : z.length = 1) (hzd : cellsD z = some zd) (hx : oev σ x = .d y) (h1 : y.one = true) :
    Quiet P N σ hs ⟨d, .buildSlice t 1 #[(0, x)], ty, pos, af, g⟩ (.d (.sl 1 [[y]])) := by
  have hl : zd.length = 1 := by have := (cellsD_rep default (fun _ => False) z zd hzd).1; simpa [hzl] using this.symm
  obtain ⟨u, rfl⟩ : ∃ u, zd = [u] := by
    match zd, hl with
    | [u], _ => exact ⟨u, rfl⟩
  have hd : dcells (.d y) = some [y] := by cases y <;> first | rfl | (simp [D.one] at h1)
  refine Q.bsl (l := [y]) ht (by decide) hz hzl hzd (by decide) ?_ rfl
  simp only [List.map_cons, List.map_nil, hx, afill, hd]
  rfl
theorem Q.bsl1n {t sz : Nat} {z : List Value} {zd ds : List D} {x : Operand} (ht : tSl P t = some sz) (hsz : 0 < sz) (hz : tZrow P t = some z) (hzl : z.length = sz) (hzd : cellsD z = some zd) (hx : oev σ x = .d (.agg ds)) (hl : ds.length = sz)
    (hs24 : sz ≤ 16777216) : Quiet P N σ hs ⟨d, .buildSlice t 1 #[(0, x)], ty, pos, af, g⟩ (.d (.sl sz [ds])) := by
  have hzl2 : zd.length = sz := by have := (cellsD_rep default (fun _ => False) z zd hzd).1; simpa [hzl] using this.symm
  refine Q.bsl (l := ds) ht hsz hz hzl hzd (by omega) ?_ (by simp [chop, List.take_of_length_le (Nat.le_of_eq hl)])
  simp only [List.map_cons, List.map_nil, hx, afill, dcells, zeroList, List.append_nil, Nat.zero_mul, Nat.zero_add]
  rw [show (Nat.beq ds.length sz && Nat.ble sz zd.length) = true from by
    rw [hl, hzl2]
    exact Bool.and_eq_true_iff.2 ⟨Nat.beq_refl _, by rw [Nat.ble_eq]; exact Nat.le_refl _⟩]
  simp [List.drop_of_length_le (Nat.le_of_eq hzl2)]
theorem Q.cut_slm {α : Type} {t sz : Nat} {l : List α} {f : α → List D} {x : Operand} {lo hi : Option Operand} {i j : Int} (ht : tSl P t = some sz) (hx : oev σ x = .d (.sl sz (l.map f))) (hl : OI σ lo 0 i) (hh : OI σ hi (l.map f).length j)
    (h0 : 0 ≤ i) (h1 : i ≤ j) (h2 : j ≤ l.length) : Quiet P N σ hs ⟨d, .slice t x lo hi none, ty, pos, af, g⟩ (.d (.sl sz (((l.take j.toNat).drop i.toNat).map f))) := by
  have := Q.cut_sl (P := P) (N := N) (hs := hs) (d := d) (ty := ty) (pos := pos) (af := af) (g := g) ht hx hl hh h0 h1 (by simpa using h2)
  rwa [← List.map_take, ← List.map_drop] at this
theorem equal_slice {t e : TypeId} (hu : P.underlying t = some (.slice e)) (p : Option Addr) (n c : Nat) (w : World) : (Op.equal t (.slice p n c) (.slice none 0 0)).run P w = .ok p.isNone w := by
  show (Op.equalIn (9999 + 1) t (.slice p n c) (.slice none 0 0)).run P w = _
  rw [Op.equalIn, Sem.run_bind, run_underlying hu]
  cases p <;> rfl
theorem eq_run {a : Act} {w : World} {t e t' : TypeId} {x y : Operand} (hu : P.underlying t = some (.slice e)) {p : Option Addr} {n c : Nat} (hx : a.eval x = .slice p n c) (hy : a.eval y = .slice none 0 0) :
    (execOp a.eval ⟨d, .binOp .eql t x y t', ty, pos, af, g⟩).run P w = .ok (.value (.bool p.isNone)) w := by
  rw [show execOp a.eval ⟨d, .binOp .eql t x y t', ty, pos, af, g⟩ = (do pure (.value (← (do eqGuard .eql t x y (a.eval x) (a.eval y); binOp .eql t (a.eval x) (a.eval y))))) from rfl, hx, hy]
  rw [show binOp .eql t (.slice p n c) (.slice none 0 0) = (do pure (.bool (← Op.equal t (.slice p n c) (.slice none 0 0)))) from rfl]
  simp only [Sem.run_bind, equal_slice hu, Result.andThen_ok, Sem.run_pure]
  rw [show (eqGuard .eql t x y (.slice p n c) (.slice none 0 0)).run P w = .ok () w from rfl]
  rfl
theorem L.eqnil {t u sz : Nat} {t' : TypeId} {rows : List (List D)} {x y : Operand} (ht : tSl P t = some sz) (hz : 0 < sz) (hx : oev σ x = .d (.sl sz rows)) (hy : oev σ y = .nilsl) (hu : Nat.blt u N.n = true) :
    Loud P N σ hs ⟨some u, .binOp .eql t x y t', ty, pos, af, g⟩ (fun σ' hs' => ∃ b, (b = true → rows = []) ∧ σ' = (u, .d (.bool b)) :: σ ∧ hs' = hs) := by
  intro κ a w s K Q hK
  have h1 := s.oev x; rw [hx] at h1
  have h2 := s.oev y; rw [hy] at h2
  obtain ⟨p, cap, c, hv, _, hl, _, hm, _⟩ := h1.sl_inv
  have hv2 : a.eval y = .slice none 0 0 := by generalize a.eval y = v at h2; cases h2; rfl
  obtain ⟨e, inf, hun, _, _⟩ := tSl_spec ht
  unfold oWp
  rw [eq_run hun hv hv2]
  refine hK κ _ w _ hs (s.put (.refl _ _ _) s.heap (by simpa [Nat.blt_eq] using hu) (.d (.bool p.isNone))) (.refl _ _ _) ⟨p.isNone, fun hb => ?_, rfl, rfl⟩
  cases rows with
  | nil => rfl
  | cons r rows =>
    have hrl := hl r List.mem_cons_self
    obtain ⟨ad, hp, _⟩ := hm 0 0 r (r[0]'(by omega)) rfl (List.getElem?_eq_getElem (by omega))
    rw [hp] at hb; cases hb
theorem Q.bsl0 {t sz : Nat} (ht : tSl P t = some sz) : Quiet P N σ hs ⟨d, .buildSlice t 0 #[], ty, pos, af, g⟩ (.dcut sz []) := by
  intro κ a w s K Q hK
  obtain ⟨e, inf, hu, hi, rfl⟩ := tSl_spec ht
  have ex : Ext κ hs w κ hs (w.alloc (.cells #[] e)) :=
    ⟨fun _ _ h => h, by simp, fun _ => Nat.le_refl _, rfl, rfl, rfl, fun b hb _ => allocOld w _ b hb, fun b _ h => h, fun _ o h => .inl ⟨o, h⟩, SameT.lt fun b hb => allocOld w _ b hb⟩
  have hsz2 : HS κ (w.alloc (.cells #[] e)) hs := ⟨s.heap.nodup, fun id o hi => by
      obtain ⟨x, hx, hok⟩ := s.heap.ok id o hi
      refine ⟨x, hx, hok.ext ex fun b hb => allocOld w _ b (s.heap.block_lt hi (c := x.2) ?_)⟩
      rw [hx, ← hb], s.heap.inj, s.heap.fresh⟩
  have hrun : (execOp a.eval ⟨d, .buildSlice t 0 #[], ty, pos, af, g⟩).run P w = .ok (.value (.slice (some ⟨w.heap.size, 0, none⟩) 0 0)) (w.alloc (.cells #[] e)) := by
    simp [execOp, Instr.buildSlice, run_underlying hu, size_run hi, Instr.fill, newRow_run]
    rw [show (Array.map (fun (x : Nat) => (default : Value)) (Array.range 0)) = #[] from Array.eq_empty_of_size_eq_zero (by simp)]
  unfold oWp
  rw [hrun]
  exact hK κ _ _ hsz2 ex (.dcut _ 0 _ [] (.sl _ _ _ _ _ (fun _ _ => undef) rfl (Nat.le_refl _) (by simp) (by simp) (by simp) (by simp)))
end
end Go.Proofs.YtaegeaajhbfkgaaGreatDoorA
/- More rules: another reading of what a slot holds. -/
namespace Go.Proofs.YtaegeaajhbfkgaaGreatDoorA
open Go
set_option linter.unusedVariables false
set_option linter.unusedSimpArgs false
section
variable {P : Program} {N : Nm} {σ : Env} {hs : Hp} {Q : Post} {d : Option Tmp} {ty : TypeId} {pos : String} {af : Array Edge} {g : Option (Nat × Bool)}
theorem W.as {c : Code} (t : Nat) {v v' : AV} (htN : Nat.blt t N.n = true) (hv : eget σ t = v) (h : ∀ κ w O u, RepA κ w O u v → RepA κ w O u v') (hw : W P N c Q ((t, v') :: σ) hs) : W P N c Q σ hs := fun κ a w s => by
  refine hw κ a w ⟨s.1, s.2, s.3, fun u => ?_⟩
  by_cases hu : u = t
  · subst hu
    rw [eget_same]
    exact h _ _ _ _ (hv ▸ s.4 u)
  · rw [eget_ne _ _ (fun he => hu he.symm)]
    exact s.4 u
theorem nilsl_sl {κ : Kap} {w : World} {O : Nat → Prop} {u : Value} (sz : Nat) (h : RepA κ w O u .nilsl) : RepA κ w O u (.d (.sl sz [])) := by
  cases h
  exact .d (.sl none 0 0 sz [] (fun _ _ => .nilIface) rfl (Nat.le_refl _) (by simp) (by simp) (by simp) (by simp))
theorem dcut_sl {κ : Kap} {w : World} {O : Nat → Prop} {u : Value} {sz : Nat} {rows : List (List D)} (h : RepA κ w O u (.dcut sz rows)) : RepA κ w O u (.d (.sl sz rows)) := by
  cases h with
  | dcut a n sz rows h => exact .d h
theorem Quiet.to {o : Oper} {v v' : AV} (h : Quiet P N σ hs o v) (k : ∀ κ w O u, RepA κ w O u v → RepA κ w O u v') : Quiet P N σ hs o v' :=
  fun κ a w s K Q hK => h κ a w s K Q fun κ' w' u h1 e hv => hK κ' w' u h1 e (k _ _ _ _ hv)
end
end Go.Proofs.YtaegeaajhbfkgaaGreatDoorA
/- The program, under a short name. -/
namespace Go.Proofs.YtaegeaajhbfkgaaGreatDoorA
open Go
noncomputable abbrev P : Program := Go.Proofs.Tryz.prog
theorem follows : P.follows .mixedOrders = true := by kernel_rfl
end Go.Proofs.YtaegeaajhbfkgaaGreatDoorA
/- From the given reading of a call's arguments to the plain data of the framework, and from a contract back to the given statement's own form. -/
namespace Go.Proofs.YtaegeaajhbfkgaaGreatDoorA
open Go
set_option linter.unusedVariables false
set_option linter.unusedSimpArgs false
inductive Sh where
  | bool
  | int (k : IntKind)
  | str
  | sl (e : Sh) (sz by' : Nat)
  | unit
  | cons (a b : Sh)
def shParts (P : Program) (g : TypeId → Option Sh) : List (TypeId × Nat) → Nat → Option (Sh × Nat)
  | [], o => some (.unit, o)
  | x :: l, o => if x.2 = o then (g x.1).bind fun s => (shParts P g l (o + P.cellsOf x.1)).map fun r => (.cons s r.1, r.2) else none
def shWhole (P : Program) (t : TypeId) (r : Option (Sh × Nat)) : Option Sh := r.bind fun x => if x.2 = P.cellsOf t then some x.1 else none
def shape (P : Program) : Nat → TypeId → Option Sh
  | 0, _ => none
  | n + 1, t => match P.underlying t with
    | some .bool => if P.cellsOf t = 1 then some .bool else none
    | some (.int k) => if P.cellsOf t = 1 then some (.int k) else none
    | some .string => if P.cellsOf t = 1 then some .str else none
    | some (.slice e) => if P.cellsOf t = 1 then (shape P n e).map fun s => .sl s (P.cellsOf e) (P.bytesOf e) else none
    | some (.struct fs) => shWhole P t (shParts P (shape P n) (fs.toList.map fun f => (f.type, f.offset)) 0)
    | some (.array k e) => shWhole P t (shParts P (shape P n) ((List.range k).map fun i => (e, i * P.cellsOf e)) 0)
    | _ => none
def Ty : Sh → List D → Prop
  | .bool, l => ∃ b, l = [.bool b]
  | .int k, l => ∃ n, l = [.int k n] ∧ (Lit.int k n).wf = true
  | .str, l => ∃ s, l = [.str s] ∧ s.size ≤ reachBytes
  | .sl e sz by', l => ∃ rows, l = [.sl sz rows] ∧ rows.length * by' ≤ reachBytes ∧ rows.length ≤ maxLen ∧ ∀ r ∈ rows, Ty e r
  | .unit, l => l = []
  | .cons a b, l => ∃ x y, l = x ++ y ∧ Ty a x ∧ Ty b y
def noO : Nat → Prop := fun _ => False
theorem list_choose {α : Type} : ∀ (n : Nat) (p : Nat → α → Prop) (_ : ∀ i, i < n → ∃ x, p i x), ∃ l : List α, l.length = n ∧ ∀ i x, l[i]? = some x → p i x
  | 0, p, _ => ⟨[], rfl, fun i x h => by simp at h⟩
  | n + 1, p, h => by
    obtain ⟨x, hx⟩ := h 0 (by omega)
    obtain ⟨l, hl, hp⟩ := list_choose n (fun i => p (i + 1)) (fun i hi => h (i + 1) (by omega))
    refine ⟨x :: l, by simp [hl], fun i y hi => ?_⟩
    cases i with
    | zero => simp at hi; exact hi ▸ hx
    | succ i => exact hp i y (by simpa using hi)
section
variable {H : Type} {enc : TypeId × Value → H} {P : Program} {w : World}
theorem weightsAll_mem {e : TypeId} {d : DataW H} {k : Nat} : ∀ {l : List (DataW H)}, d ∈ l → k ∈ d.weights P e → k ∈ DataW.weightsAll P e l
  | [], h, _ => by simp at h
  | x :: l, h, hk => by
    simp only [DataW.weightsAll, List.mem_append]
    rcases List.mem_cons.1 h with rfl | h
    · exact .inl hk
    · exact .inr (weightsAll_mem h hk)
def Wt (P : Program) (t : TypeId) (d : DataW H) : Prop := ∀ k ∈ d.weights P t, k ≤ reachBytes
structure Cs (w : World) (cs : List Value) (l : List D) : Prop where
  len : l.length = cs.length
  one : ∀ d ∈ l, d.one = true
  rep : ∀ (i : Nat) (v : Value) (d : D), cs[i]? = some v → l[i]? = some d → RepD w noO v d
theorem Cs.one' {v : Value} {d : D} (h1 : d.one = true) (h : RepD w noO v d) : Cs w [v] [d] :=
  ⟨rfl, fun x hx => by simp at hx; exact hx ▸ h1, fun i v' d' hv hd => by
    cases i with
    | zero => simp at hv hd; subst hv; subst hd; exact h
    | succ i => simp at hv⟩
theorem Cs.app {a b : List Value} {x y : List D} (h : Cs w a x) (g : Cs w b y) : Cs w (a ++ b) (x ++ y) := by
  refine ⟨by simp [h.len, g.len], fun d hd => ?_, fun i v d hv hd => ?_⟩
  · rcases List.mem_append.1 hd with hd | hd
    · exact h.one d hd
    · exact g.one d hd
  · by_cases hi : i < a.length
    · rw [List.getElem?_append_left hi] at hv
      rw [List.getElem?_append_left (by rw [h.len]; exact hi)] at hd
      exact h.rep i v d hv hd
    · rw [List.getElem?_append_right (by omega)] at hv
      rw [List.getElem?_append_right (by rw [h.len]; omega), h.len] at hd
      exact g.rep _ v d hv hd
def Opens (enc : TypeId × Value → H) (P : Program) (w : World) (m : Nat) (g : TypeId → Option Sh) : Prop :=
  ∀ t s cs d ps, g t = some s → DataW.trod enc P w 0 (fun _ => true) true m t cs = some (d, ps) → Wt P t d → cs.length = P.cellsOf t ∧ ∃ l, Ty s l ∧ Cs w cs l
theorem opens_parts {m : Nat} {g : TypeId → Option Sh} (ih : Opens enc P w m g) (cs : List Value) : ∀ (fs : List (TypeId × Nat)) (o o' : Nat) (s : Sh) (xs : List (DataW H × List MemPlace)),
    shParts P g fs o = some (s, o') → (∀ (i : Nat) (f : TypeId × Nat), fs[i]? = some f → DataW.trod enc P w 0 (fun _ => true) true m f.1 ((cs.drop f.2).take (P.cellsOf f.1)) = xs[i]?) →
    (∀ (i : Nat) (f : TypeId × Nat) (x : DataW H × List MemPlace), fs[i]? = some f → xs[i]? = some x → Wt P f.1 x.1) → xs.length = fs.length →
    o ≤ o' ∧ ∃ l, Ty s l ∧ Cs w ((cs.drop o).take (o' - o)) l
  | [], o, o', s, xs, hs, _, _, _ => by
    simp only [shParts, Option.some.injEq, Prod.mk.injEq] at hs
    obtain ⟨rfl, rfl⟩ := hs
    refine ⟨Nat.le_refl _, [], rfl, by simp, by simp, fun i v d hv hd => by simp at hd⟩
  | f :: fs, o, o', s, xs, hs, hx, hw, hl => by
    unfold shParts at hs
    split at hs
    case isFalse => cases hs
    rename_i ho
    obtain ⟨s1, h1, h2⟩ := Option.bind_eq_some_iff.1 hs
    obtain ⟨⟨s2, o2⟩, h3, h4⟩ := Option.map_eq_some_iff.1 h2
    obtain ⟨rfl, rfl⟩ := Prod.mk.inj h4
    cases xs with
    | nil => simp at hl
    | cons x xs =>
    have hx0 := hx 0 f rfl
    simp only [List.getElem?_cons_zero] at hx0
    obtain ⟨hlen, l1, ht1, hc1⟩ := ih f.1 s1 _ x.1 x.2 h1 hx0 (hw 0 f x rfl rfl)
    obtain ⟨hle, l2, ht2, hc2⟩ := opens_parts ih cs fs _ _ s2 xs h3 (fun i f' hf => by have := hx (i + 1) f' (by simpa using hf); simpa using this)
      (fun i f' x' hf hx' => hw (i + 1) f' x' (by simpa using hf) (by simpa using hx')) (by simpa using hl)
    subst ho
    have hsplit : (cs.drop f.2).take (o2 - f.2) = (cs.drop f.2).take (P.cellsOf f.1) ++ (cs.drop (f.2 + P.cellsOf f.1)).take (o2 - (f.2 + P.cellsOf f.1)) := by
      rw [← List.drop_drop, ← List.take_add]
      congr 1; omega
    exact ⟨by omega, l1 ++ l2, ⟨l1, l2, rfl, ht1, ht2⟩, hsplit ▸ hc1.app hc2⟩
theorem opens_whole {m : Nat} {g : TypeId → Option Sh} (ih : Opens enc P w m g) {t : TypeId} {cs : List Value} {fs : List (TypeId × Nat)} {s : Sh} {xs : List (DataW H × List MemPlace)}
    (hs : shWhole P t (shParts P g fs 0) = some s) (hcs : cs.length = P.cellsOf t) (hx : ∀ (i : Nat) (f : TypeId × Nat), fs[i]? = some f → DataW.trod enc P w 0 (fun _ => true) true m f.1 ((cs.drop f.2).take (P.cellsOf f.1)) = xs[i]?)
    (hw : ∀ (i : Nat) (f : TypeId × Nat) (x : DataW H × List MemPlace), fs[i]? = some f → xs[i]? = some x → Wt P f.1 x.1) (hl : xs.length = fs.length) :
    cs.length = P.cellsOf t ∧ ∃ l, Ty s l ∧ Cs w cs l := by
  obtain ⟨⟨s', o⟩, h1, h2⟩ := Option.bind_eq_some_iff.1 hs
  dsimp only at h2
  split at h2
  case isFalse => cases h2
  rename_i ho
  obtain rfl := Option.some.inj h2
  obtain ⟨_, l, ht, hc⟩ := opens_parts ih cs fs 0 o s' xs h1 hx hw hl
  refine ⟨hcs, l, ht, ?_⟩
  rwa [List.drop_zero, Nat.sub_zero, ho, ← hcs, List.take_length] at hc
theorem weightsEach_mem {k : Nat} : ∀ {ts : List TypeId} {ds : List (DataW H)} {i : Nat} {t : TypeId} {d : DataW H}, ts[i]? = some t → ds[i]? = some d → k ∈ d.weights P t → k ∈ DataW.weightsEach P ts ds :=
  fun ht hd hk => DataW.weights_mem_each ht hd _ hk
theorem opens : ∀ (n m : Nat), Opens enc P w m (shape P n)
  | 0, m => fun t s cs d ps hs => by cases hs
  | n + 1, m => fun t s cs d ps hs hd hw => by
    unfold shape at hs
    split at hs
    · rename_i hu
      split at hs
      case isFalse => cases hs
      rename_i h1
      obtain rfl := Option.some.inj hs
      obtain ⟨b, rfl, _⟩ := DataW.trod_bool hu hd
      exact ⟨by simp [h1], _, ⟨b, rfl⟩, Cs.one' rfl (.bool b)⟩
    · rename_i k hu
      split at hs
      case isFalse => cases hs
      rename_i h1
      obtain rfl := Option.some.inj hs
      obtain ⟨b, rfl, _, hk⟩ := DataW.trod_int hu hd
      exact ⟨by simp [h1], _, ⟨b, rfl, hk⟩, Cs.one' rfl (.int k b)⟩
    · rename_i hu
      split at hs
      case isFalse => cases hs
      rename_i h1
      obtain rfl := Option.some.inj hs
      obtain ⟨b, rfl, hx, hk⟩ := DataW.trod_string hu hd
      obtain ⟨rfl, _⟩ := Prod.mk.inj hx
      refine ⟨by simp [h1], _, ⟨b, rfl, ?_⟩, Cs.one' rfl (.str b)⟩
      have := hw b.data.toList.length (by simp [DataW.weights])
      simpa using this
    · rename_i e hu
      split at hs
      case isFalse => cases hs
      rename_i h1
      obtain ⟨se, hse, rfl⟩ := Option.map_eq_some_iff.1 hs
      rcases DataW.trod_slice hu hd with ⟨rfl, _⟩ | ⟨a, len, cap, elems, rest, m', rfl, rfl, hx, _, hlc, hcm, hel, he, _, _⟩
      · refine ⟨by simp [h1], _, ⟨[], rfl, by simp, by simp, by simp⟩, Cs.one' rfl ?_⟩
        exact .sl none 0 0 _ [] (fun _ _ => .int .i64 0) rfl (Nat.le_refl _) (by simp) (by simp) (by simp) (by simp)
      · obtain ⟨rfl, _⟩ := Prod.mk.inj hx
        have hwa : ∀ x ∈ elems, Wt P e x.1 := fun x hx k hk => hw k (by
          simp only [DataW.weights, hu, List.mem_cons, List.mem_append]
          exact .inr (.inl (weightsAll_mem (List.mem_map_of_mem hx) hk)))
        have hbulk : (elems.length + rest.length) * P.bytesOf e ≤ reachBytes := hw _ (by simp [DataW.weights, hu])
        obtain ⟨rows, hrl, hr⟩ := list_choose len (fun i (l : List D) => ∃ cs, w.cells? 0 (a.add (i * P.cellsOf e)) (P.cellsOf e) = some cs ∧ cs.length = P.cellsOf e ∧ Ty se l ∧ Cs w cs l) (fun i hi => by
          have h2 := he i hi
          rw [List.getElem?_eq_getElem (by omega)] at h2
          obtain ⟨cs, h3, h4⟩ := Option.bind_eq_some_iff.1 h2
          obtain ⟨h5, l, h6, h7⟩ := opens n m' e se cs _ _ hse h4 (hwa _ (List.getElem_mem _))
          exact ⟨l, cs, h3, h5, h6, h7⟩)
        refine ⟨by simp [h1], _, ⟨rows, rfl, ?_, by omega, fun r hr' => ?_⟩, Cs.one' rfl ?_⟩
        · refine Nat.le_trans (Nat.mul_le_mul_right _ ?_) hbulk
          omega
        · obtain ⟨i, hi⟩ := List.getElem?_of_mem hr'
          obtain ⟨_, _, _, h6, _⟩ := hr i r hi
          exact h6
        · refine .sl (some a) len cap _ rows (fun i j => (w.cell? (a.add (i * P.cellsOf e + j))).getD (.int .i64 0)) hrl.symm hlc (fun r hr' => ?_) (fun r hr' d hd' => ?_) (fun i j r d hi hj => ?_) (fun i j r d hi hj => ?_)
          · obtain ⟨i, hi⟩ := List.getElem?_of_mem hr'
            obtain ⟨cs, _, h5, _, h7⟩ := hr i r hi
            rw [h7.len, h5]
          · obtain ⟨i, hi⟩ := List.getElem?_of_mem hr'
            obtain ⟨cs, _, h5, _, h7⟩ := hr i r hi
            exact h7.one d hd'
          · obtain ⟨cs, h4, h5, _, h7⟩ := hr i r hi
            obtain ⟨_, _, h8⟩ := World.cells?_some h4
            have hj' : j < P.cellsOf e := by
              have := (List.getElem?_eq_some_iff.1 hj).1
              rw [h7.len, h5] at this
              exact this
            have h9 := h8 j hj'
            rw [Addr.add_add, List.getElem?_eq_getElem (by omega)] at h9
            exact ⟨a, rfl, fun h => h, by rw [h9]; rfl⟩
          · obtain ⟨cs, h4, h5, _, h7⟩ := hr i r hi
            obtain ⟨_, _, h8⟩ := World.cells?_some h4
            have hj' : j < P.cellsOf e := by
              have := (List.getElem?_eq_some_iff.1 hj).1
              rw [h7.len, h5] at this
              exact this
            have h9 := h8 j hj'
            rw [Addr.add_add, List.getElem?_eq_getElem (by omega)] at h9
            rw [h9]
            exact h7.rep j _ d (List.getElem?_eq_getElem (by omega)) hj
    · rename_i fs hu
      obtain ⟨xs, m', rfl, hx, hcs, hxl, hx'⟩ := DataW.trod_struct hu hd
      obtain ⟨rfl, _⟩ := Prod.mk.inj hx
      refine opens_whole (opens n m') hs hcs (xs := xs) (fun i f hf => ?_) (fun i f x hf hx'' => ?_) (by simp [hxl])
      · obtain ⟨f', hf', rfl⟩ := List.getElem?_map .. ▸ hf |> Option.map_eq_some_iff.1
        exact hx' i f' (by simpa using hf')
      · intro k hk
        refine hw k ?_
        simp only [DataW.weights, hu]
        obtain ⟨f', hf', rfl⟩ := List.getElem?_map .. ▸ hf |> Option.map_eq_some_iff.1
        exact weightsEach_mem (i := i) (by rw [List.getElem?_map, hf']; rfl) (by rw [List.getElem?_map, hx'']; rfl) hk
    · rename_i k e hu
      obtain ⟨xs, m', rfl, hx, hcs, hxl, hx'⟩ := DataW.trod_array hu hd
      obtain ⟨rfl, _⟩ := Prod.mk.inj hx
      refine opens_whole (opens n m') hs hcs (xs := xs) (fun i f hf => ?_) (fun i f x hf hx'' => ?_) (by simp [hxl])
      · obtain ⟨f', hf', rfl⟩ := List.getElem?_map .. ▸ hf |> Option.map_eq_some_iff.1
        have hi := (List.getElem?_eq_some_iff.1 hf').1
        rw [List.getElem?_range (by simpa using hi)] at hf'
        obtain rfl := Option.some.inj hf'
        exact hx' i (by simpa using hi)
      · intro q hq
        refine hw q ?_
        simp only [DataW.weights, hu]
        obtain ⟨f', hf', rfl⟩ := List.getElem?_map .. ▸ hf |> Option.map_eq_some_iff.1
        exact weightsAll_mem (List.mem_map_of_mem (List.mem_of_getElem? hx'')) hq
    · cases hs
def argD : Sh → List D → D
  | .unit, l => .agg l
  | .cons _ _, l => .agg l
  | _, l => l.headD .nilp
theorem opens_val {n : Nat} {t : TypeId} {s : Sh} {v : Value} {d : DataW H} {ps : List MemPlace} {r : Reach} {b0 : Nat} (hs : shape P n t = some s) (hv : Value.okWide P w r b0 t v)
    (hd : DataW.Trod enc P w 0 (fun _ => true) true t v d ps) (hw : Wt P t d) : ∃ l, Ty s l ∧ RepD w noO v (argD s l) := by
  obtain ⟨m, hd⟩ := hd
  obtain ⟨hcs, l, ht, hc⟩ := opens n m t s _ d ps hs hd hw
  refine ⟨l, ht, ?_⟩
  cases n with
  | zero => cases hs
  | succ n =>
  have single : (∀ cs, v ≠ .agg cs) → argD s l = l.headD .nilp → l.length = 1 → RepD w noO v (argD s l) := fun hne he hl1 => by
    have hcells : v.cells.toList = [v] := by
      unfold Value.cells
      split
      · exact absurd rfl (hne _)
      · rfl
    rw [hcells] at hc
    match l, hl1 with
    | [x], _ =>
      rw [he]
      exact hc.rep 0 v x rfl rfl
  have whole : (∃ cs, v = .agg cs) → argD s l = .agg l → RepD w noO v (argD s l) := fun ⟨cs, hv'⟩ he => by
    subst hv'
    rw [he]
    exact .agg cs l (by have := hc.len; simpa [Value.cells] using this.symm) hc.one (fun i v d hv hd => hc.rep i v d (by simpa [Value.cells] using hv) hd)
  unfold shape at hs
  unfold Value.okWide at hv
  split at hs <;> rename_i hu <;> try (rw [hu] at hv; dsimp only at hv)
  · split at hs
    case isFalse => cases hs
    obtain rfl := Option.some.inj hs
    obtain ⟨b, rfl⟩ := ht
    exact single (fun cs he => by subst he; unfold Cell.okWide at hv; rw [hu] at hv; unfold Cell.ok at hv; rw [hu] at hv; exact hv) rfl rfl
  · split at hs
    case isFalse => cases hs
    obtain rfl := Option.some.inj hs
    obtain ⟨b, rfl, _⟩ := ht
    exact single (fun cs he => by subst he; unfold Cell.okWide at hv; rw [hu] at hv; unfold Cell.ok at hv; rw [hu] at hv; exact hv) rfl rfl
  · split at hs
    case isFalse => cases hs
    obtain rfl := Option.some.inj hs
    obtain ⟨b, rfl, _⟩ := ht
    exact single (fun cs he => by subst he; unfold Cell.okWide at hv; rw [hu] at hv; unfold Cell.ok at hv; rw [hu] at hv; exact hv) rfl rfl
  · split at hs
    case isFalse => cases hs
    obtain ⟨se, _, rfl⟩ := Option.map_eq_some_iff.1 hs
    obtain ⟨rows, rfl, _⟩ := ht
    exact single (fun cs he => by subst he; unfold Cell.okWide at hv; rw [hu] at hv; unfold Cell.ok at hv; rw [hu] at hv; exact hv) rfl rfl
  · obtain ⟨cs, hcs', _⟩ := hv
    refine whole ⟨cs, hcs'⟩ ?_
    unfold shWhole at hs
    obtain ⟨⟨s', o⟩, h1, h2⟩ := Option.bind_eq_some_iff.1 hs
    dsimp only at h2
    split at h2
    case isFalse => cases h2
    obtain rfl := Option.some.inj h2
    revert h1
    generalize (List.map _ _) = fs
    intro h1
    cases fs with
    | nil => simp only [shParts, Option.some.injEq, Prod.mk.injEq] at h1; obtain ⟨rfl, _⟩ := h1; rfl
    | cons f fs =>
      unfold shParts at h1
      split at h1
      case isFalse => cases h1
      obtain ⟨s1, _, h2⟩ := Option.bind_eq_some_iff.1 h1
      obtain ⟨⟨s2, o2⟩, _, h4⟩ := Option.map_eq_some_iff.1 h2
      obtain ⟨rfl, rfl⟩ := Prod.mk.inj h4
      rfl
  · obtain ⟨cs, hcs', _⟩ := hv
    refine whole ⟨cs, hcs'⟩ ?_
    unfold shWhole at hs
    obtain ⟨⟨s', o⟩, h1, h2⟩ := Option.bind_eq_some_iff.1 hs
    dsimp only at h2
    split at h2
    case isFalse => cases h2
    obtain rfl := Option.some.inj h2
    revert h1
    generalize (List.map _ _) = fs
    intro h1
    cases fs with
    | nil => simp only [shParts, Option.some.injEq, Prod.mk.injEq] at h1; obtain ⟨rfl, _⟩ := h1; rfl
    | cons f fs =>
      unfold shParts at h1
      split at h1
      case isFalse => cases h1
      obtain ⟨s1, _, h2⟩ := Option.bind_eq_some_iff.1 h1
      obtain ⟨⟨s2, o2⟩, _, h4⟩ := Option.map_eq_some_iff.1 h2
      obtain ⟨rfl, rfl⟩ := Prod.mk.inj h4
      rfl
  · cases hs
def Tys : List Sh → List (List D) → Prop
  | [], ls => ls = []
  | s :: ss, ls => ∃ l ls', ls = l :: ls' ∧ Ty s l ∧ Tys ss ls'
def argsOf : List Sh → List (List D) → List AV
  | s :: ss, l :: ls => .d (argD s l) :: argsOf ss ls
  | _, _ => []
def k0 : Kap := fun _ => none
theorem HS.start (w : World) : HS k0 w [] := ⟨List.nodup_nil, fun id o h => by simp at h, fun id id' o o' b c c' h => by simp at h, 0, fun _ _ => rfl⟩
theorem own_start (b : Nat) : ¬ Own k0 [] b := fun ⟨_, _, _, h, _⟩ => by simp at h
theorem opens_all {n : Nat} : ∀ (ts : List TypeId) (ss : List Sh) (vs : List Value) (ds : List (DataW H)) (ps : List MemPlace), ts.map (shape P n) = ss.map some →
    DataW.TrodAll enc P w 0 (fun _ => true) true ts vs ds ps → (∀ k ∈ DataW.weightsEach P ts ds, k ≤ reachBytes) → (∀ (j : Nat) t v, ts[j]? = some t → vs[j]? = some v → Value.okWide P w .any 0 t v ∨ ∃ r b, Value.okWide P w r b t v) →
    ∃ ls, Tys ss ls ∧ vs.length = (argsOf ss ls).length ∧ ∀ (i : Nat) (v : Value) (x : AV), vs[i]? = some v → (argsOf ss ls)[i]? = some x → RepA k0 w (Own k0 []) v x
  | [], ss, vs, ds, ps, hs, hd, _, _ => by
    obtain ⟨rfl, rfl, rfl⟩ := ChangeShapes.trodAll_nil hd
    cases ss with
    | nil => exact ⟨[], rfl, rfl, fun i v x h => by simp at h⟩
    | cons s ss => simp at hs
  | t :: ts, ss, vs, ds, ps, hs, hd, hw, hv => by
    obtain ⟨v, vs', d, ds', p, q, rfl, rfl, rfl, h1, h2⟩ := ChangeShapes.trodAll_cons hd
    cases ss with
    | nil => simp at hs
    | cons s ss =>
    simp only [List.map_cons, List.cons.injEq] at hs
    obtain ⟨ls, h3, h4, h5⟩ := opens_all ts ss vs' ds' q hs.2 h2 (fun k hk => hw k (by simp only [DataW.weightsEach, List.mem_append]; exact .inr hk)) (fun j t' v' hj hv' => hv (j + 1) t' v' (by simpa using hj) (by simpa using hv'))
    have hok : ∃ r b, Value.okWide P w r b t v := by
      rcases hv 0 t v rfl rfl with h | h
      · exact ⟨_, _, h⟩
      · exact h
    obtain ⟨r, b, hok⟩ := hok
    obtain ⟨l, h6, h7⟩ := opens_val hs.1 hok h1 (fun k hk => hw k (by simp only [DataW.weightsEach, List.mem_append]; exact .inl hk))
    refine ⟨l :: ls, ⟨l, ls, rfl, h6, h3⟩, by simp [argsOf, h4], fun i v' x hi hx => ?_⟩
    cases i with
    | zero =>
      simp [argsOf] at hi hx
      subst hi; subst hx
      exact .d (h7.mono (fun b _ h => own_start b h) (fun _ _ _ => rfl))
    | succ i => exact h5 i v' x (by simpa using hi) (by simpa [argsOf] using hx)
theorem Ext.below {κ' : Kap} {hs' : Hp} {w' : World} (e : Ext k0 [] w κ' hs' w') : RowKit.Below w.heap.size w w' :=
  ⟨e.os, e.tape, e.output, e.size, fun b hb => e.same b hb (own_start b)⟩
theorem trodAll_again (hl : laidOutB P = true) {w' : World} (hb : RowKit.Below w.heap.size w w') : ∀ {ts : List TypeId} {vs : List Value} {ds : List (DataW H)} {ps : List MemPlace}, (∀ t ∈ ts, P.readableRec t = true ∧ t < P.types.size) →
    (∀ x ∈ ps, x.block < w.heap.size) → DataW.TrodAll enc P w 0 (fun _ => true) true ts vs ds ps → DataW.TrodAll enc P w' 0 (fun b => decide (b < w.heap.size)) true ts vs ds ps
  | [], vs, ds, ps, _, _, h => by
    obtain ⟨rfl, rfl, rfl⟩ := ChangeShapes.trodAll_nil h
    rfl
  | t :: ts, vs, ds, ps, hr, hlt, h => by
    obtain ⟨v, vs', d, ds', p, q, rfl, rfl, rfl, h1, h2⟩ := ChangeShapes.trodAll_cons h
    have h3 := hr t (by simp)
    exact ⟨p, q, RowKit.Below.trod hl h3.1 h3.2 h1 hb (fun x hx => hlt x (by simp [hx])), trodAll_again hl hb (fun t ht => hr t (by simp [ht])) (fun x hx => hlt x (by simp [hx])) h2, rfl⟩
theorem law {C : Checked} {os : Os} {f : FuncId} {fn : Func} {s : ChangeSpec} {conds : List PathCond} (n : Nat) (ss : List Sh) (own : ownKnob C.prog.godebug = none) (started : os.Started) (noInit : C.prog.inits.idxOf? f = none) (hfn : C.prog.funcs[f]? = some fn)
    (witness : ∃ (w : World) (tape : Tape) (i : Input), w.os = os ∧ (w.forCall tape i).Shaped C.prog ∧ i.vars = [] ∧ Input.okWide C.prog (w.forCall tape i) .any w.heap.size f i ∧
      s.pre6 enc C.prog fn conds false (w.forCall tape i).memory i.args ∧ ({} : Assume).holds C.prog (lone (Frame.enter C.prog f i.args .normal) [] (w.forCall tape i)))
    (hl : laidOutB C.prog = true) (hts : fn.params.toList.all (fun t => C.prog.readableRec t && decide (t < C.prog.types.size)) = true) (tb : TypeId) (hub : C.prog.underlying tb = some .bool) (hres : fn.resultTypes = #[tb])
    (hvars : s.vars = []) (hs : fn.params.toList.map (shape C.prog n) = ss.map some)
    (hspec : ∀ ds : List (DataW H), ds.length = ss.length → s.fn H ds = { results := [.lit (.bool true)], args := ds })
    (contract : ∀ ls, Tys ss ls → AC C.prog f (argsOf ss ls) [] (fun r _ => r = .d (.bool true))) :
    ReturnsInHanded {} C os f .any (s.pre6 enc C.prog fn conds false) (s.post enc C.prog fn false true false false) := by
  refine returnsInHanded_of_change_sized own started noInit hfn witness ?_
  intro W base args ds gs before hval hW hcnd hsz _
  have hW' := hW
  obtain ⟨p, q, hA, hV, rfl, hfz, hnd⟩ := hW
  rw [hvars] at hV
  obtain ⟨rfl, rfl⟩ : gs = [] ∧ q = [] := by
    cases gs with
    | nil => exact ⟨rfl, hV⟩
    | cons g gs => exact absurd hV (by unfold DataW.TrodVars; exact id)
  have hvt : s.plain.varTypes C.prog = [] := by simp [DataSpec.varTypes, ChangeSpec.plain, hvars]
  rw [hvt, List.append_nil, List.append_nil, List.all_eq_true] at hsz
  obtain ⟨ls, h1, h2, h3⟩ := opens_all fn.params.toList ss args.toList ds p hs hA (fun k hk => by simpa using hsz k hk) (fun j t v hj hv => .inr ⟨_, _, hval j t v (by simpa using hj) (by simpa using hv)⟩)
  have hdl : ds.length = ss.length := by
    have h4 := (trodAll_length hA).2
    have h5 := congrArg List.length hs
    simp at h5 h4
    omega
  refine (contract ls h1 k0 args W (HS.start W) (by simpa using h2) (fun i v x hi hx => h3 i v x (by simpa using hi) hx)).mono fun e W' h => ?_
  obtain ⟨κ', hs', v, x, rfl, _, he, hr, rfl⟩ := h
  cases hr with
  | d hr =>
  cases hr
  have bel := he.below
  refine ⟨_, rfl, ds, [], p ++ [], [], p, [], hW', ?_, ?_, ?_, bel.frame _, fun h => by cases h⟩
  · rw [List.append_nil, hspec ds hdl, hres]
    exact ChangeShapes.trodAll_mk1 (RowKit.shut_bool hub true)
  · rw [List.append_nil, hspec ds hdl]
    have hlt := hW'.lt
    exact trodAll_again hl bel (fun t ht => by simpa using List.all_eq_true.1 hts t ht) (fun x hx => hlt x (by simp [hx])) hA
  · rw [hvars, List.append_nil, hspec ds hdl]
    rfl
end
theorem Ty.rows {α : Type} {e : Sh} {sz by' : Nat} {l : List D} (f : α → List D) (h : Ty (.sl e sz by') l) (hf : ∀ r, Ty e r → ∃ x, r = f x) : ∃ xs : List α, l = [.sl sz (xs.map f)] ∧ xs.length * by' ≤ reachBytes := by
  obtain ⟨rows, rfl, h1, _, h2⟩ := h
  have key : ∀ rows : List (List D), (∀ r ∈ rows, Ty e r) → ∃ xs : List α, rows = xs.map f := by
    intro rows
    induction rows with
    | nil => exact fun _ => ⟨[], rfl⟩
    | cons r rows ih =>
      intro h
      obtain ⟨x, rfl⟩ := hf r (h r (by simp))
      obtain ⟨xs, rfl⟩ := ih fun r hr => h r (by simp [hr])
      exact ⟨x :: xs, rfl⟩
  obtain ⟨xs, rfl⟩ := key rows h2
  exact ⟨xs, rfl, by simpa using h1⟩
theorem Ty.rowsP {α : Type} {e : Sh} {sz by' : Nat} {l : List D} (f : α → List D) (p : α → Prop) (h : Ty (.sl e sz by') l) (hf : ∀ r, Ty e r → ∃ x, r = f x ∧ p x) :
    ∃ xs : List α, l = [.sl sz (xs.map f)] ∧ xs.length * by' ≤ reachBytes ∧ ∀ x ∈ xs, p x := by
  obtain ⟨rows, rfl, h1, _, h2⟩ := h
  have key : ∀ rows : List (List D), (∀ r ∈ rows, Ty e r) → ∃ xs : List α, rows = xs.map f ∧ ∀ x ∈ xs, p x := by
    intro rows
    induction rows with
    | nil => exact fun _ => ⟨[], rfl, by simp⟩
    | cons r rows ih =>
      intro h
      obtain ⟨x, rfl, hx⟩ := hf r (h r (by simp))
      obtain ⟨xs, rfl, hxs⟩ := ih fun r hr => h r (by simp [hr])
      exact ⟨x :: xs, rfl, fun y hy => by
        rcases List.mem_cons.1 hy with rfl | hy
        · exact hx
        · exact hxs y hy⟩
  obtain ⟨xs, rfl, hp⟩ := key rows h2
  exact ⟨xs, rfl, by simpa using h1, hp⟩
end Go.Proofs.YtaegeaajhbfkgaaGreatDoorA
/- Owned lists that a call hands back, read as data; lists changed in place from the front; R.Cut's remainder. -/
namespace Go.Proofs.YtaegeaajhbfkgaaGreatDoorA
open Go
set_option linter.unusedVariables false
set_option linter.unusedSimpArgs false
theorem vs_frz {κ : Kap} {w : World} {hs : Hp} {k id n sz : Nat} {rows : List (List D)} {u : Value} (h : HS κ w hs) (hk : hs[k]? = some (id, .lst sz rows)) (hv : RepA κ w (Own κ hs) u (.vs id 0 n sz)) (hn : n = rows.length) :
    RepA κ w (Own κ (hs.eraseIdx k)) u (.d (.sl sz rows)) := by
  obtain ⟨h1, e⟩ := h.sublist (List.eraseIdx_sublist hs k)
  have hmem : (id, HO.lst sz rows) ∈ hs := List.mem_of_getElem? hk
  cases hv with
  | vs ob cap p _ _ _ _ hkk hle hp =>
    obtain ⟨x, hx, hok⟩ := h.ok id _ hmem
    rw [hkk] at hx
    obtain rfl := Option.some.inj hx
    obtain ⟨g0, _, g1, g2, g3, g4, g5⟩ := hok
    have hnot : ∀ b, ob = some b → ¬ Own κ (hs.eraseIdx k) b := by
      rintro b rfl ⟨id', o', c', hi', hk'⟩
      have : id' = id := h.inj id' id o' _ b c' cap ((List.eraseIdx_sublist hs k).subset hi') hmem hk' hkk
      subst this
      have hnd := h.nodup
      have h3 := ((erase_perm hs k _ hk).map (·.1)).nodup_iff.2 hnd
      rw [List.map_cons, List.nodup_cons] at h3
      exact h3.1 (List.mem_map.2 ⟨_, hi', rfl⟩)
    cases ob with
    | none =>
      have hc0 : cap = 0 := g4 rfl
      subst hc0
      have hr0 : rows = [] := List.eq_nil_of_length_eq_zero (by omega)
      subst hr0
      exact .d (.sl _ _ _ _ _ (fun _ _ => undef) hn (by simp at hn; omega) (by simp) (by simp) (by simp) (by simp))
    | some b =>
      obtain ⟨cs, T, hw, hsz, hr⟩ := g5 b rfl
      have hpp : rows ≠ [] → p = some ⟨b, 0, none⟩ := fun hne => by
        have h0 : 0 < rows.length := List.length_pos_iff.2 hne
        have := hp (by omega)
        simpa using this
      refine .d (.sl p n (cap - 0) sz rows (fun i j => cs.getD (i * sz + j) undef) hn (by omega) g2 g3 (fun i j r d hi hj => ?_) (fun i j r d hi hj => ?_))
      · obtain ⟨v, hv, _⟩ := hr i j r d hi hj
        have hne : rows ≠ [] := by rintro rfl; simp at hi
        refine ⟨_, hpp hne, hnot b rfl, ?_⟩
        have hadd : (⟨b, 0, none⟩ : Addr).add (i * sz + j) = ⟨b, i * sz + j, none⟩ := by unfold Addr.add; split <;> simp_all
        rw [hadd]
        simp [World.cell?, hw, hv]
      · obtain ⟨v, hv, hd⟩ := hr i j r d hi hj
        have : cs.getD (i * sz + j) undef = v := by simp [hv]
        rw [this]
        exact hd.mono (fun b _ ho => e.own b ‹_› ho) (fun _ _ _ => rfl)
inductive Fz (id sz : Nat) (rows : List (List D)) : AV → AV → Prop
  | same (x) : Fz id sz rows x x
  | vs {n} (hn : n = rows.length) : Fz id sz rows (.vs id 0 n sz) (.d (.sl sz rows))
theorem Fz.rep {κ : Kap} {w : World} {hs : Hp} {id sz : Nat} {rows : List (List D)} {v : Value} {x y : AV} (f : Fz id sz rows x y) (h : HS κ w ((id, .lst sz rows) :: hs)) (hv : RepA κ w (Own κ ((id, .lst sz rows) :: hs)) v x) : RepA κ w (Own κ hs) v y := by
  cases f with
  | same x => exact hv.ext (h.sublist (List.sublist_cons_self _ _)).2
  | vs hn => exact vs_frz (k := 0) h rfl hv hn
theorem AC.frz {P : Program} {f : FuncId} {args : List AV} {hs : Hp} {sz : Nat} {rows : List (List D)} {v : AV} (h : AC P f args hs (fun r h' => ∃ id, h' = (id, .lst sz rows) :: hs ∧ Fz id sz rows r v)) :
    AC P f args hs (fun r h' => r = v ∧ h' = hs) := fun κ vals w h1 h2 h3 => (h κ vals w h1 h2 h3).mono fun e w' hh => by
  obtain ⟨κ', hs', u, x, he, h4, h5, h6, id, rfl, hz⟩ := hh
  obtain ⟨h7, h8⟩ := h4.sublist (List.sublist_cons_self _ _)
  exact ⟨κ', hs, u, v, he, h7, h5.trans h8, hz.rep h4 h6, rfl, rfl⟩
section
variable {α : Type} (f : α → α)
variable {β : Type} (g : α → β)
end
end Go.Proofs.YtaegeaajhbfkgaaGreatDoorA
/- A region that draws its order and in which some operations change the objects: these come in the text's order; the others may come before or behind each of them. -/
namespace Go.Proofs.YtaegeaajhbfkgaaGreatDoorA
open Go
set_option linter.unusedVariables false
set_option linter.unusedSimpArgs false
section drawT
variable {P : Program} {N : Nm} {ops : Array Oper}
def freeM (ops : Array Oper) (L : List Nat) : Nat → Nat
  | 0 => 0
  | m + 1 => match !L.contains m && (match ops[m]? with | some o => o.after.all (fun e => !Region.binds .any e || (freeM ops L m).testBit e.on) | none => false) with
    | true => freeM ops L m ||| 2 ^ m
    | false => freeM ops L m
def freeB (ops : Array Oper) (L : List Nat) (n j : Nat) : Bool := (freeM ops L n).testBit j
theorem freeM_bit (L : List Nat) : ∀ (n j : Nat), (freeM ops L n).testBit j = (decide (j < n) && (!L.contains j && (match ops[j]? with | some o => o.after.all (fun e => !Region.binds .any e || (freeM ops L j).testBit e.on) | none => false)))
  | 0, j => by simp [freeM]
  | m + 1, j => by
    have ih := freeM_bit L m j
    by_cases hj : j = m
    · subst hj
      have h0 : (freeM ops L j).testBit j = false := by rw [ih]; simp
      rw [freeM]
      split
      · rename_i hc
        rw [Nat.testBit_or, h0, hc, Nat.testBit_two_pow]
        simp
      · rename_i hc
        rw [h0, hc]; simp
    · have h1 : (freeM ops L (m + 1)).testBit j = (freeM ops L m).testBit j := by
        rw [freeM]
        split
        · rw [Nat.testBit_or, Nat.testBit_two_pow]
          have : decide (m = j) = false := decide_eq_false fun h => hj h.symm
          rw [this, Bool.or_false]
        · rfl
      rw [h1, ih]
      have : decide (j < m + 1) = decide (j < m) := by
        by_cases h : j < m
        · simp [h]; omega
        · simp [h]; omega
      rw [this]
theorem free_listed {h : Nat} (ok : DrawOk h ops) {L : List Nat} {listed : Array Bool} (hdep : ∀ i o, ops[i]? = some o → listed.getD i false = true → ∀ e ∈ o.after, Region.binds .any e = true → listed.getD e.on false = true)
    (hL : ∀ p ∈ L, listed.getD p false = false) : ∀ (j n : Nat), j < n → j < ops.size → listed.getD j false = true → freeB ops L n j = true := by
  intro j
  induction j using Nat.strongRecOn with
  | _ j ih =>
    intro n hn hj hl
    have ho : ops[j]? = some ops[j] := Array.getElem?_eq_getElem hj
    unfold freeB
    rw [freeM_bit]
    simp only [ho, Bool.and_eq_true, Bool.not_eq_true', decide_eq_true_eq]
    refine ⟨hn, ?_, ?_⟩
    · cases hc : L.contains j with
      | false => rfl
      | true => have := hL j (by simpa using hc); rw [hl] at this; cases this
    · rw [Array.all_eq_true_iff_forall_mem]
      intro e he
      cases hb : Region.binds .any e with
      | false => rfl
      | true =>
        have hlt := ok.back j _ ho e he hb
        simp only [Bool.not_true, Bool.false_or]
        exact ih e.on hlt j hlt (by omega) (hdep j _ ho hl e he hb)
theorem free_ready {h : Nat} (ok : DrawOk h ops) {L : List Nat} {listed : Array Bool} (hdep : ∀ i o, ops[i]? = some o → listed.getD i false = true → ∀ e ∈ o.after, Region.binds .any e = true → listed.getD e.on false = true)
    (hL : ∀ p ∈ L, listed.getD p false = false) {j n : Nat} (hn : j < n) (hj : j ∈ Region.ready .any ops listed) (hjL : j ∉ L) : freeB ops L n j = true := by
  obtain ⟨_, o, ho, hall⟩ := mem_ready.1 hj
  unfold freeB
  rw [freeM_bit]
  simp only [ho, Bool.and_eq_true, Bool.not_eq_true', decide_eq_true_eq]
  refine ⟨hn, by simpa using hjL, ?_⟩
  rw [Array.all_eq_true_iff_forall_mem]
  intro e he
  cases hb : Region.binds .any e with
  | false => rfl
  | true =>
    have hlt := ok.back j _ ho e he hb
    simp only [Bool.not_true, Bool.false_or]
    exact free_listed ok hdep hL e.on j hlt (by have := (Array.getElem?_eq_some_iff.1 ho).1; omega) (hall e he hb)
inductive St where
  | did | old | new | now | later
  deriving DecidableEq
def stB (ops : Array Oper) (did L : List Nat) (prev : Option (List Nat)) (k : Nat) : St :=
  if did.contains k then .did
  else if freeB ops L ops.size k then (match prev with | some L' => if freeB ops L' ops.size k then .old else .new | none => .new)
  else if L.head? = some k then .now else .later
def presB (s : St) : Bool := match s with | .did | .old | .new => true | _ => false
inductive PC (P : Program) (N : Nm) (ops : Array Oper) (hs : Hp) (st : Nat → St) (Rp : AV → Hp → Prop) : Nat → List Oper → List AV → Env → (List AV → Env → Prop) → Prop
  | nil {k σ} {R : List AV → Env → Prop} (h : R [] σ) : PC P N ops hs st Rp k [] [] σ R
  | did {k o l v prev σ} {R : List AV → Env → Prop} (hst : st k = .did) (ht : PC P N ops hs st Rp (k + 1) l prev (putE o.dst v σ) (fun vs => R (v :: vs))) : PC P N ops hs st Rp k (o :: l) (v :: prev) σ R
  | later {k o l v prev σ} {R : List AV → Env → Prop} (hst : st k = .later) (ht : PC P N ops hs st Rp (k + 1) l prev σ (fun vs => R (v :: vs))) : PC P N ops hs st Rp k (o :: l) (v :: prev) σ R
  | old {k o l v prev σ} {R : List AV → Env → Prop} (hst : st k = .old) (h : GQ P N ops (restr σ (o.looksAt ops)) hs o v) (hd : dstOk N o.dst = true)
      (ht : PC P N ops hs st Rp (k + 1) l prev (putE o.dst v σ) (fun vs => R (v :: vs))) : PC P N ops hs st Rp k (o :: l) (v :: prev) σ R
  | new {k o l v' prev σ} {R : List AV → Env → Prop} (v : AV) (hst : st k = .new) (h : GQ P N ops (restr σ (o.looksAt ops)) hs o v) (hd : dstOk N o.dst = true)
      (ht : PC P N ops hs st Rp (k + 1) l prev (putE o.dst v σ) (fun vs => R (v :: vs))) : PC P N ops hs st Rp k (o :: l) (v' :: prev) σ R
  | now {k o l v prev σ} {R : List AV → Env → Prop} (hst : st k = .now) (hg : o.guard = none) (hl : ∀ τ, Loud P N (restr σ (o.looksAt ops) ++ τ) hs o (fun σ' hs' => ∃ v, σ' = putE o.dst v (restr σ (o.looksAt ops) ++ τ) ∧ Rp v hs'))
      (ht : PC P N ops hs st Rp (k + 1) l prev σ (fun vs => R (v :: vs))) : PC P N ops hs st Rp k (o :: l) (v :: prev) σ R
def at0 (l : List AV) (i : Nat) : AV := l.getD i .any
def depM (ops : Array Oper) (m : Nat) : Nat := match ops[m]? with | some o => o.after.foldl (fun r e => bif Region.binds .any e then r ||| 2 ^ e.on else r) 0 | none => 0
def waitM (ops : Array Oper) : Nat → Nat → Nat
  | 0, r => r
  | m + 1, r => waitM ops m (bif r.testBit m then r ||| depM ops m else r)
def predsB (ops : Array Oper) (p : Nat) : List Nat := (List.range ops.size).filter fun i => (waitM ops ops.size (2 ^ p)).testBit i
def stOk (ops : Array Oper) (h : Nat) (did L : List Nat) (prev : Option (List Nat)) (sts : List St) : Bool := (List.range h).all fun k => decide (stB ops did L prev k = sts.getD k .later)
def DT (P : Program) (N : Nm) (ops : Array Oper) (h : Nat) (σ : Env) (R : Env → Hp → Prop) : List Nat → List Nat → Option (List Nat) → List AV → Hp → Prop
  | [], did, prev, vals, hs => ∃ sts : List St, stOk ops h did [] prev sts = true ∧ PC P N ops hs (fun k => sts.getD k .later) (fun _ _ => False) 0 (ops.toList.take h) vals σ (fun _ σ' => R σ' hs)
  | p :: ps, did, prev, vals, hs => ∃ (Rp : AV → Hp → Prop) (sts : List St), (stOk ops h did (p :: ps) prev sts && (ps.all (fun q => !freeB ops [p] ops.size q && Nat.blt q h) && Nat.blt p h)) = true ∧
      PC P N ops hs (fun k => sts.getD k .later) Rp 0 (ops.toList.take h) vals σ (fun vs _ => ∀ v hs', Rp v hs' → DT P N ops h σ R ps (predsB ops p ++ p :: did) (some (p :: ps)) (vs.set p v) hs')
theorem PC.congr {hs : Hp} {st st' : Nat → St} {Rp : AV → Hp → Prop} {k : Nat} {l : List Oper} {prev : List AV} {σ : Env} {R : List AV → Env → Prop} (c : PC P N ops hs st Rp k l prev σ R) :
    (∀ j, k ≤ j → j < k + l.length → st' j = st j) → PC P N ops hs st' Rp k l prev σ R := by
  induction c with
  | nil h => exact fun _ => .nil h
  | did hst _ ih => exact fun e => .did ((e _ (Nat.le_refl _) (by simp)).trans hst) (ih fun j h1 h2 => e j (by omega) (by simp; omega))
  | later hst _ ih => exact fun e => .later ((e _ (Nat.le_refl _) (by simp)).trans hst) (ih fun j h1 h2 => e j (by omega) (by simp; omega))
  | old hst h hd _ ih => exact fun e => .old ((e _ (Nat.le_refl _) (by simp)).trans hst) h hd (ih fun j h1 h2 => e j (by omega) (by simp; omega))
  | new v hst h hd _ ih => exact fun e => .new v ((e _ (Nat.le_refl _) (by simp)).trans hst) h hd (ih fun j h1 h2 => e j (by omega) (by simp; omega))
  | now hst hg hl _ ih => exact fun e => .now ((e _ (Nat.le_refl _) (by simp)).trans hst) hg hl (ih fun j h1 h2 => e j (by omega) (by simp; omega))
theorem stOk_spec {h : Nat} {did L : List Nat} {prev : Option (List Nat)} {sts : List St} (hk : stOk ops h did L prev sts = true) {k : Nat} (h1 : k < h) : stB ops did L prev k = sts.getD k .later := by
  simp only [stOk, List.all_eq_true, List.mem_range, decide_eq_true_eq] at hk
  exact hk k h1
structure PV (P : Program) (N : Nm) (ops : Array Oper) (hs : Hp) (st : Nat → St) (Rp : AV → Hp → Prop) (k : Nat) (l : List Oper) (prev : List AV) (σ₀ : Env) (v₀ : Nat → AV) (R : List AV → Env → Prop) (vs : List AV) (vals : Nat → AV) : Prop where
  len : vs.length = l.length
  plen : prev.length = l.length
  same : ∀ j, j < l.length → st (k + j) ≠ .new → at0 vs j = at0 prev j
  low : ∀ i, i < k → vals i = v₀ i
  high : ∀ j, vals (k + j) = at0 vs j
  quiet : ∀ (j : Nat) o, l[j]? = some o → st (k + j) = .new ∨ st (k + j) = .old → GQ P N ops (restr (envL σ₀ ops vals (fun i => presB (st i)) (k + j)) (o.looksAt ops)) hs o (vals (k + j)) ∧ dstOk N o.dst = true
  loud : ∀ (j : Nat) o, l[j]? = some o → st (k + j) = .now → o.guard = none ∧ ∀ τ, Loud P N (restr (envL σ₀ ops vals (fun i => presB (st i)) (k + j)) (o.looksAt ops) ++ τ) hs o (fun σ' hs' => ∃ v, σ' = putE o.dst v (restr (envL σ₀ ops vals (fun i => presB (st i)) (k + j)) (o.looksAt ops) ++ τ) ∧ Rp v hs')
  fin : R vs (envL σ₀ ops vals (fun i => presB (st i)) (k + l.length))
theorem PC.vals {hs : Hp} {st : Nat → St} {Rp : AV → Hp → Prop} {k : Nat} {l : List Oper} {prev : List AV} {σ : Env} {R : List AV → Env → Prop} (c : PC P N ops hs st Rp k l prev σ R) :
    ∀ (σ₀ : Env) (v₀ : Nat → AV), (∀ (j : Nat) o, l[j]? = some o → ops[k + j]? = some o) → σ = envL σ₀ ops v₀ (fun i => presB (st i)) k →
    ∃ vs vals, PV P N ops hs st Rp k l prev σ₀ v₀ R vs vals := by
  have step : ∀ {k : Nat} {o : Oper} {l : List Oper} {v v' : AV} {prev : List AV} {σ σ' : Env} {R : List AV → Env → Prop} (σ₀ : Env) (v₀ : Nat → AV),
      (∀ (j : Nat) o', (o :: l)[j]? = some o' → ops[k + j]? = some o') → σ = envL σ₀ ops v₀ (fun i => presB (st i)) k → (st k ≠ .new → v = v') →
      σ' = (if presB (st k) = true then putE o.dst v σ else σ) →
      (st k = .new ∨ st k = .old → GQ P N ops (restr σ (o.looksAt ops)) hs o v ∧ dstOk N o.dst = true) →
      (st k = .now → o.guard = none ∧ ∀ τ, Loud P N (restr σ (o.looksAt ops) ++ τ) hs o (fun σ' hs' => ∃ v, σ' = putE o.dst v (restr σ (o.looksAt ops) ++ τ) ∧ Rp v hs')) →
      (∀ (σ₀ : Env) (v₀ : Nat → AV), (∀ (j : Nat) o, l[j]? = some o → ops[k + 1 + j]? = some o) → σ' = envL σ₀ ops v₀ (fun i => presB (st i)) (k + 1) →
        ∃ vs vals, PV P N ops hs st Rp (k + 1) l prev σ₀ v₀ (fun vs => R (v :: vs)) vs vals) →
      ∃ vs vals, PV P N ops hs st Rp k (o :: l) (v' :: prev) σ₀ v₀ R vs vals := by
    intro k o l v v' prev σ σ' R σ₀ v₀ hops hσ hv hσ' hG hN ih
    have hk : ops[k]? = some o := hops 0 o rfl
    let v₁ : Nat → AV := fun i => if i = k then v else v₀ i
    have e1 : envL σ₀ ops v₁ (fun i => presB (st i)) k = σ := by rw [hσ]; exact envL_vals _ _ _ _ _ fun i hi => by simp [v₁, Nat.ne_of_lt hi]
    obtain ⟨vs, vals, g⟩ := ih σ₀ v₁ (fun j o' hj => by have := hops (j + 1) o' (by simpa using hj); rwa [show k + 1 + j = k + (j + 1) by omega]) (by
      rw [hσ']
      simp only [envL]
      rw [e1, show dstAt ops k = o.dst from by simp [dstAt, hk]]
      simp [v₁])
    have e2 : envL σ₀ ops vals (fun i => presB (st i)) k = σ := by
      rw [← e1]; exact envL_vals _ _ _ _ _ fun i hi => g.low i (by omega)
    have hvk : vals k = v := by rw [g.low k (by omega)]; simp [v₁]
    have hs1 : ∀ j, k + 1 + j = k + (j + 1) := fun j => by omega
    refine ⟨v :: vs, vals, by simp [g.len], by simp [g.plen], fun j hj hn => ?_, fun i hi => by rw [g.low i (by omega)]; simp [v₁, Nat.ne_of_lt hi], fun j => ?_, fun j o' hj hst => ?_, fun j o' hj hst => ?_, ?_⟩
    · cases j with
      | zero => simp only [at0, List.getD_cons_zero]; exact hv hn
      | succ j =>
        have := g.same j (by simpa using hj) (by rwa [hs1])
        simpa [at0] using this
    · cases j with
      | zero => simpa [at0] using hvk
      | succ j => have := g.high j; rw [hs1] at this; simpa [at0] using this
    · cases j with
      | zero =>
        simp at hj; subst hj
        rw [Nat.add_zero, e2, hvk]
        exact hG hst
      | succ j =>
        have := g.quiet j o' (by simpa using hj) (by rwa [hs1])
        rwa [hs1] at this
    · cases j with
      | zero =>
        simp at hj; subst hj
        rw [Nat.add_zero, e2]
        exact hN hst
      | succ j =>
        have := g.loud j o' (by simpa using hj) (by rwa [hs1])
        rwa [hs1] at this
    · rw [List.length_cons, show k + (l.length + 1) = k + 1 + l.length by omega]; exact g.fin
  induction c with
  | @nil k σ R h =>
    intro σ₀ v₀ _ he
    have : envL σ₀ ops (fun i => if i < k then v₀ i else .any) (fun i => presB (st i)) k = envL σ₀ ops v₀ (fun i => presB (st i)) k := envL_vals _ _ _ _ _ fun i hi => if_pos hi
    refine ⟨[], fun i => if i < k then v₀ i else .any, rfl, rfl, by simp, fun i hi => if_pos hi, fun j => by simp only [at0, List.getD_nil]; exact if_neg (by omega), by simp, by simp, ?_⟩
    simp only [List.length_nil, Nat.add_zero]
    rw [this, ← he]; exact h
  | did hst ht ih => exact fun σ₀ v₀ hops hσ => step σ₀ v₀ hops hσ (fun _ => rfl) (by simp [hst, presB]) (fun h => by rcases h with h | h <;> rw [hst] at h <;> cases h) (fun h => by rw [hst] at h; cases h) ih
  | later hst ht ih => exact fun σ₀ v₀ hops hσ => step σ₀ v₀ hops hσ (fun _ => rfl) (by simp [hst, presB]) (fun h => by rcases h with h | h <;> rw [hst] at h <;> cases h) (fun h => by rw [hst] at h; cases h) ih
  | old hst h hd ht ih => exact fun σ₀ v₀ hops hσ => step σ₀ v₀ hops hσ (fun _ => rfl) (by simp [hst, presB]) (fun _ => ⟨h, hd⟩) (fun h => by rw [hst] at h; cases h) ih
  | new v hst h hd ht ih => exact fun σ₀ v₀ hops hσ => step σ₀ v₀ hops hσ (fun hn => absurd hst hn) (by simp [hst, presB]) (fun _ => ⟨h, hd⟩) (fun h => by rw [hst] at h; cases h) ih
  | now hst hg hl ht ih => exact fun σ₀ v₀ hops hσ => step σ₀ v₀ hops hσ (fun _ => rfl) (by simp [hst, presB]) (fun h => by rcases h with h | h <;> rw [hst] at h <;> cases h) (fun _ => ⟨hg, hl⟩) ih
theorem envL_vals' (σ : Env) (vals vals' : Nat → AV) (S : Nat → Bool) : ∀ n, (∀ i, i < n → S i = true → vals i = vals' i) → envL σ ops vals S n = envL σ ops vals' S n
  | 0, _ => rfl
  | n + 1, h => by
    simp only [envL]
    rw [envL_vals' σ vals vals' S n fun i hi => h i (by omega)]
    cases hS : S n with
    | false => rfl
    | true => rw [h n (by omega) hS]
def Closed (ops : Array Oper) (listed : Array Bool) : Prop := ∀ i o, ops[i]? = some o → listed.getD i false = true → ∀ e ∈ o.after, Region.binds .any e = true → listed.getD e.on false = true
structure LI (ops : Array Oper) (h : Nat) (L did : List Nat) (fuel : Nat) (listed : Array Bool) : Prop where
  count : (List.range ops.size).countP (fun i => !listed.getD i false) ≤ fuel
  size : listed.size = ops.size
  no : ∀ i, h ≤ i → listed.getD i false = false
  dep : Closed ops listed
  loud : ∀ i ∈ L, listed.getD i false = false
  did : ∀ i ∈ did, listed.getD i false = true
theorem LI.free {h fuel : Nat} {L did : List Nat} {listed : Array Bool} (li : LI ops h L did fuel listed) (ok : DrawOk h ops) {i : Nat} (hi : listed.getD i false = true) : freeB ops L ops.size i = true := by
  have hlt : i < ops.size := by
    rcases Nat.lt_or_ge i ops.size with h1 | h1
    · exact h1
    · have : listed.getD i false = false := by simp [show listed.size ≤ i by rw [li.size]; exact h1]
      rw [this] at hi; cases hi
  exact free_listed ok li.dep li.loud i ops.size hlt hlt hi
theorem stB_pres {did L : List Nat} {prev : Option (List Nat)} {i : Nat} (h : freeB ops L ops.size i = true) : presB (stB ops did L prev i) = true := by
  unfold stB
  split
  · rfl
  · cases prev with
    | none => rfl
    | some L' => dsimp only; split <;> rfl
theorem LI.set {h fuel j : Nat} {L did : List Nat} {listed : Array Bool} (li : LI ops h L did (fuel + 1) listed) (hjh : j < h) (hle : h ≤ ops.size) (hj : j ∈ Region.ready .any ops listed) (hjL : j ∉ L) : LI ops h L did fuel (listed.setIfInBounds j true) := by
  obtain ⟨hu, o, ho, hdeps⟩ := mem_ready.1 hj
  have hlt : j < listed.size := by rw [li.size]; omega
  have hju : listed.getD j false = false := by simpa [hlt] using hu
  refine ⟨?_, by simpa using li.size, fun i hi => by rw [getD_set_ne false (by omega)]; exact li.no i hi, fun i oi hoi hx ed he hb => ?_, fun i hi => by rw [getD_set_ne false (fun (e : j = i) => hjL (e ▸ hi))]; exact li.loud i hi, fun i hi => getD_set_true (li.did i hi)⟩
  · have hc := li.count
    have := countP_lt (p := fun i => !listed.getD i false) (q := fun i => !(listed.setIfInBounds j true).getD i false) (List.range ops.size)
      (fun i hi => by
        by_cases hij : j = i
        · subst hij; simp [hlt] at hi
        · rw [getD_set_ne false hij] at hi; exact hi)
      ⟨j, List.mem_range.2 (by omega), by rw [hju]; rfl, by simp [hlt]⟩
    omega
  · by_cases hij : i = j
    · subst hij
      rw [ho] at hoi
      obtain rfl := Option.some.inj hoi
      exact getD_set_true (hdeps ed he hb)
    · rw [getD_set_ne false (Ne.symm hij)] at hx
      exact getD_set_true (li.dep i oi hoi hx ed he hb)
theorem LI.next {h fuel p : Nat} {ps did : List Nat} {listed : Array Bool} (li : LI ops h (p :: ps) did (fuel + 1) listed) (hph : p < h) (hle : h ≤ ops.size) (hj : p ∈ Region.ready .any ops listed) (hpp : p ∉ ps) : LI ops h ps (p :: did) fuel (listed.setIfInBounds p true) := by
  have l2 : LI ops h ps did (fuel + 1) listed := ⟨li.count, li.size, li.no, li.dep, fun i hi => li.loud i (by simp [hi]), li.did⟩
  have l3 := l2.set hph hle hj hpp
  refine ⟨l3.count, l3.size, l3.no, l3.dep, l3.loud, fun i hi => ?_⟩
  rcases List.mem_cons.1 hi with rfl | hi
  · have : i < listed.size := by rw [li.size]; omega
    simp [this]
  · exact l3.did i hi
theorem depM_bit {m i : Nat} (h : (depM ops m).testBit i = true) : ∃ o, ops[m]? = some o ∧ ∃ e ∈ o.after, Region.binds .any e = true ∧ e.on = i := by
  unfold depM at h
  split at h
  · rename_i o ho
    refine ⟨o, ho, ?_⟩
    rw [← Array.foldl_toList] at h
    have key : ∀ (l : List Edge) (r : Nat), (l.foldl (fun r e => bif Region.binds .any e then r ||| 2 ^ e.on else r) r).testBit i = true → r.testBit i = true ∨ ∃ e ∈ l, Region.binds .any e = true ∧ e.on = i := by
      intro l
      induction l with
      | nil => exact fun r h => .inl h
      | cons e l ih =>
        intro r h
        rcases ih _ h with h1 | ⟨e', h1, h2⟩
        · dsimp only at h1
          cases hb : Region.binds .any e with
          | false => rw [hb] at h1; exact .inl h1
          | true =>
            rw [hb, cond_true, Nat.testBit_or, Nat.testBit_two_pow] at h1
            rcases Bool.or_eq_true_iff.1 h1 with h2 | h2
            · exact .inl h2
            · exact .inr ⟨e, by simp, hb, by simpa using h2⟩
        · exact .inr ⟨e', by simp [h1], h2⟩
    rcases key _ _ h with h1 | ⟨e, h1, h2⟩
    · simp at h1
    · exact ⟨e, by simpa using h1, h2⟩
  · simp at h
theorem waitM_listed {listed : Array Bool} (hdep : Closed ops listed) : ∀ (m r : Nat), (∀ i, r.testBit i = true → listed.getD i false = true) → ∀ i, (waitM ops m r).testBit i = true → listed.getD i false = true
  | 0, r, h, i, hi => h i hi
  | m + 1, r, h, i, hi => by
    refine waitM_listed hdep m _ (fun q hq => ?_) i hi
    cases hb : r.testBit m with
    | false => rw [hb] at hq; exact h q hq
    | true =>
      rw [hb, cond_true, Nat.testBit_or] at hq
      rcases Bool.or_eq_true_iff.1 hq with h1 | h1
      · exact h q h1
      · obtain ⟨o, ho, e, he, hb2, rfl⟩ := depM_bit h1
        exact hdep m o ho (h m hb) e he hb2
theorem LI.more {h fuel p : Nat} {L did : List Nat} {listed : Array Bool} (li : LI ops h L did fuel listed) (ok : DrawOk h ops) (hp : p < h) (hd : p ∈ did) : LI ops h L (predsB ops p ++ did) fuel listed := by
  refine ⟨li.count, li.size, li.no, li.dep, li.loud, fun i hi => ?_⟩
  rcases List.mem_append.1 hi with hi | hi
  · refine waitM_listed li.dep _ _ (fun q hq => ?_) i (List.mem_filter.1 hi).2
    rw [Nat.testBit_two_pow] at hq
    obtain rfl : p = q := by simpa using hq
    exact li.did p hd
  · exact li.did i hi
theorem phaseT {Q : Exit → Act → World → Prop} {h : Nat} {σ : Env} {hs₀ hs : Hp} {κ₀ : Kap} {w₀ : World} (ok : DrawOk h ops) {L did : List Nat} {prev : Option (List Nat)} {Rp : AV → Hp → Prop} {pv : List AV} {R' : List AV → Env → Prop} {vs : List AV} {vals v0 : Nat → AV}
    (V : PV P N ops hs (stB ops did L prev) Rp 0 (ops.toList.take h) pv σ v0 R' vs vals) (hLh : ∀ q ∈ L, q < h) (hnd : L.Nodup) (hchain : ∀ p ps, L = p :: ps → ∀ q ∈ ps, freeB ops [p] ops.size q = false)
    (T : L = [] → ∀ κ a w, Sim N κ hs w (envL σ ops vals (fun i => presB (stB ops did L prev i)) h) a → Ext κ₀ hs₀ w₀ κ hs w → wpL P ops Q (ops.toList.drop h) a w)
    (Now : ∀ p ps, L = p :: ps → ∀ (fuel : Nat) (listed : Array Bool) (κ' : Kap) (a : Act) (w : World) (v : AV) (hs' : Hp), Rp v hs' → LI ops h ps (p :: did) fuel listed → (∀ i, listed.getD i false = true → i = p ∨ freeB ops (p :: ps) ops.size i = true) →
      Sim N κ' hs' w (envL σ ops (at0 (vs.set p v)) (fun i => listed.getD i false) h) a → Ext κ₀ hs₀ w₀ κ' hs' w → wpAnyO P ops Q fuel listed a w) :
    ∀ (fuel : Nat) (listed : Array Bool) (κ' : Kap) (a : Act) (w : World), LI ops h L did fuel listed →
      Sim N κ' hs w (envL σ ops vals (fun i => listed.getD i false) h) a → Ext κ₀ hs₀ w₀ κ' hs w → wpAnyO P ops Q fuel listed a w := by
  have hle := ok.le
  have hpr : ∀ {fuel listed}, LI ops h L did fuel listed → ∀ i, listed.getD i false = true → presB (stB ops did L prev i) = true := fun li i hi => stB_pres (li.free ok hi)
  have fin : ∀ (fuel : Nat) (listed : Array Bool) (κ' : Kap) (a : Act) (w : World), LI ops h L did fuel listed → (∀ j, j < h → listed.getD j false = true) →
      Sim N κ' hs w (envL σ ops vals (fun i => listed.getD i false) h) a → Ext κ₀ hs₀ w₀ κ' hs w → wpAnyO P ops Q fuel listed a w := by
    intro fuel listed κ' a w li hall s e
    have hL : L = [] := by
      cases L with
      | nil => rfl
      | cons p ps => have h1 := li.loud p (by simp); rw [hall p (hLh p (by simp))] at h1; cases h1
    have se : Sim N κ' hs w (envL σ ops vals (fun i => presB (stB ops did L prev i)) h) a := ⟨s.heap, s.size, s.defers, fun t => by
      rw [envL_low σ vals (fun i => presB (stB ops did L prev i)) (fun i => listed.getD i false) t h fun i hi _ => (hpr li i (hall i hi)).trans (hall i hi).symm]
      exact s.get t⟩
    have hcount : ops.size - h ≤ fuel := by
      have : ops.size - h ≤ (List.range ops.size).countP (fun i => !listed.getD i false) := by
        have h1 : (List.range ops.size).countP (fun i => decide (h ≤ i)) = ops.size - h := by
          have key : ∀ n, (List.range n).countP (fun i => decide (h ≤ i)) = n - h := by
            intro n
            induction n with
            | zero => simp
            | succ n ihn =>
              rw [List.range_succ, List.countP_append, ihn]
              by_cases hn : h ≤ n
              · simp [hn]; omega
              · simp [hn]; omega
          exact key _
        rw [← h1]
        exact List.countP_mono_left fun i _ hi => by simp [li.no i (by simpa using hi)]
      have := li.count
      omega
    exact tail_any ok fuel h listed a w (Nat.le_refl _) hle hcount li.size (fun i hi => ⟨fun hx => Nat.lt_of_not_le (fun hge => by rw [li.no i hge] at hx; cases hx), fun hlt => hall i hlt⟩) (T hL κ' a w se e)
  intro fuel
  induction fuel with
  | zero =>
    intro listed κ' a w li s e
    refine fin 0 listed κ' a w li (fun i hi => ?_) s e
    have := List.countP_eq_zero.1 (Nat.le_zero.1 li.count) i (List.mem_range.2 (by omega))
    simpa using this
  | succ fuel ih =>
    intro listed κ' a w li s e
    by_cases hall : ∀ j, j < h → listed.getD j false = true
    · exact fin _ listed κ' a w li hall s e
    · obtain ⟨j₀, hj₀⟩ := Classical.not_forall.1 hall
      obtain ⟨hj₀h, hj₀u⟩ := Classical.not_imp.1 hj₀
      have hj₀u' : listed.getD j₀ false = false := by simpa using hj₀u
      refine ⟨fun hr => absurd hr (min_unlisted li.size (by omega) hj₀u' ok.back), fun j hj => ?_⟩
      obtain ⟨hu, o, ho, hdeps⟩ := mem_ready.1 hj
      have hjs := (Array.getElem?_eq_some_iff.1 ho).1
      have hlt : j < listed.size := by rw [li.size]; omega
      have hju : listed.getD j false = false := by simpa [hlt] using hu
      have hjh : j < h := Nat.lt_of_not_le fun hge => by
        have := ready_dep hj (ok.tail j₀ j hge hjs (by omega))
        rw [hj₀u'] at this; cases this
      have hoj : (ops.toList.take h)[j]? = some o := by rw [List.getElem?_take, if_pos hjh]; simpa using ho
      have hafter : ∀ i, i < ops.size → depB ops i j = true → listed.getD i false = false := fun i hi hdp => by
        cases hx : listed.getD i false with
        | false => rfl
        | true =>
          have hio : ops[i]? = some ops[i] := Array.getElem?_eq_getElem hi
          simp only [depB, hio, Array.any_eq_true'] at hdp
          obtain ⟨ed, he, hb⟩ := hdp
          have hb2 := Bool.and_eq_true_iff.1 hb
          have hon : ed.on = j := by simpa using hb2.2
          have := li.dep i _ hio hx ed he hb2.1
          rw [hon, hju] at this; cases this
      have hclash : ∀ i t, i < h → i ≠ j → dstAt ops i = some t → (t ∈ o.looksAt ops ∨ o.dst = some t) → (i < j → listed.getD i false = true) ∧ (j < i → listed.getD i false = false) := by
        intro i t hi hne hdi ht
        have hio : ops[i]? = some (ops[i]'(by omega)) := Array.getElem?_eq_getElem (by omega)
        have hdst : (ops[i]'(by omega)).dst = some t := by simpa [dstAt, hio] using hdi
        have hc : clashB ops i j = true := by
          simp only [clashB, hio, ho, hdst]
          rcases ht with ht | ht
          · simp [ht]
          · simp [ht]
        obtain ⟨h1, h2⟩ := ok.head i j hi hjh hne hc
        exact ⟨fun hlt => ready_dep hj (h1 hlt), fun hlt => hafter i (by omega) (h2 hlt)⟩
      have hlook : ∀ t ∈ o.looksAt ops, eget (envL σ ops vals (fun i => listed.getD i false) h) t = eget (envL σ ops vals (fun i => presB (stB ops did L prev i)) j) t := by
        intro t ht
        rw [envL_high σ vals _ t j h (by omega) fun i h1 h2 h3 h4 => by
          by_cases hij : i = j
          · subst hij; rw [hju] at h3; cases h3
          · rw [(hclash i t h2 hij h4 (.inl ht)).2 (by omega)] at h3; cases h3]
        refine envL_low σ vals _ _ t j fun i hi hdi => ?_
        have h5 := (hclash i t (by omega) (by omega) hdi (.inl ht)).1 hi
        exact h5.trans (hpr li i h5).symm
      have hrestr : ∀ (ts : List Tmp) (τ : Env) (t : Nat), t ∉ ts → eget (restr τ ts) t = .any := by
        intro ts τ t
        induction ts with
        | nil => exact fun _ => rfl
        | cons u ts ih2 =>
          intro hn
          simp only [List.mem_cons, not_or] at hn
          unfold restr
          rw [List.map_cons, eget_ne _ _ (Ne.symm hn.1)]
          exact ih2 hn.2
      have hrestr2 : ∀ (ts : List Tmp) (τ τ' : Env) (t : Nat), eget (restr τ ts ++ τ') t = if t ∈ ts then eget τ t else eget τ' t := by
        intro ts τ τ' t
        induction ts with
        | nil => rfl
        | cons u ts ih2 =>
          unfold restr
          rw [List.map_cons, List.cons_append]
          by_cases hut : u = t
          · subst hut; rw [eget_same, if_pos List.mem_cons_self]
          · rw [eget_ne _ _ hut]
            refine Eq.trans ih2 ?_
            simp [Ne.symm hut]
      have sr : Sim N κ' hs w (restr (envL σ ops vals (fun i => presB (stB ops did L prev i)) j) (o.looksAt ops)) a := by
        refine ⟨s.heap, s.size, s.defers, fun t => ?_⟩
        by_cases ht : t ∈ o.looksAt ops
        · have h1 := hrestr2 (o.looksAt ops) (envL σ ops vals (fun i => presB (stB ops did L prev i)) j) [] t
          rw [List.append_nil, if_pos ht] at h1
          rw [h1, ← hlook t ht]; exact s.get t
        · rw [hrestr _ _ t ht]; exact .any _
      -- the environment behind the step
      have after : ∀ (κ₂ : Kap) (hs' : Hp) (a' : Act) (w₂ : World) (v : AV) (vals' : Nat → AV), (∀ i, i < h → listed.getD i false = true → vals' i = vals i) → vals' j = v →
          Sim N κ₂ hs' w₂ (putE o.dst v (envL σ ops vals (fun i => listed.getD i false) h)) a' → Sim N κ₂ hs' w₂ (envL σ ops vals' (fun i => (listed.setIfInBounds j true).getD i false) h) a' := by
        intro κ₂ hs' a' w₂ v vals' h1 h2 sp
        refine ⟨sp.heap, sp.size, sp.defers, fun t => ?_⟩
        have hget := sp.get t
        rw [putE_get, ← envL_vals' σ vals' vals (fun i => listed.getD i false) h h1] at hget
        by_cases hdt : o.dst = some t
        · rw [if_pos hdt] at hget
          have hdj : dstAt ops j = some t := by simp [dstAt, ho, hdt]
          rw [envL_high σ vals' _ t (j + 1) h (by omega) fun i h3 h4 h5 h6 => by
            rw [getD_set_ne false (by omega), (hclash i t h4 (by omega) h6 (.inr hdt)).2 (by omega)] at h5; cases h5]
          rw [envL_step, if_pos ⟨hdj, by simp [hlt]⟩, h2]
          exact hget
        · rw [if_neg hdt] at hget
          have : eget (envL σ ops vals' (fun i => (listed.setIfInBounds j true).getD i false) h) t = eget (envL σ ops vals' (fun i => listed.getD i false) h) t :=
            envL_low σ vals' _ _ t h fun i hi hdi => by
              have hne : j ≠ i := by rintro rfl; simp [dstAt, ho] at hdi; exact hdt hdi
              exact getD_set_ne false hne
          rw [this]; exact hget
      have hst : (stB ops did L prev j = .new ∨ stB ops did L prev j = .old) ∧ j ∉ L ∨ ∃ p ps, L = p :: ps ∧ j = p ∧ stB ops did L prev j = .now := by
        have hnc : did.contains j = false := by
          cases hc : did.contains j with
          | false => rfl
          | true => have := li.did j (by simpa using hc); rw [hju] at this; cases this
        by_cases hjL : j ∈ L
        · refine .inr ?_
          cases L with
          | nil => cases hjL
          | cons p ps =>
            have hjp : j = p := by
              rcases List.mem_cons.1 hjL with h1 | h1
              · exact h1
              · have h2 := hchain p ps rfl j h1
                have hne : j ≠ p := by
                  rintro rfl
                  exact absurd h1 (List.nodup_cons.1 hnd).1
                rw [free_ready ok li.dep (fun q hq => li.loud q (by simp at hq; simp [hq])) hjs hj (by simpa using hne)] at h2
                cases h2
            subst hjp
            refine ⟨j, ps, rfl, rfl, ?_⟩
            have hnf : freeB ops (j :: ps) ops.size j = false := by
              unfold freeB
              rw [freeM_bit]
              simp
            unfold stB
            rw [hnc, hnf]
            simp
        · have hf := free_ready ok li.dep li.loud hjs hj hjL
          refine .inl ⟨?_, hjL⟩
          unfold stB
          rw [hnc, hf]
          simp only [Bool.false_eq_true, if_false, if_true]
          cases prev with
          | none => exact .inl rfl
          | some L' =>
            dsimp only
            split
            · exact .inr rfl
            · exact .inl rfl
      have hz : 0 + j = j := Nat.zero_add j
      refine ⟨o, ho, ?_⟩
      rcases hst with ⟨hst, hjL⟩ | ⟨p, ps, hLp, hjp, hst⟩
      · obtain ⟨hG, hd⟩ := V.quiet j o hoj (by rw [hz]; exact hst)
        rw [hz] at hG
        refine hG κ' a w sr _ Q fun κ₂ w₂ u h1 e2 hu2 => ?_
        refine ih _ κ₂ _ w₂ (li.set hjh hle hj hjL) ?_ (e.trans e2)
        exact after κ₂ hs _ w₂ (vals j) vals (fun _ _ _ => rfl) rfl (s.putO e2 h1 hd hu2)
      · obtain ⟨hg, hl⟩ := V.loud j o hoj (by rw [hz]; exact hst)
        simp only [hz] at hl
        have hw : Region.wanted o (yielded ops a.tmps) = true := by simp [Region.wanted, hg]
        rw [wpO, if_pos hw]
        have sτ : Sim N κ' hs w (restr (envL σ ops vals (fun i => presB (stB ops did L prev i)) j) (o.looksAt ops) ++ envL σ ops vals (fun i => listed.getD i false) h) a := by
          refine ⟨s.heap, s.size, s.defers, fun t => ?_⟩
          rw [hrestr2]
          split
          · rename_i ht; rw [← hlook t ht]; exact s.get t
          · exact s.get t
        refine hl _ κ' a w sτ _ Q fun κ₂ a₂ w₂ σ₂ hs₂ s₂ e2 ⟨v, hσ₂, hR⟩ => ?_
        subst hσ₂
        subst hjp
        have hvlen : vs.length = h := by rw [V.len]; simp [hle]
        refine Now j ps hLp fuel _ κ₂ a₂ w₂ v hs₂ hR ?_ (fun i hi => ?_) ?_ (e.trans e2)
        · subst hLp
          exact li.next hjh hle hj (List.nodup_cons.1 hnd).1
        · by_cases hij : i = j
          · exact .inl hij
          · rw [getD_set_ne false (Ne.symm hij)] at hi
            exact .inr (hLp ▸ li.free ok hi)
        · refine after κ₂ hs₂ a₂ w₂ v _ (fun i hi hil => ?_) ?_ ⟨s₂.heap, s₂.size, s₂.defers, fun t => ?_⟩
          · have hne : i ≠ j := by rintro rfl; rw [hju] at hil; cases hil
            have := V.high i
            rw [Nat.zero_add] at this
            rw [this]
            simp [at0, Ne.symm hne]
          · simp [at0, hvlen, hjh]
          · have h1 := s₂.get t
            rw [putE_get] at h1 ⊢
            split
            · rename_i ht; rw [if_pos ht] at h1; exact h1
            · rename_i ht
              rw [if_neg ht, hrestr2] at h1
              split at h1
              · rename_i h2; rw [hlook t h2]; exact h1
              · exact h1
theorem stB_old {did L : List Nat} {prev : Option (List Nat)} {i : Nat} (hf : freeB ops L ops.size i = true) (h : i ∈ did ∨ ∃ L', prev = some L' ∧ freeB ops L' ops.size i = true) : stB ops did L prev i ≠ .new := by
  unfold stB
  rcases h with h | ⟨L', rfl, h⟩
  · rw [if_pos (by simpa using h)]; simp
  · split
    · simp
    · dsimp only; rw [if_pos h]; simp
theorem runT {Q : Exit → Act → World → Prop} {h : Nat} {σ : Env} {hs₀ : Hp} {κ₀ : Kap} {w₀ : World} {R : Env → Hp → Prop} (ok : DrawOk h ops)
    (T : ∀ σ' hs κ a w, R σ' hs → Sim N κ hs w σ' a → Ext κ₀ hs₀ w₀ κ hs w → wpL P ops Q (ops.toList.drop h) a w) :
    ∀ (L did : List Nat) (prev : Option (List Nat)) (pv : List AV) (hs : Hp), DT P N ops h σ R L did prev pv hs → L.Nodup → (∀ q ∈ L, q < h) →
      ∀ (fuel : Nat) (listed : Array Bool) (κ' : Kap) (a : Act) (w : World), LI ops h L did fuel listed → (∀ i, listed.getD i false = true → i ∈ did ∨ ∃ L', prev = some L' ∧ freeB ops L' ops.size i = true) →
        Sim N κ' hs w (envL σ ops (at0 pv) (fun i => listed.getD i false) h) a → Ext κ₀ hs₀ w₀ κ' hs w → wpAnyO P ops Q fuel listed a w := by
  have hle := ok.le
  have hlen : (ops.toList.take h).length = h := by simp [hle]
  have hops : ∀ (j : Nat) o, (ops.toList.take h)[j]? = some o → ops[0 + j]? = some o := fun j o hj => by
    rw [List.getElem?_take] at hj
    split at hj
    · simpa using hj
    · cases hj
  intro L
  induction L with
  | nil =>
    intro did prev pv hs c hnd hLh fuel listed κ' a w li hp s e
    obtain ⟨sts, hsts, c⟩ := c
    have c := c.congr (st' := stB ops did [] prev) fun j _ hj => stOk_spec hsts (by rw [hlen] at hj; omega)
    obtain ⟨vs, vals, V⟩ := PC.vals c σ (fun _ => .any) hops rfl
    refine phaseT (κ₀ := κ₀) (hs₀ := hs₀) (w₀ := w₀) ok V hLh hnd (fun p ps h => by cases h) (fun _ κ a w s e => ?_) (fun p ps h => by cases h) fuel listed κ' a w li ?_ e
    · have hf := V.fin
      rw [hlen, Nat.zero_add] at hf
      exact T _ _ κ a w hf s e
    · rw [envL_vals' σ vals (at0 pv) _ h fun i hi hil => ?_]
      · exact s
      · have h1 := V.high i
        rw [Nat.zero_add] at h1
        rw [h1]
        exact V.same i (by rw [hlen]; exact hi) (by rw [Nat.zero_add]; exact stB_old (li.free ok hil) (hp i hil))
  | cons p ps ih =>
    intro did prev pv hs c hnd hLh fuel listed κ' a w li hp s e
    obtain ⟨Rp, sts, hchk0, c⟩ := c
    have hsts := (Bool.and_eq_true_iff.1 hchk0).1
    have hchk := (Bool.and_eq_true_iff.1 hchk0).2
    have c := c.congr (st' := stB ops did (p :: ps) prev) fun j _ hj => stOk_spec hsts (by rw [hlen] at hj; omega)
    obtain ⟨vs, vals, V⟩ := PC.vals c σ (fun _ => .any) hops rfl
    have hch : ∀ q ∈ ps, freeB ops [p] ops.size q = false := fun q hq => by
      have := List.all_eq_true.1 (Bool.and_eq_true_iff.1 hchk).1 q hq
      simpa using (Bool.and_eq_true_iff.1 this).1
    refine phaseT (κ₀ := κ₀) (hs₀ := hs₀) (w₀ := w₀) ok V hLh hnd (fun p' ps' h => by obtain ⟨rfl, rfl⟩ := List.cons.inj h; exact hch) (fun h => by cases h) (fun p' ps' h => ?_) fuel listed κ' a w li ?_ e
    · obtain ⟨rfl, rfl⟩ := List.cons.inj h
      intro fuel listed κ' a w v hs' hR li2 hp2 s2 e2
      refine ih (predsB ops p ++ p :: did) (some (p :: ps)) _ hs' (V.fin v hs' hR) (List.nodup_cons.1 hnd).2 (fun q hq => hLh q (by simp [hq])) fuel listed κ' a w (li2.more ok (hLh p (by simp)) (by simp)) (fun i hi => ?_) s2 e2
      rcases hp2 i hi with h3 | h3
      · exact .inl (by simp [h3])
      · exact .inr ⟨_, rfl, h3⟩
    · rw [envL_vals' σ vals (at0 pv) _ h fun i hi hil => ?_]
      · exact s
      · have h1 := V.high i
        rw [Nat.zero_add] at h1
        rw [h1]
        exact V.same i (by rw [hlen]; exact hi) (by rw [Nat.zero_add]; exact stB_old (li.free ok hil) (hp i hil))
theorem W.drawT {Q : Post} {σ : Env} {hs : Hp} {id : Nat} (h : Nat) (Ls : List Nat) (hm : P.follows .mixedOrders = true) (hok : drawOk h ops = true) (hL : Ls.Nodup ∧ ∀ q ∈ Ls, q < h)
    (c : DT P N ops h σ (fun σ' hs' => XOps P N ops (ops.toList.drop h) σ' hs' (fun σ'' hs'' => Q .normal σ'' hs'')) Ls [] none (List.replicate h .any) hs) (hnd : ndOk N.ro ops = true := by rfl) :
    W P N (.region id ops true) Q σ hs := by
  intro κ a w s
  have ok := drawOk_spec hok
  have hd : ∀ i, (Array.replicate ops.size false).getD i false = false := fun i => by by_cases h : i < ops.size <;> simp [h]
  refine wpIn_region_any hm (wpAnyO_in hnd _ _ _ _ ?_)
  obtain ⟨h1, e1⟩ := s.heap.drew (w.drawn + 1) (Nat.le_succ _)
  refine runT (κ₀ := κ) (hs₀ := hs) (w₀ := w) ok (fun σ' hs' κ' a' w' hX s' e' => hX κ' a' w' s' _ fun κ₂ a₂ w₂ σ₂ hs₂ s₂ e₂ hr => ⟨.normal, κ₂, σ₂, hs₂, rfl, s₂, e'.trans e₂, hr⟩)
    Ls [] none _ hs c hL.1 hL.2 ops.size _ κ a _ ⟨?_, by simp, fun i _ => hd i, (fun i o ho hx => by rw [hd] at hx; cases hx), fun i _ => hd i, by simp⟩ (fun i hi => by rw [hd] at hi; cases hi) ?_ e1
  · exact Nat.le_trans List.countP_le_length (by simp)
  · have hz : ∀ n, envL σ ops (at0 (List.replicate h .any)) (fun i => (Array.replicate ops.size false).getD i false) n = σ := by
      intro n
      induction n with
      | zero => rfl
      | succ n ih =>
        simp only [envL]
        exact (if_neg (show ¬ (Array.replicate ops.size false).getD n false = true from fun h => by rw [hd] at h; cases h)).trans ih
    rw [hz]
    exact s.ext e1 h1
theorem W.drawTreg {Q : Post} {σ : Env} {hs : Hp} {id : Nat} {y : Code} (h : Nat) (Ls : List Nat) (hm : P.follows .mixedOrders = true) (hok : drawOk h ops = true) (hL : Ls.Nodup ∧ ∀ q ∈ Ls, q < h)
    (c : DT P N ops h σ (fun σ' hs' => XOps P N ops (ops.toList.drop h) σ' hs' (fun σ'' hs'' => W P N y Q σ'' hs'')) Ls [] none (List.replicate h .any) hs) (hnd : ndOk N.ro ops = true := by rfl) :
    W P N (.seq (.region id ops true) y) Q σ hs := W.seq (W.drawT h Ls hm hok hL c hnd)
theorem Loud.to {σ : Env} {hs : Hp} {o : Oper} {R R' : Env → Hp → Prop} (h : Loud P N σ hs o R) (hr : ∀ σ' hs', R σ' hs' → R' σ' hs') : Loud P N σ hs o R' :=
  fun κ a w s K Q hK => h κ a w s K Q fun κ' a' w' σ' hs' s' e hR => hK κ' a' w' σ' hs' s' e (hr _ _ hR)
end drawT
end Go.Proofs.YtaegeaajhbfkgaaGreatDoorA
/- An append within a list's room, clear, a list cut to its front. -/
namespace Go.Proofs.YtaegeaajhbfkgaaGreatDoorA
open Go
set_option linter.unusedVariables false
set_option linter.unusedSimpArgs false
theorem Lined.sub {w : World} {O : Nat → Prop} {sz : Nat} {rows : List (List D)} {vs : List Value} (h : Lined w O sz rows vs) {lo m : Nat} (hlo : lo + m ≤ rows.length) (hr : ∀ r ∈ rows, r.length = sz) :
    Lined w O sz ((rows.drop lo).take m) ((vs.drop (lo * sz)).take (m * sz)) := by
  obtain ⟨h1, h2, h3⟩ := h
  have hm : (lo + m) * sz ≤ rows.length * sz := Nat.mul_le_mul_right _ hlo
  rw [Nat.add_mul] at hm
  refine ⟨?_, fun u hu => h2 u (List.mem_of_mem_drop (List.mem_of_mem_take hu)), fun i j r x hi hj => ?_⟩
  · simp only [List.length_take, List.length_drop, h1]
    rw [show min m (rows.length - lo) = m by omega]
    omega
  · rw [List.getElem?_take] at hi
    split at hi
    · rename_i hlt
      rw [List.getElem?_drop] at hi
      obtain ⟨u, hu, hd⟩ := h3 _ j r x hi hj
      have hj' : j < sz := by rw [← hr r (List.mem_of_getElem? hi)]; exact (List.getElem?_eq_some_iff.1 hj).1
      have h5 := Nat.mul_le_mul_right sz (show i + 1 ≤ m from hlt)
      rw [Nat.succ_mul] at h5
      refine ⟨u, ?_, hd⟩
      rw [List.getElem?_take, if_pos (by omega), List.getElem?_drop, ← hu, Nat.add_mul]
      congr 1; omega
    · cases hi
theorem del_rows {α : Type} (rows : List α) (i j lo n : Nat) (hij : i < j) (hj : j ≤ rows.length) (hlo : lo = i + (rows.length - j)) (hn : n = i + (rows.length - j)) (X Y : List α) :
    ((rows.take i ++ (rows.drop j).take (rows.length - j) ++ Y).take lo ++ X).take n = rows.take i ++ rows.drop j := by
  have hB : (rows.drop j).take (rows.length - j) = rows.drop j := List.take_of_length_le (by simp)
  have hl : (rows.take i ++ rows.drop j).length = i + (rows.length - j) := by simp; omega
  rw [hB, hlo, hn, ← hl, List.take_left, List.take_left]
section
variable {P : Program} {N : Nm} {σ : Env} {hs : Hp} {ty : TypeId} {pos : String} {af : Array Edge} {g : Option (Nat × Bool)} {Q : Post}
theorem DT.more {ops : Array Oper} {h : Nat} {σ : Env} {R : Env → Hp → Prop} {Rp : AV → Hp → Prop} {p : Nat} {ps did : List Nat} {prev : Option (List Nat)} {vals : List AV} {hs : Hp} (sts : List St) (hc : (stOk ops h did (p :: ps) prev sts && (ps.all (fun q => !freeB ops [p] ops.size q && Nat.blt q h) && Nat.blt p h)) = true)
    (c : PC P N ops hs (fun k => sts.getD k .later) Rp 0 (ops.toList.take h) vals σ (fun vs _ => ∀ v hs', Rp v hs' → DT P N ops h σ R ps (predsB ops p ++ p :: did) (some (p :: ps)) (vs.set p v) hs')) : DT P N ops h σ R (p :: ps) did prev vals hs := ⟨Rp, sts, hc, c⟩
theorem DT.last {ops : Array Oper} {h : Nat} {σ : Env} {R : Env → Hp → Prop} {did : List Nat} {prev : Option (List Nat)} {vals : List AV} {hs : Hp} (sts : List St) (hc : stOk ops h did [] prev sts = true)
    (c : PC P N ops hs (fun k => sts.getD k .later) (fun _ _ => False) 0 (ops.toList.take h) vals σ (fun _ σ' => R σ' hs)) : DT P N ops h σ R [] did prev vals hs := ⟨sts, hc, c⟩
theorem L.app_in {d : Tmp} {t id i lo m sz bytes k : Nat} {rows : List (List D)} {x y : Operand} (ht : tApp P t = some (sz, bytes)) (hx : oev σ x = .vs id 0 i sz) (hk : hs[k]? = some (id, .lst sz rows))
    (hy : oev σ y = .vs id lo m sz) (hlo : lo + m ≤ rows.length) (him : i + m ≤ rows.length) (hd : Nat.blt d N.n = true) :
    Loud P N σ hs ⟨some d, .call ⟨.builtin .append, #[x, y], #[t, t]⟩, ty, pos, af, g⟩
      (fun σ' hs' => σ' = (d, .vs id 0 (i + m) sz) :: σ ∧ hs' = hs.set k (id, .lst sz (rows.take i ++ (rows.drop lo).take m ++ rows.drop (i + m)))) := by
  intro κ a w s K Q hK
  have hdN : d < N.n := by simpa [Nat.blt_eq] using hd
  obtain ⟨e, inf, z, hu, hi, hz, h1, h2, h3, hsz, hbb⟩ := tApp_spec ht
  have hx1 := s.oev x; rw [hx] at hx1
  have hy1 := s.oev y; rw [hy] at hy1
  obtain ⟨ob, cap, p, hκ, hle, hp, hv⟩ := hx1.vs_inv
  obtain ⟨ob2, cap2, q, hκ2, hle2, hq, hv2⟩ := hy1.vs_inv
  rw [hκ] at hκ2
  obtain ⟨rfl, rfl⟩ := Prod.mk.inj (Option.some.inj hκ2)
  obtain ⟨olds, hl1, hblk⟩ := lst_cells s.heap hk hκ
  obtain ⟨yy, hyy, hok⟩ := s.heap.ok id _ (List.mem_of_getElem? hk)
  rw [hκ] at hyy
  obtain rfl := Option.some.inj hyy
  obtain ⟨g0, g0', g1, g2, g3, g4, g5⟩ := hok
  rw [Nat.sub_zero] at hv
  by_cases hm : m = 0
  · subst hm
    have hrun := app_op (P := P) (ty := ty) (pos := pos) (af := af) (g := g) (d := d) (t := t) hv hv2 (app0_run (P := P) (w := w) (ty := ty) hu hi (c := cap - lo) (show i ≤ cap by omega))
    have hset : hs.set k (id, HO.lst sz (rows.take i ++ (rows.drop lo).take 0 ++ rows.drop (i + 0))) = hs := by
      rw [List.take_zero, List.append_nil, Nat.add_zero, List.take_append_drop]
      refine List.ext_getElem? fun j => ?_
      rw [List.getElem?_set]
      split
      · subst_vars; split
        · exact hk.symm
        · rename_i h; exact absurd (List.getElem?_eq_some_iff.1 hk).1 h
      · rfl
    unfold oWp
    rw [hrun]
    refine hK κ _ w _ _ (s.put (.refl _ _ _) s.heap hdN ?_) (.refl _ _ _) ⟨rfl, hset.symm⟩
    have := RepA.vs (κ := κ) (w := w) (O := Own κ hs) ob cap p id 0 i sz hκ hle hp
    simpa using this
  · cases ob with
    | none => exact absurd (g4 rfl) (by omega)
    | some b =>
      have hpe : p = some ⟨b, 0, none⟩ := by rw [hp (by omega)]; simp
      have hqe : q = some ⟨b, lo * sz, none⟩ := by rw [hq (by omega)]; simp
      subst hpe; subst hqe
      obtain ⟨cs, T, hw, hcs, hvs⟩ := hblk b rfl
      have hl2 := hl1.sub hlo g2
      have hn' : ∀ (j : Nat) u, ((olds.drop (lo * sz)).take (m * sz))[j]? = some u → w.cell? ((⟨b, lo * sz, none⟩ : Addr).add j) = some u := fun j u hj => by
        rw [List.getElem?_take] at hj
        split at hj
        · rename_i hlt
          rw [List.getElem?_drop, hvs, List.getElem?_take] at hj
          split at hj
          · rw [addr_add_lit]
            simp [World.cell?, hw]
            simpa using hj
          · cases hj
        · cases hj
      have hrm : ((rows.drop lo).take m).length = m := by simp; omega
      obtain ⟨w', hst, h5, e5⟩ := write_rows (P := P) s.heap hk hκ hl2 (fun r hr => g2 r (List.mem_of_mem_drop (List.mem_of_mem_take hr))) (fun r hr => g3 r (List.mem_of_mem_drop (List.mem_of_mem_take hr))) (show i ≤ rows.length by omega) (show i + _ ≤ cap by rw [hrm]; omega)
      rw [hrm] at h5 e5
      subst h1
      have hf := run_firstCells_some (P := P) w inf.size m ⟨b, lo * inf.size, none⟩ m (cap - lo) ((olds.drop (lo * inf.size)).take (m * inf.size)) (by have := hl2.1; rwa [hrm] at this) hn'
      have hrun : (Builtin.append_ #[t, t] ty #[.slice (some ⟨b, 0, none⟩) i cap, .slice (some ⟨b, lo * inf.size, none⟩) m (cap - lo)]).run P w = .ok (.slice (some ⟨b, 0, none⟩) (i + m) cap) w' := by
        simp [Builtin.append_, run_underlying hu, sizeOf, typeInfo, hi, Builtin.lenOf, show i + m ≤ cap by omega, hf, Addr.add_lit, hst]
      unfold oWp
      rw [app_op hv hv2 hrun]
      refine hK κ _ w' _ _ (s.put e5 h5 hdN ?_) e5 ⟨rfl, rfl⟩
      have := RepA.vs (κ := κ) (w := w') (O := Own κ (hs.set k (id, HO.lst inf.size (rows.take i ++ (rows.drop lo).take m ++ rows.drop (i + m))))) (some b) cap (some ⟨b, 0, none⟩) id 0 (i + m) inf.size hκ (by omega) (fun _ => by simp)
      simpa using this
theorem zero_lined {w : World} {O : Nat → Prop} {z : Array Value} {zd : List D} {sz : Nat} (hf : Filled w O z zd) (hz : z.size = sz) (hs0 : 0 < sz) (m : Nat) : Lined w O sz (List.replicate m zd) (Builtin.zeroCells z m).toList := by
  obtain ⟨f1, f2, f3⟩ := hf
  have hget : ∀ q, q < m * sz → (Builtin.zeroCells z m).toList[q]? = z[q % sz]? := fun q hq => by
    have hlt : q % sz < z.size := by rw [hz]; exact Nat.mod_lt _ hs0
    simp only [Builtin.zeroCells, Array.getElem?_toList, Array.getElem?_map, hz]
    rw [Array.getElem?_range, if_pos hq]
    simp only [Option.map_some]
    rw [getElem!_pos z _ hlt, Array.getElem?_eq_getElem hlt]
  refine ⟨by simp [Builtin.zeroCells, hz], fun u hu => ?_, fun i j r x hi hj => ?_⟩
  · obtain ⟨q, hq⟩ := List.getElem?_of_mem hu
    have hlt : q < m * sz := by have := (List.getElem?_eq_some_iff.1 hq).1; simpa [Builtin.zeroCells, hz] using this
    rw [hget q hlt] at hq
    have hl : q % sz < zd.length := by rw [← f1, hz]; exact Nat.mod_lt _ hs0
    exact (f3 _ u _ hq (List.getElem?_eq_getElem hl)).oneCell (f2 _ (List.getElem_mem _))
  · have hr := List.mem_of_getElem? hi
    obtain ⟨hm0, rfl⟩ := List.mem_replicate.1 hr
    have hi' : i < m := by have := (List.getElem?_eq_some_iff.1 hi).1; simpa using this
    have hj' : j < sz := by rw [← hz, f1]; exact (List.getElem?_eq_some_iff.1 hj).1
    have h5 := Nat.mul_le_mul_right sz (show i + 1 ≤ m from hi')
    rw [Nat.succ_mul] at h5
    have hmod : (i * sz + j) % sz = j := by rw [Nat.mul_comm, Nat.mul_add_mod]; exact Nat.mod_eq_of_lt hj'
    have hjz : j < z.size := by omega
    exact ⟨z[j], by rw [hget _ (by omega), hmod]; exact Array.getElem?_eq_getElem hjz, f3 j _ x (Array.getElem?_eq_getElem hjz) hj⟩
theorem clear_op {t : Nat} {x : Operand} {a : Act} {w w' : World} {v : Value} (hx : a.eval x = v) {r : Value} (h : (Builtin.clear_ #[t] ty #[v]).run P w = .ok r w') :
    (execOp a.eval ⟨none, .call ⟨.builtin .clear, #[x], #[t]⟩, ty, pos, af, g⟩).run P w = .ok (.value r) w' := by
  rw [builtin_run]
  simp [builtin, hx, h]
theorem L.clear {t id lo m sz k : Nat} {z : List Value} {zd : List D} {rows : List (List D)} {x : Operand} (ht : tSl P t = some sz) (hz : tZrow P t = some z) (hzl : z.length = sz) (hzd : cellsD z = some zd) (hsz : 0 < sz)
    (hx : oev σ x = .vs id lo m sz) (hk : hs[k]? = some (id, .lst sz rows)) (hlo : lo + m ≤ rows.length) :
    Loud P N σ hs ⟨none, .call ⟨.builtin .clear, #[x], #[t]⟩, ty, pos, af, g⟩
      (fun σ' hs' => σ' = σ ∧ hs' = hs.set k (id, .lst sz (rows.take lo ++ List.replicate m zd ++ rows.drop (lo + m)))) := by
  intro κ a w s K Q hK
  obtain ⟨e, inf, hu, hi, rfl⟩ := tSl_spec ht
  unfold tZrow at hz
  rw [hu] at hz
  obtain ⟨inf', hi', hz⟩ := Option.bind_eq_some_iff.1 hz
  rw [hi] at hi'
  obtain rfl := Option.some.inj hi'
  obtain ⟨zv, hzv, rfl⟩ := Option.map_eq_some_iff.1 hz
  have hzs : zv.cells.size = inf.size := by rw [← Array.length_toList]; exact hzl
  have hx1 := s.oev x; rw [hx] at hx1
  obtain ⟨ob, cap, p, hκ, hle, hp, hv⟩ := hx1.vs_inv
  obtain ⟨yy, hyy, hok⟩ := s.heap.ok id _ (List.mem_of_getElem? hk)
  rw [hκ] at hyy
  obtain rfl := Option.some.inj hyy
  obtain ⟨g0, g0', g1, g2, g3, g4, g5⟩ := hok
  have hzr : (zeroValue e).run P w = .ok zv w := by simp [zeroValue, typeInfo, hi, hzv]
  unfold oWp
  by_cases hm : m = 0
  · subst hm
    have hset : hs.set k (id, HO.lst inf.size (rows.take lo ++ List.replicate 0 zd ++ rows.drop (lo + 0))) = hs := by
      rw [List.replicate_zero, List.append_nil, Nat.add_zero, List.take_append_drop]
      refine List.ext_getElem? fun j => ?_
      rw [List.getElem?_set]
      split
      · subst_vars; split
        · exact hk.symm
        · rename_i h; exact absurd (List.getElem?_eq_some_iff.1 hk).1 h
      · rfl
    have hrun : (Builtin.clear_ #[t] ty #[.slice p 0 (cap - lo)]).run P w = .ok (.tuple #[]) w := by
      cases p <;> simp [Builtin.clear_, run_underlying hu]
    rw [clear_op hv hrun]
    exact hK κ _ w _ _ (s.ext (.refl _ _ _) s.heap) (.refl _ _ _) ⟨rfl, hset.symm⟩
  · cases ob with
    | none => exact absurd (g4 rfl) (by omega)
    | some b =>
      have hpe : p = some ⟨b, lo * inf.size, none⟩ := by rw [hp (by omega)]; simp
      subst hpe
      have hl2 := zero_lined (cellsD_rep w (Own κ hs) _ zd hzd) (by simpa using hzs) hsz m
      have hzl' : zd.length = inf.size := by
        have := (cellsD_rep w (Own κ hs) _ zd hzd).1
        simp at this
        omega
      obtain ⟨w', hst, h5, e5⟩ := write_rows (P := P) s.heap hk hκ hl2 (fun r hr => by rw [(List.mem_replicate.1 hr).2]; exact hzl') (fun r hr => by rw [(List.mem_replicate.1 hr).2]; exact (cellsD_rep w (Own κ hs) _ zd hzd).2.1) (show lo ≤ rows.length by omega) (show lo + _ ≤ cap by simp; omega)
      rw [List.length_replicate] at h5 e5
      have hrun : (Builtin.clear_ #[t] ty #[.slice (some ⟨b, lo * inf.size, none⟩) m (cap - lo)]).run P w = .ok (.tuple #[]) w' := by
        have hst' : (storeCells ⟨b, lo * inf.size, none⟩ (Builtin.zeroCells zv.cells m).toList).run P w = .ok () w' := by simpa using hst
        cases m with
        | zero => exact absurd rfl hm
        | succ m => simp [Builtin.clear_, run_underlying hu, hzr, hst']
      rw [clear_op hv hrun]
      exact hK κ _ w' _ _ (s.ext e5 h5) e5 ⟨rfl, rfl⟩
theorem W.front_of {c : Code} (k n : Nat) {id sz : Nat} {rows : List (List D)} (hk : hs[k]? = some (id, .lst sz rows)) (h : W P N c Q σ (hs.set k (id, .lst sz (rows.take n)))) : W P N c Q σ hs := by
  intro κ a w s
  have hmem : (id, HO.lst sz rows) ∈ hs := List.mem_of_getElem? hk
  obtain ⟨⟨ob, cap⟩, hκ, hok⟩ := s.heap.ok id _ hmem
  obtain ⟨g0, g0', g1, g2, g3, g4, g5⟩ := hok
  have hfst := map_fst_set hs k id (.lst sz rows) (.lst sz (rows.take n)) hk
  have e : Ext κ hs w κ (hs.set k (id, .lst sz (rows.take n))) w :=
    ⟨fun _ _ h => h, Nat.le_refl _, fun _ => Nat.le_refl _, rfl, rfl, rfl, fun _ _ _ => rfl, fun i _ hi => (own_set κ hs k id _ _ hk i).1 hi, fun i o₁ hi => by
      have h1 : i ∈ (hs.set k (id, .lst sz (rows.take n))).map (·.1) := List.mem_map.2 ⟨_, hi, rfl⟩
      rw [hfst] at h1
      obtain ⟨⟨i', o₂⟩, h2, h3⟩ := List.mem_map.1 h1
      exact .inl ⟨o₂, by cases h3; exact h2⟩, SameT.refl w⟩
  have hin : ∀ i o₁, (i, o₁) ∈ hs.set k (id, .lst sz (rows.take n)) → (i = id ∧ o₁ = .lst sz (rows.take n)) ∨ (i, o₁) ∈ hs := by
    intro i o₁ hi
    obtain ⟨j, hj⟩ := List.getElem?_of_mem hi
    rw [List.getElem?_set] at hj
    split at hj
    · split at hj
      · obtain ⟨rfl, rfl⟩ := Prod.mk.inj (Option.some.inj hj); exact .inl ⟨rfl, rfl⟩
      · cases hj
    · exact .inr (List.mem_of_getElem? hj)
  have h1 : HS κ w (hs.set k (id, .lst sz (rows.take n))) := by
    refine ⟨by rw [hfst]; exact s.heap.nodup, fun i o₁ hi => ?_, fun i i' o₁ o₂ b' c₁ c₂ hi hi' h1 h2 => ?_, s.heap.fresh⟩
    · rcases hin i o₁ hi with ⟨rfl, rfl⟩ | hi
      · refine ⟨_, hκ, by simp; omega, g0', g1, fun r hr => g2 r (List.mem_of_mem_take hr), fun r hr => g3 r (List.mem_of_mem_take hr), g4, fun b hb => ?_⟩
        obtain ⟨cs, T, hw, hcs, hr⟩ := g5 b hb
        exact ⟨cs, T, hw, hcs, fun i j r d hi hj => by
          rw [List.getElem?_take] at hi
          split at hi
          · obtain ⟨v, hv, hd⟩ := hr i j r d hi hj
            exact ⟨v, hv, hd.ext e⟩
          · cases hi⟩
      · obtain ⟨x, hx, hok⟩ := s.heap.ok i o₁ hi
        exact ⟨x, hx, hok.ext e fun _ _ => rfl⟩
    · have gg : ∀ i o₁, (i, o₁) ∈ hs.set k (id, .lst sz (rows.take n)) → ∃ o₂, (i, o₂) ∈ hs := fun i o₁ hi => by
        rcases hin i o₁ hi with ⟨rfl, _⟩ | hi
        · exact ⟨_, hmem⟩
        · exact ⟨_, hi⟩
      obtain ⟨_, g1'⟩ := gg i o₁ hi
      obtain ⟨_, g2'⟩ := gg i' o₂ hi'
      exact s.heap.inj i i' _ _ b' c₁ c₂ g1' g2' h1 h2
  exact wpIn_mono (h κ a w (s.ext e h1)) fun _ _ _ hc => hc.ext e
end
end Go.Proofs.YtaegeaajhbfkgaaGreatDoorA
/- An append to a slice without room whose result is never written again: data at once. -/
namespace Go.Proofs.YtaegeaajhbfkgaaGreatDoorA
open Go
set_option linter.unusedVariables false
set_option linter.unusedSimpArgs false
section
variable {P : Program} {N : Nm} {σ : Env} {hs : Hp} {ty : TypeId} {pos : String} {af : Array Edge} {g : Option (Nat × Bool)} {Q : Post}
inductive Wk : List AV → List AV → Prop
  | nil : Wk [] []
  | same {x l m} (h : Wk l m) : Wk (x :: l) (x :: m)
  | nilsl {l m} (sz) (h : Wk l m) : Wk (.nilsl :: l) (.d (.sl sz []) :: m)
  | dcut {sz rows l m} (h : Wk l m) : Wk (.dcut sz rows :: l) (.d (.sl sz rows) :: m)
theorem Wk.get {l m : List AV} (h : Wk l m) : l.length = m.length ∧ ∀ (κ : Kap) (w : World) (O : Nat → Prop) (i : Nat) (v : Value) (x y : AV), l[i]? = some x → m[i]? = some y → RepA κ w O v x → RepA κ w O v y := by
  induction h with
  | nil => exact ⟨rfl, by simp⟩
  | same h ih =>
    refine ⟨by simp [ih.1], fun κ w O i v x y hx hy hv => ?_⟩
    cases i with
    | zero => simp at hx hy; subst hx; subst hy; exact hv
    | succ i => exact ih.2 κ w O i v x y (by simpa using hx) (by simpa using hy) hv
  | nilsl sz h ih =>
    refine ⟨by simp [ih.1], fun κ w O i v x y hx hy hv => ?_⟩
    cases i with
    | zero => simp at hx hy; subst hx; subst hy; exact nilsl_sl sz hv
    | succ i => exact ih.2 κ w O i v x y (by simpa using hx) (by simpa using hy) hv
  | dcut h ih =>
    refine ⟨by simp [ih.1], fun κ w O i v x y hx hy hv => ?_⟩
    cases i with
    | zero => simp at hx hy; subst hx; subst hy; exact dcut_sl hv
    | succ i => exact ih.2 κ w O i v x y (by simpa using hx) (by simpa using hy) hv
theorem AC.args {f : FuncId} {xs ys : List AV} {R : AV → Hp → Prop} (h : AC P f ys hs R) (hk : Wk xs ys) : AC P f xs hs R := fun κ vals w h1 h2 h3 =>
  h κ vals w h1 (h2.trans hk.get.1) fun i v y hi hy => by
    obtain ⟨x, hx⟩ : ∃ x, xs[i]? = some x := ⟨_, List.getElem?_eq_getElem (by rw [hk.get.1]; exact (List.getElem?_eq_some_iff.1 hy).1)⟩
    exact hk.get.2 κ w _ i v x y hx hy (h3 i v x hi hx)
end
end Go.Proofs.YtaegeaajhbfkgaaGreatDoorA
/- Arrays whose cells are slices or pointers of one's own. -/
namespace Go.Proofs.YtaegeaajhbfkgaaGreatDoorA
open Go
set_option linter.unusedVariables false
set_option linter.unusedSimpArgs false
def acells : AV → Option (List AV)
  | .d (.agg ds) => some (ds.map .d)
  | .aggv l => some l
  | x => match oneA x with | true => some [x] | false => none
def afillA (place : Nat → Option (Nat × Nat)) : List AV → List (Nat × AV) → Option (List AV)
  | l, [] => some l
  | l, (i, x) :: rest => match place i, acells x with
    | some (off, size), some xs => match Nat.beq xs.length size && Nat.ble (off + size) l.length with
      | true => afillA place (l.take off ++ xs ++ l.drop (off + size)) rest
      | false => none
    | _, _ => none
def FilledA (κ : Kap) (w : World) (O : Nat → Prop) (cs : Array Value) (l : List AV) : Prop :=
  cs.size = l.length ∧ (∀ v ∈ cs.toList, v.oneCell' = true) ∧ ∀ (i : Nat) (v : Value) (x : AV), cs[i]? = some v → l[i]? = some x → RepA κ w O v x
theorem acells_rep {κ : Kap} {w : World} {O : Nat → Prop} {v : Value} {x : AV} {xs : List AV} (h : RepA κ w O v x) (hd : acells x = some xs) : FilledA κ w O v.cells xs := by
  unfold acells at hd
  split at hd
  · rename_i ds
    obtain rfl := Option.some.inj hd
    have h1 := h.d_inv
    cases h1 with
    | agg cs _ hs ho hr =>
      refine ⟨by simpa [Value.cells] using hs, fun u hu => ?_, fun i u y hi hy => ?_⟩
      · obtain ⟨i, hi⟩ := List.getElem?_of_mem hu
        have hi' : cs[i]? = some u := by simpa [Value.cells] using hi
        have hlt : i < ds.length := by rw [← hs]; exact (Array.getElem?_eq_some_iff.1 hi').1
        exact (hr i u _ hi' (List.getElem?_eq_getElem hlt)).oneCell (ho _ (List.getElem_mem hlt))
      · rw [List.getElem?_map] at hy
        obtain ⟨z, hz, rfl⟩ := Option.map_eq_some_iff.1 hy
        exact .d (hr i u z (by simpa [Value.cells] using hi) hz)
  · obtain rfl := Option.some.inj hd
    cases h with
    | aggv cs _ hs ho hr => exact ⟨hs, ho, hr⟩
  · split at hd
    · rename_i ho
      obtain rfl := Option.some.inj hd
      have h1 := h.one ho
      have hc := cells_one h1
      refine ⟨by rw [← Array.length_toList, hc]; rfl, fun u hu => ?_, fun i u y hi hy => ?_⟩
      · rw [hc] at hu; simp at hu; subst hu; exact h1
      · have hi' : v.cells.toList[i]? = some u := by simpa using hi
        rw [hc] at hi'
        cases i with
        | zero => simp at hi' hy; subst hi' hy; exact h
        | succ i => simp at hy
    · cases hd
theorem fillA_run {κ : Kap} {w : World} {O : Nat → Prop} {place : Nat → Option (Nat × Nat)} : ∀ (parts : List (Nat × Value)) (xs : List (Nat × AV)) (cs : Array Value) (l l' : List AV),
    parts.length = xs.length → (∀ (i : Nat) p x, parts[i]? = some p → xs[i]? = some x → p.1 = x.1 ∧ RepA κ w O p.2 x.2) → FilledA κ w O cs l → afillA place l xs = some l' →
    ∃ cs', Instr.fill place cs parts = some cs' ∧ FilledA κ w O cs' l'
  | [], [], cs, l, l', _, _, hf, ha => by
    simp [afillA] at ha; subst ha
    exact ⟨cs, rfl, hf⟩
  | [], _ :: _, _, _, _, h, _, _, _ => by simp at h
  | _ :: _, [], _, _, _, h, _, _, _ => by simp at h
  | (i, v) :: parts, (i', x) :: xs, cs, l, l', hlen, hr, hf, ha => by
    obtain ⟨he, hrep⟩ := hr 0 _ _ rfl rfl
    simp only at he hrep
    subst he
    simp only [afillA] at ha
    cases hp : place i with
    | none => simp [hp] at ha
    | some os =>
      obtain ⟨off, size⟩ := os
      cases hd : acells x with
      | none => simp [hp, hd] at ha
      | some ds =>
        simp only [hp, hd] at ha
        cases hb : Nat.beq ds.length size && Nat.ble (off + size) l.length with
        | false => simp [hb] at ha
        | true =>
          simp only [hb] at ha
          have hb2 := Bool.and_eq_true_iff.1 hb
          have hsz : ds.length = size := Nat.eq_of_beq_eq_true hb2.1
          have hle : off + size ≤ l.length := Nat.le_of_ble_eq_true hb2.2
          obtain ⟨g1, g2, g3⟩ := acells_rep hrep hd
          obtain ⟨f1, f2, f3⟩ := hf
          have hput := foldPut v.cells.toList off 0 cs
          simp only [Nat.add_zero] at hput
          have hvl : v.cells.toList.length = size := by rw [Array.length_toList, g1, hsz]
          have hnew : FilledA κ w O ((v.cells.toList.zipIdx 0).foldl (fun (cs : Array Value) (x : Value × Nat) => cs.setIfInBounds (off + x.2) x.1) cs) (l.take off ++ ds ++ l.drop (off + size)) := by
            refine ⟨by rw [hput.1, f1]; simp; omega, fun y hy => ?_, fun q u y hu hy => ?_⟩
            · obtain ⟨q, hq⟩ := List.getElem?_of_mem hy
              rw [Array.getElem?_toList, hput.2 q] at hq
              split at hq
              · exact g2 y (List.mem_of_getElem? hq)
              · exact f2 y (by rw [← Array.getElem?_toList] at hq; exact List.mem_of_getElem? hq)
            · rw [hput.2 q] at hu
              rw [List.append_assoc, List.getElem?_append] at hy
              have hto : (l.take off).length = off := by simp; omega
              rw [hto] at hy
              split at hy
              · rename_i hq
                rw [if_neg (by omega)] at hu
                rw [List.getElem?_take, if_pos hq] at hy
                exact f3 q u y hu hy
              · rename_i hq
                rw [List.getElem?_append] at hy
                split at hy
                · rename_i hq2
                  rw [if_pos (by omega)] at hu
                  exact g3 _ u y (by simpa using hu) hy
                · rename_i hq2
                  rw [if_neg (by omega)] at hu
                  rw [List.getElem?_drop] at hy
                  have : off + size + (q - off - ds.length) = q := by omega
                  rw [this] at hy
                  exact f3 q u y hu hy
          obtain ⟨cs', h1, h2⟩ := fillA_run parts xs _ _ l' (by simpa using hlen) (fun k p y hk hy => hr (k + 1) p y (by simpa using hk) (by simpa using hy)) hnew ha
          refine ⟨cs', ?_, h2⟩
          simp only [Instr.fill, hp]
          have hcs : v.cells.size = size := by rw [g1, hsz]
          rw [if_neg (by simp [hcs]; omega)]
          rw [← h1]
          congr 1
          rw [← Array.foldl_toList]
          simp [Array.toList_zipIdx]
section
variable {P : Program} {N : Nm} {σ : Env} {hs : Hp} {d : Option Tmp} {ty : TypeId} {pos : String} {af : Array Edge} {g : Option (Nat × Bool)}
end
end Go.Proofs.YtaegeaajhbfkgaaGreatDoorA
/- Calls whose results lie in memory when they return. -/
namespace Go.Proofs.YtaegeaajhbfkgaaGreatDoorA
open Go
set_option linter.unusedVariables false
set_option linter.unusedSimpArgs false
theorem loadn_cells {P : Program} {κ : Kap} {w : World} {hs : Hp} (h : HS κ w hs) {t n id off k : Nat} {l : List AV} {ds : List D} {v : Value} (ht : tAgg P t = some (true, n)) (hx : RepA κ w (Own κ hs) v (.ptr id off))
    (hk : hs[k]? = some (id, .cells l)) (hv : takeD n (l.drop off) = some ds) : ∃ ad u, v = .pointer (some ad) ∧ (loadVar t ad).run P w = .ok u w ∧ RepA κ w (Own κ hs) u (.d (.agg ds)) := by
    obtain ⟨b, cap, hkk, hv1⟩ := hx.ptr_inv
    obtain ⟨y, hy, hok⟩ := h.ok id _ (List.mem_of_getElem? hk)
    rw [hkk] at hy
    obtain rfl := Option.some.inj hy
    obtain ⟨b', cs, hbe, hw, hsz, hone, hr⟩ := hok
    obtain rfl := Option.some.inj hbe
    obtain ⟨hl, hj⟩ := takeD_spec n _ ds hv
    have hat : ∀ (j : Nat) (x : D), ds[j]? = some x → ∃ u, cs[off + j]? = some u ∧ RepD w (Own κ hs) u x ∧ u.oneCell' = true := fun j x hx => by
      have h2 := hj j x hx
      rw [List.getElem?_drop] at h2
      have hlt : off + j < cs.size := by rw [hsz]; exact (List.getElem?_eq_some_iff.1 h2).1
      refine ⟨cs[off + j], Array.getElem?_eq_getElem hlt, ?_, hone _ (by simp [Array.mem_toList_iff])⟩
      have h4 := hr _ _ _ (Array.getElem?_eq_getElem hlt) h2
      exact h4.d_inv
    have hcell : ∀ (j : Nat) (v : Value), ((cs.toList.drop off).take n)[j]? = some v → w.cell? ((⟨b, off, none⟩ : Addr).add j) = some v := fun j v hj => by
      rw [addr_add_lit]
      rw [List.getElem?_take] at hj
      split at hj
      · rw [List.getElem?_drop] at hj
        simp [World.cell?, hw]; simpa using hj
      · cases hj
    have hlen : ((cs.toList.drop off).take n).length = n := by
      by_cases hn0 : n = 0
      · subst hn0; simp
      · obtain ⟨u, hu, _⟩ := hat (n - 1) ds[n - 1] (List.getElem?_eq_getElem (by omega))
        have := (Array.getElem?_eq_some_iff.1 hu).1
        simp; omega
    have hrun := loadn_run (P := P) ht hlen hcell
    simp only [Instr.loadAt, Instr.sureAddr, Sem.run_bind, Sem.run_pure, Result.andThen_ok] at hrun
    refine ⟨_, .agg ((cs.toList.drop off).take n).toArray, hv1, hrun, .d (.agg _ _ (by simpa [hl] using hlen) (fun d hd => ?_) (fun i v d hi hd => ?_))⟩
    · obtain ⟨j, hj⟩ := List.getElem?_of_mem hd
      obtain ⟨u, _, h2, h3⟩ := hat j d hj
      exact h2.one_of h3
    · obtain ⟨u, h2, h3, _⟩ := hat i d hd
      have hi' : ((cs.toList.drop off).take n)[i]? = some v := by simpa using hi
      rw [List.getElem?_take] at hi'
      split at hi'
      · rw [List.getElem?_drop] at hi'
        have : cs[off + i]? = some v := by simpa using hi'
        rw [h2] at this
        obtain rfl := Option.some.inj this
        exact h3
      · cases hi'
theorem load1_cells {P : Program} {κ : Kap} {w : World} {hs : Hp} (h : HS κ w hs) {t id off k : Nat} {l : List AV} {x : AV} {v : Value} (ht : tAgg P t = some (false, 1)) (hx : RepA κ w (Own κ hs) v (.ptr id off))
    (hk : hs[k]? = some (id, .cells l)) (hv : l[off]? = some x) : ∃ ad u, v = .pointer (some ad) ∧ (loadVar t ad).run P w = .ok u w ∧ RepA κ w (Own κ hs) u x := by
    obtain ⟨b, cap, hkk, hv1⟩ := hx.ptr_inv
    obtain ⟨y, hy, hok⟩ := h.ok id _ (List.mem_of_getElem? hk)
    rw [hkk] at hy
    obtain rfl := Option.some.inj hy
    obtain ⟨b', cs, hbe, hw, hsz, hone, hr⟩ := hok
    obtain rfl := Option.some.inj hbe
    have hoff : off < cs.size := by rw [hsz]; exact (List.getElem?_eq_some_iff.1 hv).1
    have hc : w.cell? ⟨b, off, none⟩ = some cs[off] := by simp [World.cell?, hw, hoff]
    have hrun := load1_run (P := P) ht hc
    simp only [Instr.loadAt, Instr.sureAddr, Sem.run_bind, Sem.run_pure, Result.andThen_ok] at hrun
    exact ⟨_, cs[off], hv1, hrun, hr off _ x (Array.getElem?_eq_getElem hoff) hv⟩
theorem loadv_cells {P : Program} {κ : Kap} {w : World} {hs : Hp} (h : HS κ w hs) {t n id off k : Nat} {l : List AV} {v : Value} (ht : tAgg P t = some (true, n)) (hx : RepA κ w (Own κ hs) v (.ptr id off))
    (hk : hs[k]? = some (id, .cells l)) (hn : Nat.ble (off + n) l.length = true) : ∃ ad u, v = .pointer (some ad) ∧ (loadVar t ad).run P w = .ok u w ∧ RepA κ w (Own κ hs) u (.aggv ((l.drop off).take n)) := by
    obtain ⟨b, cap, hkk, hv1⟩ := hx.ptr_inv
    obtain ⟨y, hy, hok⟩ := h.ok id _ (List.mem_of_getElem? hk)
    rw [hkk] at hy
    obtain rfl := Option.some.inj hy
    obtain ⟨b', cs, hbe, hw, hsz, hone, hr⟩ := hok
    obtain rfl := Option.some.inj hbe
    have hn' : off + n ≤ l.length := by simpa [Nat.ble_eq] using hn
    have hcell : ∀ (j : Nat) (v : Value), ((cs.toList.drop off).take n)[j]? = some v → w.cell? ((⟨b, off, none⟩ : Addr).add j) = some v := fun j v hj => by
      rw [addr_add_lit]
      rw [List.getElem?_take] at hj
      split at hj
      · rw [List.getElem?_drop] at hj
        simp [World.cell?, hw]; simpa using hj
      · cases hj
    have hlen : ((cs.toList.drop off).take n).length = n := by simp; omega
    have hrun := loadn_run (P := P) ht hlen hcell
    simp only [Instr.loadAt, Instr.sureAddr, Sem.run_bind, Sem.run_pure, Result.andThen_ok] at hrun
    refine ⟨_, .agg ((cs.toList.drop off).take n).toArray, hv1, hrun, .aggv _ _ (by simp; omega) (fun v hv => hone v (List.mem_of_mem_drop (List.mem_of_mem_take (by simpa using hv)))) (fun i v x hi hx => ?_)⟩
    have hi' : ((cs.toList.drop off).take n)[i]? = some v := by simpa using hi
    rw [List.getElem?_take] at hi' hx
    split at hi'
    · rename_i hlt
      rw [if_pos hlt] at hx
      rw [List.getElem?_drop] at hi' hx
      exact hr _ v x (by simpa using hi') hx
    · cases hi'
inductive SlotR (P : Program) (σ : Env) (hs : Hp) : ResultVar → AV → Prop
  | tmp (t) : SlotR P σ hs (.tmp t) (eget σ t)
  | cell1 {a t id off l x} (k : Nat) (ht : tAgg P t = some (false, 1)) (hx : eget σ a = .ptr id off) (hk : hs[k]? = some (id, .cells l)) (hv : l[off]? = some x) : SlotR P σ hs (.cell a t) x
  | celln {a t id off n l ds} (k : Nat) (ht : tAgg P t = some (true, n)) (hx : eget σ a = .ptr id off) (hk : hs[k]? = some (id, .cells l)) (hv : takeD n (l.drop off) = some ds) : SlotR P σ hs (.cell a t) (.d (.agg ds))
  | cellv {a t id off n l} (k : Nat) (ht : tAgg P t = some (true, n)) (hx : eget σ a = .ptr id off) (hk : hs[k]? = some (id, .cells l)) (hn : Nat.ble (off + n) l.length = true) : SlotR P σ hs (.cell a t) (.aggv ((l.drop off).take n))
inductive SlotsR (P : Program) (σ : Env) (hs : Hp) : List ResultVar → List AV → Prop
  | nil : SlotsR P σ hs [] []
  | cons {r rs x xs} (h : SlotR P σ hs r x) (ht : SlotsR P σ hs rs xs) : SlotsR P σ hs (r :: rs) (x :: xs)
theorem SlotR.run {P : Program} {N : Nm} {κ : Kap} {hs : Hp} {w : World} {σ : Env} {a : Act} (s : Sim N κ hs w σ a) {r : ResultVar} {x : AV} (h : SlotR P σ hs r x) :
    ∃ v, (resSem a.tmps r).run P w = .ok v w ∧ RepA κ w (Own κ hs) v x := by
  cases h with
  | tmp t => exact ⟨_, rfl, s.get t⟩
  | cell1 k ht hx hk hv =>
    rename_i a' t id off l
    have h1 := s.get a'
    rw [hx] at h1
    obtain ⟨ad, u, h2, h3, h4⟩ := load1_cells (P := P) s.heap ht h1 hk hv
    refine ⟨u, ?_, h4⟩
    simp only [resSem, h2, asAddr, Sem.run_bind, Sem.run_pure, Result.andThen_ok, h3]
  | celln k ht hx hk hv =>
    rename_i a' t id off n l ds
    have h1 := s.get a'
    rw [hx] at h1
    obtain ⟨ad, u, h2, h3, h4⟩ := loadn_cells (P := P) s.heap ht h1 hk hv
    refine ⟨u, ?_, h4⟩
    simp only [resSem, h2, asAddr, Sem.run_bind, Sem.run_pure, Result.andThen_ok, h3]
  | cellv k ht hx hk hn =>
    rename_i a' t id off n l
    have h1 := s.get a'
    rw [hx] at h1
    obtain ⟨ad, u, h2, h3, h4⟩ := loadv_cells (P := P) s.heap ht h1 hk hn
    refine ⟨u, ?_, h4⟩
    simp only [resSem, h2, asAddr, Sem.run_bind, Sem.run_pure, Result.andThen_ok, h3]
theorem SlotsR.run {P : Program} {N : Nm} {κ : Kap} {hs : Hp} {w : World} {σ : Env} {a : Act} (s : Sim N κ hs w σ a) : ∀ {rs : List ResultVar} {xs : List AV}, SlotsR P σ hs rs xs →
    ∃ vs : List Value, (rs.mapM (resSem a.tmps)).run P w = .ok vs w ∧ vs.length = xs.length ∧ ∀ (i : Nat) (v : Value) (x : AV), vs[i]? = some v → xs[i]? = some x → RepA κ w (Own κ hs) v x
  | [], _, .nil => ⟨[], rfl, rfl, by simp⟩
  | r :: rs, _, .cons (x := x) (xs := xs) h ht => by
    obtain ⟨v, h1, h2⟩ := h.run s
    obtain ⟨vs, h3, h4, h5⟩ := SlotsR.run s ht
    refine ⟨v :: vs, ?_, by simp [h4], fun i u y hi hy => ?_⟩
    · rw [List.mapM_cons, Sem.run_bind, h1, Result.andThen_ok, Sem.run_bind, h3]
      rfl
    · cases i with
      | zero => obtain rfl := Option.some.inj hi; obtain rfl := Option.some.inj hy; exact h2
      | succ i => exact h5 i u y (by simpa using hi) (by simpa using hy)
theorem resultsR_run {P : Program} {fn : Func} {N : Nm} {κ : Kap} {hs : Hp} {w : World} {σ : Env} {a : Act} {xs : List AV} (s : Sim N κ hs w σ a) (hx : SlotsR P σ hs fn.results.toList xs) :
    ∃ v, (results fn a.tmps).run P w = .ok v w ∧ RepA κ w (Own κ hs) v (oneOf xs) := by
    obtain ⟨vs, h1, h2, h5⟩ := hx.run s
    have h4 : (fn.results.mapM (resSem a.tmps)).run P w = .ok vs.toArray w := by
      rw [Array.mapM_eq_mapM_toList, Sem.run_map, h1]; rfl
    have tupled : vs.length ≠ 1 → RepA κ w (Own κ hs) (.tuple vs.toArray) (.tup xs) := fun _ =>
      .tup _ _ (by simpa using h2) (fun i v x hi hx => h5 i v x (by simpa using hi) hx)
    rw [results_eq, Sem.run_bind, h4]
    show ∃ v, Result.ok (if h : vs.toArray.size = 1 then vs.toArray[0] else .tuple vs.toArray) w = .ok v w ∧ _
    match xs, vs, h2 with
    | [], [], _ => exact ⟨_, rfl, tupled (by simp)⟩
    | [x], [v], _ => exact ⟨v, rfl, h5 0 v x rfl rfl⟩
    | x :: y :: xs, v :: u :: vs, _ => exact ⟨_, by rw [dif_neg (by simp)], tupled (by simp)⟩
theorem AC.ofc {P : Program} {f : FuncId} {fn : Func} {c : Code} {args : List AV} {hs : Hp} {R : AV → Hp → Prop} (N : Nat) (hf : P.funcs[f]? = some fn) (hb : fn.body = some c) (hN : fn.ntmps = N)
    (hl : Nat.ble args.length N = true)
    (h : ∀ {B}, W P ⟨N, B, none⟩ c (fun ex σ' hs' => match ex with | .exit _ => False | _ => ∃ xs hs'', SlotsR P σ' hs' fn.results.toList xs ∧ HLe hs'' hs' ∧ R (oneOf xs) hs'') (envOf args 0) hs) : AC P f args hs R :=
  AC.body N hf hb hN hl (fun B => h) (fun _ _ _ hq => hq) fun x σ hs' κ w tmps hx hq h1 h2 h3 => by
    have hq' : ∃ xs hs'', SlotsR P σ hs' fn.results.toList xs ∧ HLe hs'' hs' ∧ R (oneOf xs) hs'' := by rcases hx with rfl | rfl <;> exact hq
    obtain ⟨y, hs'', hy, hle, hr⟩ := hq'
    obtain ⟨v, hv, hrep⟩ := resultsR_run (N := ⟨N, 0, none⟩) (P := P) (fn := fn) (a := { tmps := tmps, defers := [] }) ⟨h1, h3, Marks.nil _ _ (Nat.zero_le _), h2⟩ hy
    exact ⟨v, _, hs'', hv, hrep, hle, hr⟩
def inY (Y : Env) : Operand → Bool
  | .tmp t => Y.any (fun p => Nat.beq p.1 t)
  | _ => true
theorem oev_app {Y τ : Env} {x : Operand} (h : inY Y x = true) : oev (Y ++ τ) x = oev Y x := by
  cases x with
  | tmp t =>
    simp only [inY] at h
    simp only [oev]
    induction Y with
    | nil => simp at h
    | cons p Y ih =>
      obtain ⟨k, v⟩ := p
      by_cases hk : k = t
      · subst hk; rw [List.cons_append, eget_same, eget_same]
      · rw [List.cons_append, eget_ne _ _ hk, eget_ne _ _ hk]
        refine ih ?_
        simpa [hk] using h
  | _ => rfl
theorem DT.moreS {P : Program} {N : Nm} {ops : Array Oper} {h : Nat} {σ : Env} {R : Env → Hp → Prop} {E : Hp} {p : Nat} {ps did : List Nat} {prev : Option (List Nat)} {vals : List AV} {hs : Hp} (sts : List St) (hc : (stOk ops h did (p :: ps) prev sts && (ps.all (fun q => !freeB ops [p] ops.size q && Nat.blt q h) && Nat.blt p h)) = true)
    (c : PC P N ops hs (fun k => sts.getD k .later) (fun _ h' => h' = E) 0 (ops.toList.take h) vals σ (fun vs _ => ∀ v hs', hs' = E → DT P N ops h σ R ps (predsB ops p ++ p :: did) (some (p :: ps)) (vs.set p v) hs')) : DT P N ops h σ R (p :: ps) did prev vals hs :=
  DT.more (Rp := fun _ h' => h' = E) sts hc c
end Go.Proofs.YtaegeaajhbfkgaaGreatDoorA

