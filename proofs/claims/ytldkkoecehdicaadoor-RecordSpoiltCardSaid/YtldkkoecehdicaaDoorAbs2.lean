/- Statements on code over abstract states: sequence, branch, block, loop, region, call, return. -/
import Derived.Test.YtldkkoecehdicaaDoorAbs1
import Derived.Sort.LoopGhostIn
import Derived.RangeFuncRecord
import Derived.OrdersIn
namespace Go.Proofs.YtldkkoecehdicaaDoorA
open Go
set_option linter.unusedVariables false
set_option linter.unusedSimpArgs false

theorem eget_same (σ : Env) (t : Nat) (v : AV) : eget ((t, v) :: σ) t = v := by
  show (bif Nat.beq t t then v else eget σ t) = v
  rw [show Nat.beq t t = true from Nat.beq_refl t]; rfl

theorem eget_ne (σ : Env) {t u : Nat} (v : AV) (h : t ≠ u) : eget ((t, v) :: σ) u = eget σ u := by
  show (bif Nat.beq t u then v else eget σ u) = _
  rw [show Nat.beq t u = false from by
    cases hb : Nat.beq t u
    · rfl
    · exact absurd (Nat.eq_of_beq_eq_true hb) h]
  rfl

/-- How a function is walked: its slots, the heap's size where it was entered, the loop in whose round it is walked. -/
structure Nm where
  n : Nat
  B : Nat
  ro : Option Nat

/-- The marks of the ranges over functions that have been left behind. -/
def Marks (B : Nat) (κ : Kap) (hs : Hp) (w : World) (ds : List Deferred) : Prop :=
  B ≤ w.heap.size ∧ ds.Nodup ∧ ∀ d ∈ ds, ∃ D, d = { target := .collected D, args := #[] } ∧ B ≤ D ∧ w.heap[D]? = some (.deferred (some [])) ∧ ¬ Own κ hs D
theorem Marks.nil {B : Nat} (κ : Kap) (hs : Hp) {w : World} (h : B ≤ w.heap.size) : Marks B κ hs w [] := ⟨h, List.nodup_nil, fun d hd => by cases hd⟩
theorem Marks.ext {B : Nat} {κ κ' : Kap} {hs hs' : Hp} {w w' : World} {ds : List Deferred} (h : Marks B κ hs w ds) (e : Ext κ hs w κ' hs' w') : Marks B κ' hs' w' ds :=
  ⟨Nat.le_trans h.1 e.size, h.2.1, fun d hd => by
    obtain ⟨D, rfl, h1, h2, h3⟩ := h.2.2 d hd
    have hlt := (Array.getElem?_eq_some_iff.1 h2).1
    exact ⟨D, rfl, h1, (e.same D hlt h3).trans h2, fun h' => h3 (e.own D hlt h')⟩⟩

structure Sim (N : Nm) (κ : Kap) (hs : Hp) (w : World) (σ : Env) (a : Act) : Prop where
  heap : HS κ w hs
  size : a.tmps.size = N.n
  defers : Marks N.B κ hs w a.defers
  get : ∀ t, RepA κ w (Own κ hs) (a.tmps.getD t undef) (eget σ t)

theorem Sim.put {N : Nm} {κ κ' : Kap} {hs hs' : Hp} {w w' : World} {σ : Env} {a : Act} (s : Sim N κ hs w σ a) (e : Ext κ hs w κ' hs' w') (h : HS κ' w' hs')
    {t : Nat} {u : Value} {v : AV} (ht : t < N.n) (hv : RepA κ' w' (Own κ' hs') u v) : Sim N κ' hs' w' ((t, v) :: σ) (a.put (some t) u) := by
  refine ⟨h, by simp [Act.put, s.size], s.defers.ext e, fun i => ?_⟩
  by_cases hi : t = i
  · subst hi
    rw [eget_same]
    have : (a.put (some t) u).tmps.getD t undef = u := by simp [Act.put, s.size, ht]
    rw [this]; exact hv
  · rw [eget_ne σ v hi]
    have : (a.put (some t) u).tmps.getD i undef = a.tmps.getD i undef := by simp [Act.put, Array.getElem?_setIfInBounds_ne hi]
    rw [this]; exact (s.get i).ext e

theorem Sim.ext {N : Nm} {κ κ' : Kap} {hs hs' : Hp} {w w' : World} {σ : Env} {a : Act} (s : Sim N κ hs w σ a) (e : Ext κ hs w κ' hs' w') (h : HS κ' w' hs') :
    Sim N κ' hs' w' σ a := ⟨h, s.size, s.defers.ext e, fun i => (s.get i).ext e⟩

/-- What is known of fewer slots, and of fewer objects. -/
def ELe : Env → Env → Prop
  | [], _ => True
  | (t, v) :: σ', σ => eget σ t = v ∧ ELe σ' σ

theorem ELe.get {κ : Kap} {w : World} {O : Nat → Prop} {f : Nat → Value} : ∀ {σ' σ : Env}, ELe σ' σ → (∀ t, RepA κ w O (f t) (eget σ t)) → ∀ t, RepA κ w O (f t) (eget σ' t)
  | [], _, _, _, t => .any _
  | (k, v) :: σ', σ, h, hf, t => by
    by_cases hk : k = t
    · subst hk; rw [eget_same, ← h.1]; exact hf k
    · rw [eget_ne σ' v hk]; exact ELe.get h.2 hf t

def HLe (hs' hs : Hp) : Prop := (∀ x ∈ hs', x ∈ hs) ∧ ((hs.map (·.1)).Nodup → (hs'.map (·.1)).Nodup)

theorem HLe.refl (hs : Hp) : HLe hs hs := ⟨fun _ h => h, fun h => h⟩
theorem HLe.sub {hs' hs : Hp} (h : hs'.Sublist hs) : HLe hs' hs := ⟨fun _ hx => h.subset hx, fun hn => (h.map _).nodup hn⟩
theorem HLe.perm {hs' hs : Hp} (h : hs'.Perm hs) : HLe hs' hs := ⟨fun _ hx => h.subset hx, fun hn => (h.map _).nodup_iff.2 hn⟩
theorem HLe.trans {a b c : Hp} (h : HLe a b) (k : HLe b c) : HLe a c := ⟨fun x hx => k.1 x (h.1 x hx), fun hn => h.2 (k.2 hn)⟩
theorem HLe.skip {hs' hs : Hp} (x : Nat × HO) (h : HLe hs' hs) : HLe hs' (x :: hs) :=
  ⟨fun y hy => List.mem_cons_of_mem _ (h.1 y hy), fun hn => h.2 (List.nodup_cons.1 (by simpa using hn)).2⟩
theorem HLe.cons {hs' hs : Hp} (x : Nat × HO) (h : HLe hs' hs) : HLe (x :: hs') (x :: hs) := by
  refine ⟨fun y hy => ?_, fun hn => ?_⟩
  · rcases List.mem_cons.1 hy with rfl | hy
    · exact List.mem_cons_self
    · exact List.mem_cons_of_mem _ (h.1 y hy)
  · rw [List.map_cons, List.nodup_cons] at hn ⊢
    refine ⟨fun hm => hn.1 ?_, h.2 hn.2⟩
    obtain ⟨y, hy, he⟩ := List.mem_map.1 hm
    exact he ▸ List.mem_map_of_mem (h.1 y hy)
theorem HLe.cons' {hs' hs : Hp} {id : Nat} {o o' : HO} (ho : o' = o) (h : HLe hs' hs) : HLe ((id, o') :: hs') ((id, o) :: hs) := ho ▸ HLe.cons _ h

theorem Sim.le {N : Nm} {κ : Kap} {hs hs' : Hp} {w : World} {σ σ' : Env} {a : Act} (s : Sim N κ hs w σ a) (he : ELe σ' σ) (hh : HLe hs' hs) :
    Sim N κ hs' w σ' a ∧ Ext κ hs w κ hs' w := by
  obtain ⟨h1, h2⟩ := s.heap.sub (hh.2 s.heap.nodup) hh.1
  exact ⟨⟨h1, s.size, s.defers.ext h2, fun t => (he.get s.get t).ext h2⟩, h2⟩

inductive Xt where
  | normal
  | exit (id : Nat)
  | ret

def Xt.ex : Xt → Exit
  | .normal => .normal
  | .exit id => .exit id
  | .ret => .ret

abbrev Post := Xt → Env → Hp → Prop

def Con (N : Nm) (κ : Kap) (hs : Hp) (w : World) (Q : Post) : Exit → Act → World → Prop := fun e a' w' =>
  ∃ x κ' σ' hs', e = Xt.ex x ∧ Sim N κ' hs' w' σ' a' ∧ Ext κ hs w κ' hs' w' ∧ Q x σ' hs'

theorem Con.ext {N : Nm} {κ κ' : Kap} {hs hs' : Hp} {w w' : World} {Q : Post} (e : Ext κ hs w κ' hs' w') {x : Exit} {a : Act} {w₁ : World} (h : Con N κ' hs' w' Q x a w₁) :
    Con N κ hs w Q x a w₁ := by
  obtain ⟨y, κ₁, σ₁, hs₁, h1, h2, h3, h4⟩ := h
  exact ⟨y, κ₁, σ₁, hs₁, h1, h2, e.trans h3, h4⟩

def FR (ro : Option Nat) : Fence := { Fence.wide with round := ro }
theorem FR_fn (ro : Option Nat) (f : FuncId) : (FR ro).fn f := trivial
def W (P : Program) (N : Nm) (c : Code) (Q : Post) (σ : Env) (hs : Hp) : Prop := ∀ κ a w, Sim N κ hs w σ a → c.wpIn (FR N.ro) 0 P (Con N κ hs w Q) a w

def Post.then (R : Env → Hp → Prop) (Q : Post) : Post
  | .normal => R
  | x => Q x

def Post.block (id : Nat) (Q : Post) : Post
  | .exit i => bif Nat.beq i id then Q .normal else Q (.exit i)
  | x => Q x

section rules
variable {P : Program} {N : Nm} {Q : Post} {σ : Env} {hs : Hp}

theorem W.mono {c : Code} {Q' : Post} (h : W P N c Q σ hs) (hq : ∀ x σ hs, Q x σ hs → Q' x σ hs) : W P N c Q' σ hs := fun κ a w s =>
  wpIn_mono (h κ a w s) fun _ _ _ ⟨y, κ₁, σ₁, hs₁, h1, h2, h3, h4⟩ => ⟨y, κ₁, σ₁, hs₁, h1, h2, h3, hq _ _ _ h4⟩

theorem W.le {c : Code} (σ' : Env) (hs' : Hp) (he : ELe σ' σ) (hh : HLe hs' hs) (h : W P N c Q σ' hs') : W P N c Q σ hs := fun κ a w s => by
  obtain ⟨s', e⟩ := s.le he hh
  exact wpIn_mono (h κ a w s') fun _ _ _ hc => hc.ext e

theorem W.heap {c : Code} (hs' : Hp) (hh : HLe hs' hs) (h : W P N c Q σ hs') : W P N c Q σ hs := fun κ a w s => by
  obtain ⟨h1, h2⟩ := s.heap.sub (hh.2 s.heap.nodup) hh.1
  exact wpIn_mono (h κ a w ⟨h1, s.size, s.defers.ext h2, fun t => (s.get t).ext h2⟩) fun _ _ _ hc => hc.ext h2

theorem erase_perm {α : Type} : ∀ (l : List α) (k : Nat) (x : α), l[k]? = some x → (x :: l.eraseIdx k).Perm l
  | [], k, x, h => by simp at h
  | y :: l, 0, x, h => by simp at h; subst h; exact .refl _
  | y :: l, k + 1, x, h => by
    have := erase_perm l k x (by simpa using h)
    exact (List.Perm.swap y x _).trans (this.cons y)

/-- The object at place k is laid at the head. -/
theorem W.front {c : Code} (k : Nat) {x : Nat × HO} (hk : hs[k]? = some x) (h : W P N c Q σ (x :: hs.eraseIdx k)) : W P N c Q σ hs :=
  W.heap _ (HLe.perm (erase_perm hs k x hk)) h

theorem W.skip (h : Q .normal σ hs) : W P N .skip Q σ hs := fun κ a w s => wpIn_skip ⟨.normal, κ, σ, hs, rfl, s, .refl _ _ _, h⟩
theorem W.exit {id : Nat} (h : Q (.exit id) σ hs) : W P N (.exit id) Q σ hs := fun κ a w s => wpIn_exit ⟨.exit id, κ, σ, hs, rfl, s, .refl _ _ _, h⟩
theorem W.ret (h : Q .ret σ hs) : W P N .ret Q σ hs := fun κ a w s => wpIn_ret ⟨.ret, κ, σ, hs, rfl, s, .refl _ _ _, h⟩

theorem W.seq {x y : Code} (h : W P N x (Post.then (fun σ hs => W P N y Q σ hs) Q) σ hs) : W P N (.seq x y) Q σ hs := fun κ a w s => by
  refine wpIn_seq (wpIn_mono (h κ a w s) ?_)
  rintro e a' w' ⟨t, κ₁, σ₁, hs₁, rfl, h2, h3, h4⟩
  cases t with
  | normal => exact wpIn_mono (h4 κ₁ a' w' h2) fun _ _ _ hc => hc.ext h3
  | exit id => exact ⟨_, κ₁, σ₁, hs₁, rfl, h2, h3, h4⟩
  | ret => exact ⟨_, κ₁, σ₁, hs₁, rfl, h2, h3, h4⟩

/-- A sequence met at a statement in between. -/
theorem W.seq_mid {x y : Code} (M : Env → Hp → Prop) (h : W P N x (Post.then M Q) σ hs) (hy : ∀ σ hs, M σ hs → W P N y Q σ hs) : W P N (.seq x y) Q σ hs :=
  W.seq (h.mono fun x σ hs hq => by cases x <;> first | exact hy _ _ hq | exact hq)

theorem W.block {id : Nat} {c : Code} (h : W P N c (Post.block id Q) σ hs) : W P N (.block id c) Q σ hs := fun κ a w s => by
  refine wpIn_block (wpIn_mono (h κ a w s) ?_)
  rintro e a' w' ⟨t, κ₁, σ₁, hs₁, rfl, h2, h3, h4⟩
  cases t with
  | normal => exact ⟨_, κ₁, σ₁, hs₁, rfl, h2, h3, h4⟩
  | ret => exact ⟨_, κ₁, σ₁, hs₁, rfl, h2, h3, h4⟩
  | exit i =>
    show (if i = id then Con N κ hs w Q .normal a' w' else Con N κ hs w Q (.exit i) a' w')
    have h5 : (bif Nat.beq i id then Q .normal else Q (.exit i)) σ₁ hs₁ := h4
    by_cases hi : i = id
    · rw [if_pos hi]; subst hi
      rw [show Nat.beq i i = true from Nat.beq_refl i] at h5
      exact ⟨.normal, κ₁, σ₁, hs₁, rfl, h2, h3, h5⟩
    · rw [if_neg hi]
      rw [show Nat.beq i id = false from by
        cases hb : Nat.beq i id
        · rfl
        · exact absurd (Nat.eq_of_beq_eq_true hb) hi] at h5
      exact ⟨.exit i, κ₁, σ₁, hs₁, rfl, h2, h3, h5⟩

def absConst : Value → AV
  | .int k n => .d (.int k n)
  | .bool b => .d (.bool b)
  | .string s => .d (.str s)
  | .slice none 0 0 => .nilsl
  | .pointer none => .d .nilp
  | .nilIface => .d .nilif
  | _ => .any

def oev (σ : Env) : Operand → AV
  | .tmp t => eget σ t
  | .const v => absConst v
  | .global _ => .any
  | .func f => .fn f []

theorem absConst_rep (κ : Kap) (w : World) (O : Nat → Prop) (v : Value) : RepA κ w O v (absConst v) := by
  unfold absConst
  split <;> first
    | exact .d (.int _ _)
    | exact .d (.bool _)
    | exact .d (.str _)
    | exact .nilsl
    | exact .d .nilp
    | exact .d .nilif
    | exact .any _

theorem Sim.oev {κ : Kap} {w : World} {a : Act} (s : Sim N κ hs w σ a) (x : Operand) : RepA κ w (Own κ hs) (a.eval x) (oev σ x) := by
  cases x with
  | tmp t => exact s.get t
  | const v => exact absConst_rep _ _ _ v
  | global g => exact .any _
  | func f => exact .fn _ _ _ rfl (fun i v x h => by simp at h)

theorem RepA.bool_inv {κ : Kap} {w : World} {O : Nat → Prop} {v : Value} {b : Bool} (h : RepA κ w O v (.d (.bool b))) : v = .bool b := by
  cases h with | d h => cases h; rfl
theorem RepA.int_inv {κ : Kap} {w : World} {O : Nat → Prop} {v : Value} {k : IntKind} {n : Int} (h : RepA κ w O v (.d (.int k n))) : v = .int k n := by
  cases h with | d h => cases h; rfl
theorem RepA.str_inv {κ : Kap} {w : World} {O : Nat → Prop} {v : Value} {s : ByteArray} (h : RepA κ w O v (.d (.str s))) : v = .string s := by
  cases h with | d h => cases h; rfl

theorem W.cond {c : Operand} {x y : Code} {b : Bool} (hc : oev σ c = .d (.bool b)) (ht : b = true → W P N x Q σ hs) (hf : b = false → W P N y Q σ hs) :
    W P N (.cond c x y) Q σ hs := fun κ a w s => by
  have h := s.oev c
  rw [hc] at h
  exact wpIn_cond_split h.bool_inv (fun hb => ht hb κ a w s) (fun hb => hf hb κ a w s)

theorem W.cond_t {c : Operand} {x y : Code} (hc : oev σ c = .d (.bool true)) (ht : W P N x Q σ hs) : W P N (.cond c x y) Q σ hs :=
  W.cond hc (fun _ => ht) (fun h => by cases h)
theorem W.cond_f {c : Operand} {x y : Code} (hc : oev σ c = .d (.bool false)) (ht : W P N y Q σ hs) : W P N (.cond c x y) Q σ hs :=
  W.cond hc (fun h => by cases h) (fun _ => ht)

/-- A loop: the state at a round's head, given by a ghost x; a measure. -/
theorem W.loop {ι : Type} {c : Code} (e : ι → Env) (H : ι → Hp) (I : ι → Prop) (μ : ι → Nat) (x₀ : ι) (h0 : I x₀) (hσ : ELe (e x₀) σ) (hh : HLe (H x₀) hs)
    (round : ∀ x, I x → W P N c (Post.then (fun σ' hs' => ∃ x', I x' ∧ μ x' < μ x ∧ ELe (e x') σ' ∧ HLe (H x') hs') Q) (e x) (H x)) : W P N (.loop c) Q σ hs := by
  intro κ a w s
  refine wpIn_loop_ghost (fun n a' w' => ∃ x κ', I x ∧ μ x = n ∧ Sim N κ' (H x) w' (e x) a' ∧ Ext κ hs w κ' (H x) w') (μ x₀) ?_ ?_
  · obtain ⟨s', e'⟩ := s.le hσ hh
    exact ⟨x₀, κ, h0, rfl, s', e'⟩
  · rintro n a' w' ⟨x, κ', hI, rfl, s', e'⟩
    refine wpIn_mono (round x hI κ' a' w' s') ?_
    rintro ex a₂ w₂ ⟨t, κ₂, σ₂, hs₂, rfl, s₂, e₂, hq⟩
    cases t with
    | normal =>
      obtain ⟨x', hI', hlt, hle, hhe⟩ := hq
      obtain ⟨s₃, e₃⟩ := s₂.le hle hhe
      exact ⟨μ x', hlt, x', κ₂, hI', rfl, s₃, (e'.trans e₂).trans e₃⟩
    | exit id => exact ⟨_, κ₂, σ₂, hs₂, rfl, s₂, e'.trans e₂, hq⟩
    | ret => exact ⟨_, κ₂, σ₂, hs₂, rfl, s₂, e'.trans e₂, hq⟩

/-- Ghost step: a nil slice becomes an empty list of one's own. -/
theorem W.ghost {c : Code} (t sz : Nat) (hz : 0 < sz) (ht : eget σ t = .nilsl) (htN : Nat.blt t N.n = true) (h : ∀ id, W P N c Q ((t, .vs id 0 0 sz) :: σ) ((id, .lst sz []) :: hs)) : W P N c Q σ hs := by
  intro κ a w s
  obtain ⟨id, κ', h1, e, hk⟩ := s.heap.none sz hz
  have hv := s.get t
  rw [ht] at hv
  generalize hu : a.tmps.getD t undef = u at hv
  cases hv with
  | nilsl =>
    refine wpIn_mono (h id κ' a w ⟨h1, s.size, s.defers.ext e, fun i => ?_⟩) fun _ _ _ hc => hc.ext e
    by_cases hi : t = i
    · subst hi; rw [eget_same, hu]
      exact .vs _ _ _ id 0 0 sz hk (Nat.le_refl _) (fun h => absurd h (Nat.lt_irrefl _))
    · rw [eget_ne σ _ hi]; exact (s.get i).ext e

/-- Ghost step: a whole list of one's own becomes data. -/
theorem W.freeze {c : Code} (t k : Nat) {id n sz : Nat} {rows : List (List D)} (ht : eget σ t = .vs id 0 n sz) (hk : hs[k]? = some (id, .lst sz rows)) (hn : n = rows.length)
    (h : W P N c Q ((t, .d (.sl sz rows)) :: σ) (hs.eraseIdx k)) : W P N c Q σ hs := by
  intro κ a w s
  obtain ⟨h1, e⟩ := s.heap.sublist (List.eraseIdx_sublist hs k)
  have hmem : (id, HO.lst sz rows) ∈ hs := List.mem_of_getElem? hk
  have hv := s.get t
  rw [ht] at hv
  generalize hu : a.tmps.getD t undef = u at hv
  cases hv with
  | vs ob cap p _ _ _ _ hkk hle hp =>
    refine wpIn_mono (h κ a w ⟨h1, s.size, s.defers.ext e, fun i => ?_⟩) fun _ _ _ hc => hc.ext e
    by_cases hi : t = i
    · subst hi; rw [eget_same, hu]
      obtain ⟨x, hx, hok⟩ := s.heap.ok id _ hmem
      rw [hkk] at hx
      obtain rfl := Option.some.inj hx
      obtain ⟨g0, _, g1, g2, g3, g4, g5⟩ := hok
      have hnot : ∀ b, ob = some b → ¬ Own κ (hs.eraseIdx k) b := by
        rintro b rfl ⟨id', o', c', hi', hk'⟩
        have : id' = id := s.heap.inj id' id o' _ b c' cap ((List.eraseIdx_sublist hs k).subset hi') hmem hk' hkk
        subst this
        have hnd := s.heap.nodup
        have h3 := ((erase_perm hs k _ hk).map (·.1)).nodup_iff.2 hnd
        rw [List.map_cons, List.nodup_cons] at h3
        exact h3.1 (List.mem_map.2 ⟨_, hi', rfl⟩)
      cases ob with
      | none =>
        have hc0 : cap = 0 := g4 rfl
        subst hc0
        have hr0 : rows = [] := List.eq_nil_of_length_eq_zero (by omega)
        subst hr0
        exact .d (.sl _ _ _ _ _ (fun _ _ => undef) hn (by simp at hn; omega) (by simp) (by simp) (by simp) (by simp))
      | some b =>
        obtain ⟨cs, T, hw, hsz, hr⟩ := g5 b rfl
        have hpp : rows ≠ [] → p = some ⟨b, 0, none⟩ := fun hne => by
          have h0 : 0 < rows.length := List.length_pos_iff.2 hne
          have := hp (by omega)
          simpa using this
        refine .d (.sl p n (cap - 0) sz rows (fun i j => cs.getD (i * sz + j) undef) hn (by omega) g2 g3 (fun i j r d hi hj => ?_) (fun i j r d hi hj => ?_))
        · obtain ⟨v, hv, _⟩ := hr i j r d hi hj
          have hne : rows ≠ [] := by rintro rfl; simp at hi
          refine ⟨_, hpp hne, hnot b rfl, ?_⟩
          have hadd : (⟨b, 0, none⟩ : Addr).add (i * sz + j) = ⟨b, i * sz + j, none⟩ := by unfold Addr.add; split <;> simp_all
          rw [hadd]
          simp [World.cell?, hw, hv]
        · obtain ⟨v, hv, hd⟩ := hr i j r d hi hj
          have : cs.getD (i * sz + j) undef = v := by simp [hv]
          rw [this]
          exact hd.mono (fun b _ ho => e.own b ‹_› ho) (fun _ _ _ => rfl)
    · rw [eget_ne σ _ hi]; exact (s.get i).ext e

end rules

/-- An operation, carried out in whatever function's frame. -/
def oWp (P : Program) (o : Oper) (a : Act) (w : World) (K : Act → World → Prop) (Q : Exit → Act → World → Prop) : Prop := o.uponIn Fence.wide 0 P a K Q ((execOp a.eval o).run P w)
theorem oWp_mono {P : Program} {o : Oper} {a : Act} {w : World} {K K' : Act → World → Prop} {Q : Exit → Act → World → Prop} (h : ∀ a w, K a w → K' a w) (hh : oWp P o a w K Q) : oWp P o a w K' Q := by
  unfold oWp at *
  generalize (execOp a.eval o).run P w = r at *
  cases r with
  | ok x w' =>
    cases x <;> simp only [Oper.uponIn] at hh ⊢ <;>
      first
        | exact h _ _ hh
        | exact ⟨hh.1, CallsIn.mono hh.2 (fun e w'' he => by cases e <;> first | exact h _ _ he | exact he)⟩
        | exact ⟨hh.1, RowsIn.mono hh.2 (fun _ _ he => h _ _ he)⟩
        | exact ⟨hh.1, RoundIn.mono hh.2 (fun e w'' he => by cases e <;> first | exact h _ _ he | exact he)⟩
  | halt x w' => cases x <;> simp only [Oper.uponIn] at hh ⊢ <;> exact hh
def noDefer (o : Oper) : Bool := match o.op with | .defer _ => false | _ => true
/-- In a round: no deferred call. -/
def ndOk (ro : Option Nat) (ops : Array Oper) : Bool := ro.isNone || ops.toList.all noDefer
theorem ndOk_at {ro : Option Nat} {ops : Array Oper} (h : ndOk ro ops = true) {k : Nat} {o : Oper} (hk : ops[k]? = some o) : ro = none ∨ noDefer o = true := by
  unfold ndOk at h
  rcases Bool.or_eq_true_iff.1 h with h | h
  · exact .inl (by simpa using h)
  · exact .inr (List.all_eq_true.1 h o (List.mem_of_getElem? (by simpa using hk)))
theorem oWp_in {P : Program} {ro : Option Nat} {o : Oper} {a : Act} {w : World} {K : Act → World → Prop} {Q : Exit → Act → World → Prop} (hn : ro = none ∨ noDefer o = true) (h : oWp P o a w K Q) : o.wpIn (FR ro) 0 P a w K Q := by
  refine ⟨fun _ _ => trivial, ?_⟩
  have hs : o.semAt (FR ro).round a.eval = execOp a.eval o := by
    rcases hn with rfl | hn
    · rfl
    · refine Oper.semAt_eq _ _ _ fun c hc => ?_
      unfold noDefer at hn; rw [hc] at hn; cases hn
  rw [hs]
  unfold oWp at h
  generalize (execOp a.eval o).run P w = r at *
  cases r with
  | ok x w' => cases x <;> exact h
  | halt x w' => cases x <;> exact h

/-- One operation that leaves the objects alone and yields v. -/
def Quiet (P : Program) (N : Nm) (σ : Env) (hs : Hp) (o : Oper) (v : AV) : Prop :=
  ∀ κ a w, Sim N κ hs w σ a → ∀ (K : Act → World → Prop) (Q : Exit → Act → World → Prop),
    (∀ κ' w' u, HS κ' w' hs → Ext κ hs w κ' hs w' → RepA κ' w' (Own κ' hs) u v → K (a.put o.dst u) w') → oWp P o a w K Q

/-- One operation that may do more. -/
def Loud (P : Program) (N : Nm) (σ : Env) (hs : Hp) (o : Oper) (R : Env → Hp → Prop) : Prop :=
  ∀ κ a w, Sim N κ hs w σ a → ∀ (K : Act → World → Prop) (Q : Exit → Act → World → Prop),
    (∀ κ' a' w' σ' hs', Sim N κ' hs' w' σ' a' → Ext κ hs w κ' hs' w' → R σ' hs' → K a' w') → oWp P o a w K Q

def putE (d : Option Tmp) (v : AV) (σ : Env) : Env := match d with | some t => (t, v) :: σ | none => σ
def dstOk (N : Nm) (d : Option Tmp) : Bool := match d with | some t => Nat.blt t N.n | none => true

theorem Sim.putO {N : Nm} {κ κ' : Kap} {hs hs' : Hp} {w w' : World} {σ : Env} {a : Act} (s : Sim N κ hs w σ a) (e : Ext κ hs w κ' hs' w') (h : HS κ' w' hs')
    {d : Option Tmp} {u : Value} {v : AV} (ht : dstOk N d = true) (hv : RepA κ' w' (Own κ' hs') u v) : Sim N κ' hs' w' (putE d v σ) (a.put d u) := by
  cases d with
  | none => exact s.ext e h
  | some t => exact s.put e h (by simpa [dstOk, Nat.blt_eq] using ht) hv

theorem Quiet.loud {P : Program} {N : Nm} {σ : Env} {hs : Hp} {o : Oper} {v : AV} (h : Quiet P N σ hs o v) (hd : dstOk N o.dst = true) :
    Loud P N σ hs o (fun σ' hs' => σ' = putE o.dst v σ ∧ hs' = hs) := fun κ a w s K Q hK =>
  h κ a w s K Q fun κ' w' u h1 e hv => hK κ' _ w' _ hs (s.putO e h1 hd hv) e ⟨rfl, rfl⟩

/-- The operations of a region, one behind the other. -/
def wpL (P : Program) (ops : Array Oper) (Q : Exit → Act → World → Prop) : List Oper → Act → World → Prop
  | [], a, w => Q .normal a w
  | o :: l, a, w => if Region.wanted o (yielded ops a.tmps) then oWp P o a w (wpL P ops Q l) Q else wpL P ops Q l (a.put o.dst undef) w

theorem wpL_ops {P : Program} {ro : Option Nat} {ops : Array Oper} {Q : Exit → Act → World → Prop} (hnd : ndOk ro ops = true) : ∀ (l : List Oper) (k : Nat) (a : Act) (w : World), ops.toList.drop k = l → wpL P ops Q l a w →
    wpOpsIn (FR ro) 0 P ops Q (List.range' k l.length) a w
  | [], k, a, w, _, h => h
  | o :: l, k, a, w, hd, h => by
    have hk : ops[k]? = some o := by
      have : (ops.toList.drop k)[0]? = some o := by rw [hd]; rfl
      simpa using this
    have hd' : ops.toList.drop (k + 1) = l := by rw [← List.tail_drop, hd]; rfl
    have ih := fun a w => wpL_ops (P := P) (Q := Q) hnd l (k + 1) a w hd'
    simp only [List.length_cons, List.range'_succ, wpOpsIn, hk]
    simp only [wpL] at h
    split
    · rename_i hw
      rw [if_pos hw] at h
      exact oWp_in (ndOk_at hnd hk) (oWp_mono (fun a w => ih a w) h)
    · rename_i hw
      rw [if_neg hw] at h
      exact ⟨fun _ _ => trivial, ih _ _ h⟩

def XOps (P : Program) (N : Nm) (ops : Array Oper) (l : List Oper) (σ : Env) (hs : Hp) (R : Env → Hp → Prop) : Prop :=
  ∀ κ a w, Sim N κ hs w σ a → ∀ (Q : Exit → Act → World → Prop),
    (∀ κ' a' w' σ' hs', Sim N κ' hs' w' σ' a' → Ext κ hs w κ' hs' w' → R σ' hs' → Q .normal a' w') → wpL P ops Q l a w

section regions
variable {P : Program} {N : Nm} {Q : Post} {σ : Env} {hs : Hp} {ops : Array Oper} {l : List Oper} {R : Env → Hp → Prop}

theorem W.region {id : Nat} (h : XOps P N ops ops.toList σ hs (fun σ' hs' => Q .normal σ' hs')) (hnd : ndOk N.ro ops = true := by rfl) : W P N (.region id ops false) Q σ hs := fun κ a w s => by
  refine wpIn_region ?_
  have := wpL_ops (P := P) hnd (ops := ops) (Q := Con N κ hs w Q) ops.toList 0 a w rfl
    (h κ a w s _ fun κ' a' w' σ' hs' s' e hr => ⟨.normal, κ', σ', hs', rfl, s', e, hr⟩)
  rwa [Array.length_toList, ← List.range_eq_range'] at this

theorem W.reg {id : Nat} {y : Code} (h : XOps P N ops ops.toList σ hs (fun σ' hs' => W P N y Q σ' hs')) (hnd : ndOk N.ro ops = true := by rfl) : W P N (.seq (.region id ops false) y) Q σ hs :=
  W.seq (W.region h hnd)

theorem XOps.nil (h : R σ hs) : XOps P N ops [] σ hs R := fun κ a w s Q hQ => hQ κ a w σ hs s (.refl _ _ _) h

theorem XOps.loud {o : Oper} {R' : Env → Hp → Prop} (hg : o.guard = none) (h : Loud P N σ hs o R') (hl : ∀ σ' hs', R' σ' hs' → XOps P N ops l σ' hs' R) : XOps P N ops (o :: l) σ hs R := by
  intro κ a w s Q hQ
  have hw : Region.wanted o (yielded ops a.tmps) = true := by simp [Region.wanted, hg]
  simp only [wpL, hw, if_true]
  refine h κ a w s _ Q fun κ' a' w' σ' hs' s' e hr => ?_
  exact hl σ' hs' hr κ' a' w' s' Q fun κ₂ a₂ w₂ σ₂ hs₂ s₂ e₂ h₂ => hQ κ₂ a₂ w₂ σ₂ hs₂ s₂ (e.trans e₂) h₂

theorem XOps.q {o : Oper} {v : AV} (hg : o.guard = none) (h : Quiet P N σ hs o v) (hd : dstOk N o.dst = true) (hl : XOps P N ops l (putE o.dst v σ) hs R) : XOps P N ops (o :: l) σ hs R :=
  XOps.loud hg (h.loud hd) (by rintro _ _ ⟨rfl, rfl⟩; exact hl)

/-- A guarded operation: what it yields is known where the guard holds. -/
theorem XOps.g {o oj : Oper} {v : AV} {j t : Nat} {b want : Bool} (hg : o.guard = some (j, want)) (hj : ops[j]? = some oj) (hjd : oj.dst = some t) (hb : eget σ t = .d (.bool b)) (htN : Nat.blt t N.n = true)
    (h : (b == want) = true → Quiet P N σ hs o v) (hd : dstOk N o.dst = true) (hl : XOps P N ops l (putE o.dst (.when (b == want) v) σ) hs R) : XOps P N ops (o :: l) σ hs R := by
  intro κ a w s Q hQ
  have hv := s.get t
  rw [hb] at hv
  have htl : t < a.tmps.size := by rw [s.size]; simpa [Nat.blt_eq] using htN
  have hv2 := hv.bool_inv
  have hy : yielded ops a.tmps j = some b := by
    have hv3 : a.tmps[t]? = some (.bool b) := by
      rw [Array.getElem?_eq_getElem htl]
      rw [show a.tmps.getD t undef = a.tmps[t] from by simp [htl]] at hv2
      rw [hv2]
    simp [yielded, hj, hjd, hv3]
  have hw : Region.wanted o (yielded ops a.tmps) = (b == want) := by
    simp only [Region.wanted, hg, hy]
    cases b <;> cases want <;> rfl
  simp only [wpL, hw]
  cases hbw : (b == want) with
  | true =>
    rw [if_pos rfl]
    refine h hbw κ a w s _ Q fun κ' w' u h1 e hu => ?_
    refine hl κ' _ w' (s.putO e h1 hd (.when _ _ _ (fun _ => hu) fun h => by rw [hbw] at h; cases h)) Q fun κ₂ a₂ w₂ σ₂ hs₂ s₂ e₂ h₂ => hQ κ₂ a₂ w₂ σ₂ hs₂ s₂ (e.trans e₂) h₂
  | false =>
    rw [if_neg (by simp)]
    exact hl κ _ w (s.putO (.refl _ _ _) s.heap hd (.when _ _ _ (fun h => by rw [hbw] at h; cases h) fun _ => rfl)) Q hQ

/-- The same, where the guard itself was guarded. -/
theorem XOps.gw {o oj : Oper} {v : AV} {j t : Nat} {g0 b want : Bool} (hg : o.guard = some (j, want)) (hj : ops[j]? = some oj) (hjd : oj.dst = some t) (hb : eget σ t = .when g0 (.d (.bool b))) (htN : Nat.blt t N.n = true)
    (h : (g0 && (b == want)) = true → Quiet P N σ hs o v) (hd : dstOk N o.dst = true) (hl : XOps P N ops l (putE o.dst (.when (g0 && (b == want)) v) σ) hs R) : XOps P N ops (o :: l) σ hs R := by
  intro κ a w s Q hQ
  have hv := s.get t
  rw [hb] at hv
  have htl : t < a.tmps.size := by rw [s.size]; simpa [Nat.blt_eq] using htN
  have hv3 : a.tmps[t]? = some (a.tmps.getD t undef) := by rw [Array.getElem?_eq_getElem htl]; simp [htl]
  have hw : Region.wanted o (yielded ops a.tmps) = (g0 && (b == want)) := by
    generalize a.tmps.getD t undef = u at hv hv3
    cases hv with
    | when _ _ _ h1 h2 =>
      cases g0 with
      | true =>
        obtain rfl := (h1 rfl).bool_inv
        have hy : yielded ops a.tmps j = some b := by simp [yielded, hj, hjd, hv3]
        simp only [Region.wanted, hg, hy]
        cases b <;> cases want <;> rfl
      | false =>
        obtain rfl := h2 rfl
        have hy : yielded ops a.tmps j = none := by simp [yielded, hj, hjd, hv3, undef]
        simp only [Region.wanted, hg, hy]
        rfl
  simp only [wpL, hw]
  cases hbw : (g0 && (b == want)) with
  | true =>
    rw [if_pos rfl]
    refine h hbw κ a w s _ Q fun κ' w' u h1 e hu => ?_
    refine hl κ' _ w' (s.putO e h1 hd (.when _ _ _ (fun _ => hu) fun h => by rw [hbw] at h; cases h)) Q fun κ₂ a₂ w₂ σ₂ hs₂ s₂ e₂ h₂ => hQ κ₂ a₂ w₂ σ₂ hs₂ s₂ (e.trans e₂) h₂
  | false =>
    rw [if_neg (by simp)]
    exact hl κ _ w (s.putO (.refl _ _ _) s.heap hd (.when _ _ _ (fun h => by rw [hbw] at h; cases h) fun _ => rfl)) Q hQ

/-- Where a guard is known to hold, what was yielded behind it is known. -/
theorem Quiet.open {o : Oper} {v x : AV} {g : Bool} (t : Nat) (hg : g = true) (ht : eget σ t = .when g x) (h : Quiet P N ((t, x) :: σ) hs o v) : Quiet P N σ hs o v :=
  fun κ a w s K Q hK => h κ a w ⟨s.heap, s.size, s.defers, fun i => by
    by_cases hi : t = i
    · subst hi
      rw [eget_same]
      have hv := s.get t
      rw [ht] at hv
      generalize a.tmps.getD t undef = u at hv
      cases hv with | when _ _ _ h _ => exact h hg
    · rw [eget_ne σ _ hi]; exact s.get i⟩ K Q hK

end regions

/-- A call, over abstract arguments and objects. -/
def AC (P : Program) (f : FuncId) (args : List AV) (hs : Hp) (R : AV → Hp → Prop) : Prop :=
  ∀ κ vals w, HS κ w hs → vals.size = args.length → (∀ (i : Nat) (v : Value) (x : AV), vals[i]? = some v → args[i]? = some x → RepA κ w (Own κ hs) v x) →
    Calls P f vals w fun e w' => ∃ κ' hs' v x, e = .returned v ∧ HS κ' w' hs' ∧ Ext κ hs w κ' hs' w' ∧ RepA κ' w' (Own κ' hs') v x ∧ R x hs'

theorem AC.mono {P : Program} {f : FuncId} {args : List AV} {hs : Hp} {R R' : AV → Hp → Prop} (h : AC P f args hs R) (hr : ∀ x hs', R x hs' → R' x hs') : AC P f args hs R' :=
  fun κ vals w h1 h2 h3 => (h κ vals w h1 h2 h3).mono fun _ _ ⟨κ', hs', v, x, a, b, c, d, e⟩ => ⟨κ', hs', v, x, a, b, c, d, hr _ _ e⟩

def envOf : List AV → Nat → Env
  | [], _ => []
  | x :: l, k => (k, x) :: envOf l (k + 1)

theorem envOf_get : ∀ (l : List AV) (k t : Nat), eget (envOf l k) t = .any ∨ ∃ i x, t = k + i ∧ l[i]? = some x ∧ eget (envOf l k) t = x
  | [], _, _ => .inl rfl
  | y :: l, k, t => by
    by_cases hk : k = t
    · subst hk
      exact .inr ⟨0, y, rfl, rfl, by rw [envOf, eget_same]⟩
    · rw [envOf, eget_ne _ _ hk]
      rcases envOf_get l (k + 1) t with h | ⟨i, x, rfl, h1, h2⟩
      · exact .inl h
      · exact .inr ⟨i + 1, x, by omega, by simpa using h1, h2⟩

/-- What the results read as, where no result lies in memory. -/
def slotsOf : List ResultVar → Env → Option (List AV)
  | [], _ => some []
  | .tmp t :: rs, σ => match slotsOf rs σ with | some l => some (eget σ t :: l) | none => none
  | .cell _ _ :: _, _ => none

def oneOf : List AV → AV
  | [x] => x
  | l => .tup l

def resOf (rs : List ResultVar) (σ : Env) : Option AV := match slotsOf rs σ with | some l => some (oneOf l) | none => none

def resSem (tmps : Array Value) : ResultVar → Sem Value
  | .tmp t => pure (tmps.getD t undef)
  | .cell a t => do loadVar t (← asAddr (tmps.getD a undef))

theorem results_eq (fn : Func) (tmps : Array Value) : results fn tmps = (fn.results.mapM (resSem tmps)) >>= fun vs => pure (if h : vs.size = 1 then vs[0] else .tuple vs) := rfl

theorem slots_run (P : Program) (w : World) (tmps : Array Value) : ∀ (rs : List ResultVar) (σ : Env) (xs : List AV), slotsOf rs σ = some xs →
    ∃ vs : List Value, (rs.mapM (resSem tmps)).run P w = .ok vs w ∧ vs.length = xs.length ∧
      ∀ (i : Nat) (v : Value) (x : AV), vs[i]? = some v → xs[i]? = some x → ∃ t, v = tmps.getD t undef ∧ x = eget σ t
  | [], σ, xs, h => by
    simp [slotsOf] at h; subst h
    exact ⟨[], rfl, rfl, by simp⟩
  | .cell a t :: rs, σ, xs, h => by simp [slotsOf] at h
  | .tmp t :: rs, σ, xs, h => by
    simp only [slotsOf] at h
    cases hy : slotsOf rs σ with
    | none => rw [hy] at h; cases h
    | some ys =>
      rw [hy] at h
      obtain rfl := Option.some.inj h
      obtain ⟨vs, h1, h2, h3⟩ := slots_run P w tmps rs σ ys hy
      refine ⟨tmps.getD t undef :: vs, ?_, by simp [h2], ?_⟩
      · rw [List.mapM_cons, Sem.run_bind, show resSem tmps (.tmp t) = pure (tmps.getD t undef) from rfl, Sem.run_pure, Result.andThen_ok, Sem.run_bind, h1]
        rfl
      · intro i v x hi hx
        cases i with
        | zero => exact ⟨t, (Option.some.inj hi).symm, (Option.some.inj hx).symm⟩
        | succ i => exact h3 i v x (by simpa using hi) (by simpa using hx)

theorem results_run {P : Program} {fn : Func} {N : Nm} {κ : Kap} {hs : Hp} {w : World} {σ : Env} {a : Act} {x : AV} (s : Sim N κ hs w σ a) (hx : resOf fn.results.toList σ = some x) :
    ∃ v, (results fn a.tmps).run P w = .ok v w ∧ RepA κ w (Own κ hs) v x := by
  unfold resOf at hx
  cases hxs : slotsOf fn.results.toList σ with
  | none => rw [hxs] at hx; cases hx
  | some xs =>
    rw [hxs] at hx
    obtain rfl := Option.some.inj hx
    obtain ⟨vs, h1, h2, h3⟩ := slots_run P w a.tmps _ σ xs hxs
    have h4 : (fn.results.mapM (resSem a.tmps)).run P w = .ok vs.toArray w := by
      rw [Array.mapM_eq_mapM_toList, Sem.run_map, h1]; rfl
    have h5 : ∀ (i : Nat) (v : Value) (x : AV), vs[i]? = some v → xs[i]? = some x → RepA κ w (Own κ hs) v x := fun i v x hi hx => by
      obtain ⟨t, rfl, rfl⟩ := h3 i v x hi hx
      exact s.get t
    have tupled : vs.length ≠ 1 → RepA κ w (Own κ hs) (.tuple vs.toArray) (.tup xs) := fun _ =>
      .tup _ _ (by simpa using h2) (fun i v x hi hx => h5 i v x (by simpa using hi) hx)
    rw [results_eq, Sem.run_bind, h4]
    show ∃ v, Result.ok (if h : vs.toArray.size = 1 then vs.toArray[0] else .tuple vs.toArray) w = .ok v w ∧ _
    match xs, vs, h2 with
    | [], [], _ => exact ⟨_, rfl, tupled (by simp)⟩
    | [x], [v], _ => exact ⟨v, rfl, h5 0 v x rfl rfl⟩
    | x :: y :: xs, v :: u :: vs, _ => exact ⟨_, by rw [dif_neg (by simp)], tupled (by simp)⟩

/-- A mark is taken in: its block alone turns. -/
theorem HS.mark {κ : Kap} {w : World} {hs : Hp} (h : HS κ w hs) {D : Nat} {o o' : Obj} (hD : w.heap[D]? = some o) (hc : ¬ isCells w D) (hO : ¬ Own κ hs D) :
    HS κ (w.putObj D o') hs ∧ ∀ v x, RepA κ w (Own κ hs) v x → RepA κ (w.putObj D o') (Own κ hs) v x := by
  have hr : ∀ b, b < w.heap.size → ¬ Own κ hs b → isCells w b → (w.putObj D o').heap[b]? = w.heap[b]? := fun b _ _ hb => World.putObj_heap_other fun e => hc (e ▸ hb)
  have hA : ∀ v x, RepA κ w (Own κ hs) v x → RepA κ (w.putObj D o') (Own κ hs) v x := fun v x hx => hx.monoC (fun _ _ h => h) (fun _ _ h => h) hr
  have hDd : ∀ v x, RepD w (Own κ hs) v x → RepD (w.putObj D o') (Own κ hs) v x := fun v x hx => hx.monoC (fun _ _ h => h) hr
  refine ⟨⟨h.nodup, fun id ob hi => ?_, h.inj, h.fresh⟩, hA⟩
  obtain ⟨⟨bb, cap⟩, hx, hok⟩ := h.ok id ob hi
  have hb : ∀ b, bb = some b → (w.putObj D o').heap[b]? = w.heap[b]? := fun b hb => World.putObj_heap_other fun e => hO ⟨id, ob, cap, hi, by rw [hx, hb, e]⟩
  refine ⟨_, hx, ?_⟩
  cases ob with
  | cells l =>
    obtain ⟨b, cs, rfl, hw, hsz, h1, hr⟩ := hok
    exact ⟨b, cs, rfl, (hb b rfl).trans hw, hsz, h1, fun i v x hi hx => hA _ _ (hr i v x hi hx)⟩
  | lst sz rows =>
    obtain ⟨h0, h0', h1, h2, h3, h4, h5⟩ := hok
    refine ⟨h0, h0', h1, h2, h3, h4, fun b hbe => ?_⟩
    obtain ⟨cs, T, hw, hsz, hr⟩ := h5 b hbe
    exact ⟨cs, T, (hb b hbe).trans hw, hsz, fun i j r d hi hj => let ⟨v, hv, hd⟩ := hr i j r d hi hj; ⟨v, hv, hDd _ _ hd⟩⟩
  | glob b l =>
    obtain ⟨h0, h1, T, f, h2⟩ := hok
    have hne : b ≠ D := fun e => hc (e ▸ (⟨_, T, f, h2⟩ : isCells w b))
    exact ⟨h0, h1, T, f, (World.putObj_heap_other hne).trans h2⟩
  | cap id c => exact hok
  | typ id T =>
    obtain ⟨h0, b, c, cs, f, h1, h2⟩ := hok
    have hne : b ≠ D := fun e => hc (e ▸ (⟨cs, T, f, h2⟩ : isCells w b))
    exact ⟨h0, b, c, cs, f, h1, (World.putObj_heap_other hne).trans h2⟩
  | byt l =>
    obtain ⟨b, cs, T, f, rfl, hw, h1⟩ := hok
    exact ⟨b, cs, T, f, rfl, (hb b rfl).trans hw, h1⟩
  | lsv l =>
    obtain ⟨h0, h0', h4, h5⟩ := hok
    refine ⟨h0, h0', h4, fun b hbe => ?_⟩
    obtain ⟨cs, T, hw, hsz, h1, hr⟩ := h5 b hbe
    exact ⟨cs, T, (hb b hbe).trans hw, hsz, h1, fun i v x hi hx => hA _ _ (hr i v x hi hx)⟩
  | loopr σ n ps assign body st pe =>
    obtain ⟨b, fn, tmps, D, rfl, hw, hsz, hr⟩ := hok
    exact ⟨b, fn, tmps, D, rfl, (hb b rfl).trans hw, hsz, fun t => hA _ _ (hr t)⟩

theorem Ext.mark {κ₀ κ : Kap} {hs₀ hs : Hp} {w₀ w : World} (e : Ext κ₀ hs₀ w₀ κ hs w) {D : Nat} (o' : Obj) (hD : w₀.heap.size ≤ D) : Ext κ₀ hs₀ w₀ κ hs (w.putObj D o') :=
  ⟨e.kap, by simpa using e.size, e.drawn, e.os, e.tape, e.output, fun b hb ho => (World.putObj_heap_other (by omega)).trans (e.same b hb ho), e.own, e.ids, fun b cs T f h => by
    obtain ⟨cs', f', h1⟩ := e.ty b cs T f h
    have := (Array.getElem?_eq_some_iff.1 h).1
    exact ⟨cs', f', (World.putObj_heap_other (by omega)).trans h1⟩⟩

/-- A function is left: its marks are taken in one after the other. -/
theorem leave_marks {P : Program} {fn : Func} {R : Ending → World → Prop} {κ₀ κ : Kap} {hs₀ hs : Hp} {w₀ : World} {σ : Env} {tmps : Array Value} {B : Nat} (hB : w₀.heap.size ≤ B)
    (F : ∀ w, HS κ w hs → Ext κ₀ hs₀ w₀ κ hs w → (∀ t, RepA κ w (Own κ hs) (tmps.getD t undef) (eget σ t)) → ∃ v, (results fn tmps).run P w = .ok v w ∧ R (.returned v) w) :
    ∀ (ds : List Deferred) (w : World), Marks B κ hs w ds → HS κ w hs → Ext κ₀ hs₀ w₀ κ hs w → (∀ t, RepA κ w (Own κ hs) (tmps.getD t undef) (eget σ t)) → LeavesInM Fence.wide 0 P fn tmps R ds .returning w
  | [], w, _, h, e, g => F w h e g
  | d :: ds, w, m, h, e, g => by
    obtain ⟨D, rfl, h1, h2, h3⟩ := m.2.2 d (List.mem_cons_self ..)
    have hc : ¬ isCells w D := fun ⟨cs, T, f, hb⟩ => by rw [h2] at hb; cases hb
    obtain ⟨g1, g2⟩ := h.mark (o' := .deferred none) h2 hc h3
    refine ⟨by simp, .inl ⟨D, _, rfl, run_takeDeferred h2, ?_⟩⟩
    refine leave_marks hB F ds _ ⟨by simpa using m.1, (List.nodup_cons.1 m.2.1).2, fun d hd => ?_⟩ g1 (e.mark _ (by omega)) (fun t => g2 _ _ (g t))
    obtain ⟨D', rfl, h4, h5, h6⟩ := m.2.2 d (List.mem_cons_of_mem _ hd)
    have hne : D' ≠ D := by
      rintro rfl
      exact (List.nodup_cons.1 m.2.1).1 hd
    exact ⟨D', rfl, h4, (World.putObj_heap_other hne).trans h5, h6⟩

/-- A function's contract out of its body's walk. -/
theorem AC.body {P : Program} {f : FuncId} {fn : Func} {c : Code} {args : List AV} {hs : Hp} {R : AV → Hp → Prop} {Q : Post} (N : Nat) (hf : P.funcs[f]? = some fn) (hb : fn.body = some c) (hN : fn.ntmps = N)
    (hl : Nat.ble args.length N = true) (h : ∀ B, W P ⟨N, B, none⟩ c Q (envOf args 0) hs) (hex : ∀ id σ hs, ¬ Q (.exit id) σ hs)
    (fin : ∀ x σ hs' κ w (tmps : Array Value), (x = .normal ∨ x = .ret) → Q x σ hs' → HS κ w hs' → (∀ t, RepA κ w (Own κ hs') (tmps.getD t undef) (eget σ t)) → tmps.size = N →
      ∃ v y hs'', (results fn tmps).run P w = .ok v w ∧ RepA κ w (Own κ hs') v y ∧ HLe hs'' hs' ∧ R y hs'') : AC P f args hs R := by
  intro κ vals w h1 h2 h3
  have hl' : vals.size ≤ N := by rw [h2]; simpa [Nat.ble_eq] using hl
  refine callsIn_wide (n := 0).1 (callsIn_of_wp_marks hf hb trivial (wpIn_mono (h w.heap.size κ _ w ⟨h1, by simp [hN]; omega, Marks.nil _ _ (Nat.le_refl _), fun t => ?_⟩) ?_))
  · rcases envOf_get args 0 t with he | ⟨i, x, rfl, h4, h5⟩
    · rw [he]; exact .any _
    · rw [h5]
      have hi : i < vals.size := by rw [h2]; exact (List.getElem?_eq_some_iff.1 h4).1
      have : (vals ++ Array.replicate (fn.ntmps - vals.size) undef).getD (0 + i) undef = vals[i] := by
        simp [Array.getElem?_append, hi]
      rw [this]
      exact h3 i _ x (Array.getElem?_eq_getElem hi) h4
  · rintro e a' w' ⟨t, κ₁, σ₁, hs₁, rfl, s, e, hq⟩
    have key : (t = .normal ∨ t = .ret) → LeavesInM Fence.wide 0 P fn a'.tmps (fun e w' => ∃ κ' hs' v x, e = .returned v ∧ HS κ' w' hs' ∧ Ext κ hs w κ' hs' w' ∧ RepA κ' w' (Own κ' hs') v x ∧ R x hs') a'.defers .returning w' := fun ht =>
      leave_marks (σ := σ₁) (B := w.heap.size) (Nat.le_refl _) (fun w₂ g1 g2 g3 => by
        obtain ⟨v, y, hs'', hv, hrep, hle, hr⟩ := fin t σ₁ hs₁ κ₁ w₂ a'.tmps ht hq g1 g3 s.size
        obtain ⟨k1, k2⟩ := g1.sub (hle.2 g1.nodup) hle.1
        exact ⟨v, hv, κ₁, hs'', v, y, rfl, k1, g2.trans k2, hrep.ext k2, hr⟩) a'.defers w' s.defers s.heap e s.get
    cases t with
    | normal => exact key (.inl rfl)
    | ret => exact key (.inr rfl)
    | exit id => exact (hex _ _ _ hq).elim

theorem AC.of {P : Program} {f : FuncId} {fn : Func} {c : Code} {args : List AV} {hs : Hp} {R : AV → Hp → Prop} (N : Nat) (hf : P.funcs[f]? = some fn) (hb : fn.body = some c) (hN : fn.ntmps = N)
    (hl : Nat.ble args.length N = true)
    (h : ∀ {B}, W P ⟨N, B, none⟩ c (fun ex σ' hs' => match ex with | .exit _ => False | _ => ∃ x hs'', resOf fn.results.toList σ' = some x ∧ HLe hs'' hs' ∧ R x hs'') (envOf args 0) hs) : AC P f args hs R :=
  AC.body N hf hb hN hl (fun B => h) (fun _ _ _ hq => hq) fun x σ hs' κ w tmps hx hq h1 h2 h3 => by
    have hq' : ∃ x hs'', resOf fn.results.toList σ = some x ∧ HLe hs'' hs' ∧ R x hs'' := by rcases hx with rfl | rfl <;> exact hq
    obtain ⟨y, hs'', hy, hle, hr⟩ := hq'
    obtain ⟨v, hv, hrep⟩ := results_run (N := ⟨N, 0, none⟩) (P := P) (fn := fn) (a := { tmps := tmps, defers := [] }) ⟨h1, h3, Marks.nil _ _ (Nat.zero_le _), h2⟩ hy
    exact ⟨v, y, hs'', hv, hrep, hle, hr⟩

end Go.Proofs.YtldkkoecehdicaaDoorA
