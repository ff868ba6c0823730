/- From the given reading of a call's arguments to the plain data of the framework, and from a contract back to the given statement's own form. -/
import Derived.Test.YtldkkoecehdicaaDoorAbs8
import Derived.WalkKit
import Derived.ProofKit
import Derived.OpenShut
import Derived.ShutString
import Derived.ChangeOld
import Derived.Below
import Derived.SizedLaws
import Derived.Carry
import Derived.ChangeCalls
namespace Go.Proofs.YtldkkoecehdicaaDoorA
open Go
set_option linter.unusedVariables false
set_option linter.unusedSimpArgs false

/-- The shape of a type of plain data. -/
inductive Sh where
  | bool
  | int (k : IntKind)
  | str
  | sl (e : Sh) (sz by' : Nat)
  | unit
  | cons (a b : Sh)

def shParts (P : Program) (g : TypeId → Option Sh) : List (TypeId × Nat) → Nat → Option (Sh × Nat)
  | [], o => some (.unit, o)
  | x :: l, o => if x.2 = o then (g x.1).bind fun s => (shParts P g l (o + P.cellsOf x.1)).map fun r => (.cons s r.1, r.2) else none

def shWhole (P : Program) (t : TypeId) (r : Option (Sh × Nat)) : Option Sh := r.bind fun x => if x.2 = P.cellsOf t then some x.1 else none

def shape (P : Program) : Nat → TypeId → Option Sh
  | 0, _ => none
  | n + 1, t => match P.underlying t with
    | some .bool => if P.cellsOf t = 1 then some .bool else none
    | some (.int k) => if P.cellsOf t = 1 then some (.int k) else none
    | some .string => if P.cellsOf t = 1 then some .str else none
    | some (.slice e) => if P.cellsOf t = 1 then (shape P n e).map fun s => .sl s (P.cellsOf e) (P.bytesOf e) else none
    | some (.struct fs) => shWhole P t (shParts P (shape P n) (fs.toList.map fun f => (f.type, f.offset)) 0)
    | some (.array k e) => shWhole P t (shParts P (shape P n) ((List.range k).map fun i => (e, i * P.cellsOf e)) 0)
    | _ => none

/-- Data of a shape. -/
def Ty : Sh → List D → Prop
  | .bool, l => ∃ b, l = [.bool b]
  | .int k, l => ∃ n, l = [.int k n] ∧ (Lit.int k n).wf = true
  | .str, l => ∃ s, l = [.str s] ∧ s.size ≤ reachBytes
  | .sl e sz by', l => ∃ rows, l = [.sl sz rows] ∧ rows.length * by' ≤ reachBytes ∧ rows.length ≤ maxLen ∧ ∀ r ∈ rows, Ty e r
  | .unit, l => l = []
  | .cons a b, l => ∃ x y, l = x ++ y ∧ Ty a x ∧ Ty b y

def noO : Nat → Prop := fun _ => False

theorem list_choose {α : Type} : ∀ (n : Nat) (p : Nat → α → Prop) (_ : ∀ i, i < n → ∃ x, p i x), ∃ l : List α, l.length = n ∧ ∀ i x, l[i]? = some x → p i x
  | 0, p, _ => ⟨[], rfl, fun i x h => by simp at h⟩
  | n + 1, p, h => by
    obtain ⟨x, hx⟩ := h 0 (by omega)
    obtain ⟨l, hl, hp⟩ := list_choose n (fun i => p (i + 1)) (fun i hi => h (i + 1) (by omega))
    refine ⟨x :: l, by simp [hl], fun i y hi => ?_⟩
    cases i with
    | zero => simp at hi; exact hi ▸ hx
    | succ i => exact hp i y (by simpa using hi)

section
variable {H : Type} {enc : TypeId × Value → H} {P : Program} {w : World}

theorem weightsAll_mem {e : TypeId} {d : DataW H} {k : Nat} : ∀ {l : List (DataW H)}, d ∈ l → k ∈ d.weights P e → k ∈ DataW.weightsAll P e l
  | [], h, _ => by simp at h
  | x :: l, h, hk => by
    simp only [DataW.weightsAll, List.mem_append]
    rcases List.mem_cons.1 h with rfl | h
    · exact .inl hk
    · exact .inr (weightsAll_mem h hk)

def Wt (P : Program) (t : TypeId) (d : DataW H) : Prop := ∀ k ∈ d.weights P t, k ≤ reachBytes

/-- Cells that hold the data. -/
structure Cs (w : World) (cs : List Value) (l : List D) : Prop where
  len : l.length = cs.length
  one : ∀ d ∈ l, d.one = true
  rep : ∀ (i : Nat) (v : Value) (d : D), cs[i]? = some v → l[i]? = some d → RepD w noO v d

theorem Cs.one' {v : Value} {d : D} (h1 : d.one = true) (h : RepD w noO v d) : Cs w [v] [d] :=
  ⟨rfl, fun x hx => by simp at hx; exact hx ▸ h1, fun i v' d' hv hd => by
    cases i with
    | zero => simp at hv hd; subst hv; subst hd; exact h
    | succ i => simp at hv⟩

theorem Cs.app {a b : List Value} {x y : List D} (h : Cs w a x) (g : Cs w b y) : Cs w (a ++ b) (x ++ y) := by
  refine ⟨by simp [h.len, g.len], fun d hd => ?_, fun i v d hv hd => ?_⟩
  · rcases List.mem_append.1 hd with hd | hd
    · exact h.one d hd
    · exact g.one d hd
  · by_cases hi : i < a.length
    · rw [List.getElem?_append_left hi] at hv
      rw [List.getElem?_append_left (by rw [h.len]; exact hi)] at hd
      exact h.rep i v d hv hd
    · rw [List.getElem?_append_right (by omega)] at hv
      rw [List.getElem?_append_right (by rw [h.len]; omega), h.len] at hd
      exact g.rep _ v d hv hd

def Opens (enc : TypeId × Value → H) (P : Program) (w : World) (m : Nat) (g : TypeId → Option Sh) : Prop :=
  ∀ t s cs d ps, g t = some s → DataW.trod enc P w 0 (fun _ => true) true m t cs = some (d, ps) → Wt P t d → cs.length = P.cellsOf t ∧ ∃ l, Ty s l ∧ Cs w cs l

theorem opens_parts {m : Nat} {g : TypeId → Option Sh} (ih : Opens enc P w m g) (cs : List Value) : ∀ (fs : List (TypeId × Nat)) (o o' : Nat) (s : Sh) (xs : List (DataW H × List MemPlace)),
    shParts P g fs o = some (s, o') → (∀ (i : Nat) (f : TypeId × Nat), fs[i]? = some f → DataW.trod enc P w 0 (fun _ => true) true m f.1 ((cs.drop f.2).take (P.cellsOf f.1)) = xs[i]?) →
    (∀ (i : Nat) (f : TypeId × Nat) (x : DataW H × List MemPlace), fs[i]? = some f → xs[i]? = some x → Wt P f.1 x.1) → xs.length = fs.length →
    o ≤ o' ∧ ∃ l, Ty s l ∧ Cs w ((cs.drop o).take (o' - o)) l
  | [], o, o', s, xs, hs, _, _, _ => by
    simp only [shParts, Option.some.injEq, Prod.mk.injEq] at hs
    obtain ⟨rfl, rfl⟩ := hs
    refine ⟨Nat.le_refl _, [], rfl, by simp, by simp, fun i v d hv hd => by simp at hd⟩
  | f :: fs, o, o', s, xs, hs, hx, hw, hl => by
    unfold shParts at hs
    split at hs
    case isFalse => cases hs
    rename_i ho
    obtain ⟨s1, h1, h2⟩ := Option.bind_eq_some_iff.1 hs
    obtain ⟨⟨s2, o2⟩, h3, h4⟩ := Option.map_eq_some_iff.1 h2
    obtain ⟨rfl, rfl⟩ := Prod.mk.inj h4
    cases xs with
    | nil => simp at hl
    | cons x xs =>
    have hx0 := hx 0 f rfl
    simp only [List.getElem?_cons_zero] at hx0
    obtain ⟨hlen, l1, ht1, hc1⟩ := ih f.1 s1 _ x.1 x.2 h1 hx0 (hw 0 f x rfl rfl)
    obtain ⟨hle, l2, ht2, hc2⟩ := opens_parts ih cs fs _ _ s2 xs h3 (fun i f' hf => by have := hx (i + 1) f' (by simpa using hf); simpa using this)
      (fun i f' x' hf hx' => hw (i + 1) f' x' (by simpa using hf) (by simpa using hx')) (by simpa using hl)
    subst ho
    have hsplit : (cs.drop f.2).take (o2 - f.2) = (cs.drop f.2).take (P.cellsOf f.1) ++ (cs.drop (f.2 + P.cellsOf f.1)).take (o2 - (f.2 + P.cellsOf f.1)) := by
      rw [← List.drop_drop, ← List.take_add]
      congr 1; omega
    exact ⟨by omega, l1 ++ l2, ⟨l1, l2, rfl, ht1, ht2⟩, hsplit ▸ hc1.app hc2⟩

theorem opens_whole {m : Nat} {g : TypeId → Option Sh} (ih : Opens enc P w m g) {t : TypeId} {cs : List Value} {fs : List (TypeId × Nat)} {s : Sh} {xs : List (DataW H × List MemPlace)}
    (hs : shWhole P t (shParts P g fs 0) = some s) (hcs : cs.length = P.cellsOf t) (hx : ∀ (i : Nat) (f : TypeId × Nat), fs[i]? = some f → DataW.trod enc P w 0 (fun _ => true) true m f.1 ((cs.drop f.2).take (P.cellsOf f.1)) = xs[i]?)
    (hw : ∀ (i : Nat) (f : TypeId × Nat) (x : DataW H × List MemPlace), fs[i]? = some f → xs[i]? = some x → Wt P f.1 x.1) (hl : xs.length = fs.length) :
    cs.length = P.cellsOf t ∧ ∃ l, Ty s l ∧ Cs w cs l := by
  obtain ⟨⟨s', o⟩, h1, h2⟩ := Option.bind_eq_some_iff.1 hs
  dsimp only at h2
  split at h2
  case isFalse => cases h2
  rename_i ho
  obtain rfl := Option.some.inj h2
  obtain ⟨_, l, ht, hc⟩ := opens_parts ih cs fs 0 o s' xs h1 hx hw hl
  refine ⟨hcs, l, ht, ?_⟩
  rwa [List.drop_zero, Nat.sub_zero, ho, ← hcs, List.take_length] at hc

theorem weightsEach_mem {k : Nat} : ∀ {ts : List TypeId} {ds : List (DataW H)} {i : Nat} {t : TypeId} {d : DataW H}, ts[i]? = some t → ds[i]? = some d → k ∈ d.weights P t → k ∈ DataW.weightsEach P ts ds :=
  fun ht hd hk => DataW.weights_mem_each ht hd _ hk

theorem opens : ∀ (n m : Nat), Opens enc P w m (shape P n)
  | 0, m => fun t s cs d ps hs => by cases hs
  | n + 1, m => fun t s cs d ps hs hd hw => by
    unfold shape at hs
    split at hs
    · rename_i hu
      split at hs
      case isFalse => cases hs
      rename_i h1
      obtain rfl := Option.some.inj hs
      obtain ⟨b, rfl, _⟩ := DataW.trod_bool hu hd
      exact ⟨by simp [h1], _, ⟨b, rfl⟩, Cs.one' rfl (.bool b)⟩
    · rename_i k hu
      split at hs
      case isFalse => cases hs
      rename_i h1
      obtain rfl := Option.some.inj hs
      obtain ⟨b, rfl, _, hk⟩ := DataW.trod_int hu hd
      exact ⟨by simp [h1], _, ⟨b, rfl, hk⟩, Cs.one' rfl (.int k b)⟩
    · rename_i hu
      split at hs
      case isFalse => cases hs
      rename_i h1
      obtain rfl := Option.some.inj hs
      obtain ⟨b, rfl, hx, hk⟩ := DataW.trod_string hu hd
      obtain ⟨rfl, _⟩ := Prod.mk.inj hx
      refine ⟨by simp [h1], _, ⟨b, rfl, ?_⟩, Cs.one' rfl (.str b)⟩
      have := hw b.data.toList.length (by simp [DataW.weights])
      simpa using this
    · rename_i e hu
      split at hs
      case isFalse => cases hs
      rename_i h1
      obtain ⟨se, hse, rfl⟩ := Option.map_eq_some_iff.1 hs
      rcases DataW.trod_slice hu hd with ⟨rfl, _⟩ | ⟨a, len, cap, elems, rest, m', rfl, rfl, hx, _, hlc, hcm, hel, he, _, _⟩
      · refine ⟨by simp [h1], _, ⟨[], rfl, by simp, by simp, by simp⟩, Cs.one' rfl ?_⟩
        exact .sl none 0 0 _ [] (fun _ _ => .int .i64 0) rfl (Nat.le_refl _) (by simp) (by simp) (by simp) (by simp)
      · obtain ⟨rfl, _⟩ := Prod.mk.inj hx
        have hwa : ∀ x ∈ elems, Wt P e x.1 := fun x hx k hk => hw k (by
          simp only [DataW.weights, hu, List.mem_cons, List.mem_append]
          exact .inr (.inl (weightsAll_mem (List.mem_map_of_mem hx) hk)))
        have hbulk : (elems.length + rest.length) * P.bytesOf e ≤ reachBytes := hw _ (by simp [DataW.weights, hu])
        obtain ⟨rows, hrl, hr⟩ := list_choose len (fun i (l : List D) => ∃ cs, w.cells? 0 (a.add (i * P.cellsOf e)) (P.cellsOf e) = some cs ∧ cs.length = P.cellsOf e ∧ Ty se l ∧ Cs w cs l) (fun i hi => by
          have h2 := he i hi
          rw [List.getElem?_eq_getElem (by omega)] at h2
          obtain ⟨cs, h3, h4⟩ := Option.bind_eq_some_iff.1 h2
          obtain ⟨h5, l, h6, h7⟩ := opens n m' e se cs _ _ hse h4 (hwa _ (List.getElem_mem _))
          exact ⟨l, cs, h3, h5, h6, h7⟩)
        refine ⟨by simp [h1], _, ⟨rows, rfl, ?_, by omega, fun r hr' => ?_⟩, Cs.one' rfl ?_⟩
        · refine Nat.le_trans (Nat.mul_le_mul_right _ ?_) hbulk
          omega
        · obtain ⟨i, hi⟩ := List.getElem?_of_mem hr'
          obtain ⟨_, _, _, h6, _⟩ := hr i r hi
          exact h6
        · refine .sl (some a) len cap _ rows (fun i j => (w.cell? (a.add (i * P.cellsOf e + j))).getD (.int .i64 0)) hrl.symm hlc (fun r hr' => ?_) (fun r hr' d hd' => ?_) (fun i j r d hi hj => ?_) (fun i j r d hi hj => ?_)
          · obtain ⟨i, hi⟩ := List.getElem?_of_mem hr'
            obtain ⟨cs, _, h5, _, h7⟩ := hr i r hi
            rw [h7.len, h5]
          · obtain ⟨i, hi⟩ := List.getElem?_of_mem hr'
            obtain ⟨cs, _, h5, _, h7⟩ := hr i r hi
            exact h7.one d hd'
          · obtain ⟨cs, h4, h5, _, h7⟩ := hr i r hi
            obtain ⟨_, _, h8⟩ := World.cells?_some h4
            have hj' : j < P.cellsOf e := by
              have := (List.getElem?_eq_some_iff.1 hj).1
              rw [h7.len, h5] at this
              exact this
            have h9 := h8 j hj'
            rw [Addr.add_add, List.getElem?_eq_getElem (by omega)] at h9
            exact ⟨a, rfl, fun h => h, by rw [h9]; rfl⟩
          · obtain ⟨cs, h4, h5, _, h7⟩ := hr i r hi
            obtain ⟨_, _, h8⟩ := World.cells?_some h4
            have hj' : j < P.cellsOf e := by
              have := (List.getElem?_eq_some_iff.1 hj).1
              rw [h7.len, h5] at this
              exact this
            have h9 := h8 j hj'
            rw [Addr.add_add, List.getElem?_eq_getElem (by omega)] at h9
            rw [h9]
            exact h7.rep j _ d (List.getElem?_eq_getElem (by omega)) hj
    · rename_i fs hu
      obtain ⟨xs, m', rfl, hx, hcs, hxl, hx'⟩ := DataW.trod_struct hu hd
      obtain ⟨rfl, _⟩ := Prod.mk.inj hx
      refine opens_whole (opens n m') hs hcs (xs := xs) (fun i f hf => ?_) (fun i f x hf hx'' => ?_) (by simp [hxl])
      · obtain ⟨f', hf', rfl⟩ := List.getElem?_map .. ▸ hf |> Option.map_eq_some_iff.1
        exact hx' i f' (by simpa using hf')
      · intro k hk
        refine hw k ?_
        simp only [DataW.weights, hu]
        obtain ⟨f', hf', rfl⟩ := List.getElem?_map .. ▸ hf |> Option.map_eq_some_iff.1
        exact weightsEach_mem (i := i) (by rw [List.getElem?_map, hf']; rfl) (by rw [List.getElem?_map, hx'']; rfl) hk
    · rename_i k e hu
      obtain ⟨xs, m', rfl, hx, hcs, hxl, hx'⟩ := DataW.trod_array hu hd
      obtain ⟨rfl, _⟩ := Prod.mk.inj hx
      refine opens_whole (opens n m') hs hcs (xs := xs) (fun i f hf => ?_) (fun i f x hf hx'' => ?_) (by simp [hxl])
      · obtain ⟨f', hf', rfl⟩ := List.getElem?_map .. ▸ hf |> Option.map_eq_some_iff.1
        have hi := (List.getElem?_eq_some_iff.1 hf').1
        rw [List.getElem?_range (by simpa using hi)] at hf'
        obtain rfl := Option.some.inj hf'
        exact hx' i (by simpa using hi)
      · intro q hq
        refine hw q ?_
        simp only [DataW.weights, hu]
        obtain ⟨f', hf', rfl⟩ := List.getElem?_map .. ▸ hf |> Option.map_eq_some_iff.1
        exact weightsAll_mem (List.mem_map_of_mem (List.mem_of_getElem? hx'')) hq
    · cases hs

/-- The argument's own datum. -/
def argD : Sh → List D → D
  | .unit, l => .agg l
  | .cons _ _, l => .agg l
  | _, l => l.headD .nilp

theorem opens_val {n : Nat} {t : TypeId} {s : Sh} {v : Value} {d : DataW H} {ps : List MemPlace} {r : Reach} {b0 : Nat} (hs : shape P n t = some s) (hv : Value.okWide P w r b0 t v)
    (hd : DataW.Trod enc P w 0 (fun _ => true) true t v d ps) (hw : Wt P t d) : ∃ l, Ty s l ∧ RepD w noO v (argD s l) := by
  obtain ⟨m, hd⟩ := hd
  obtain ⟨hcs, l, ht, hc⟩ := opens n m t s _ d ps hs hd hw
  refine ⟨l, ht, ?_⟩
  cases n with
  | zero => cases hs
  | succ n =>
  have single : (∀ cs, v ≠ .agg cs) → argD s l = l.headD .nilp → l.length = 1 → RepD w noO v (argD s l) := fun hne he hl1 => by
    have hcells : v.cells.toList = [v] := by
      unfold Value.cells
      split
      · exact absurd rfl (hne _)
      · rfl
    rw [hcells] at hc
    match l, hl1 with
    | [x], _ =>
      rw [he]
      exact hc.rep 0 v x rfl rfl
  have whole : (∃ cs, v = .agg cs) → argD s l = .agg l → RepD w noO v (argD s l) := fun ⟨cs, hv'⟩ he => by
    subst hv'
    rw [he]
    exact .agg cs l (by have := hc.len; simpa [Value.cells] using this.symm) hc.one (fun i v d hv hd => hc.rep i v d (by simpa [Value.cells] using hv) hd)
  unfold shape at hs
  unfold Value.okWide at hv
  split at hs <;> rename_i hu <;> try (rw [hu] at hv; dsimp only at hv)
  · split at hs
    case isFalse => cases hs
    obtain rfl := Option.some.inj hs
    obtain ⟨b, rfl⟩ := ht
    exact single (fun cs he => by subst he; unfold Cell.okWide at hv; rw [hu] at hv; unfold Cell.ok at hv; rw [hu] at hv; exact hv) rfl rfl
  · split at hs
    case isFalse => cases hs
    obtain rfl := Option.some.inj hs
    obtain ⟨b, rfl, _⟩ := ht
    exact single (fun cs he => by subst he; unfold Cell.okWide at hv; rw [hu] at hv; unfold Cell.ok at hv; rw [hu] at hv; exact hv) rfl rfl
  · split at hs
    case isFalse => cases hs
    obtain rfl := Option.some.inj hs
    obtain ⟨b, rfl, _⟩ := ht
    exact single (fun cs he => by subst he; unfold Cell.okWide at hv; rw [hu] at hv; unfold Cell.ok at hv; rw [hu] at hv; exact hv) rfl rfl
  · split at hs
    case isFalse => cases hs
    obtain ⟨se, _, rfl⟩ := Option.map_eq_some_iff.1 hs
    obtain ⟨rows, rfl, _⟩ := ht
    exact single (fun cs he => by subst he; unfold Cell.okWide at hv; rw [hu] at hv; unfold Cell.ok at hv; rw [hu] at hv; exact hv) rfl rfl
  · obtain ⟨cs, hcs', _⟩ := hv
    refine whole ⟨cs, hcs'⟩ ?_
    unfold shWhole at hs
    obtain ⟨⟨s', o⟩, h1, h2⟩ := Option.bind_eq_some_iff.1 hs
    dsimp only at h2
    split at h2
    case isFalse => cases h2
    obtain rfl := Option.some.inj h2
    revert h1
    generalize (List.map _ _) = fs
    intro h1
    cases fs with
    | nil => simp only [shParts, Option.some.injEq, Prod.mk.injEq] at h1; obtain ⟨rfl, _⟩ := h1; rfl
    | cons f fs =>
      unfold shParts at h1
      split at h1
      case isFalse => cases h1
      obtain ⟨s1, _, h2⟩ := Option.bind_eq_some_iff.1 h1
      obtain ⟨⟨s2, o2⟩, _, h4⟩ := Option.map_eq_some_iff.1 h2
      obtain ⟨rfl, rfl⟩ := Prod.mk.inj h4
      rfl
  · obtain ⟨cs, hcs', _⟩ := hv
    refine whole ⟨cs, hcs'⟩ ?_
    unfold shWhole at hs
    obtain ⟨⟨s', o⟩, h1, h2⟩ := Option.bind_eq_some_iff.1 hs
    dsimp only at h2
    split at h2
    case isFalse => cases h2
    obtain rfl := Option.some.inj h2
    revert h1
    generalize (List.map _ _) = fs
    intro h1
    cases fs with
    | nil => simp only [shParts, Option.some.injEq, Prod.mk.injEq] at h1; obtain ⟨rfl, _⟩ := h1; rfl
    | cons f fs =>
      unfold shParts at h1
      split at h1
      case isFalse => cases h1
      obtain ⟨s1, _, h2⟩ := Option.bind_eq_some_iff.1 h1
      obtain ⟨⟨s2, o2⟩, _, h4⟩ := Option.map_eq_some_iff.1 h2
      obtain ⟨rfl, rfl⟩ := Prod.mk.inj h4
      rfl
  · cases hs

/-- The arguments, shape by shape. -/
def Tys : List Sh → List (List D) → Prop
  | [], ls => ls = []
  | s :: ss, ls => ∃ l ls', ls = l :: ls' ∧ Ty s l ∧ Tys ss ls'

def argsOf : List Sh → List (List D) → List AV
  | s :: ss, l :: ls => .d (argD s l) :: argsOf ss ls
  | _, _ => []

def k0 : Kap := fun _ => none

theorem HS.start (w : World) : HS k0 w [] := ⟨List.nodup_nil, fun id o h => by simp at h, fun id id' o o' b c c' h => by simp at h, 0, fun _ _ => rfl⟩

theorem own_start (b : Nat) : ¬ Own k0 [] b := fun ⟨_, _, _, h, _⟩ => by simp at h

theorem opens_all {n : Nat} : ∀ (ts : List TypeId) (ss : List Sh) (vs : List Value) (ds : List (DataW H)) (ps : List MemPlace), ts.map (shape P n) = ss.map some →
    DataW.TrodAll enc P w 0 (fun _ => true) true ts vs ds ps → (∀ k ∈ DataW.weightsEach P ts ds, k ≤ reachBytes) → (∀ (j : Nat) t v, ts[j]? = some t → vs[j]? = some v → Value.okWide P w .any 0 t v ∨ ∃ r b, Value.okWide P w r b t v) →
    ∃ ls, Tys ss ls ∧ vs.length = (argsOf ss ls).length ∧ ∀ (i : Nat) (v : Value) (x : AV), vs[i]? = some v → (argsOf ss ls)[i]? = some x → RepA k0 w (Own k0 []) v x
  | [], ss, vs, ds, ps, hs, hd, _, _ => by
    obtain ⟨rfl, rfl, rfl⟩ := ChangeShapes.trodAll_nil hd
    cases ss with
    | nil => exact ⟨[], rfl, rfl, fun i v x h => by simp at h⟩
    | cons s ss => simp at hs
  | t :: ts, ss, vs, ds, ps, hs, hd, hw, hv => by
    obtain ⟨v, vs', d, ds', p, q, rfl, rfl, rfl, h1, h2⟩ := ChangeShapes.trodAll_cons hd
    cases ss with
    | nil => simp at hs
    | cons s ss =>
    simp only [List.map_cons, List.cons.injEq] at hs
    obtain ⟨ls, h3, h4, h5⟩ := opens_all ts ss vs' ds' q hs.2 h2 (fun k hk => hw k (by simp only [DataW.weightsEach, List.mem_append]; exact .inr hk)) (fun j t' v' hj hv' => hv (j + 1) t' v' (by simpa using hj) (by simpa using hv'))
    have hok : ∃ r b, Value.okWide P w r b t v := by
      rcases hv 0 t v rfl rfl with h | h
      · exact ⟨_, _, h⟩
      · exact h
    obtain ⟨r, b, hok⟩ := hok
    obtain ⟨l, h6, h7⟩ := opens_val hs.1 hok h1 (fun k hk => hw k (by simp only [DataW.weightsEach, List.mem_append]; exact .inl hk))
    refine ⟨l :: ls, ⟨l, ls, rfl, h6, h3⟩, by simp [argsOf, h4], fun i v' x hi hx => ?_⟩
    cases i with
    | zero =>
      simp [argsOf] at hi hx
      subst hi; subst hx
      exact .d (h7.mono (fun b _ h => own_start b h) (fun _ _ _ => rfl))
    | succ i => exact h5 i v' x (by simpa using hi) (by simpa [argsOf] using hx)

theorem Ext.below {κ' : Kap} {hs' : Hp} {w' : World} (e : Ext k0 [] w κ' hs' w') : RowKit.Below w.heap.size w w' :=
  ⟨e.os, e.tape, e.output, e.size, fun b hb => e.same b hb (own_start b)⟩

theorem trodAll_again (hl : laidOutB P = true) {w' : World} (hb : RowKit.Below w.heap.size w w') : ∀ {ts : List TypeId} {vs : List Value} {ds : List (DataW H)} {ps : List MemPlace}, (∀ t ∈ ts, P.readableRec t = true ∧ t < P.types.size) →
    (∀ x ∈ ps, x.block < w.heap.size) → DataW.TrodAll enc P w 0 (fun _ => true) true ts vs ds ps → DataW.TrodAll enc P w' 0 (fun b => decide (b < w.heap.size)) true ts vs ds ps
  | [], vs, ds, ps, _, _, h => by
    obtain ⟨rfl, rfl, rfl⟩ := ChangeShapes.trodAll_nil h
    rfl
  | t :: ts, vs, ds, ps, hr, hlt, h => by
    obtain ⟨v, vs', d, ds', p, q, rfl, rfl, rfl, h1, h2⟩ := ChangeShapes.trodAll_cons h
    have h3 := hr t (by simp)
    exact ⟨p, q, RowKit.Below.trod hl h3.1 h3.2 h1 hb (fun x hx => hlt x (by simp [hx])), trodAll_again hl hb (fun t ht => hr t (by simp [ht])) (fun x hx => hlt x (by simp [hx])) h2, rfl⟩

/-- A law that says 'true, and the arguments read as they did', from a contract. -/
theorem law {C : Checked} {os : Os} {f : FuncId} {fn : Func} {s : ChangeSpec} {conds : List PathCond} (n : Nat) (ss : List Sh) (own : ownKnob C.prog.godebug = none) (started : os.Started) (noInit : C.prog.inits.idxOf? f = none) (hfn : C.prog.funcs[f]? = some fn)
    (witness : ∃ (w : World) (tape : Tape) (i : Input), w.os = os ∧ (w.forCall tape i).Shaped C.prog ∧ i.vars = [] ∧ Input.okWide C.prog (w.forCall tape i) .any w.heap.size f i ∧
      s.pre6 enc C.prog fn conds false (w.forCall tape i).memory i.args ∧ ({} : Assume).holds C.prog (lone (Frame.enter C.prog f i.args .normal) [] (w.forCall tape i)))
    (hl : laidOutB C.prog = true) (hts : fn.params.toList.all (fun t => C.prog.readableRec t && decide (t < C.prog.types.size)) = true) (tb : TypeId) (hub : C.prog.underlying tb = some .bool) (hres : fn.resultTypes = #[tb])
    (hvars : s.vars = []) (hs : fn.params.toList.map (shape C.prog n) = ss.map some)
    (hspec : ∀ ds : List (DataW H), ds.length = ss.length → s.fn H ds = { results := [.lit (.bool true)], args := ds })
    (contract : ∀ ls, Tys ss ls → AC C.prog f (argsOf ss ls) [] (fun r _ => r = .d (.bool true))) :
    ReturnsInHanded {} C os f .any (s.pre6 enc C.prog fn conds false) (s.post enc C.prog fn false true false false) := by
  refine returnsInHanded_of_change_sized own started noInit hfn witness ?_
  intro W base args ds gs before hval hW hcnd hsz _
  have hW' := hW
  obtain ⟨p, q, hA, hV, rfl, hfz, hnd⟩ := hW
  rw [hvars] at hV
  obtain ⟨rfl, rfl⟩ : gs = [] ∧ q = [] := by
    cases gs with
    | nil => exact ⟨rfl, hV⟩
    | cons g gs => exact absurd hV (by unfold DataW.TrodVars; exact id)
  have hvt : s.plain.varTypes C.prog = [] := by simp [DataSpec.varTypes, ChangeSpec.plain, hvars]
  rw [hvt, List.append_nil, List.append_nil, List.all_eq_true] at hsz
  obtain ⟨ls, h1, h2, h3⟩ := opens_all fn.params.toList ss args.toList ds p hs hA (fun k hk => by simpa using hsz k hk) (fun j t v hj hv => .inr ⟨_, _, hval j t v (by simpa using hj) (by simpa using hv)⟩)
  have hdl : ds.length = ss.length := by
    have h4 := (trodAll_length hA).2
    have h5 := congrArg List.length hs
    simp at h5 h4
    omega
  refine (contract ls h1 k0 args W (HS.start W) (by simpa using h2) (fun i v x hi hx => h3 i v x (by simpa using hi) hx)).mono fun e W' h => ?_
  obtain ⟨κ', hs', v, x, rfl, _, he, hr, rfl⟩ := h
  cases hr with
  | d hr =>
  cases hr
  have bel := he.below
  refine ⟨_, rfl, ds, [], p ++ [], [], p, [], hW', ?_, ?_, ?_, bel.frame _, fun h => by cases h⟩
  · rw [List.append_nil, hspec ds hdl, hres]
    exact ChangeShapes.trodAll_mk1 (RowKit.shut_bool hub true)
  · rw [List.append_nil, hspec ds hdl]
    have hlt := hW'.lt
    exact trodAll_again hl bel (fun t ht => by simpa using List.all_eq_true.1 hts t ht) (fun x hx => hlt x (by simp [hx])) hA
  · rw [hvars, List.append_nil, hspec ds hdl]
    rfl
end

/-- A list of rows of a shape is a list of what the rows stand for. -/
theorem Ty.rows {α : Type} {e : Sh} {sz by' : Nat} {l : List D} (f : α → List D) (h : Ty (.sl e sz by') l) (hf : ∀ r, Ty e r → ∃ x, r = f x) : ∃ xs : List α, l = [.sl sz (xs.map f)] ∧ xs.length * by' ≤ reachBytes := by
  obtain ⟨rows, rfl, h1, _, h2⟩ := h
  have key : ∀ rows : List (List D), (∀ r ∈ rows, Ty e r) → ∃ xs : List α, rows = xs.map f := by
    intro rows
    induction rows with
    | nil => exact fun _ => ⟨[], rfl⟩
    | cons r rows ih =>
      intro h
      obtain ⟨x, rfl⟩ := hf r (h r (by simp))
      obtain ⟨xs, rfl⟩ := ih fun r hr => h r (by simp [hr])
      exact ⟨x :: xs, rfl⟩
  obtain ⟨xs, rfl⟩ := key rows h2
  exact ⟨xs, rfl, by simpa using h1⟩

/-- The same, with a property of the elements. -/
theorem Ty.rowsP {α : Type} {e : Sh} {sz by' : Nat} {l : List D} (f : α → List D) (p : α → Prop) (h : Ty (.sl e sz by') l) (hf : ∀ r, Ty e r → ∃ x, r = f x ∧ p x) :
    ∃ xs : List α, l = [.sl sz (xs.map f)] ∧ xs.length * by' ≤ reachBytes ∧ ∀ x ∈ xs, p x := by
  obtain ⟨rows, rfl, h1, _, h2⟩ := h
  have key : ∀ rows : List (List D), (∀ r ∈ rows, Ty e r) → ∃ xs : List α, rows = xs.map f ∧ ∀ x ∈ xs, p x := by
    intro rows
    induction rows with
    | nil => exact fun _ => ⟨[], rfl, by simp⟩
    | cons r rows ih =>
      intro h
      obtain ⟨x, rfl, hx⟩ := hf r (h r (by simp))
      obtain ⟨xs, rfl, hxs⟩ := ih fun r hr => h r (by simp [hr])
      exact ⟨x :: xs, rfl, fun y hy => by
        rcases List.mem_cons.1 hy with rfl | hy
        · exact hx
        · exact hxs y hy⟩
  obtain ⟨xs, rfl, hp⟩ := key rows h2
  exact ⟨xs, rfl, by simpa using h1, hp⟩

/-- What bounds an i64. -/
theorem wf64 {n : Int} (h : (Lit.int .i64 n).wf = true) : -9223372036854775808 ≤ n ∧ n ≤ 9223372036854775807 := by
  simp [Lit.wf, IntKind.min, IntKind.max, IntKind.signed, IntKind.bits] at h
  omega

end Go.Proofs.YtldkkoecehdicaaDoorA
