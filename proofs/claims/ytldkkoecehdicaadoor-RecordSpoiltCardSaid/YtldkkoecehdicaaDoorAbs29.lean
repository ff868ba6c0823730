/- Equality of structs and arrays of ints, bools and strings. -/
import Derived.Test.YtldkkoecehdicaaDoorAbs28
import Derived.Laws.StructEq
namespace Go.Proofs.YtldkkoecehdicaaDoorA
open Go
set_option linter.unusedVariables false
set_option linter.unusedSimpArgs false

inductive LK where
  | int (k : IntKind)
  | bool
  | str

def eqFs (K : TypeId → Option (List LK)) (P : Program) : Nat → List Field → Option (List LK)
  | _, [] => some []
  | off, f :: fs => if f.name ≠ "_" ∧ f.offset = off then
      match K f.type, P.info? f.type with
      | some ks, some i => if i.size = ks.length then (eqFs K P (off + ks.length) fs).map (ks ++ ·) else none
      | _, _ => none
    else none

/-- The kinds of a type's cells, where '==' looks at cells alone. -/
def eqK (P : Program) : Nat → TypeId → Option (List LK)
  | 0, _ => none
  | d + 1, t => match P.underlying t with
    | some (.int k) => some [.int k]
    | some .bool => some [.bool]
    | some .string => some [.str]
    | some (.array n e) => match eqK P d e, P.info? e with
      | some ks, some i => if i.size = ks.length then some (List.replicate n ks).flatten else none
      | _, _ => none
    | some (.struct fs) => if P.stoodInHeld t then none else eqFs (eqK P d) P 0 fs.toList
    | _ => none

def lkV : LK → Value → Prop
  | .int k, .int k' _ => k' = k
  | .bool, .bool _ => True
  | .str, .string _ => True
  | _, _ => False
def Knd : List LK → List Value → Prop
  | [], [] => True
  | k :: ks, v :: vs => lkV k v ∧ Knd ks vs
  | _, _ => False
def leafEq : Value → Value → Bool
  | .int _ a, .int _ b => a == b
  | .bool a, .bool b => a == b
  | .string a, .string b => a.toList == b.toList
  | _, _ => false
def allEq : List Value → List Value → Bool
  | x :: xs, y :: ys => leafEq x y && allEq xs ys
  | _, _ => true
theorem Knd.len : ∀ {ks : List LK} {vs : List Value}, Knd ks vs → vs.length = ks.length
  | [], [], _ => rfl
  | k :: ks, v :: vs, h => by simp [Knd.len h.2]
  | [], v :: vs, h => h.elim
  | k :: ks, [], h => h.elim
theorem Knd.split : ∀ {ks ls : List LK} {vs : List Value}, Knd (ks ++ ls) vs → Knd ks (vs.take ks.length) ∧ Knd ls (vs.drop ks.length)
  | [], ls, vs, h => ⟨by simp [Knd], by simpa using h⟩
  | k :: ks, ls, v :: vs, h => by
    have := Knd.split (ks := ks) (ls := ls) h.2
    exact ⟨⟨h.1, this.1⟩, this.2⟩
  | k :: ks, ls, [], h => h.elim
theorem allEq_app : ∀ (a b x y : List Value), a.length = b.length → allEq (a ++ x) (b ++ y) = (allEq a b && allEq x y)
  | [], [], x, y, _ => by simp [allEq]
  | u :: a, v :: b, x, y, h => by
    simp only [List.cons_append, allEq, allEq_app a b x y (by simpa using h), Bool.and_assoc]

section
variable {P : Program}
/-- A value that is these cells. -/
def VV (P : Program) (t : TypeId) (xs : List Value) (v : Value) : Prop := ∃ b, (∀ w, (isAgg t).run P w = .ok b w) ∧ (b = true → v = .agg xs.toArray) ∧ (b = false → xs = [v])

theorem eqK_agg {d : Nat} {t : TypeId} {ks : List LK} (h : eqK P d t = some ks) : ∃ b, (∀ w, (isAgg t).run P w = .ok b w) ∧ (b = false → ks.length = 1) := by
  cases d with
  | zero => cases h
  | succ d =>
    unfold eqK at h
    split at h
    · rename_i k hu; obtain rfl := Option.some.inj h; exact ⟨false, fun w => by simp [isAgg, under_run hu], fun _ => rfl⟩
    · rename_i hu; obtain rfl := Option.some.inj h; exact ⟨false, fun w => by simp [isAgg, under_run hu], fun _ => rfl⟩
    · rename_i hu; obtain rfl := Option.some.inj h; exact ⟨false, fun w => by simp [isAgg, under_run hu], fun _ => rfl⟩
    · rename_i n e hu; exact ⟨true, fun w => by simp [isAgg, under_run hu], fun h => by cases h⟩
    · rename_i fs hu; exact ⟨true, fun w => by simp [isAgg, under_run hu], fun h => by cases h⟩
    · cases h

theorem part_vv {d : Nat} {t : TypeId} {ks : List LK} {i : TypeInfo} (h : eqK P d t = some ks) (hi : P.info? t = some i) (hs : i.size = ks.length) {X : List Value} {off : Nat} (hl : off + ks.length ≤ X.length) :
    ∃ v, (∀ w, (part t X.toArray off).run P w = .ok v w) ∧ VV P t ((X.drop off).take ks.length) v := by
  obtain ⟨b, hb, h1⟩ := eqK_agg h
  cases b with
  | true =>
    refine ⟨.agg (X.toArray.extract off (off + ks.length)), fun w => ?_, true, hb, fun _ => ?_, fun h => (by cases h)⟩
    · simp [part, hb, size_run hi, hs]
    · congr 1
      simp
  | false =>
    have h2 := h1 rfl
    have hlt : off < X.length := by omega
    refine ⟨X[off], fun w => ?_, false, hb, fun h => (by cases h), fun _ => ?_⟩
    · simp [part, hb, hlt]
    · rw [h2, List.take_one]
      simp [List.head?_drop, hlt]

theorem eq_fields {d : Nat} (ih : ∀ t ks, eqK P d t = some ks → ∀ xs ys, Knd ks xs → Knd ks ys → ∀ vx vy, VV P t xs vx → VV P t ys vy → ∀ D w, d ≤ D → (Op.equalIn D t vx vy).run P w = .ok (allEq xs ys) w) :
    ∀ (fs : List Field) (off : Nat) (ks : List LK), eqFs (eqK P d) P off fs = some ks → ∀ (X Y : List Value), Knd ks (X.drop off) → Knd ks (Y.drop off) → off ≤ X.length → off ≤ Y.length → ∀ D w, d ≤ D →
      (Op.eqFields D X.toArray Y.toArray fs).run P w = .ok (allEq (X.drop off) (Y.drop off)) w
  | [], off, ks, h, X, Y, hX, hY, _, _, D, w, _ => by
    obtain rfl : [] = ks := Option.some.inj h
    have h1 := hX.len; have h2 := hY.len
    rw [List.eq_nil_of_length_eq_zero (l := X.drop off) (by simpa using h1)]
    simp [Op.eqFields, allEq]
  | f :: fs, off, ks, h, X, Y, hX, hY, hlX, hlY, D, w, hD => by
    unfold eqFs at h
    split at h
    · rename_i hf
      split at h
      · rename_i k1 i hk hi
        split at h
        · rename_i hs
          obtain ⟨k2, hk2, rfl⟩ := Option.map_eq_some_iff.1 h
          obtain ⟨hX1, hX2⟩ := hX.split
          obtain ⟨hY1, hY2⟩ := hY.split
          have e1 := hX.len; have e2 := hY.len
          rw [List.length_append, List.length_drop] at e1 e2
          obtain ⟨vx, px, vvx⟩ := part_vv hk hi hs (X := X) (off := off) (by omega)
          obtain ⟨vy, py, vvy⟩ := part_vv hk hi hs (X := Y) (off := off) (by omega)
          have he := ih _ _ hk _ _ hX1 hY1 vx vy vvx vvy D w hD
          rw [List.drop_drop] at hX2 hY2
          have hr := eq_fields ih fs (off + k1.length) k2 hk2 X Y hX2 hY2 (by omega) (by omega) D w hD
          have hsplit : allEq (X.drop off) (Y.drop off) = (allEq ((X.drop off).take k1.length) ((Y.drop off).take k1.length) && allEq (X.drop (off + k1.length)) (Y.drop (off + k1.length))) := by
            rw [← allEq_app _ _ _ _ (by rw [hX1.len, hY1.len]), ← List.drop_drop, ← List.drop_drop, List.take_append_drop, List.take_append_drop]
          rw [hsplit]
          unfold Op.eqFields
          rw [if_pos hf.1, hf.2]
          simp only [Sem.run_bind, px, py, Result.andThen_ok, he]
          cases allEq ((X.drop off).take k1.length) ((Y.drop off).take k1.length) with
          | true => simpa using hr
          | false => simp
        · cases h
      · cases h
    · cases h

theorem flat_drop {α : Type} (l : List α) (m : Nat) : ∀ n, (List.replicate (n + 1) l).flatten = l ++ (List.replicate n l).flatten := fun n => by rw [List.replicate_succ, List.flatten_cons]

theorem eq_elems {d e : Nat} {ks : List LK} {i : TypeInfo} (hk : eqK P d e = some ks) (hi : P.info? e = some i) (hs : i.size = ks.length) (ih : ∀ xs ys, Knd ks xs → Knd ks ys → ∀ vx vy, VV P e xs vx → VV P e ys vy → ∀ D w, d ≤ D → (Op.equalIn D e vx vy).run P w = .ok (allEq xs ys) w) :
    ∀ (n k : Nat) (X Y : List Value), Knd (List.replicate n ks).flatten (X.drop (k * ks.length)) → Knd (List.replicate n ks).flatten (Y.drop (k * ks.length)) → k * ks.length ≤ X.length → k * ks.length ≤ Y.length → ∀ D w, d ≤ D →
      ((forIn (List.range' k n) ((none, ()) : Option Bool × Unit) fun i r => do
        let a ← part e X.toArray (i * ks.length)
        let b ← part e Y.toArray (i * ks.length)
        let c ← Op.equalIn D e a b
        if (!c) = true then pure (ForInStep.done (some false, ())) else pure (ForInStep.yield (none, ())) : Sem (Option Bool × Unit))).run P w
        = .ok (if allEq (X.drop (k * ks.length)) (Y.drop (k * ks.length)) then (none, ()) else (some false, ())) w
  | 0, k, X, Y, hX, hY, _, _, D, w, _ => by
    have h1 := hX.len
    rw [List.eq_nil_of_length_eq_zero (l := X.drop (k * ks.length)) (by simpa using h1)]
    simp [allEq]
  | n + 1, k, X, Y, hX, hY, hlX, hlY, D, w, hD => by
    rw [flat_drop _ 0] at hX hY
    obtain ⟨hX1, hX2⟩ := hX.split
    obtain ⟨hY1, hY2⟩ := hY.split
    have e1 := hX.len; have e2 := hY.len
    rw [List.length_append, List.length_drop] at e1 e2
    obtain ⟨vx, px, vvx⟩ := part_vv hk hi hs (X := X) (off := k * ks.length) (by omega)
    obtain ⟨vy, py, vvy⟩ := part_vv hk hi hs (X := Y) (off := k * ks.length) (by omega)
    have he := ih _ _ hX1 hY1 vx vy vvx vvy D w hD
    have hm : k * ks.length + ks.length = (k + 1) * ks.length := (Nat.succ_mul _ _).symm
    rw [List.drop_drop, hm] at hX2 hY2
    have hr := eq_elems hk hi hs ih n (k + 1) X Y hX2 hY2 (by omega) (by omega) D w hD
    have hsplit : allEq (X.drop (k * ks.length)) (Y.drop (k * ks.length)) = (allEq ((X.drop (k * ks.length)).take ks.length) ((Y.drop (k * ks.length)).take ks.length) && allEq (X.drop ((k + 1) * ks.length)) (Y.drop ((k + 1) * ks.length))) := by
      rw [← allEq_app _ _ _ _ (by rw [hX1.len, hY1.len]), ← hm, ← List.drop_drop, ← List.drop_drop, List.take_append_drop, List.take_append_drop]
    rw [hsplit, List.range'_succ, List.forIn_cons]
    simp only [Sem.run_bind, px, py, Result.andThen_ok, he]
    cases allEq ((X.drop (k * ks.length)).take ks.length) ((Y.drop (k * ks.length)).take ks.length) with
    | true => simpa using hr
    | false => simp

theorem eqT_run : ∀ (d : Nat) (t : TypeId) (ks : List LK), eqK P d t = some ks → ∀ xs ys, Knd ks xs → Knd ks ys → ∀ vx vy, VV P t xs vx → VV P t ys vy → ∀ D w, d ≤ D → (Op.equalIn D t vx vy).run P w = .ok (allEq xs ys) w
  | 0, t, ks, h, _, _, _, _, _, _, _, _, _, _, _ => by cases h
  | d + 1, t, ks, h, xs, ys, hx, hy, vx, vy, ⟨bx, hbx, hx1, hx2⟩, ⟨b, hby, hy1, hy2⟩, D, w, hD => by
    obtain rfl : bx = b := by
      have h1 := hbx w; rw [hby w] at h1
      injection h1 with h1 _; exact h1.symm
    obtain ⟨D, rfl⟩ : ∃ D', D = D' + 1 := ⟨D - 1, by omega⟩
    have leaf : bx = false → ∃ u v, xs = [u] ∧ ys = [v] ∧ vx = u ∧ vy = v := fun hb => ⟨vx, vy, hx2 hb, hy2 hb, rfl, rfl⟩
    have hagg : ∀ b', (isAgg t).run P w = .ok b' w → b' = bx := fun b' hb' => by rw [hbx w] at hb'; injection hb' with h1 _; exact h1.symm
    unfold eqK at h
    split at h
    · rename_i k hu
      obtain rfl := Option.some.inj h
      obtain ⟨u, v, rfl, rfl, rfl, rfl⟩ := leaf (hagg false (by simp [isAgg, under_run hu])).symm
      obtain ⟨h1, _⟩ := hx; obtain ⟨h2, _⟩ := hy
      cases vx <;> first | exact h1.elim | skip
      cases vy <;> first | exact h2.elim | skip
      cases h1; cases h2
      rw [run_equalIn_int w D t _ _ _ _ hu]
      simp [allEq, leafEq]
    · rename_i hu
      obtain rfl := Option.some.inj h
      obtain ⟨u, v, rfl, rfl, rfl, rfl⟩ := leaf (hagg false (by simp [isAgg, under_run hu])).symm
      obtain ⟨h1, _⟩ := hx; obtain ⟨h2, _⟩ := hy
      cases vx <;> first | exact h1.elim | skip
      cases vy <;> first | exact h2.elim | skip
      rw [run_equalIn_bool' w D t _ _ hu]
      simp [allEq, leafEq]
    · rename_i hu
      obtain rfl := Option.some.inj h
      obtain ⟨u, v, rfl, rfl, rfl, rfl⟩ := leaf (hagg false (by simp [isAgg, under_run hu])).symm
      obtain ⟨h1, _⟩ := hx; obtain ⟨h2, _⟩ := hy
      cases vx <;> first | exact h1.elim | skip
      cases vy <;> first | exact h2.elim | skip
      rw [run_equalIn_string w D t _ _ hu]
      simp [allEq, leafEq]
    · rename_i n e hu
      obtain rfl := hagg true (by simp [isAgg, under_run hu])
      obtain rfl := hx1 rfl
      obtain rfl := hy1 rfl
      split at h
      · rename_i k1 i hk hi
        split at h
        · rename_i hs
          obtain rfl := Option.some.inj h
          have key := eq_elems hk hi hs (fun xs ys a b vx vy c d => eqT_run _ _ _ hk xs ys a b vx vy c d) n 0 xs ys (by simpa using hx) (by simpa using hy) (by simp) (by simp) D w (by omega)
          simp only [Nat.zero_mul, List.drop_zero] at key
          simp only [Op.equalIn, Sem.run_bind, under_run hu, Result.andThen_ok, size_run hi, hs, Std.Legacy.Range.forIn_eq_forIn_range']
          simp only [Std.Legacy.Range.size, Nat.sub_zero, Nat.add_sub_cancel, Nat.div_one]
          rw [key]
          cases allEq xs ys <;> simp
        · cases h
      · cases h
    · rename_i fs hu
      obtain rfl := hagg true (by simp [isAgg, under_run hu])
      obtain rfl := hx1 rfl
      obtain rfl := hy1 rfl
      split at h
      · cases h
      · rename_i hst
        have hf : P.fieldsOf t = fs := by unfold Program.fieldsOf; rw [hu]
        rw [run_equalIn_struct w D t _ _ (by rw [hf]; exact hu) (by simpa using hst), hf]
        have := eq_fields (d := d) (fun t ks a xs ys b c vx vy e f => eqT_run d t ks a xs ys b c vx vy e f) fs.toList 0 ks h xs ys (by simpa using hx) (by simpa using hy) (Nat.zero_le _) (Nat.zero_le _) D w (by omega)
        simpa using this
    · cases h
end

def lkD : LK → D → Bool
  | .int k, .int k' _ => decide (k' = k)
  | .bool, .bool _ => true
  | .str, .str _ => true
  | _, _ => false
def kndD : List LK → List D → Bool
  | [], [] => true
  | k :: ks, v :: vs => lkD k v && kndD ks vs
  | _, _ => false
def leafD : D → D → Bool
  | .int _ a, .int _ b => decide (a = b)
  | .bool a, .bool b => a == b
  | .str a, .str b => a.toList == b.toList
  | _, _ => false
def allD : List D → List D → Bool
  | x :: xs, y :: ys => leafD x y && allD xs ys
  | _, _ => true
theorem lkD_rep {w : World} {O : Nat → Prop} {k : LK} {v : Value} {d : D} (h : RepD w O v d) (hk : lkD k d = true) : lkV k v := by
  cases h <;> cases k <;> first | (simp [lkD] at hk; done) | trivial | (simpa [lkD, lkV] using hk)
theorem kndD_rep {w : World} {O : Nat → Prop} : ∀ {ks : List LK} {vs : List Value} {ds : List D}, vs.length = ds.length → (∀ (i : Nat) (v : Value) (d : D), vs[i]? = some v → ds[i]? = some d → RepD w O v d) → kndD ks ds = true → Knd ks vs
  | [], [], [], _, _, _ => trivial
  | [], v :: vs, [], h, _, _ => by simp at h
  | k :: ks, v :: vs, d :: ds, h, hr, hk => by
    have hk2 := Bool.and_eq_true_iff.1 hk
    exact ⟨lkD_rep (hr 0 v d rfl rfl) hk2.1, kndD_rep (by simpa using h) (fun i v d hi hd => hr (i + 1) v d (by simpa using hi) (by simpa using hd)) hk2.2⟩
  | [], _, d :: ds, _, _, hk => by cases hk
  | k :: ks, _, [], _, _, hk => by cases hk
  | k :: ks, [], d :: ds, h, _, _ => by simp at h
theorem leafD_rep {w : World} {O O' : Nat → Prop} {k : LK} {v v' : Value} {d d' : D} (h : RepD w O v d) (h' : RepD w O' v' d') (hk : lkD k d = true) (hk' : lkD k d' = true) : leafEq v v' = leafD d d' := by
  cases h <;> cases k <;> first | (simp [lkD] at hk; done) | skip
  all_goals (cases h' <;> first | (simp [lkD] at hk'; done) | skip)
  all_goals first | rfl | (simp [leafEq, leafD]; done) | (simp only [leafEq, leafD]; exact Bool.beq_eq_decide_eq _ _)
theorem allD_rep {w : World} {O O' : Nat → Prop} : ∀ {ks : List LK} {vs us : List Value} {ds es : List D}, vs.length = ds.length → us.length = es.length → (∀ (i : Nat) (v : Value) (d : D), vs[i]? = some v → ds[i]? = some d → RepD w O v d) →
    (∀ (i : Nat) (v : Value) (d : D), us[i]? = some v → es[i]? = some d → RepD w O' v d) → kndD ks ds = true → kndD ks es = true → allEq vs us = allD ds es
  | [], [], [], [], [], _, _, _, _, _, _ => rfl
  | k :: ks, v :: vs, u :: us, d :: ds, e :: es, h, h', hr, hr', hk, hk' => by
    have hk2 := Bool.and_eq_true_iff.1 hk
    have hk2' := Bool.and_eq_true_iff.1 hk'
    unfold allEq allD
    rw [leafD_rep (hr 0 v d rfl rfl) (hr' 0 u e rfl rfl) hk2.1 hk2'.1, allD_rep (by simpa using h) (by simpa using h') (fun i v d hi hd => hr (i + 1) v d (by simpa using hi) (by simpa using hd)) (fun i v d hi hd => hr' (i + 1) v d (by simpa using hi) (by simpa using hd)) hk2.2 hk2'.2]
  | [], v :: vs, _, [], _, h, _, _, _, _, _ => by simp at h
  | [], [], u :: us, [], [], _, h, _, _, _, _ => by simp at h
  | [], _, _, d :: ds, _, _, _, _, _, hk, _ => by cases hk
  | [], _, _, _, e :: es, _, _, _, _, _, hk => by cases hk
  | k :: ks, _, _, [], _, _, _, _, _, hk, _ => by cases hk
  | k :: ks, _, _, _, [], _, _, _, _, _, hk => by cases hk
  | k :: ks, [], _, d :: ds, _, h, _, _, _, _, _ => by simp at h
  | k :: ks, _, [], _, e :: es, _, h, _, _, _, _ => by simp at h

/-- A struct or an array type on which '==' looks at the cells alone. -/
def tEq (P : Program) (t : TypeId) : Option (List LK) := match P.underlying t with
  | some (.struct _) | some (.array _ _) => if P.eqGuardType P.depth t then none else eqK P 6 t
  | _ => none
theorem tEq_spec {P : Program} {t : TypeId} {ks : List LK} (h : tEq P t = some ks) : eqK P 6 t = some ks ∧ P.eqGuardType P.depth t = false ∧ ∀ w, (isAgg t).run P w = .ok true w := by
  unfold tEq at h
  split at h
  · rename_i fs hu
    split at h
    · cases h
    · rename_i hg; exact ⟨h, by simpa using hg, fun w => by simp [isAgg, under_run hu]⟩
  · rename_i n e hu
    split at h
    · cases h
    · rename_i hg; exact ⟨h, by simpa using hg, fun w => by simp [isAgg, under_run hu]⟩
  · cases h

section
variable {P : Program} {N : Nm} {σ : Env} {hs : Hp} {d : Option Tmp} {ty : TypeId} {pos : String} {af : Array Edge} {g : Option (Nat × Bool)}
theorem agg_eq {κ : Kap} {a : Act} {w : World} (s : Sim N κ hs w σ a) {t : TypeId} {ks : List LK} {xs ys : List D} {x y : Operand} (ht : tEq P t = some ks) (hx : oev σ x = .d (.agg xs)) (hy : oev σ y = .d (.agg ys)) (kx : kndD ks xs = true) (ky : kndD ks ys = true) :
    ∃ cs cs', a.eval x = .agg cs ∧ a.eval y = .agg cs' ∧ (∀ op, (eqGuard op t x y (.agg cs) (.agg cs')).run P w = .ok () w) ∧ (Op.equalIn 10000 t (.agg cs) (.agg cs')).run P w = .ok (allD xs ys) w := by
  obtain ⟨h1, h2, h3⟩ := tEq_spec ht
  have r1 := s.oev x; have r2 := s.oev y
  rw [hx] at r1; rw [hy] at r2
  have r1 := r1.d_inv; have r2 := r2.d_inv
  generalize a.eval x = u at r1
  generalize a.eval y = v at r2
  cases r1 with | agg cs _ hs1 o1 g1 =>
  cases r2 with | agg cs' _ hs2 o2 g2 =>
  refine ⟨cs, cs', rfl, rfl, fun op => run_eqGuard_agg w op t x y cs cs' h2, ?_⟩
  have q1 : ∀ (i : Nat) (v : Value) (d : D), cs.toList[i]? = some v → xs[i]? = some d → RepD w (Own κ hs) v d := fun i v d hi hd => g1 i v d (by simpa using hi) hd
  have q2 : ∀ (i : Nat) (v : Value) (d : D), cs'.toList[i]? = some v → ys[i]? = some d → RepD w (Own κ hs) v d := fun i v d hi hd => g2 i v d (by simpa using hi) hd
  rw [eqT_run 6 t ks h1 cs.toList cs'.toList (kndD_rep (by simpa using hs1) q1 kx) (kndD_rep (by simpa using hs2) q2 ky) _ _ ⟨true, h3, fun _ => by simp, fun h => (by cases h)⟩ ⟨true, h3, fun _ => by simp, fun h => (by cases h)⟩ 10000 w (by omega),
    allD_rep (by simpa using hs1) (by simpa using hs2) q1 q2 kx ky]

theorem Q.eql_agg {t t' : TypeId} {ks : List LK} {xs ys : List D} {x y : Operand} {b : Bool} (ht : tEq P t = some ks) (hx : oev σ x = .d (.agg xs)) (hy : oev σ y = .d (.agg ys)) (kx : kndD ks xs = true) (ky : kndD ks ys = true) (hb : allD xs ys = b) :
    Quiet P N σ hs ⟨d, .binOp .eql t x y t', ty, pos, af, g⟩ (.d (.bool b)) := .of_run fun κ a w s => by
  obtain ⟨cs, cs', e1, e2, e3, e4⟩ := agg_eq s ht hx hy kx ky
  subst hb
  exact ⟨_, by simp only [execOp, e1, e2, Sem.run_bind, e3, Result.andThen_ok, run_eql_struct, e4, Sem.run_pure], .d (.bool _)⟩
theorem Q.neq_agg {t t' : TypeId} {ks : List LK} {xs ys : List D} {x y : Operand} {b : Bool} (ht : tEq P t = some ks) (hx : oev σ x = .d (.agg xs)) (hy : oev σ y = .d (.agg ys)) (kx : kndD ks xs = true) (ky : kndD ks ys = true) (hb : allD xs ys = b) :
    Quiet P N σ hs ⟨d, .binOp .neq t x y t', ty, pos, af, g⟩ (.d (.bool (!b))) := .of_run fun κ a w s => by
  obtain ⟨cs, cs', e1, e2, e3, e4⟩ := agg_eq s ht hx hy kx ky
  subst hb
  exact ⟨_, by simp only [execOp, e1, e2, Sem.run_bind, e3, Result.andThen_ok, run_neq_struct, e4, Sem.run_pure], .d (.bool _)⟩
end
end Go.Proofs.YtldkkoecehdicaaDoorA
