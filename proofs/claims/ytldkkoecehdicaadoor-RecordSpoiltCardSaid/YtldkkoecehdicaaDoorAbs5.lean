/- Operations over abstract states: cuts of slices, slices and structs that are written out, lists that grow. -/
import Derived.Test.YtldkkoecehdicaaDoorAbs4
namespace Go.Proofs.YtldkkoecehdicaaDoorA
open Go
set_option linter.unusedVariables false
set_option linter.unusedSimpArgs false

/-- A bound of a cut: absent, or an int. -/
def OI (σ : Env) : Option Operand → Int → Int → Prop
  | none, dflt, i => i = dflt
  | some x, _, i => oev σ x = .d (.int .i64 i)

theorem OI.val {N : Nm} {κ : Kap} {hs : Hp} {w : World} {σ : Env} {a : Act} (s : Sim N κ hs w σ a) {o : Option Operand} {dflt i : Int} (h : OI σ o dflt i) :
    (o = none ∧ i = dflt) ∨ ∃ x, o = some x ∧ a.eval x = .int .i64 i := by
  cases o with
  | none => exact .inl ⟨rfl, h⟩
  | some x =>
    have h1 := s.oev x
    rw [show oev σ x = _ from h] at h1
    exact .inr ⟨x, rfl, h1.int_inv⟩

theorem bound_run {P : Program} {i : Int} {y : Nat} (code : BoundsCode) (h0 : 0 ≤ i) (h1 : i ≤ y) (w : World) : (Instr.sliceBound (.int .i64 i) y code).run P w = .ok i.toNat w := by
  simp [Instr.sliceBound, asIntOf, h0, h1]

theorem bounds_run {P : Program} {N : Nm} {κ : Kap} {hs : Hp} {w : World} {σ : Env} {a : Act} (s : Sim N κ hs w σ a) (isSl : Bool) {len cap : Nat} {lo hi : Option Operand} {i j : Int} (hl : OI σ lo 0 i) (hh : OI σ hi len j)
    (h0 : 0 ≤ i) (h1 : i ≤ j) (h2 : j ≤ cap) : (Instr.sliceBounds isSl len cap (lo.map a.eval) (hi.map a.eval) none).run P w = .ok (i.toNat, j.toNat, cap) w := by
  have hj : (i : Int) ≤ (j.toNat : Int) := by omega
  rcases hl.val s with ⟨rfl, rfl⟩ | ⟨x, rfl, hx⟩ <;> rcases hh.val s with ⟨rfl, rfl⟩ | ⟨y, rfl, hy⟩
  · simp [Instr.sliceBounds]
  · simp [Instr.sliceBounds, hy, bound_run _ (show 0 ≤ j by omega) h2]
  · simp [Instr.sliceBounds, hx, bound_run _ h0 (show i ≤ (len : Int) by omega)]
  · simp [Instr.sliceBounds, hx, hy, bound_run _ (show 0 ≤ j by omega) h2, bound_run _ h0 hj]

theorem sliceAt_run {P : Program} {t e : TypeId} {inf : TypeInfo} (hu : P.underlying t = some (.slice e)) (hin : P.info? e = some inf) {p : Option Addr} {len cap : Nat} {lo hi mx : Option Value} {l h m : Nat} {w : World}
    (hb : (Instr.sliceBounds true len cap lo hi mx).run P w = .ok (l, h, m) w) :
    (Instr.sliceAt t (.slice p len cap) lo hi mx).run P w = .ok (.slice (if m = l then p else p.map (·.add (l * inf.size))) (h - l) (m - l)) w := by
  simp [Instr.sliceAt, Instr.slice, run_underlying hu, hb, size_run hin]

section cuts
variable {P : Program} {N : Nm} {σ : Env} {hs : Hp} {d : Option Tmp} {ty : TypeId} {pos : String} {af : Array Edge} {g : Option (Nat × Bool)}

/-- A cut of data. -/
theorem RepD.cut {w : World} {O : Nat → Prop} {p : Option Addr} {len cap sz : Nat} {rows : List (List D)} (h : RepD w O (.slice p len cap) (.sl sz rows)) {l j m : Nat} (h1 : l ≤ j) (h2 : j ≤ len) (h3 : j ≤ m) (hm : m ≤ cap) :
    RepD w O (.slice (if m = l then p else p.map (·.add (l * sz))) (j - l) (m - l)) (.sl sz ((rows.take j).drop l)) := by
  cases h with
  | sl _ _ _ _ _ c hl hc hr ho hmm hd =>
    have key : ∀ (i q : Nat) (r : List D) (x : D), ((rows.take j).drop l)[i]? = some r → r[q]? = some x → rows[l + i]? = some r ∧ l + i < j := by
      intro i q r x hi hq
      rw [List.getElem?_drop, List.getElem?_take] at hi
      split at hi
      · exact ⟨hi, by assumption⟩
      · cases hi
    refine .sl _ _ _ _ _ (fun i q => c (l + i) q) (by simp; omega) (by omega) (fun r hr' => hr r (List.mem_of_mem_take (List.mem_of_mem_drop hr')))
      (fun r hr' => ho r (List.mem_of_mem_take (List.mem_of_mem_drop hr'))) (fun i q r x hi hq => ?_) (fun i q r x hi hq => hd _ _ _ _ (key i q r x hi hq).1 hq)
    obtain ⟨h4, h5⟩ := key i q r x hi hq
    obtain ⟨ad, rfl, h6, h7⟩ := hmm _ _ _ _ h4 hq
    have hne : ¬ m = l := by omega
    refine ⟨ad.add (l * sz), by simp [hne], by rw [addr_add_block]; exact h6, ?_⟩
    rw [addr_add_add, ← Nat.add_assoc, ← Nat.add_mul]
    exact h7

theorem Q.cut_sl {t sz : Nat} {rows : List (List D)} {x : Operand} {lo hi : Option Operand} {i j : Int} (ht : tSl P t = some sz) (hx : oev σ x = .d (.sl sz rows)) (hl : OI σ lo 0 i) (hh : OI σ hi rows.length j)
    (h0 : 0 ≤ i) (h1 : i ≤ j) (h2 : j ≤ rows.length) : Quiet P N σ hs ⟨d, .slice t x lo hi none, ty, pos, af, g⟩ (.d (.sl sz ((rows.take j.toNat).drop i.toNat))) :=
  .of_run fun κ a w s => by
    have h3 := s.oev x; rw [hx] at h3
    obtain ⟨p, cap, c, hv, hc, _⟩ := h3.sl_inv
    obtain ⟨e, inf, hu, hin, rfl⟩ := tSl_spec ht
    have hb := bounds_run (P := P) s true (cap := cap) hl hh h0 h1 (by omega)
    refine ⟨.slice (if cap = i.toNat then p else p.map (·.add (i.toNat * inf.size))) (j.toNat - i.toNat) (cap - i.toNat), ?_, .d ?_⟩
    · rw [show execOp a.eval ⟨d, .slice t x lo hi none, ty, pos, af, g⟩ = (do pure (.value (← Instr.sliceAt t (a.eval x) (lo.map a.eval) (hi.map a.eval) (Option.map a.eval none)))) from rfl, hv, Sem.run_bind]
      simp only [Option.map_none]
      rw [sliceAt_run hu hin hb]
      rfl
    · have h4 := h3.d_inv
      rw [hv] at h4
      exact h4.cut (by omega) (by omega) (by omega) (by omega)

theorem Q.cut_nil {t sz : Nat} {x : Operand} {lo hi : Option Operand} {i j : Int} (ht : tSl P t = some sz) (hx : oev σ x = .nilsl) (hl : OI σ lo 0 i) (hh : OI σ hi (0 : Nat) j)
    (h0 : i = 0) (h1 : j = 0) : Quiet P N σ hs ⟨d, .slice t x lo hi none, ty, pos, af, g⟩ .nilsl :=
  .of_run fun κ a w s => by
    subst h0 h1
    have h3 := s.oev x; rw [hx] at h3
    generalize hv : a.eval x = v at h3
    cases h3
    obtain ⟨e, inf, hu, hin, rfl⟩ := tSl_spec ht
    have hb := bounds_run (P := P) s true (cap := 0) hl hh (Int.le_refl _) (Int.le_refl _) (Int.le_refl _)
    refine ⟨.slice none 0 0, ?_, .nilsl⟩
    rw [show execOp a.eval ⟨d, .slice t x lo hi none, ty, pos, af, g⟩ = (do pure (.value (← Instr.sliceAt t (a.eval x) (lo.map a.eval) (hi.map a.eval) (Option.map a.eval none)))) from rfl, hv, Sem.run_bind]
    simp only [Option.map_none]
    rw [sliceAt_run hu hin hb]
    rfl

theorem RepA.vs_inv {κ : Kap} {w : World} {O : Nat → Prop} {v : Value} {id lo n sz : Nat} (h : RepA κ w O v (.vs id lo n sz)) :
    ∃ ob cap p, κ id = some (ob, cap) ∧ lo + n ≤ cap ∧ (lo < cap → p = ob.map fun b => (⟨b, lo * sz, none⟩ : Addr)) ∧ v = .slice p n (cap - lo) := by
  cases h with | vs ob cap p _ _ _ _ hk hn hp => exact ⟨ob, cap, p, hk, hn, hp, rfl⟩

theorem Q.cut_vs {t sz id lo0 n : Nat} {x : Operand} {lo hi : Option Operand} {i j : Int} (ht : tSl P t = some sz) (hx : oev σ x = .vs id lo0 n sz) (hl : OI σ lo 0 i) (hh : OI σ hi n j)
    (h0 : 0 ≤ i) (h1 : i ≤ j) (h2 : j ≤ n) : Quiet P N σ hs ⟨d, .slice t x lo hi none, ty, pos, af, g⟩ (.vs id (lo0 + i.toNat) (j.toNat - i.toNat) sz) :=
  .of_run fun κ a w s => by
    have h3 := s.oev x; rw [hx] at h3
    obtain ⟨ob, cap, p, hk, hn, hp, hv⟩ := h3.vs_inv
    obtain ⟨e, inf, hu, hin, rfl⟩ := tSl_spec ht
    have hb := bounds_run (P := P) s true (cap := cap - lo0) hl hh h0 h1 (by omega)
    refine ⟨.slice (if cap - lo0 = i.toNat then p else p.map (·.add (i.toNat * inf.size))) (j.toNat - i.toNat) (cap - lo0 - i.toNat), ?_, ?_⟩
    · rw [show execOp a.eval ⟨d, .slice t x lo hi none, ty, pos, af, g⟩ = (do pure (.value (← Instr.sliceAt t (a.eval x) (lo.map a.eval) (hi.map a.eval) (Option.map a.eval none)))) from rfl, hv, Sem.run_bind]
      simp only [Option.map_none]
      rw [sliceAt_run hu hin hb]
      rfl
    · rw [Nat.sub_sub]
      refine .vs ob cap _ id _ _ _ hk (by omega) fun hlt => ?_
      have hne : ¬ cap - lo0 = i.toNat := by omega
      rw [if_neg hne, hp (by omega)]
      cases ob with
      | none => rfl
      | some b => simp only [Option.map_some, addr_add_lit, Nat.add_mul]

/-- A cut beyond a list's length, within what it holds. -/
theorem Q.cut_vs2 {t sz id lo0 n kk : Nat} {rows : List (List D)} {x : Operand} {lo hi : Option Operand} {i j : Int} (ht : tSl P t = some sz) (hx : oev σ x = .vs id lo0 n sz) (hk : hs[kk]? = some (id, .lst sz rows)) (hl : OI σ lo 0 i) (hh : OI σ hi n j)
    (h0 : 0 ≤ i) (h1 : i ≤ j) (h2 : lo0 + j ≤ rows.length) : Quiet P N σ hs ⟨d, .slice t x lo hi none, ty, pos, af, g⟩ (.vs id (lo0 + i.toNat) (j.toNat - i.toNat) sz) :=
  .of_run fun κ a w s => by
    have h3 := s.oev x; rw [hx] at h3
    obtain ⟨ob, cap, p, hkk, hn, hp, hv⟩ := h3.vs_inv
    obtain ⟨y, hy, hok⟩ := s.heap.ok id _ (List.mem_of_getElem? hk)
    rw [hkk] at hy
    obtain rfl := Option.some.inj hy
    have hcap : rows.length ≤ cap := hok.1
    obtain ⟨e, inf, hu, hin, rfl⟩ := tSl_spec ht
    have hb := bounds_run (P := P) s true (cap := cap - lo0) hl hh h0 h1 (by omega)
    refine ⟨.slice (if cap - lo0 = i.toNat then p else p.map (·.add (i.toNat * inf.size))) (j.toNat - i.toNat) (cap - lo0 - i.toNat), ?_, ?_⟩
    · rw [show execOp a.eval ⟨d, .slice t x lo hi none, ty, pos, af, g⟩ = (do pure (.value (← Instr.sliceAt t (a.eval x) (lo.map a.eval) (hi.map a.eval) (Option.map a.eval none)))) from rfl, hv, Sem.run_bind]
      simp only [Option.map_none]
      rw [sliceAt_run hu hin hb]
      rfl
    · rw [Nat.sub_sub]
      refine .vs ob cap _ id _ _ _ hkk (by omega) fun hlt => ?_
      have hne : ¬ cap - lo0 = i.toNat := by omega
      rw [if_neg hne, hp (by omega)]
      cases ob with
      | none => rfl
      | some b => simp only [Option.map_some, addr_add_lit, Nat.add_mul]

theorem bounds3_run {κ : Kap} {w : World} {a : Act} (s : Sim N κ hs w σ a) {len cap : Nat} {lo : Option Operand} {hi mx : Operand} {i j m : Int} (hl : OI σ lo 0 i) (hh : oev σ hi = .d (.int .i64 j)) (hmx : oev σ mx = .d (.int .i64 m))
    (h0 : 0 ≤ i) (h1 : i ≤ j) (h2 : j ≤ m) (h3 : m ≤ cap) : (Instr.sliceBounds true len cap (lo.map a.eval) (some (a.eval hi)) (some (a.eval mx))).run P w = .ok (i.toNat, j.toNat, m.toNat) w := by
  have hh1 := s.oev hi; rw [hh] at hh1
  have hm1 := s.oev mx; rw [hmx] at hm1
  have b1 := bound_run (P := P) (i := m) (y := cap) .slice3Acap (by omega) h3 w
  have b2 := bound_run (P := P) (i := j) (y := m.toNat) .slice3B (by omega) (by omega) w
  have b3 := bound_run (P := P) (i := i) (y := j.toNat) .slice3C h0 (by omega) w
  rcases hl.val s with ⟨rfl, rfl⟩ | ⟨x, rfl, hx⟩
  · simp [Instr.sliceBounds, hh1.int_inv, hm1.int_inv, b1, b2]
  · simp [Instr.sliceBounds, hh1.int_inv, hm1.int_inv, b1, b2, hx, b3]

theorem Q.cut3_sl {t sz : Nat} {rows : List (List D)} {x hi mx : Operand} {lo : Option Operand} {i j m : Int} (ht : tSl P t = some sz) (hx : oev σ x = .d (.sl sz rows)) (hl : OI σ lo 0 i) (hh : oev σ hi = .d (.int .i64 j))
    (hmx : oev σ mx = .d (.int .i64 m)) (h0 : 0 ≤ i) (h1 : i ≤ j) (h2 : j = m) (h3 : m ≤ rows.length) :
    Quiet P N σ hs ⟨d, .slice t x lo (some hi) (some mx), ty, pos, af, g⟩ (.dcut sz ((rows.take j.toNat).drop i.toNat)) :=
  .of_run fun κ a w s => by
    have h4 := s.oev x; rw [hx] at h4
    obtain ⟨p, cap, c, hv, hc, _⟩ := h4.sl_inv
    obtain ⟨e, inf, hu, hin, rfl⟩ := tSl_spec ht
    have hb := bounds3_run (P := P) s (len := rows.length) (cap := cap) hl hh hmx h0 h1 (by omega) (by omega)
    subst h2
    refine ⟨.slice (if j.toNat = i.toNat then p else p.map (·.add (i.toNat * inf.size))) (j.toNat - i.toNat) (j.toNat - i.toNat), ?_, .dcut _ _ _ _ ?_⟩
    · rw [show execOp a.eval ⟨d, .slice t x lo (some hi) (some mx), ty, pos, af, g⟩ = (do pure (.value (← Instr.sliceAt t (a.eval x) (lo.map a.eval) (some (a.eval hi)) (some (a.eval mx))))) from rfl, hv, Sem.run_bind]
      rw [sliceAt_run hu hin hb]
      rfl
    · have h5 := h4.d_inv
      rw [hv] at h5
      exact h5.cut (by omega) (by omega) (by omega) (by omega)

theorem Q.cut3_nil {t sz : Nat} {x hi mx : Operand} {lo : Option Operand} {i j m : Int} (ht : tSl P t = some sz) (hx : oev σ x = .nilsl) (hl : OI σ lo 0 i) (hh : oev σ hi = .d (.int .i64 j))
    (hmx : oev σ mx = .d (.int .i64 m)) (h0 : i = 0) (h1 : j = 0) (h2 : m = 0) : Quiet P N σ hs ⟨d, .slice t x lo (some hi) (some mx), ty, pos, af, g⟩ .nilsl :=
  .of_run fun κ a w s => by
    subst h0 h1 h2
    have h4 := s.oev x; rw [hx] at h4
    generalize hv : a.eval x = v at h4
    cases h4
    obtain ⟨e, inf, hu, hin, rfl⟩ := tSl_spec ht
    have hb := bounds3_run (P := P) s (len := 0) (cap := 0) hl hh hmx (Int.le_refl _) (Int.le_refl _) (Int.le_refl _) (Int.le_refl _)
    refine ⟨.slice none 0 0, ?_, .nilsl⟩
    rw [show execOp a.eval ⟨d, .slice t x lo (some hi) (some mx), ty, pos, af, g⟩ = (do pure (.value (← Instr.sliceAt t (a.eval x) (lo.map a.eval) (some (a.eval hi)) (some (a.eval mx))))) from rfl, hv, Sem.run_bind]
    rw [sliceAt_run hu hin hb]
    rfl

/-- A bound's check alone: what is cut is not looked at. -/
theorem Q.cut3_vs {t sz id lo0 n : Nat} {x hi mx : Operand} {lo : Option Operand} {i j m : Int} (ht : tSl P t = some sz) (hx : oev σ x = .vs id lo0 n sz) (hl : OI σ lo 0 i) (hh : oev σ hi = .d (.int .i64 j))
    (hmx : oev σ mx = .d (.int .i64 m)) (h0 : 0 ≤ i) (h1 : i ≤ j) (h2 : j ≤ m) (h3 : m ≤ n) : Quiet P N σ hs ⟨d, .slice t x lo (some hi) (some mx), ty, pos, af, g⟩ .any :=
  .of_run fun κ a w s => by
    have h4 := s.oev x; rw [hx] at h4
    obtain ⟨ob, cap, p, hk, hn, hp, hv⟩ := h4.vs_inv
    obtain ⟨e, inf, hu, hin, rfl⟩ := tSl_spec ht
    have hb := bounds3_run (P := P) s (len := n) (cap := cap - lo0) hl hh hmx h0 h1 h2 (by omega)
    refine ⟨.slice (if m.toNat = i.toNat then p else p.map (·.add (i.toNat * inf.size))) (j.toNat - i.toNat) (m.toNat - i.toNat), ?_, .any _⟩
    rw [show execOp a.eval ⟨d, .slice t x lo (some hi) (some mx), ty, pos, af, g⟩ = (do pure (.value (← Instr.sliceAt t (a.eval x) (lo.map a.eval) (some (a.eval hi)) (some (a.eval mx))))) from rfl, hv, Sem.run_bind]
    rw [sliceAt_run hu hin hb]
    rfl

theorem Q.cut_str {t : Nat} {b : ByteArray} {x : Operand} {lo hi : Option Operand} {i j : Int} (ht : isStr P t = true) (hx : oev σ x = .d (.str b)) (hl : OI σ lo 0 i) (hh : OI σ hi b.size j)
    (h0 : 0 ≤ i) (h1 : i ≤ j) (h2 : j ≤ b.size) : Quiet P N σ hs ⟨d, .slice t x lo hi none, ty, pos, af, g⟩ (.d (.str (b.extract i.toNat j.toNat))) :=
  .of_run fun κ a w s => by
    have h3 := s.oev x; rw [hx] at h3
    have hb := bounds_run (P := P) s false (len := b.size) (cap := b.size) hl hh h0 h1 h2
    refine ⟨.string (b.extract i.toNat j.toNat), ?_, .d (.str _)⟩
    rw [show execOp a.eval ⟨d, .slice t x lo hi none, ty, pos, af, g⟩ = (do pure (.value (← Instr.sliceAt t (a.eval x) (lo.map a.eval) (hi.map a.eval) (Option.map a.eval none)))) from rfl, h3.str_inv, Sem.run_bind]
    simp only [Option.map_none]
    simp [Instr.sliceAt, Instr.slice, run_underlying (isStr_spec ht), hb]

theorem Q.idx_str {t : Nat} {b : ByteArray} {x ix : Operand} {k : IntKind} {i : Int} (ht : isStr P t = true) (hx : oev σ x = .d (.str b)) (hi : oev σ ix = .d (.int k i)) (h0 : 0 ≤ i) (h1 : i < b.size) :
    Quiet P N σ hs ⟨d, .index t x ix, ty, pos, af, g⟩ (.d (.int .u8 ((b.data.toList.getD i.toNat 0).toNat))) :=
  .of_run fun κ a w s => by
    have h3 := s.oev x; rw [hx] at h3
    have h4 := s.oev ix; rw [hi] at h4
    refine ⟨.int .u8 ((b.data.toList.getD i.toNat 0).toNat), ?_, .d (.int _ _)⟩
    have hlt : i.toNat < b.size := by omega
    have hb : b[i.toNat]? = some (b.data.toList.getD i.toNat 0) := by
      rw [getElem?_pos b i.toNat hlt]
      have : b.data.toList.getD i.toNat 0 = b.data.toList[i.toNat]'(by simpa using hlt) := by
        rw [List.getD, List.getElem?_eq_getElem (by simpa using hlt)]; rfl
      rw [this]
      rfl
    simp only [execOp, h3.str_inv, h4.int_inv, Sem.run_bind, Instr.index, asIntOf_run, Result.andThen_ok, run_underlying (isStr_spec ht), h0, if_true, hb, Sem.run_pure]

end cuts

/-! ### what is written out part by part -/
def dcells : AV → Option (List D)
  | .d (.agg ds) => some ds
  | .d x => some [x]
  | .nilsl => some [.sl 0 []]
  | _ => none

def afill (place : Nat → Option (Nat × Nat)) : List D → List (Nat × AV) → Option (List D)
  | l, [] => some l
  | l, (i, x) :: rest => match place i, dcells x with
    | some (off, size), some ds => match Nat.beq ds.length size && Nat.ble (off + size) l.length with
      | true => afill place (l.take off ++ ds ++ l.drop (off + size)) rest
      | false => none
    | _, _ => none

def Filled (w : World) (O : Nat → Prop) (cs : Array Value) (l : List D) : Prop :=
  cs.size = l.length ∧ (∀ x ∈ l, x.one = true) ∧ ∀ (i : Nat) (v : Value) (x : D), cs[i]? = some v → l[i]? = some x → RepD w O v x

theorem dcells_rep {κ : Kap} {w : World} {O : Nat → Prop} {v : Value} {x : AV} {ds : List D} (h : RepA κ w O v x) (hd : dcells x = some ds) : Filled w O v.cells ds := by
  unfold dcells at hd
  split at hd <;> first | (cases hd; done) | (obtain rfl := Option.some.inj hd)
  · have h1 := h.d_inv
    cases h1 with | agg cs _ hs ho hr => exact ⟨hs, ho, hr⟩
  · rename_i y hne
    have h1 := h.d_inv
    have ho : y.one = true := by cases y <;> first | rfl | exact absurd rfl (hne _)
    have hc := cells_one (h1.oneCell ho)
    refine ⟨by rw [← Array.length_toList, hc]; rfl, by simpa using ho, fun i u z hi hz => ?_⟩
    have hi' : v.cells.toList[i]? = some u := by simpa using hi
    rw [hc] at hi'
    cases i with
    | zero => simp at hi' hz; subst hi' hz; exact h1
    | succ i => simp at hz
  · cases h
    refine ⟨rfl, by simp [D.one], fun i u z hi hz => ?_⟩
    cases i with
    | zero =>
      simp [Value.cells] at hi hz
      subst hi hz
      exact .sl none 0 0 0 [] (fun _ _ => undef) rfl (Nat.le_refl _) (by simp) (by simp) (by simp) (by simp)
    | succ i => simp at hz

theorem foldPut : ∀ (vs : List Value) (off k : Nat) (cs : Array Value), ((vs.zipIdx k).foldl (fun (cs : Array Value) (x : Value × Nat) => cs.setIfInBounds (off + x.2) x.1) cs).size = cs.size ∧
    ∀ q, ((vs.zipIdx k).foldl (fun (cs : Array Value) (x : Value × Nat) => cs.setIfInBounds (off + x.2) x.1) cs)[q]? =
      if off + k ≤ q ∧ q < off + k + vs.length ∧ q < cs.size then vs[q - (off + k)]? else cs[q]?
  | [], off, k, cs => ⟨rfl, fun q => by simp; intro h1 h2; omega⟩
  | v :: vs, off, k, cs => by
    obtain ⟨h1, h2⟩ := foldPut vs off (k + 1) (cs.setIfInBounds (off + k) v)
    simp only [List.zipIdx_cons, List.foldl_cons]
    refine ⟨by rw [h1]; simp, fun q => ?_⟩
    rw [h2 q]
    simp only [Array.size_setIfInBounds, List.length_cons]
    by_cases hq : off + (k + 1) ≤ q ∧ q < off + (k + 1) + vs.length ∧ q < cs.size
    · rw [if_pos hq, if_pos (by omega)]
      have : q - (off + k) = q - (off + (k + 1)) + 1 := by omega
      rw [this]; rfl
    · rw [if_neg hq]
      by_cases hqk : q = off + k
      · subst hqk
        by_cases hlt : off + k < cs.size
        · rw [if_pos (by omega)]; simp [hlt]
        · rw [if_neg (by omega)]
          simp [Array.getElem?_eq_none (show cs.size ≤ off + k by omega), Array.getElem?_eq_none (show (cs.setIfInBounds (off + k) v).size ≤ off + k by simp; omega)]
      · rw [if_neg (by omega)]
        exact Array.getElem?_setIfInBounds_ne (by omega)

theorem fill_run {κ : Kap} {w : World} {O : Nat → Prop} {place : Nat → Option (Nat × Nat)} : ∀ (parts : List (Nat × Value)) (xs : List (Nat × AV)) (cs : Array Value) (l l' : List D),
    parts.length = xs.length → (∀ (i : Nat) p x, parts[i]? = some p → xs[i]? = some x → p.1 = x.1 ∧ RepA κ w O p.2 x.2) → Filled w O cs l → afill place l xs = some l' →
    ∃ cs', Instr.fill place cs parts = some cs' ∧ Filled w O cs' l'
  | [], [], cs, l, l', _, _, hf, ha => by
    simp [afill] at ha; subst ha
    exact ⟨cs, rfl, hf⟩
  | [], _ :: _, _, _, _, h, _, _, _ => by simp at h
  | _ :: _, [], _, _, _, h, _, _, _ => by simp at h
  | (i, v) :: parts, (i', x) :: xs, cs, l, l', hlen, hr, hf, ha => by
    obtain ⟨he, hrep⟩ := hr 0 _ _ rfl rfl
    simp only at he hrep
    subst he
    simp only [afill] at ha
    cases hp : place i with
    | none => simp [hp] at ha
    | some os =>
      obtain ⟨off, size⟩ := os
      cases hd : dcells x with
      | none => simp [hp, hd] at ha
      | some ds =>
        simp only [hp, hd] at ha
        cases hb : Nat.beq ds.length size && Nat.ble (off + size) l.length with
        | false => simp [hb] at ha
        | true =>
          simp only [hb] at ha
          have hb2 := Bool.and_eq_true_iff.1 hb
          have hsz : ds.length = size := Nat.eq_of_beq_eq_true hb2.1
          have hle : off + size ≤ l.length := Nat.le_of_ble_eq_true hb2.2
          obtain ⟨g1, g2, g3⟩ := dcells_rep hrep hd
          obtain ⟨f1, f2, f3⟩ := hf
          have hput := foldPut v.cells.toList off 0 cs
          simp only [Nat.add_zero] at hput
          have hnew : Filled w O ((v.cells.toList.zipIdx 0).foldl (fun (cs : Array Value) (x : Value × Nat) => cs.setIfInBounds (off + x.2) x.1) cs) (l.take off ++ ds ++ l.drop (off + size)) := by
            refine ⟨by rw [hput.1, f1]; simp; omega, fun y hy => ?_, fun q u y hu hy => ?_⟩
            · simp only [List.append_assoc, List.mem_append] at hy
              rcases hy with hy | hy | hy
              · exact f2 y (List.mem_of_mem_take hy)
              · exact g2 y hy
              · exact f2 y (List.mem_of_mem_drop hy)
            · rw [hput.2 q] at hu
              rw [List.append_assoc, List.getElem?_append] at hy
              have hto : (l.take off).length = off := by simp; omega
              rw [hto] at hy
              have hvl : v.cells.toList.length = size := by rw [Array.length_toList, g1, hsz]
              split at hy
              · rename_i hq
                rw [if_neg (by omega)] at hu
                rw [List.getElem?_take, if_pos hq] at hy
                exact f3 q u y hu hy
              · rename_i hq
                rw [List.getElem?_append] at hy
                split at hy
                · rename_i hq2
                  rw [if_pos (by omega)] at hu
                  exact g3 _ u y (by simpa using hu) hy
                · rename_i hq2
                  rw [if_neg (by omega)] at hu
                  rw [List.getElem?_drop] at hy
                  have : off + size + (q - off - ds.length) = q := by omega
                  rw [this] at hy
                  exact f3 q u y hu hy
          obtain ⟨cs', h1, h2⟩ := fill_run parts xs _ _ l' (by simpa using hlen) (fun k p y hk hy => hr (k + 1) p y (by simpa using hk) (by simpa using hy)) hnew ha
          refine ⟨cs', ?_, h2⟩
          simp only [Instr.fill, hp]
          have hcs : v.cells.size = size := by rw [g1, hsz]
          rw [if_neg (by simp [hcs]; omega)]
          rw [← h1]
          congr 1
          rw [← Array.foldl_toList]
          simp [Array.toList_zipIdx]

/-- The places of a struct type's fields. -/
def tPl (P : Program) (t : TypeId) : Option (List (Nat × Nat)) := match P.underlying t with
  | some (.struct fs) => fs.toList.mapM fun f => (P.info? f.type).map fun i => (f.offset, i.size)
  | _ => none

theorem places_run {P : Program} (w : World) : ∀ (fs : List Field) (pl : List (Nat × Nat)), (fs.mapM fun f => (P.info? f.type).map fun i => (f.offset, i.size)) = some pl →
    (fs.mapM (m := Sem) fun f => (do let n ← sizeOf f.type; pure (f.offset, n))).run P w = .ok pl w
  | [], pl, h => by simp at h; subst h; rfl
  | f :: fs, pl, h => by
    simp only [List.mapM_cons, Option.bind_eq_bind, Option.pure_def] at h
    obtain ⟨x, hx, h⟩ := Option.bind_eq_some_iff.1 h
    obtain ⟨ys, hy, h⟩ := Option.bind_eq_some_iff.1 h
    obtain rfl := Option.some.inj h
    obtain ⟨i, hi, rfl⟩ := Option.map_eq_some_iff.1 hx
    have ih := places_run (P := P) w fs ys hy
    rw [List.mapM_cons, Sem.run_bind, Sem.run_bind, size_run hi]
    simp only [Result.andThen_ok, Sem.run_pure, Sem.run_bind, ih]

theorem cellD_rep (w : World) (O : Nat → Prop) : ∀ (v : Value) (x : D), cellD v = some x → RepD w O v x ∧ x.one = true := by
  intro v x h
  unfold cellD at h
  split at h <;> first | (cases h; done) | (obtain rfl := Option.some.inj h)
  · exact ⟨.int _ _, rfl⟩
  · exact ⟨.bool _, rfl⟩
  · exact ⟨.str _, rfl⟩
  · exact ⟨.nilp, rfl⟩
  · exact ⟨.nilif, rfl⟩
  · exact ⟨.sl none 0 0 0 [] (fun _ _ => undef) rfl (Nat.le_refl _) (by simp) (by simp) (by simp) (by simp), rfl⟩

theorem cellsD_rep (w : World) (O : Nat → Prop) : ∀ (vs : List Value) (l : List D), cellsD vs = some l → Filled w O vs.toArray l
  | [], l, h => by simp [cellsD] at h; subst h; exact ⟨rfl, by simp, by simp⟩
  | v :: vs, l, h => by
    simp only [cellsD] at h
    cases h1 : cellD v with
    | none => simp [h1] at h
    | some x =>
      cases h2 : cellsD vs with
      | none => simp [h1, h2] at h
      | some r =>
        simp only [h1, h2] at h
        obtain rfl := Option.some.inj h
        obtain ⟨f1, f2, f3⟩ := cellsD_rep w O vs r h2
        obtain ⟨g1, g2⟩ := cellD_rep w O v x h1
        refine ⟨by simpa using f1, by simpa using ⟨g2, f2⟩, fun i u y hi hy => ?_⟩
        cases i with
        | zero => simp at hi hy; subst hi hy; exact g1
        | succ i => exact f3 i u y (by simpa using hi) (by simpa using hy)

section build
variable {P : Program} {N : Nm} {σ : Env} {hs : Hp} {d : Option Tmp} {ty : TypeId} {pos : String} {af : Array Edge} {g : Option (Nat × Bool)}

theorem parts_rep {κ : Kap} {w : World} {a : Act} (s : Sim N κ hs w σ a) (parts : Array (Nat × Operand)) : ((parts.map fun (i, x) => (i, a.eval x)).toList).length = (parts.toList.map fun p => (p.1, oev σ p.2)).length ∧
    ∀ (i : Nat) p x, ((parts.map fun (i, x) => (i, a.eval x)).toList)[i]? = some p → (parts.toList.map fun p => (p.1, oev σ p.2))[i]? = some x → p.1 = x.1 ∧ RepA κ w (Own κ hs) p.2 x.2 := by
  refine ⟨by simp, fun i p x hp hx => ?_⟩
  rw [List.getElem?_map] at hx
  obtain ⟨q, hq, rfl⟩ := Option.map_eq_some_iff.1 hx
  have hq' : parts[i]? = some q := by simpa using hq
  simp [hq'] at hp
  subst hp
  exact ⟨rfl, s.oev _⟩

theorem Q.build {t : Nat} {pl : List (Nat × Nat)} {z : List Value} {zd l : List D} {parts : Array (Nat × Operand)} (ht : tPl P t = some pl) (hz : tZero P t = some z) (hzd : cellsD z = some zd)
    (hf : afill (fun i => pl[i]?) zd (parts.toList.map fun p => (p.1, oev σ p.2)) = some l) : Quiet P N σ hs ⟨d, .build t parts, ty, pos, af, g⟩ (.d (.agg l)) :=
  .of_run fun κ a w s => by
    obtain ⟨inf, hi, hz⟩ := Option.bind_eq_some_iff.1 hz
    obtain ⟨zv, hzv, rfl⟩ := Option.map_eq_some_iff.1 hz
    obtain ⟨h1, h2⟩ := parts_rep s parts
    obtain ⟨cs', h3, f1, f2, f3⟩ := fill_run _ _ _ _ l h1 h2 (cellsD_rep w (Own κ hs) _ zd hzd) hf
    unfold tPl at ht
    split at ht
    · rename_i fs hu
      have hpl := places_run (P := P) w fs.toList pl ht
      refine ⟨.agg cs', ?_, .d (.agg _ _ f1 f2 f3)⟩
      have hzr : (zeroValue t).run P w = .ok zv w := by simp [zeroValue, typeInfo, hi, hzv]
      have hpl2 : (fs.mapM (m := Sem) fun f => (do let n ← sizeOf f.type; pure (f.offset, n))).run P w = .ok pl.toArray w := by
        rw [Array.mapM_eq_mapM_toList, Sem.run_map, hpl]; rfl
      rw [show execOp a.eval ⟨d, .build t parts, ty, pos, af, g⟩ = (do pure (.value (← Instr.build t (parts.map fun (i, x) => (i, a.eval x))))) from rfl, Sem.run_bind]
      have hb : (Instr.build t (parts.map fun (i, x) => (i, a.eval x))).run P w = .ok (.agg cs') w := by
        simp only [Instr.build, Sem.run_bind, hzr, Result.andThen_ok, run_underlying hu, hpl2]
        simp only [List.getElem?_toArray]
        simp only [Array.toArray_toList] at h3
        rw [h3]
        rfl
      rw [hb]; rfl
    · cases ht

end build
end Go.Proofs.YtldkkoecehdicaaDoorA
