/- Operations over abstract states: arithmetic, tests, fields, elements, loads, stores, new variables. -/
import Derived.Test.YtldkkoecehdicaaDoorAbs2
import Derived.Laws.Append
import Derived.IntWalk
namespace Go.Proofs.YtldkkoecehdicaaDoorA
open Go
set_option linter.unusedVariables false
set_option linter.unusedSimpArgs false

section types
variable (P : Program)

/-- The size of a slice type's element. -/
def tSl (t : TypeId) : Option Nat := match P.underlying t with | some (.slice e) => (P.info? e).map (·.size) | _ => none
/-- An array type's length and its element's size. -/
def tArr (t : TypeId) : Option (Nat × Nat) := match P.underlying t with | some (.array n e) => (P.info? e).map fun i => (n, i.size) | _ => none
/-- Where a struct's field lies. -/
def tFld (s f : Nat) : Option Nat := match P.underlying s with
  | some (.struct fs) => match fs[f]? with
    | some fd => match P.info? fd.type with | some i => if i.size = 0 then none else some fd.offset | none => none
    | none => none
  | _ => none
/-- Is it a struct or an array; its size. -/
def tAgg (t : TypeId) : Option (Bool × Nat) := match P.underlying t, P.info? t with
  | some (.struct _), some i | some (.array _ _), some i => some (true, i.size)
  | some _, some i => some (false, i.size)
  | _, _ => none

def cellD : Value → Option D
  | .int k n => some (.int k n)
  | .bool b => some (.bool b)
  | .string s => some (.str s)
  | .pointer none => some .nilp
  | .nilIface => some .nilif
  | .slice none 0 0 => some (.sl 0 [])
  | _ => none

def cellA : Value → AV
  | .slice none 0 0 => .nilsl
  | v => match cellD v with | some d => .d d | none => .any

def cellsD : List Value → Option (List D)
  | [] => some []
  | v :: l => match cellD v, cellsD l with | some d, some r => some (d :: r) | _, _ => none

/-- A type's zero value, as cells. -/
def tZero (t : TypeId) : Option (List Value) := (P.info? t).bind fun i => i.zero.map fun z => z.cells.toList
end types

section
variable {P : Program}
theorem under_run {t : TypeId} {d : TypeDesc} (h : P.underlying t = some d) (w : World) : (underlying t).run P w = .ok d w := run_underlying h w
theorem size_run {t : TypeId} {i : TypeInfo} (h : P.info? t = some i) (w : World) : (sizeOf t).run P w = .ok i.size w := by simp [sizeOf, typeInfo, h]

theorem tSl_spec {t sz : Nat} (h : tSl P t = some sz) : ∃ e i, P.underlying t = some (.slice e) ∧ P.info? e = some i ∧ i.size = sz := by
  unfold tSl at h
  split at h
  · rename_i e hu
    obtain ⟨i, hi, he⟩ := Option.map_eq_some_iff.1 h
    exact ⟨e, i, hu, hi, he⟩
  · cases h
theorem tArr_spec {t n sz : Nat} (h : tArr P t = some (n, sz)) : ∃ e i, P.underlying t = some (.array n e) ∧ P.info? e = some i ∧ i.size = sz := by
  unfold tArr at h
  split at h
  · rename_i m e hu
    obtain ⟨i, hi, he⟩ := Option.map_eq_some_iff.1 h
    obtain ⟨rfl, rfl⟩ := Prod.mk.inj he
    exact ⟨e, i, hu, hi, rfl⟩
  · cases h
theorem tFld_spec {s f off : Nat} (h : tFld P s f = some off) : ∃ fs fd i, P.underlying s = some (.struct fs) ∧ fs[f]? = some fd ∧ P.info? fd.type = some i ∧ i.size ≠ 0 ∧ fd.offset = off := by
  unfold tFld at h
  split at h
  · rename_i fs hu
    split at h
    · rename_i fd hf
      split at h
      · rename_i i hi
        split at h
        · cases h
        · rename_i hz
          obtain rfl := Option.some.inj h
          exact ⟨fs, fd, i, hu, hf, hi, hz, rfl⟩
      · cases h
    · cases h
  · cases h
theorem tAgg_spec {t n : Nat} {b : Bool} (h : tAgg P t = some (b, n)) (w : World) : (isAgg t).run P w = .ok b w ∧ (sizeOf t).run P w = .ok n w := by
  unfold tAgg at h
  split at h
  · rename_i fs i hu hi
    obtain ⟨rfl, rfl⟩ := Prod.mk.inj (Option.some.inj h)
    exact ⟨by simp [isAgg, under_run hu], size_run hi w⟩
  · rename_i m e i hu hi
    obtain ⟨rfl, rfl⟩ := Prod.mk.inj (Option.some.inj h)
    exact ⟨by simp [isAgg, under_run hu], size_run hi w⟩
  · rename_i d i h1 h2 hu hi
    obtain ⟨rfl, rfl⟩ := Prod.mk.inj (Option.some.inj h)
    refine ⟨?_, size_run hi w⟩
    cases d <;> first | (exact absurd rfl (h1 _)) | (exact absurd rfl (h2 _ _)) | simp [isAgg, under_run hu]
  · cases h
end

theorem addr_add_add (a : Addr) (m n : Nat) : (a.add m).add n = a.add (m + n) := by
  unfold Addr.add
  by_cases h1 : m = 0 <;> by_cases h2 : n = 0 <;> simp [h1, h2, Nat.add_assoc]

theorem addr_add_zero (a : Addr) : a.add 0 = a := by simp [Addr.add]

theorem addr_add_lit (b o n : Nat) : (⟨b, o, none⟩ : Addr).add n = ⟨b, o + n, none⟩ := by
  unfold Addr.add; split <;> simp_all

section quiet
variable {P : Program} {N : Nm} {σ : Env} {hs : Hp} {d : Option Tmp} {ty : TypeId} {pos : String} {af : Array Edge} {g : Option (Nat × Bool)}

theorem Quiet.of_run {o : Oper} {v : AV} (h : ∀ κ a w, Sim N κ hs w σ a → ∃ u, (execOp a.eval o).run P w = .ok (.value u) w ∧ RepA κ w (Own κ hs) u v) : Quiet P N σ hs o v := by
  intro κ a w s K Q hK
  obtain ⟨u, h1, h2⟩ := h κ a w s
  unfold oWp
  rw [h1]
  exact hK κ w u s.heap (.refl _ _ _) h2

theorem Q.move {x : Operand} {v : AV} (hx : oev σ x = v) : Quiet P N σ hs ⟨d, .move x, ty, pos, af, g⟩ v :=
  .of_run fun κ a w s => ⟨a.eval x, rfl, hx ▸ s.oev x⟩
theorem Q.assign {x : Operand} {v : AV} (hx : oev σ x = v) : Quiet P N σ hs ⟨d, .assign x, ty, pos, af, g⟩ v :=
  .of_run fun κ a w s => ⟨a.eval x, rfl, hx ▸ s.oev x⟩

theorem Q.pick {c x y : Operand} {b : Bool} {p q : Bool} (hc : oev σ c = .d (.bool b)) (hx : oev σ x = .d (.bool p)) (hy : oev σ y = .d (.bool q)) :
    Quiet P N σ hs ⟨d, .pick c x y, ty, pos, af, g⟩ (.d (.bool (if b then p else q))) :=
  .of_run fun κ a w s => by
    have h1 := s.oev c; have h2 := s.oev x; have h3 := s.oev y
    rw [hc] at h1; rw [hx] at h2; rw [hy] at h3
    refine ⟨.bool (if b then p else q), ?_, .d (.bool _)⟩
    cases b <;> simp [execOp, h1.bool_inv, h2.bool_inv, h3.bool_inv, asBool]

/-- a && b -/
theorem Q.pick_and {c x y : Operand} {b gd p : Bool} (hc : oev σ c = .d (.bool b)) (hx : oev σ x = .when gd (.d (.bool p))) (hy : oev σ y = .d (.bool false)) (hg : b = true → gd = true) :
    Quiet P N σ hs ⟨d, .pick c x y, ty, pos, af, g⟩ (.d (.bool (b && p))) :=
  .of_run fun κ a w s => by
    have h1 := s.oev c; have h2 := s.oev x; have h3 := s.oev y
    rw [hc] at h1; rw [hx] at h2; rw [hy] at h3
    refine ⟨.bool (b && p), ?_, .d (.bool _)⟩
    cases b with
    | false => simp [execOp, h1.bool_inv, h3.bool_inv, asBool]
    | true =>
      generalize hu : a.eval x = u at h2
      cases h2 with
      | when _ _ _ h _ => simp [execOp, h1.bool_inv, hu, (h (hg rfl)).bool_inv, asBool]

/-- a || b -/
theorem Q.pick_or {c x y : Operand} {b gd p : Bool} (hc : oev σ c = .d (.bool b)) (hx : oev σ x = .d (.bool true)) (hy : oev σ y = .when gd (.d (.bool p))) (hg : b = false → gd = true) :
    Quiet P N σ hs ⟨d, .pick c x y, ty, pos, af, g⟩ (.d (.bool (b || p))) :=
  .of_run fun κ a w s => by
    have h1 := s.oev c; have h2 := s.oev x; have h3 := s.oev y
    rw [hc] at h1; rw [hx] at h2; rw [hy] at h3
    refine ⟨.bool (b || p), ?_, .d (.bool _)⟩
    cases b with
    | true => simp [execOp, h1.bool_inv, h2.bool_inv, asBool]
    | false =>
      generalize hu : a.eval y = u at h3
      cases h3 with
      | when _ _ _ h _ => simp [execOp, h1.bool_inv, hu, (h (hg rfl)).bool_inv, asBool]

theorem bin_run {κ : Kap} {a : Act} {w : World} (s : Sim N κ hs w σ a) {op : BinOp} {t t' : TypeId} {x y : Operand} {k k' : IntKind} {m n : Int} (hx : oev σ x = .d (.int k m)) (hy : oev σ y = .d (.int k' n)) :
    (execOp a.eval ⟨d, .binOp op t x y t', ty, pos, af, g⟩).run P w = ((binOp op t (.int k m) (.int k' n)).run P w).andThen fun u w' => .ok (.value u) w' := by
  have h1 := s.oev x; have h2 := s.oev y
  rw [hx] at h1; rw [hy] at h2
  have h3 : (eqGuard op t x y (.int k m) (.int k' n)).run P w = .ok () w := by
    unfold eqGuard; cases op <;> simp
  simp [execOp, h1.int_inv, h2.int_inv, h3]

theorem Q.add {t t' : TypeId} {x y : Operand} {k : IntKind} {m n r : Int} (hx : oev σ x = .d (.int k m)) (hy : oev σ y = .d (.int k n)) (hr : k.wrap (m + n) = r) :
    Quiet P N σ hs ⟨d, .binOp .add t x y t', ty, pos, af, g⟩ (.d (.int k r)) :=
  .of_run fun κ a w s => ⟨.int k r, by rw [bin_run s hx hy]; simp [binOp, Op.intArith, hr], .d (.int _ _)⟩
theorem Q.sub {t t' : TypeId} {x y : Operand} {k : IntKind} {m n r : Int} (hx : oev σ x = .d (.int k m)) (hy : oev σ y = .d (.int k n)) (hr : k.wrap (m - n) = r) :
    Quiet P N σ hs ⟨d, .binOp .sub t x y t', ty, pos, af, g⟩ (.d (.int k r)) :=
  .of_run fun κ a w s => ⟨.int k r, by rw [bin_run s hx hy]; simp [binOp, Op.intArith, hr], .d (.int _ _)⟩
theorem Q.mul {t t' : TypeId} {x y : Operand} {k : IntKind} {m n r : Int} (hx : oev σ x = .d (.int k m)) (hy : oev σ y = .d (.int k n)) (hr : k.wrap (m * n) = r) :
    Quiet P N σ hs ⟨d, .binOp .mul t x y t', ty, pos, af, g⟩ (.d (.int k r)) :=
  .of_run fun κ a w s => ⟨.int k r, by rw [bin_run s hx hy]; simp [binOp, Op.intArith, hr], .d (.int _ _)⟩
theorem Q.quo {t t' : TypeId} {x y : Operand} {k : IntKind} {m n r : Int} (hx : oev σ x = .d (.int k m)) (hy : oev σ y = .d (.int k n)) (h0 : n ≠ 0) (hr : k.wrap (m.tdiv n) = r) :
    Quiet P N σ hs ⟨d, .binOp .quo t x y t', ty, pos, af, g⟩ (.d (.int k r)) :=
  .of_run fun κ a w s => ⟨.int k r, by rw [bin_run s hx hy]; simp [binOp, Op.intDiv, hr, h0], .d (.int _ _)⟩
theorem Q.rem {t t' : TypeId} {x y : Operand} {k : IntKind} {m n r : Int} (hx : oev σ x = .d (.int k m)) (hy : oev σ y = .d (.int k n)) (h0 : n ≠ 0) (hr : m.tmod n = r) :
    Quiet P N σ hs ⟨d, .binOp .rem t x y t', ty, pos, af, g⟩ (.d (.int k r)) :=
  .of_run fun κ a w s => ⟨.int k r, by rw [bin_run s hx hy]; simp [binOp, Op.intDiv, hr, h0], .d (.int _ _)⟩

theorem Q.eql {t t' : TypeId} {x y : Operand} {k : IntKind} {m n : Int} (hx : oev σ x = .d (.int k m)) (hy : oev σ y = .d (.int k n)) :
    Quiet P N σ hs ⟨d, .binOp .eql t x y t', ty, pos, af, g⟩ (.d (.bool (decide (m = n)))) :=
  .of_run fun κ a w s => ⟨.bool (decide (m = n)), by rw [bin_run s hx hy]; simp [binOp, Op.intCmp]; rfl, .d (.bool _)⟩
theorem Q.neq {t t' : TypeId} {x y : Operand} {k : IntKind} {m n : Int} (hx : oev σ x = .d (.int k m)) (hy : oev σ y = .d (.int k n)) :
    Quiet P N σ hs ⟨d, .binOp .neq t x y t', ty, pos, af, g⟩ (.d (.bool (!decide (m = n)))) :=
  .of_run fun κ a w s => ⟨.bool (!decide (m = n)), by rw [bin_run s hx hy]; simp [binOp, Op.intCmp]; rfl, .d (.bool _)⟩
theorem Q.lss {t t' : TypeId} {x y : Operand} {k : IntKind} {m n : Int} (hx : oev σ x = .d (.int k m)) (hy : oev σ y = .d (.int k n)) :
    Quiet P N σ hs ⟨d, .binOp .lss t x y t', ty, pos, af, g⟩ (.d (.bool (decide (m < n)))) :=
  .of_run fun κ a w s => ⟨.bool (decide (m < n)), by rw [bin_run s hx hy]; simp [binOp, Op.intCmp], .d (.bool _)⟩
theorem Q.leq {t t' : TypeId} {x y : Operand} {k : IntKind} {m n : Int} (hx : oev σ x = .d (.int k m)) (hy : oev σ y = .d (.int k n)) :
    Quiet P N σ hs ⟨d, .binOp .leq t x y t', ty, pos, af, g⟩ (.d (.bool (decide (m ≤ n)))) :=
  .of_run fun κ a w s => ⟨.bool (decide (m ≤ n)), by rw [bin_run s hx hy]; simp [binOp, Op.intCmp], .d (.bool _)⟩
theorem Q.gtr {t t' : TypeId} {x y : Operand} {k : IntKind} {m n : Int} (hx : oev σ x = .d (.int k m)) (hy : oev σ y = .d (.int k n)) :
    Quiet P N σ hs ⟨d, .binOp .gtr t x y t', ty, pos, af, g⟩ (.d (.bool (decide (n < m)))) :=
  .of_run fun κ a w s => ⟨.bool (decide (n < m)), by rw [bin_run s hx hy]; simp [binOp, Op.intCmp], .d (.bool _)⟩
theorem Q.geq {t t' : TypeId} {x y : Operand} {k : IntKind} {m n : Int} (hx : oev σ x = .d (.int k m)) (hy : oev σ y = .d (.int k n)) :
    Quiet P N σ hs ⟨d, .binOp .geq t x y t', ty, pos, af, g⟩ (.d (.bool (decide (n ≤ m)))) :=
  .of_run fun κ a w s => ⟨.bool (decide (n ≤ m)), by rw [bin_run s hx hy]; simp [binOp, Op.intCmp], .d (.bool _)⟩

theorem Q.not {t : TypeId} {x : Operand} {b : Bool} (hx : oev σ x = .d (.bool b)) : Quiet P N σ hs ⟨d, .unOp .not t x, ty, pos, af, g⟩ (.d (.bool (!b))) :=
  .of_run fun κ a w s => by
    have h1 := s.oev x; rw [hx] at h1
    exact ⟨.bool (!b), by simp [execOp, h1.bool_inv, Op.unary], .d (.bool _)⟩
theorem Q.neg {t : TypeId} {x : Operand} {k : IntKind} {n r : Int} (hx : oev σ x = .d (.int k n)) (hr : k.wrap (-n) = r) : Quiet P N σ hs ⟨d, .unOp .neg t x, ty, pos, af, g⟩ (.d (.int k r)) :=
  .of_run fun κ a w s => by
    have h1 := s.oev x; rw [hx] at h1
    exact ⟨.int k r, by simp [execOp, h1.int_inv, Op.unary, Op.intArith, hr], .d (.int _ _)⟩

theorem Q.extract {x : Operand} {l : List AV} {i : Nat} {v : AV} (hx : oev σ x = .tup l) (hv : l[i]? = some v) : Quiet P N σ hs ⟨d, .extract x i, ty, pos, af, g⟩ v :=
  .of_run fun κ a w s => by
    have h1 := s.oev x; rw [hx] at h1
    generalize hu : a.eval x = u at h1
    cases h1 with
    | tup cs _ hl h =>
      have hi : i < cs.size := by rw [hl]; exact (List.getElem?_eq_some_iff.1 hv).1
      have hc : cs[i]? = some cs[i] := Array.getElem?_eq_getElem hi
      exact ⟨cs[i], by simp [execOp, hu, Instr.extract, hi], h i _ v hc hv⟩

theorem Q.nil_ptr {x : Operand} {id off : Nat} (hx : oev σ x = .ptr id off) : Quiet P N σ hs ⟨d, .nilCheck x, ty, pos, af, g⟩ (.ptr id off) :=
  .of_run fun κ a w s => by
    have h1 := s.oev x; rw [hx] at h1
    refine ⟨a.eval x, ?_, h1⟩
    generalize hu : a.eval x = u at h1
    cases h1 with
    | ptr b cap _ _ hk => simp [execOp, hu]
theorem Q.nil_ep {x : Operand} {id sz i off : Nat} (hx : oev σ x = .ep id sz i off) : Quiet P N σ hs ⟨d, .nilCheck x, ty, pos, af, g⟩ (.ep id sz i off) :=
  .of_run fun κ a w s => by
    have h1 := s.oev x; rw [hx] at h1
    refine ⟨a.eval x, ?_, h1⟩
    generalize hu : a.eval x = u at h1
    cases h1 with
    | ep b cap _ _ _ _ hk => simp [execOp, hu]
theorem Q.nil_dp {x : Operand} {l : List D} (hx : oev σ x = .dp l) : Quiet P N σ hs ⟨d, .nilCheck x, ty, pos, af, g⟩ (.dp l) :=
  .of_run fun κ a w s => by
    have h1 := s.oev x; rw [hx] at h1
    refine ⟨a.eval x, ?_, h1⟩
    generalize hu : a.eval x = u at h1
    cases h1 with
    | dp ad _ c h1 hm hd => simp [execOp, hu]
theorem Q.nil_fn {x : Operand} {f : FuncId} {l : List AV} (hx : oev σ x = .fn f l) : Quiet P N σ hs ⟨d, .nilCheck x, ty, pos, af, g⟩ (.fn f l) :=
  .of_run fun κ a w s => by
    have h1 := s.oev x; rw [hx] at h1
    refine ⟨a.eval x, ?_, h1⟩
    generalize hu : a.eval x = u at h1
    cases h1 with
    | fn _ cs _ hl h => simp [execOp, hu]

theorem RepA.ptr_inv {κ : Kap} {w : World} {O : Nat → Prop} {v : Value} {id off : Nat} (h : RepA κ w O v (.ptr id off)) : ∃ b cap, κ id = some (some b, cap) ∧ v = .pointer (some ⟨b, off, none⟩) := by
  cases h with | ptr b cap _ _ hk => exact ⟨b, cap, hk, rfl⟩
theorem RepA.ep_inv {κ : Kap} {w : World} {O : Nat → Prop} {v : Value} {id sz i off : Nat} (h : RepA κ w O v (.ep id sz i off)) : ∃ b cap, κ id = some (some b, cap) ∧ v = .pointer (some ⟨b, i * sz + off, none⟩) := by
  cases h with | ep b cap _ _ _ _ hk => exact ⟨b, cap, hk, rfl⟩
theorem RepA.dp_inv {κ : Kap} {w : World} {O : Nat → Prop} {v : Value} {l : List D} (h : RepA κ w O v (.dp l)) : ∃ (ad : Addr) (c : Nat → Value), v = .pointer (some ad) ∧ (∀ d ∈ l, d.one = true) ∧
    (∀ (j : Nat) (d : D), l[j]? = some d → ¬ O ad.block ∧ w.cell? (ad.add j) = some (c j)) ∧ ∀ (j : Nat) (d : D), l[j]? = some d → RepD w O (c j) d := by
  cases h with | dp ad _ c h1 hm hd => exact ⟨ad, c, rfl, h1, hm, hd⟩

theorem fieldAt_run {s f off : Nat} (h : tFld P s f = some off) (a : Addr) (w : World) : (Instr.fieldAt s (.pointer (some a)) f).run P w = .ok (.pointer (some (a.add off))) w := by
  obtain ⟨fs, fd, i, hu, hf, hi, hz, rfl⟩ := tFld_spec h
  simp [Instr.fieldAt, under_run hu, hf, Instr.sureAddr, fieldPlace, size_run hi, hz]

theorem Q.fld_ptr {s f o id off : Nat} {x : Operand} (hf : tFld P s f = some o) (hx : oev σ x = .ptr id off) : Quiet P N σ hs ⟨d, .fieldAddr s x f, ty, pos, af, g⟩ (.ptr id (off + o)) :=
  .of_run fun κ a w s => by
    have h1 := s.oev x; rw [hx] at h1
    obtain ⟨b, cap, hk, hv⟩ := h1.ptr_inv
    exact ⟨.pointer (some ((⟨b, off, none⟩ : Addr).add o)), by simp [execOp, hv, fieldAt_run hf], by rw [addr_add_lit]; exact .ptr b cap id _ hk⟩
theorem Q.fld_ep {s f o id sz i off : Nat} {x : Operand} (hf : tFld P s f = some o) (hx : oev σ x = .ep id sz i off) : Quiet P N σ hs ⟨d, .fieldAddr s x f, ty, pos, af, g⟩ (.ep id sz i (off + o)) :=
  .of_run fun κ a w s => by
    have h1 := s.oev x; rw [hx] at h1
    obtain ⟨b, cap, hk, hv⟩ := h1.ep_inv
    refine ⟨.pointer (some ((⟨b, i * sz + off, none⟩ : Addr).add o)), by simp [execOp, hv, fieldAt_run hf], ?_⟩
    rw [addr_add_lit, Nat.add_assoc]; exact .ep b cap id sz i _ hk
theorem Q.fld_dp {s f o : Nat} {l : List D} {x : Operand} (hf : tFld P s f = some o) (hx : oev σ x = .dp l) : Quiet P N σ hs ⟨d, .fieldAddr s x f, ty, pos, af, g⟩ (.dp (l.drop o)) :=
  .of_run fun κ a w s => by
    have h1 := s.oev x; rw [hx] at h1
    obtain ⟨ad, c, hv, h2, hm, hd⟩ := h1.dp_inv
    refine ⟨.pointer (some (ad.add o)), by simp [execOp, hv, fieldAt_run hf], .dp _ _ (fun j => c (o + j)) (fun d hd => h2 d (List.mem_of_mem_drop hd)) (fun j d hj => ?_) (fun j d hj => ?_)⟩
    · rw [List.getElem?_drop] at hj
      obtain ⟨h3, h4⟩ := hm _ _ hj
      exact ⟨by rw [addr_add_block]; exact h3, by rw [addr_add_add]; exact h4⟩
    · rw [List.getElem?_drop] at hj
      exact hd _ _ hj

theorem RepA.d_inv {κ : Kap} {w : World} {O : Nat → Prop} {v : Value} {x : D} (h : RepA κ w O v (.d x)) : RepD w O v x := by
  generalize hx : AV.d x = y at h
  cases h <;> first | cases hx | skip
  case d.refl h => exact h

theorem asIntOf_run (k : IntKind) (n : Int) (w : World) : (asIntOf (.int k n)).run P w = .ok (k, n) w := rfl

theorem idx_run {t e len cap : Nat} {i : TypeInfo} (hu : P.underlying t = some (.slice e)) (hi : P.info? e = some i) (ad : Addr) {k : IntKind} {n : Int} (h0 : 0 ≤ n) (h1 : n < len) (w : World) :
    (Instr.indexAt t (.slice (some ad) len cap) (.int k n)).run P w = .ok (.pointer (some (ad.add (n.toNat * i.size)))) w := by
  simp [Instr.indexAt, asIntOf, under_run hu, size_run hi, h0, h1]

theorem RepA.sl_inv {κ : Kap} {w : World} {O : Nat → Prop} {v : Value} {sz : Nat} {rows : List (List D)} (h : RepA κ w O v (.d (.sl sz rows))) : ∃ (a : Option Addr) (cap : Nat) (c : Nat → Nat → Value), v = .slice a rows.length cap ∧ rows.length ≤ cap ∧
    (∀ r ∈ rows, r.length = sz) ∧ (∀ r ∈ rows, ∀ d ∈ r, d.one = true) ∧
    (∀ (i j : Nat) (r : List D) (d : D), rows[i]? = some r → r[j]? = some d → ∃ ad, a = some ad ∧ ¬ O ad.block ∧ w.cell? (ad.add (i * sz + j)) = some (c i j)) ∧
    (∀ (i j : Nat) (r : List D) (d : D), rows[i]? = some r → r[j]? = some d → RepD w O (c i j) d) := by
  cases h with
  | d h => cases h with
    | sl a len cap _ _ c hl hc hr h1 hm hd => subst hl; exact ⟨a, cap, c, rfl, hc, hr, h1, hm, hd⟩

theorem Q.idx_sl {t sz : Nat} {rows : List (List D)} {r : List D} {x ix : Operand} {k : IntKind} {i : Int} (ht : tSl P t = some sz) (hz : 0 < sz) (hx : oev σ x = .d (.sl sz rows)) (hi : oev σ ix = .d (.int k i))
    (h0 : 0 ≤ i) (hr : rows[i.toNat]? = some r) : Quiet P N σ hs ⟨d, .indexAddr t x ix, ty, pos, af, g⟩ (.dp r) :=
  .of_run fun κ a w s => by
    have h1 := s.oev x; rw [hx] at h1
    have h2 := s.oev ix; rw [hi] at h2
    obtain ⟨p, cap, c, hv, hc, hl, ho, hm, hd⟩ := h1.sl_inv
    obtain ⟨e, inf, hu, hin, rfl⟩ := tSl_spec ht
    have hlt : i.toNat < rows.length := (List.getElem?_eq_some_iff.1 hr).1
    have hrl := hl r (List.mem_of_getElem? hr)
    obtain ⟨d0, hd0⟩ : ∃ d0, r[0]? = some d0 := ⟨r[0], List.getElem?_eq_getElem (by omega)⟩
    obtain ⟨ad, rfl, _, _⟩ := hm i.toNat 0 r d0 hr hd0
    refine ⟨.pointer (some (ad.add (i.toNat * inf.size))), by simp [execOp, hv, h2.int_inv, idx_run hu hin ad h0 (show i < (rows.length : Int) by omega)], .dp _ _ (fun j => c i.toNat j) (ho r (List.mem_of_getElem? hr)) (fun j d hj => ?_) (fun j d hj => hd _ _ _ _ hr hj)⟩
    obtain ⟨ad', he, h3, h4⟩ := hm i.toNat j r d hr hj
    obtain rfl := Option.some.inj he
    exact ⟨by rw [addr_add_block]; exact h3, by rw [addr_add_add]; exact h4⟩

theorem Q.idx_vs {t sz id lo n kk : Nat} {rows : List (List D)} {x ix : Operand} {k : IntKind} {i : Int} (ht : tSl P t = some sz) (hx : oev σ x = .vs id lo n sz) (hh : hs[kk]? = some (id, .lst sz rows))
    (hi : oev σ ix = .d (.int k i)) (h0 : 0 ≤ i) (h1 : i < n) : Quiet P N σ hs ⟨d, .indexAddr t x ix, ty, pos, af, g⟩ (.ep id sz (lo + i.toNat) 0) :=
  .of_run fun κ a w s => by
    have h2 := s.oev x; rw [hx] at h2
    have h3 := s.oev ix; rw [hi] at h3
    obtain ⟨e, inf, hu, hin, rfl⟩ := tSl_spec ht
    generalize hv : a.eval x = v at h2
    cases h2 with
    | vs ob cap p _ _ _ _ hk hn hp =>
      obtain ⟨y, hy, hok⟩ := s.heap.ok id _ (List.mem_of_getElem? hh)
      rw [hk] at hy
      obtain rfl := Option.some.inj hy
      obtain ⟨g0, g0', g1, g2, g3, g4, g5⟩ := hok
      have hcap : cap ≠ 0 := by omega
      cases ob with
      | none => exact absurd (g4 rfl) hcap
      | some b =>
        have hpe := hp (by omega)
        subst hpe
        refine ⟨.pointer (some ((⟨b, lo * inf.size, none⟩ : Addr).add (i.toNat * inf.size))), by simp only [execOp, hv, h3.int_inv, Option.map_some, Sem.run_bind, idx_run hu hin _ h0 h1, Result.andThen_ok, Sem.run_pure], ?_⟩
        rw [addr_add_lit, ← Nat.add_mul]
        exact .ep b cap id _ _ 0 hk

theorem arr_run {t n e : Nat} {i : TypeInfo} (hu : P.underlying t = some (.array n e)) (hi : P.info? e = some i) (ad : Addr) {k : IntKind} {m : Int} (h0 : 0 ≤ m) (h1 : m < n) (w : World) :
    (Instr.indexAt t (.pointer (some ad)) (.int k m)).run P w = .ok (.pointer (some (ad.add (m.toNat * i.size)))) w := by
  simp [Instr.indexAt, asIntOf, under_run hu, size_run hi, h0, h1, Instr.sureAddr]

theorem Q.idx_arr {t n sz id off : Nat} {x ix : Operand} {k : IntKind} {i : Int} (ht : tArr P t = some (n, sz)) (hx : oev σ x = .ptr id off) (hi : oev σ ix = .d (.int k i)) (h0 : 0 ≤ i) (h1 : i < n) :
    Quiet P N σ hs ⟨d, .indexAddr t x ix, ty, pos, af, g⟩ (.ptr id (off + i.toNat * sz)) :=
  .of_run fun κ a w s => by
    have h2 := s.oev x; rw [hx] at h2
    have h3 := s.oev ix; rw [hi] at h3
    obtain ⟨b, cap, hk, hv⟩ := h2.ptr_inv
    obtain ⟨e, inf, hu, hin, rfl⟩ := tArr_spec ht
    exact ⟨.pointer (some ((⟨b, off, none⟩ : Addr).add (i.toNat * inf.size))), by simp [execOp, hv, h3.int_inv, arr_run hu hin _ h0 h1], by rw [addr_add_lit]; exact .ptr b cap id _ hk⟩

theorem Q.idx_darr {t n sz : Nat} {l : List D} {x ix : Operand} {k : IntKind} {i : Int} (ht : tArr P t = some (n, sz)) (hx : oev σ x = .dp l) (hi : oev σ ix = .d (.int k i)) (h0 : 0 ≤ i) (h1 : i < n) :
    Quiet P N σ hs ⟨d, .indexAddr t x ix, ty, pos, af, g⟩ (.dp (l.drop (i.toNat * sz))) :=
  .of_run fun κ a w s => by
    have h2 := s.oev x; rw [hx] at h2
    have h3 := s.oev ix; rw [hi] at h3
    obtain ⟨ad, c, hv, h4, hm, hd⟩ := h2.dp_inv
    obtain ⟨e, inf, hu, hin, rfl⟩ := tArr_spec ht
    refine ⟨.pointer (some (ad.add (i.toNat * inf.size))), by simp [execOp, hv, h3.int_inv, arr_run hu hin _ h0 h1], .dp _ _ (fun j => c (i.toNat * inf.size + j)) (fun d hd => h4 d (List.mem_of_mem_drop hd)) (fun j d hj => ?_) (fun j d hj => ?_)⟩
    · rw [List.getElem?_drop] at hj
      obtain ⟨h5, h6⟩ := hm _ _ hj
      exact ⟨by rw [addr_add_block]; exact h5, by rw [addr_add_add]; exact h6⟩
    · rw [List.getElem?_drop] at hj
      exact hd _ _ hj

/-! ### loads -/
theorem load1_run {t : Nat} (h : tAgg P t = some (false, 1)) {ad : Addr} {v : Value} {w : World} (hc : w.cell? ad = some v) : (Instr.loadAt t (.pointer (some ad))).run P w = .ok v w := by
  obtain ⟨h1, h2⟩ := tAgg_spec h w
  simp [Instr.loadAt, Instr.sureAddr, loadVar, h1, hc]

theorem loadn_run {t n : Nat} (h : tAgg P t = some (true, n)) {ad : Addr} {cs : List Value} {w : World} (hl : cs.length = n) (hc : ∀ (j : Nat) v, cs[j]? = some v → w.cell? (ad.add j) = some v) :
    (Instr.loadAt t (.pointer (some ad))).run P w = .ok (.agg cs.toArray) w := by
  obtain ⟨h1, h2⟩ := tAgg_spec h w
  have := run_loadCells_list (P := P) w ad cs hc
  rw [hl] at this
  simp [Instr.loadAt, Instr.sureAddr, loadVar, h1, h2, this]

theorem Q.ld_dp {t : Nat} {y : D} {l : List D} {x : Operand} (ht : tAgg P t = some (false, 1)) (hx : oev σ x = .dp l) (hy : l[0]? = some y) : Quiet P N σ hs ⟨d, .load t x, ty, pos, af, g⟩ (.d y) :=
  .of_run fun κ a w s => by
    have h1 := s.oev x; rw [hx] at h1
    obtain ⟨ad, c, hv, h2, hm, hd⟩ := h1.dp_inv
    have h3 := (hm 0 y hy).2
    rw [addr_add_zero] at h3
    exact ⟨c 0, by simp [execOp, hv, load1_run ht h3], .d (hd 0 y hy)⟩

theorem Q.ld_dpn {t n : Nat} {l : List D} {x : Operand} (ht : tAgg P t = some (true, n)) (hx : oev σ x = .dp l) (hn : Nat.ble n l.length = true) : Quiet P N σ hs ⟨d, .load t x, ty, pos, af, g⟩ (.d (.agg (l.take n))) :=
  .of_run fun κ a w s => by
    have h1 := s.oev x; rw [hx] at h1
    obtain ⟨ad, c, hv, h2, hm, hd⟩ := h1.dp_inv
    have hn' : n ≤ l.length := by simpa [Nat.ble_eq] using hn
    have hlen : ((List.range n).map c).length = n := by simp
    refine ⟨.agg ((List.range n).map c).toArray, ?_, .d (.agg _ _ (by simp; omega) (fun d hd => h2 d (List.mem_of_mem_take hd)) (fun i v d hi hj => ?_))⟩
    · rw [show execOp a.eval ⟨d, .load t x, ty, pos, af, g⟩ = (do pure (.value (← Instr.loadAt t (a.eval x)))) from rfl, hv, Sem.run_bind, loadn_run ht hlen]
      · rfl
      · intro j v hj
        rw [List.getElem?_map] at hj
        have hjn : j < n := by
          by_cases h : j < n
          · exact h
          · simp [List.getElem?_eq_none (show (List.range n).length ≤ j by simpa using h)] at hj
        simp [hjn] at hj
        subst hj
        exact (hm j _ (List.getElem?_eq_getElem (show j < l.length by omega))).2
    · rw [List.getElem?_take] at hj
      split at hj
      · rename_i hin
        simp [hin] at hi
        subst hi
        exact hd i d hj
      · cases hj

theorem Q.ld_ptr {t id off k : Nat} {l : List AV} {v : AV} {x : Operand} (ht : tAgg P t = some (false, 1)) (hx : oev σ x = .ptr id off) (hk : hs[k]? = some (id, .cells l)) (hv : l[off]? = some v) :
    Quiet P N σ hs ⟨d, .load t x, ty, pos, af, g⟩ v :=
  .of_run fun κ a w s => by
    have h1 := s.oev x; rw [hx] at h1
    obtain ⟨b, cap, hkk, hv1⟩ := h1.ptr_inv
    obtain ⟨y, hy, hok⟩ := s.heap.ok id _ (List.mem_of_getElem? hk)
    rw [hkk] at hy
    obtain rfl := Option.some.inj hy
    obtain ⟨b', cs, hbe, hw, hsz, hone, hr⟩ := hok
    obtain rfl := Option.some.inj hbe
    have hoff : off < cs.size := by rw [hsz]; exact (List.getElem?_eq_some_iff.1 hv).1
    have hc : w.cell? ⟨b, off, none⟩ = some cs[off] := by simp [World.cell?, hw, hoff]
    exact ⟨cs[off], by simp [execOp, hv1, load1_run ht hc], hr off _ v (Array.getElem?_eq_getElem hoff) hv⟩

def takeD : Nat → List AV → Option (List D)
  | 0, _ => some []
  | n + 1, .d x :: l => match takeD n l with | some r => some (x :: r) | none => none
  | _ + 1, _ => none

theorem takeD_spec : ∀ (n : Nat) (l : List AV) (ds : List D), takeD n l = some ds → ds.length = n ∧ ∀ (j : Nat) (x : D), ds[j]? = some x → l[j]? = some (.d x)
  | 0, l, ds, h => by simp [takeD] at h; subst h; simp
  | n + 1, [], ds, h => by simp [takeD] at h
  | n + 1, y :: l, ds, h => by
    cases y with
    | d x =>
      simp only [takeD] at h
      cases hr : takeD n l with
      | none => rw [hr] at h; cases h
      | some r =>
        rw [hr] at h
        obtain rfl := Option.some.inj h
        obtain ⟨h1, h2⟩ := takeD_spec n l r hr
        refine ⟨by simp [h1], fun j x' hj => ?_⟩
        cases j with
        | zero => simp at hj; subst hj; rfl
        | succ j => exact h2 j x' (by simpa using hj)
    | _ => simp [takeD] at h

theorem RepD.one_of {w : World} {O : Nat → Prop} {v : Value} {d : D} (h : RepD w O v d) (h1 : v.oneCell' = true) : d.one = true := by
  cases h <;> first | rfl | simp [Value.oneCell'] at h1

theorem Q.ld_ptrn {t n id off k : Nat} {l : List AV} {ds : List D} {x : Operand} (ht : tAgg P t = some (true, n)) (hx : oev σ x = .ptr id off) (hk : hs[k]? = some (id, .cells l)) (hv : takeD n (l.drop off) = some ds) :
    Quiet P N σ hs ⟨d, .load t x, ty, pos, af, g⟩ (.d (.agg ds)) :=
  .of_run fun κ a w s => by
    have h1 := s.oev x; rw [hx] at h1
    obtain ⟨b, cap, hkk, hv1⟩ := h1.ptr_inv
    obtain ⟨y, hy, hok⟩ := s.heap.ok id _ (List.mem_of_getElem? hk)
    rw [hkk] at hy
    obtain rfl := Option.some.inj hy
    obtain ⟨b', cs, hbe, hw, hsz, hone, hr⟩ := hok
    obtain rfl := Option.some.inj hbe
    obtain ⟨hl, hj⟩ := takeD_spec n _ ds hv
    have hat : ∀ (j : Nat) (x : D), ds[j]? = some x → ∃ u, cs[off + j]? = some u ∧ RepD w (Own κ hs) u x ∧ u.oneCell' = true := fun j x hx => by
      have h2 := hj j x hx
      rw [List.getElem?_drop] at h2
      have hlt : off + j < cs.size := by rw [hsz]; exact (List.getElem?_eq_some_iff.1 h2).1
      refine ⟨cs[off + j], Array.getElem?_eq_getElem hlt, ?_, hone _ (by simp [Array.mem_toList_iff])⟩
      have h4 := hr _ _ _ (Array.getElem?_eq_getElem hlt) h2
      exact h4.d_inv
    have hcell : ∀ (j : Nat) (v : Value), ((cs.toList.drop off).take n)[j]? = some v → w.cell? ((⟨b, off, none⟩ : Addr).add j) = some v := fun j v hj => by
      rw [addr_add_lit]
      rw [List.getElem?_take] at hj
      split at hj
      · rw [List.getElem?_drop] at hj
        simp [World.cell?, hw]; simpa using hj
      · cases hj
    have hlen : ((cs.toList.drop off).take n).length = n := by
      by_cases hn0 : n = 0
      · subst hn0; simp
      · obtain ⟨u, hu, _⟩ := hat (n - 1) ds[n - 1] (List.getElem?_eq_getElem (by omega))
        have := (Array.getElem?_eq_some_iff.1 hu).1
        simp; omega
    refine ⟨.agg ((cs.toList.drop off).take n).toArray, by simp [execOp, hv1, loadn_run ht hlen hcell], .d (.agg _ _ (by simpa [hl] using hlen) (fun d hd => ?_) (fun i v d hi hd => ?_))⟩
    · obtain ⟨j, hj⟩ := List.getElem?_of_mem hd
      obtain ⟨u, _, h2, h3⟩ := hat j d hj
      exact h2.one_of h3
    · obtain ⟨u, h2, h3, _⟩ := hat i d hd
      have hi' : ((cs.toList.drop off).take n)[i]? = some v := by simpa using hi
      rw [List.getElem?_take] at hi'
      split at hi'
      · rw [List.getElem?_drop] at hi'
        have : cs[off + i]? = some v := by simpa using hi'
        rw [h2] at this
        obtain rfl := Option.some.inj this
        exact h3
      · cases hi'

/-- What an element of a list of one's own holds. -/
theorem lst_cell {κ : Kap} {w : World} (h : HS κ w hs) {id sz k b cap : Nat} {rows : List (List D)} (hk : hs[k]? = some (id, .lst sz rows)) (hκ : κ id = some (some b, cap)) {i j : Nat} {r : List D} {x : D}
    (hr : rows[i]? = some r) (hj : r[j]? = some x) : ∃ u, w.cell? ⟨b, i * sz + j, none⟩ = some u ∧ RepD w (Own κ hs) u x := by
  obtain ⟨y, hy, hok⟩ := h.ok id _ (List.mem_of_getElem? hk)
  rw [hκ] at hy
  obtain rfl := Option.some.inj hy
  obtain ⟨g0, g0', g1, g2, g3, g4, g5⟩ := hok
  obtain ⟨cs, T, hw, hsz, hrep⟩ := g5 b rfl
  obtain ⟨u, hu, hd⟩ := hrep i j r x hr hj
  exact ⟨u, by simp [World.cell?, hw, hu], hd⟩

theorem Q.ld_ep {t id sz i off k : Nat} {rows : List (List D)} {r : List D} {y : D} {x : Operand} (ht : tAgg P t = some (false, 1)) (hx : oev σ x = .ep id sz i off) (hk : hs[k]? = some (id, .lst sz rows))
    (hr : rows[i]? = some r) (hy : r[off]? = some y) : Quiet P N σ hs ⟨d, .load t x, ty, pos, af, g⟩ (.d y) :=
  .of_run fun κ a w s => by
    have h1 := s.oev x; rw [hx] at h1
    obtain ⟨b, cap, hkk, hv1⟩ := h1.ep_inv
    obtain ⟨u, hu, hd⟩ := lst_cell s.heap hk hkk hr hy
    exact ⟨u, by simp [execOp, hv1, load1_run ht hu], .d hd⟩

theorem Q.ld_epn {t n id sz i off k : Nat} {rows : List (List D)} {r : List D} {x : Operand} (ht : tAgg P t = some (true, n)) (hx : oev σ x = .ep id sz i off) (hk : hs[k]? = some (id, .lst sz rows))
    (hr : rows[i]? = some r) (hn : Nat.ble (off + n) r.length = true) : Quiet P N σ hs ⟨d, .load t x, ty, pos, af, g⟩ (.d (.agg ((r.drop off).take n))) :=
  .of_run fun κ a w s => by
    have h1 := s.oev x; rw [hx] at h1
    obtain ⟨b, cap, hkk, hv1⟩ := h1.ep_inv
    have hn' : off + n ≤ r.length := by simpa [Nat.ble_eq] using hn
    have hat : ∀ (j : Nat) (x : D), ((r.drop off).take n)[j]? = some x → ∃ u, w.cell? ((⟨b, i * sz + off, none⟩ : Addr).add j) = some u ∧ RepD w (Own κ hs) u x := fun j x hj => by
      rw [List.getElem?_take] at hj
      split at hj
      · rw [List.getElem?_drop] at hj
        obtain ⟨u, hu, hd⟩ := lst_cell s.heap hk hkk hr hj
        exact ⟨u, by rw [addr_add_lit, Nat.add_assoc]; exact hu, hd⟩
      · cases hj
    have hlen : ((r.drop off).take n).length = n := by simp; omega
    let f : Nat → Value := fun j => (w.cell? ((⟨b, i * sz + off, none⟩ : Addr).add j)).getD undef
    have hf : ∀ (j : Nat) (x : D), ((r.drop off).take n)[j]? = some x → w.cell? ((⟨b, i * sz + off, none⟩ : Addr).add j) = some (f j) ∧ RepD w (Own κ hs) (f j) x := fun j x hj => by
      obtain ⟨u, hu, hd⟩ := hat j x hj
      have : f j = u := by simp [f, hu]
      rw [this]; exact ⟨hu, hd⟩
    have hone : ∀ d ∈ r, d.one = true := by
      obtain ⟨y, hy, hok⟩ := s.heap.ok id _ (List.mem_of_getElem? hk)
      exact hok.2.2.2.2.1 r (List.mem_of_getElem? hr)
    refine ⟨.agg ((List.range n).map f).toArray, ?_,   .d (.agg _ _ (by rw [List.size_toArray, List.length_map, List.length_range, hlen]) (fun d hd => hone d (List.mem_of_mem_drop (List.mem_of_mem_take hd))) (fun j v x hj hx => ?_))⟩
    · rw [show execOp a.eval ⟨d, .load t x, ty, pos, af, g⟩ = (do pure (.value (← Instr.loadAt t (a.eval x)))) from rfl, hv1, Sem.run_bind, loadn_run ht (cs := (List.range n).map f) (by simp)]
      · rfl
      · intro j v hj
        rw [List.getElem?_map] at hj
        have hjn : j < n := by
          by_cases h : j < n
          · exact h
          · simp [List.getElem?_eq_none (show (List.range n).length ≤ j by simpa using h)] at hj
        simp [hjn] at hj
        subst hj
        exact (hf j _ (List.getElem?_eq_getElem (by omega))).1
    · have hjn : j < n := by rw [← hlen]; exact (List.getElem?_eq_some_iff.1 hx).1
      simp [hjn] at hj
      subst hj
      exact (hf j x hx).2

end quiet
end Go.Proofs.YtldkkoecehdicaaDoorA
