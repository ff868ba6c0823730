/- Small things for the walks: moves by the kind of what is moved, arithmetic that fits, values of arrays, strings. -/
import Derived.Test.YtldkkoecehdicaaDoorAbs7
import Derived.IntWalk
import Derived.KernelRfl
namespace Go.Proofs.YtldkkoecehdicaaDoorA
open Go
set_option linter.unusedVariables false
set_option linter.unusedSimpArgs false

theorem wi64 {z : Int} (h0 : -9223372036854775808 ≤ z) (h1 : z ≤ 9223372036854775807) : IntKind.i64.wrap z = z := Go.IntWalk.i64_in z ⟨h0, h1⟩
theorem wquo {m n : Int} (h0 : 0 ≤ m) (h1 : m ≤ 9223372036854775807) (h2 : 1 ≤ n) : IntKind.i64.wrap (m.tdiv n) = m / n := by
  rw [Int.tdiv_eq_ediv_of_nonneg h0]
  have h3 : 0 ≤ m / n := Int.ediv_nonneg h0 (by omega)
  have h4 : m / n ≤ m := Int.ediv_le_self n h0
  exact wi64 (by omega) (by omega)
theorem wrem {m n : Int} (h0 : 0 ≤ m) : m.tmod n = m % n := Int.tmod_eq_emod_of_nonneg h0
theorem len_eq {k : IntKind} {m n : Nat} (h : m = n) : AV.d (.int k (m : Int)) = AV.d (.int k (n : Int)) := by rw [h]
theorem int_eq {k : IntKind} {m n : Int} (h : m = n) : AV.d (.int k m) = AV.d (.int k n) := by rw [h]
theorem map_at0 {α β : Type} {l : List α} {k : Nat} {x : α} {f : α → β} (hx : l[k]? = some x) : (l.map f)[0 + ((k : Nat) : Int).toNat]? = some (f x) := by
  rw [Nat.zero_add, Int.toNat_natCast, List.getElem?_map, hx]; rfl
theorem map_at {α β : Type} {l : List α} {k : Nat} {x : α} {f : α → β} (hx : l[k]? = some x) : (l.map f)[((k : Nat) : Int).toNat]? = some (f x) := by
  rw [Int.toNat_natCast, List.getElem?_map, hx]; rfl

section
variable {P : Program} {N : Nm} {σ : Env} {hs : Hp} {ty : TypeId} {pos : String} {af : Array Edge} {g : Option (Nat × Bool)} {ops : Array Oper} {l : List Oper} {R : Env → Hp → Prop}

theorem XOps.s {o : Oper} {t : Nat} {v : AV} (hg : o.guard = none) (hd : o.dst = some t) (ht : Nat.blt t N.n = true) (h : Quiet P N σ hs o v) (hl : XOps P N ops l ((t, v) :: σ) hs R) : XOps P N ops (o :: l) σ hs R :=
  XOps.q hg h (by rw [hd]; exact ht) (by rw [hd]; exact hl)

theorem XOps.gs {o oj : Oper} {v : AV} {j t u : Nat} {b want : Bool} (hg : o.guard = some (j, want)) (hj : ops[j]? = some oj) (hjd : oj.dst = some t) (hb : eget σ t = .d (.bool b)) (htN : Nat.blt t N.n = true)
    (hd : o.dst = some u) (hu : Nat.blt u N.n = true) (h : (b == want) = true → Quiet P N σ hs o v) (hl : XOps P N ops l ((u, .when (b == want) v) :: σ) hs R) : XOps P N ops (o :: l) σ hs R :=
  XOps.g hg hj hjd hb htN h (by rw [hd]; exact hu) (by rw [hd]; exact hl)
theorem XOps.gsw {o oj : Oper} {v : AV} {j t u : Nat} {g0 b want : Bool} (hg : o.guard = some (j, want)) (hj : ops[j]? = some oj) (hjd : oj.dst = some t) (hb : eget σ t = .when g0 (.d (.bool b))) (htN : Nat.blt t N.n = true)
    (hd : o.dst = some u) (hu : Nat.blt u N.n = true) (h : (g0 && (b == want)) = true → Quiet P N σ hs o v) (hl : XOps P N ops l ((u, .when (g0 && (b == want)) v) :: σ) hs R) : XOps P N ops (o :: l) σ hs R :=
  XOps.gw hg hj hjd hb htN h (by rw [hd]; exact hu) (by rw [hd]; exact hl)
end

section
variable {P : Program} {N : Nm} {σ : Env} {hs : Hp} {d : Option Tmp} {ty : TypeId} {pos : String} {af : Array Edge} {g : Option (Nat × Bool)}

theorem Q.move_d {x : Operand} {y : D} (hx : oev σ x = .d y) : Quiet P N σ hs ⟨d, .move x, ty, pos, af, g⟩ (.d y) := Q.move hx
theorem Q.move_vs {x : Operand} {id lo n sz : Nat} (hx : oev σ x = .vs id lo n sz) : Quiet P N σ hs ⟨d, .move x, ty, pos, af, g⟩ (.vs id lo n sz) := Q.move hx
theorem Q.move_ptr {x : Operand} {id o : Nat} (hx : oev σ x = .ptr id o) : Quiet P N σ hs ⟨d, .move x, ty, pos, af, g⟩ (.ptr id o) := Q.move hx
theorem Q.move_nilsl {x : Operand} (hx : oev σ x = .nilsl) : Quiet P N σ hs ⟨d, .move x, ty, pos, af, g⟩ .nilsl := Q.move hx
theorem Q.move_fn {x : Operand} {f : FuncId} {c : List AV} (hx : oev σ x = .fn f c) : Quiet P N σ hs ⟨d, .move x, ty, pos, af, g⟩ (.fn f c) := Q.move hx
theorem Q.move_tup {x : Operand} {c : List AV} (hx : oev σ x = .tup c) : Quiet P N σ hs ⟨d, .move x, ty, pos, af, g⟩ (.tup c) := Q.move hx
theorem Q.move_ep {x : Operand} {id sz i o : Nat} (hx : oev σ x = .ep id sz i o) : Quiet P N σ hs ⟨d, .move x, ty, pos, af, g⟩ (.ep id sz i o) := Q.move hx
theorem Q.move_dp {x : Operand} {c : List D} (hx : oev σ x = .dp c) : Quiet P N σ hs ⟨d, .move x, ty, pos, af, g⟩ (.dp c) := Q.move hx
theorem Q.move_dcut {x : Operand} {sz : Nat} {c : List (List D)} (hx : oev σ x = .dcut sz c) : Quiet P N σ hs ⟨d, .move x, ty, pos, af, g⟩ (.dcut sz c) := Q.move hx
theorem Q.assign_d {x : Operand} {y : D} (hx : oev σ x = .d y) : Quiet P N σ hs ⟨d, .assign x, ty, pos, af, g⟩ (.d y) := Q.assign hx
theorem Q.assign_vs {x : Operand} {id lo n sz : Nat} (hx : oev σ x = .vs id lo n sz) : Quiet P N σ hs ⟨d, .assign x, ty, pos, af, g⟩ (.vs id lo n sz) := Q.assign hx
theorem Q.assign_ptr {x : Operand} {id o : Nat} (hx : oev σ x = .ptr id o) : Quiet P N σ hs ⟨d, .assign x, ty, pos, af, g⟩ (.ptr id o) := Q.assign hx
theorem Q.assign_nilsl {x : Operand} (hx : oev σ x = .nilsl) : Quiet P N σ hs ⟨d, .assign x, ty, pos, af, g⟩ .nilsl := Q.assign hx
theorem Q.assign_fn {x : Operand} {f : FuncId} {c : List AV} (hx : oev σ x = .fn f c) : Quiet P N σ hs ⟨d, .assign x, ty, pos, af, g⟩ (.fn f c) := Q.assign hx
theorem Q.assign_tup {x : Operand} {c : List AV} (hx : oev σ x = .tup c) : Quiet P N σ hs ⟨d, .assign x, ty, pos, af, g⟩ (.tup c) := Q.assign hx
theorem Q.assign_ep {x : Operand} {id sz i o : Nat} (hx : oev σ x = .ep id sz i o) : Quiet P N σ hs ⟨d, .assign x, ty, pos, af, g⟩ (.ep id sz i o) := Q.assign hx
theorem Q.assign_dp {x : Operand} {c : List D} (hx : oev σ x = .dp c) : Quiet P N σ hs ⟨d, .assign x, ty, pos, af, g⟩ (.dp c) := Q.assign hx
theorem Q.assign_dcut {x : Operand} {sz : Nat} {c : List (List D)} (hx : oev σ x = .dcut sz c) : Quiet P N σ hs ⟨d, .assign x, ty, pos, af, g⟩ (.dcut sz c) := Q.assign hx

/-! ### arrays by value -/
theorem tArr_part {t n sz : Nat} {b : Bool} (h : tArr P t = some (n, sz)) (hb : (match P.underlying t with | some (.array _ e) => tAgg P e | _ => none) = some (b, sz)) (w : World) :
    ∃ e i, P.underlying t = some (.array n e) ∧ P.info? e = some i ∧ i.size = sz ∧ (isAgg e).run P w = .ok b w := by
  obtain ⟨e, i, hu, hi, hs⟩ := tArr_spec h
  rw [hu] at hb
  exact ⟨e, i, hu, hi, hs, (tAgg_spec hb w).1⟩

/-- Is an array type's element a struct or an array; its size. -/
def tEl (P : Program) (t : TypeId) : Option (Bool × Nat) := match P.underlying t with | some (.array _ e) => tAgg P e | _ => none

theorem Q.idx_agg1 {t n : Nat} {cs : List D} {y : D} {x ix : Operand} {k : IntKind} {i : Int} (ht : tArr P t = some (n, 1)) (he : tEl P t = some (false, 1)) (hx : oev σ x = .d (.agg cs)) (hi : oev σ ix = .d (.int k i)) (h0 : 0 ≤ i) (h1 : i < n)
    (hy : cs[i.toNat]? = some y) : Quiet P N σ hs ⟨d, .index t x ix, ty, pos, af, g⟩ (.d y) :=
  .of_run fun κ a w s => by
    have h2 := s.oev x; rw [hx] at h2
    have h3 := s.oev ix; rw [hi] at h3
    obtain ⟨e, inf, hu, hin, hsz, hag⟩ := tArr_part ht he w
    have h4 := h2.d_inv
    generalize hv : a.eval x = v at h4
    cases h4 with
    | agg vs _ hl ho hr =>
      have hlt : i.toNat < vs.size := by rw [hl]; exact (List.getElem?_eq_some_iff.1 hy).1
      have hc : vs[i.toNat]? = some vs[i.toNat] := Array.getElem?_eq_getElem hlt
      refine ⟨vs[i.toNat], ?_, .d (hr _ _ _ hc hy)⟩
      simp [execOp, hv, h3.int_inv, Instr.index, asIntOf, run_underlying hu, h0, h1, part, hag, size_run hin, hsz, hlt]

theorem Q.idx_aggn {t n m : Nat} {cs l : List D} {x ix : Operand} {k : IntKind} {i : Int} (ht : tArr P t = some (n, m)) (he : tEl P t = some (true, m)) (hx : oev σ x = .d (.agg cs)) (hi : oev σ ix = .d (.int k i)) (h0 : 0 ≤ i) (h1 : i < n)
    (hy : (cs.drop (i.toNat * m)).take m = l) : Quiet P N σ hs ⟨d, .index t x ix, ty, pos, af, g⟩ (.d (.agg l)) :=
  .of_run fun κ a w s => by
    have h2 := s.oev x; rw [hx] at h2
    have h3 := s.oev ix; rw [hi] at h3
    obtain ⟨e, inf, hu, hin, hsz, hag⟩ := tArr_part ht he w
    have h4 := h2.d_inv
    generalize hv : a.eval x = v at h4
    cases h4 with
    | agg vs _ hl ho hr =>
      subst hy
      refine ⟨.agg (vs.extract (i.toNat * m) (i.toNat * m + m)), ?_, .d (.agg _ _ ?_ (fun d hd => ho d (List.mem_of_mem_drop (List.mem_of_mem_take hd))) (fun j u d hj hd => ?_))⟩
      · simp [execOp, hv, h3.int_inv, Instr.index, asIntOf, run_underlying hu, h0, h1, part, hag, size_run hin, hsz]
      · simp [hl]; omega
      · rw [List.getElem?_take] at hd
        split at hd
        · rename_i hlt
          rw [List.getElem?_drop] at hd
          rw [Array.getElem?_extract] at hj
          split at hj
          · exact hr _ u d hj hd
          · cases hj
        · cases hd

theorem Q.buildArr {t n m : Nat} {z : List Value} {zd l : List D} {parts : Array (Nat × Operand)} (ht : tArr P t = some (n, m)) (hz : tZero P t = some z) (hzd : cellsD z = some zd)
    (hf : afill (fun i => some (i * m, m)) zd (parts.toList.map fun p => (p.1, oev σ p.2)) = some l) : Quiet P N σ hs ⟨d, .build t parts, ty, pos, af, g⟩ (.d (.agg l)) :=
  .of_run fun κ a w s => by
    obtain ⟨inf, hi, hz⟩ := Option.bind_eq_some_iff.1 hz
    obtain ⟨zv, hzv, rfl⟩ := Option.map_eq_some_iff.1 hz
    obtain ⟨e, ei, hu, hei, rfl⟩ := tArr_spec ht
    obtain ⟨h1, h2⟩ := parts_rep s parts
    obtain ⟨cs', h3, f1, f2, f3⟩ := fill_run _ _ _ _ l h1 h2 (cellsD_rep w (Own κ hs) _ zd hzd) hf
    refine ⟨.agg cs', ?_, .d (.agg _ _ f1 f2 f3)⟩
    have hzr : (zeroValue t).run P w = .ok zv w := by simp [zeroValue, typeInfo, hi, hzv]
    rw [show execOp a.eval ⟨d, .build t parts, ty, pos, af, g⟩ = (do pure (.value (← Instr.build t (parts.map fun (i, x) => (i, a.eval x))))) from rfl, Sem.run_bind]
    have hb : (Instr.build t (parts.map fun (i, x) => (i, a.eval x))).run P w = .ok (.agg cs') w := by
      simp only [Instr.build, Sem.run_bind, hzr, Result.andThen_ok, run_underlying hu, size_run hei]
      simp only [Array.toArray_toList] at h3
      rw [h3]
      rfl
    rw [hb]; rfl

/-! ### strings, bools, conversions -/
def isB (P : Program) (t : TypeId) : Bool := match P.underlying t with | some .bool => true | _ => false
theorem isB_spec {t : TypeId} (h : isB P t = true) : P.underlying t = some .bool := by
  unfold isB at h
  split at h
  · assumption
  · cases h
/-- The kind of an integer type. -/
def tInt (P : Program) (t : TypeId) : Option IntKind := match P.underlying t with | some (.int k) => some k | _ => none
theorem tInt_spec {t : TypeId} {k : IntKind} (h : tInt P t = some k) : P.underlying t = some (.int k) := by
  unfold tInt at h
  split at h
  · obtain rfl := Option.some.inj h; assumption
  · cases h

theorem equal_bool {t : TypeId} (ht : isB P t = true) (p q : Bool) (w : World) : (Op.equal t (.bool p) (.bool q)).run P w = .ok (p == q) w := by
  show (Op.equalIn (9999 + 1) t (.bool p) (.bool q)).run P w = _
  rw [Op.equalIn, Sem.run_bind, run_underlying (isB_spec ht)]
  rfl

theorem bin_bool {a : Act} {w : World} {op : BinOp} {t t' : TypeId} {x y : Operand} {p q : Bool} (hx : a.eval x = .bool p) (hy : a.eval y = .bool q) {r : Value} (h : (binOp op t (.bool p) (.bool q)).run P w = .ok r w) :
    (execOp a.eval ⟨d, .binOp op t x y t', ty, pos, af, g⟩).run P w = .ok (.value r) w := by
  have h3 : (eqGuard op t x y (.bool p) (.bool q)).run P w = .ok () w := by
    unfold eqGuard; cases op <;> rfl
  rw [show execOp a.eval ⟨d, .binOp op t x y t', ty, pos, af, g⟩ = (do pure (.value (← (do eqGuard op t x y (a.eval x) (a.eval y); binOp op t (a.eval x) (a.eval y))))) from rfl, hx, hy]
  simp only [Sem.run_bind, h3, Result.andThen_ok, h, Sem.run_pure]

theorem Q.eql_bool {t t' : TypeId} {x y : Operand} {p q : Bool} (ht : isB P t = true) (hx : oev σ x = .d (.bool p)) (hy : oev σ y = .d (.bool q)) : Quiet P N σ hs ⟨d, .binOp .eql t x y t', ty, pos, af, g⟩ (.d (.bool (p == q))) :=
  .of_run fun κ a w s => by
    have h1 := s.oev x; have h2 := s.oev y
    rw [hx] at h1; rw [hy] at h2
    refine ⟨.bool (p == q), bin_bool h1.bool_inv h2.bool_inv ?_, .d (.bool _)⟩
    rw [show binOp .eql t (.bool p) (.bool q) = (do pure (.bool (← Op.equal t (.bool p) (.bool q)))) from rfl, Sem.run_bind, equal_bool ht]
    rfl
theorem Q.neq_bool {t t' : TypeId} {x y : Operand} {p q : Bool} (ht : isB P t = true) (hx : oev σ x = .d (.bool p)) (hy : oev σ y = .d (.bool q)) : Quiet P N σ hs ⟨d, .binOp .neq t x y t', ty, pos, af, g⟩ (.d (.bool (!(p == q)))) :=
  .of_run fun κ a w s => by
    have h1 := s.oev x; have h2 := s.oev y
    rw [hx] at h1; rw [hy] at h2
    refine ⟨.bool (!(p == q)), bin_bool h1.bool_inv h2.bool_inv ?_, .d (.bool _)⟩
    rw [show binOp .neq t (.bool p) (.bool q) = (do pure (.bool (!(← Op.equal t (.bool p) (.bool q))))) from rfl, Sem.run_bind, equal_bool ht]
    rfl

theorem Q.conv_int {t t' : TypeId} {x : Operand} {k k' : IntKind} {n r : Int} (ht : tInt P t' = some k') (hx : oev σ x = .d (.int k n)) (hs0 : ∃ u, P.underlying t = some u) (hr : k'.wrap n = r) :
    Quiet P N σ hs ⟨d, .convert t t' x, ty, pos, af, g⟩ (.d (.int k' r)) :=
  .of_run fun κ a w s => by
    have h1 := s.oev x; rw [hx] at h1
    obtain ⟨u, hu⟩ := hs0
    exact ⟨.int k' r, by simp [execOp, h1.int_inv, convert, run_underlying hu, run_underlying (tInt_spec ht), Conv.intToInt, hr], .d (.int _ _)⟩

theorem str_run {κ : Kap} {a : Act} {w : World} (s : Sim N κ hs w σ a) {op : BinOp} {t t' : TypeId} {x y : Operand} {m n : ByteArray} (hx : oev σ x = .d (.str m)) (hy : oev σ y = .d (.str n)) (hop : op ≠ .shl ∧ op ≠ .shr) :
    (execOp a.eval ⟨d, .binOp op t x y t', ty, pos, af, g⟩).run P w = ((Op.stringOp op m n).run P w).andThen fun u w' => .ok (.value u) w' := by
  have h1 := s.oev x; have h2 := s.oev y
  rw [hx] at h1; rw [hy] at h2
  have h3 : (eqGuard op t x y (.string m) (.string n)).run P w = .ok () w := by
    unfold eqGuard; cases op <;> simp
  have h4 : binOp op t (.string m) (.string n) = Op.stringOp op m n := by
    cases op <;> first | rfl | exact absurd rfl hop.1 | exact absurd rfl hop.2
  simp [execOp, h1.str_inv, h2.str_inv, h3, h4]

theorem Q.adds {t t' : TypeId} {x y : Operand} {m n : ByteArray} (hx : oev σ x = .d (.str m)) (hy : oev σ y = .d (.str n)) (hl : m.size + n.size ≤ 9223372036854775807) :
    Quiet P N σ hs ⟨d, .binOp .add t x y t', ty, pos, af, g⟩ (.d (.str (m ++ n))) :=
  .of_run fun κ a w s => ⟨.string (m ++ n), by
    rw [str_run s hx hy ⟨by simp, by simp⟩]
    have : ¬ (((m.size + n.size : Nat) : Int) > IntKind.i64.max) := by
      show ¬ (((m.size + n.size : Nat) : Int) > 2 ^ 63 - 1)
      omega
    simp only [Op.stringOp]
    rw [if_neg this]; rfl, .d (.str _)⟩
theorem Q.eql_str {t t' : TypeId} {x y : Operand} {m n : ByteArray} (hx : oev σ x = .d (.str m)) (hy : oev σ y = .d (.str n)) : Quiet P N σ hs ⟨d, .binOp .eql t x y t', ty, pos, af, g⟩ (.d (.bool (m.toList == n.toList))) :=
  .of_run fun κ a w s => ⟨_, by rw [str_run s hx hy ⟨by simp, by simp⟩]; rfl, .d (.bool _)⟩
theorem Q.neq_str {t t' : TypeId} {x y : Operand} {m n : ByteArray} (hx : oev σ x = .d (.str m)) (hy : oev σ y = .d (.str n)) : Quiet P N σ hs ⟨d, .binOp .neq t x y t', ty, pos, af, g⟩ (.d (.bool (!(m.toList == n.toList)))) :=
  .of_run fun κ a w s => ⟨_, by rw [str_run s hx hy ⟨by simp, by simp⟩]; rfl, .d (.bool _)⟩
theorem Q.lss_str {t t' : TypeId} {x y : Operand} {m n : ByteArray} (hx : oev σ x = .d (.str m)) (hy : oev σ y = .d (.str n)) : Quiet P N σ hs ⟨d, .binOp .lss t x y t', ty, pos, af, g⟩ (.d (.bool (Op.bytesLess m.toList n.toList))) :=
  .of_run fun κ a w s => ⟨_, by rw [str_run s hx hy ⟨by simp, by simp⟩]; rfl, .d (.bool _)⟩
theorem Q.leq_str {t t' : TypeId} {x y : Operand} {m n : ByteArray} (hx : oev σ x = .d (.str m)) (hy : oev σ y = .d (.str n)) : Quiet P N σ hs ⟨d, .binOp .leq t x y t', ty, pos, af, g⟩ (.d (.bool (Op.bytesLess m.toList n.toList || m.toList == n.toList))) :=
  .of_run fun κ a w s => ⟨_, by rw [str_run s hx hy ⟨by simp, by simp⟩]; rfl, .d (.bool _)⟩
theorem Q.gtr_str {t t' : TypeId} {x y : Operand} {m n : ByteArray} (hx : oev σ x = .d (.str m)) (hy : oev σ y = .d (.str n)) : Quiet P N σ hs ⟨d, .binOp .gtr t x y t', ty, pos, af, g⟩ (.d (.bool (!(Op.bytesLess m.toList n.toList || m.toList == n.toList)))) :=
  .of_run fun κ a w s => ⟨_, by rw [str_run s hx hy ⟨by simp, by simp⟩]; rfl, .d (.bool _)⟩
theorem Q.geq_str {t t' : TypeId} {x y : Operand} {m n : ByteArray} (hx : oev σ x = .d (.str m)) (hy : oev σ y = .d (.str n)) : Quiet P N σ hs ⟨d, .binOp .geq t x y t', ty, pos, af, g⟩ (.d (.bool (!Op.bytesLess m.toList n.toList))) :=
  .of_run fun κ a w s => ⟨_, by rw [str_run s hx hy ⟨by simp, by simp⟩]; rfl, .d (.bool _)⟩

/-- One element, written out. -/
theorem Q.bsl1 {t : Nat} {z : List Value} {zd : List D} {y : D} {x : Operand} (ht : tSl P t = some 1) (hz : tZrow P t = some z) (hzl : z.length = 1) (hzd : cellsD z = some zd) (hx : oev σ x = .d y) (h1 : y.one = true) :
    Quiet P N σ hs ⟨d, .buildSlice t 1 #[(0, x)], ty, pos, af, g⟩ (.d (.sl 1 [[y]])) := by
  have hl : zd.length = 1 := by have := (cellsD_rep default (fun _ => False) z zd hzd).1; simpa [hzl] using this.symm
  obtain ⟨u, rfl⟩ : ∃ u, zd = [u] := by
    match zd, hl with
    | [u], _ => exact ⟨u, rfl⟩
  have hd : dcells (.d y) = some [y] := by cases y <;> first | rfl | (simp [D.one] at h1)
  refine Q.bsl (l := [y]) ht (by decide) hz hzl hzd (by decide) ?_ rfl
  simp only [List.map_cons, List.map_nil, hx, afill, hd]
  rfl
theorem Q.bsl1n {t sz : Nat} {z : List Value} {zd ds : List D} {x : Operand} (ht : tSl P t = some sz) (hsz : 0 < sz) (hz : tZrow P t = some z) (hzl : z.length = sz) (hzd : cellsD z = some zd) (hx : oev σ x = .d (.agg ds)) (hl : ds.length = sz)
    (hs24 : sz ≤ 16777216) : Quiet P N σ hs ⟨d, .buildSlice t 1 #[(0, x)], ty, pos, af, g⟩ (.d (.sl sz [ds])) := by
  have hzl2 : zd.length = sz := by have := (cellsD_rep default (fun _ => False) z zd hzd).1; simpa [hzl] using this.symm
  refine Q.bsl (l := ds) ht hsz hz hzl hzd (by omega) ?_ (by simp [chop, List.take_of_length_le (Nat.le_of_eq hl)])
  simp only [List.map_cons, List.map_nil, hx, afill, dcells, zeroList, List.append_nil, Nat.zero_mul, Nat.zero_add]
  rw [show (Nat.beq ds.length sz && Nat.ble sz zd.length) = true from by
    rw [hl, hzl2]
    exact Bool.and_eq_true_iff.2 ⟨Nat.beq_refl _, by rw [Nat.ble_eq]; exact Nat.le_refl _⟩]
  simp [List.drop_of_length_le (Nat.le_of_eq hzl2)]

/-- A cut of a slice that reads as a list. -/
theorem Q.cut_slm {α : Type} {t sz : Nat} {l : List α} {f : α → List D} {x : Operand} {lo hi : Option Operand} {i j : Int} (ht : tSl P t = some sz) (hx : oev σ x = .d (.sl sz (l.map f))) (hl : OI σ lo 0 i) (hh : OI σ hi (l.map f).length j)
    (h0 : 0 ≤ i) (h1 : i ≤ j) (h2 : j ≤ l.length) : Quiet P N σ hs ⟨d, .slice t x lo hi none, ty, pos, af, g⟩ (.d (.sl sz (((l.take j.toNat).drop i.toNat).map f))) := by
  have := Q.cut_sl (P := P) (N := N) (hs := hs) (d := d) (ty := ty) (pos := pos) (af := af) (g := g) ht hx hl hh h0 h1 (by simpa using h2)
  rwa [← List.map_take, ← List.map_drop] at this

/-! ### a slice against nil -/
theorem equal_slice {t e : TypeId} (hu : P.underlying t = some (.slice e)) (p : Option Addr) (n c : Nat) (w : World) : (Op.equal t (.slice p n c) (.slice none 0 0)).run P w = .ok p.isNone w := by
  show (Op.equalIn (9999 + 1) t (.slice p n c) (.slice none 0 0)).run P w = _
  rw [Op.equalIn, Sem.run_bind, run_underlying hu]
  cases p <;> rfl

theorem eq_run {a : Act} {w : World} {t e t' : TypeId} {x y : Operand} (hu : P.underlying t = some (.slice e)) {p : Option Addr} {n c : Nat} (hx : a.eval x = .slice p n c) (hy : a.eval y = .slice none 0 0) :
    (execOp a.eval ⟨d, .binOp .eql t x y t', ty, pos, af, g⟩).run P w = .ok (.value (.bool p.isNone)) w := by
  rw [show execOp a.eval ⟨d, .binOp .eql t x y t', ty, pos, af, g⟩ = (do pure (.value (← (do eqGuard .eql t x y (a.eval x) (a.eval y); binOp .eql t (a.eval x) (a.eval y))))) from rfl, hx, hy]
  rw [show binOp .eql t (.slice p n c) (.slice none 0 0) = (do pure (.bool (← Op.equal t (.slice p n c) (.slice none 0 0)))) from rfl]
  simp only [Sem.run_bind, equal_slice hu, Result.andThen_ok, Sem.run_pure]
  rw [show (eqGuard .eql t x y (.slice p n c) (.slice none 0 0)).run P w = .ok () w from rfl]
  rfl

theorem neq_run {a : Act} {w : World} {t e t' : TypeId} {x y : Operand} (hu : P.underlying t = some (.slice e)) {p : Option Addr} {n c : Nat} (hx : a.eval x = .slice p n c) (hy : a.eval y = .slice none 0 0) :
    (execOp a.eval ⟨d, .binOp .neq t x y t', ty, pos, af, g⟩).run P w = .ok (.value (.bool (!p.isNone))) w := by
  rw [show execOp a.eval ⟨d, .binOp .neq t x y t', ty, pos, af, g⟩ = (do pure (.value (← (do eqGuard .neq t x y (a.eval x) (a.eval y); binOp .neq t (a.eval x) (a.eval y))))) from rfl, hx, hy]
  rw [show binOp .neq t (.slice p n c) (.slice none 0 0) = (do pure (.bool (!(← Op.equal t (.slice p n c) (.slice none 0 0))))) from rfl]
  simp only [Sem.run_bind, equal_slice hu, Result.andThen_ok, Sem.run_pure]
  rw [show (eqGuard .neq t x y (.slice p n c) (.slice none 0 0)).run P w = .ok () w from rfl]
  rfl

/-- Data against nil: it is nil only where it is empty. -/
theorem L.eqnil {t u sz : Nat} {t' : TypeId} {rows : List (List D)} {x y : Operand} (ht : tSl P t = some sz) (hz : 0 < sz) (hx : oev σ x = .d (.sl sz rows)) (hy : oev σ y = .nilsl) (hu : Nat.blt u N.n = true) :
    Loud P N σ hs ⟨some u, .binOp .eql t x y t', ty, pos, af, g⟩ (fun σ' hs' => ∃ b, (b = true → rows = []) ∧ σ' = (u, .d (.bool b)) :: σ ∧ hs' = hs) := by
  intro κ a w s K Q hK
  have h1 := s.oev x; rw [hx] at h1
  have h2 := s.oev y; rw [hy] at h2
  obtain ⟨p, cap, c, hv, _, hl, _, hm, _⟩ := h1.sl_inv
  have hv2 : a.eval y = .slice none 0 0 := by generalize a.eval y = v at h2; cases h2; rfl
  obtain ⟨e, inf, hun, _, _⟩ := tSl_spec ht
  unfold oWp
  rw [eq_run hun hv hv2]
  refine hK κ _ w _ hs (s.put (.refl _ _ _) s.heap (by simpa [Nat.blt_eq] using hu) (.d (.bool p.isNone))) (.refl _ _ _) ⟨p.isNone, fun hb => ?_, rfl, rfl⟩
  cases rows with
  | nil => rfl
  | cons r rows =>
    have hrl := hl r List.mem_cons_self
    obtain ⟨ad, hp, _⟩ := hm 0 0 r (r[0]'(by omega)) rfl (List.getElem?_eq_getElem (by omega))
    rw [hp] at hb; cases hb

/-- Data that is not empty against nil. -/
theorem Q.neqnil {t sz : Nat} {t' : TypeId} {rows : List (List D)} {x y : Operand} (ht : tSl P t = some sz) (hz : 0 < sz) (hx : oev σ x = .d (.sl sz rows)) (hy : oev σ y = .nilsl) (hne : rows ≠ []) :
    Quiet P N σ hs ⟨d, .binOp .neq t x y t', ty, pos, af, g⟩ (.d (.bool true)) :=
  .of_run fun κ a w s => by
    have h1 := s.oev x; rw [hx] at h1
    have h2 := s.oev y; rw [hy] at h2
    obtain ⟨p, cap, c, hv, _, hl, _, hm, _⟩ := h1.sl_inv
    have hv2 : a.eval y = .slice none 0 0 := by generalize a.eval y = v at h2; cases h2; rfl
    obtain ⟨e, inf, hun, _, _⟩ := tSl_spec ht
    refine ⟨.bool true, ?_, .d (.bool _)⟩
    rw [neq_run hun hv hv2]
    cases rows with
    | nil => exact absurd rfl hne
    | cons r rows =>
      have hrl := hl r List.mem_cons_self
      obtain ⟨ad, hp, _⟩ := hm 0 0 r (r[0]'(by omega)) rfl (List.getElem?_eq_getElem (by omega))
      rw [hp]; rfl
theorem Q.eqnil_cons {t sz : Nat} {t' : TypeId} {rows : List (List D)} {x y : Operand} (ht : tSl P t = some sz) (hz : 0 < sz) (hx : oev σ x = .d (.sl sz rows)) (hy : oev σ y = .nilsl) (hne : rows ≠ []) :
    Quiet P N σ hs ⟨d, .binOp .eql t x y t', ty, pos, af, g⟩ (.d (.bool false)) :=
  .of_run fun κ a w s => by
    have h1 := s.oev x; rw [hx] at h1
    have h2 := s.oev y; rw [hy] at h2
    obtain ⟨p, cap, c, hv, _, hl, _, hm, _⟩ := h1.sl_inv
    have hv2 : a.eval y = .slice none 0 0 := by generalize a.eval y = v at h2; cases h2; rfl
    obtain ⟨e, inf, hun, _, _⟩ := tSl_spec ht
    refine ⟨.bool false, ?_, .d (.bool _)⟩
    rw [eq_run hun hv hv2]
    cases rows with
    | nil => exact absurd rfl hne
    | cons r rows =>
      have hrl := hl r List.mem_cons_self
      obtain ⟨ad, hp, _⟩ := hm 0 0 r (r[0]'(by omega)) rfl (List.getElem?_eq_getElem (by omega))
      rw [hp]; rfl
theorem Q.neqnil_nil {t sz : Nat} {t' : TypeId} {x y : Operand} (ht : tSl P t = some sz) (hx : oev σ x = .nilsl) (hy : oev σ y = .nilsl) :
    Quiet P N σ hs ⟨d, .binOp .neq t x y t', ty, pos, af, g⟩ (.d (.bool false)) :=
  .of_run fun κ a w s => by
    have h1 := s.oev x; rw [hx] at h1
    have h2 := s.oev y; rw [hy] at h2
    have hv : a.eval x = .slice none 0 0 := by generalize a.eval x = v at h1; cases h1; rfl
    have hv2 : a.eval y = .slice none 0 0 := by generalize a.eval y = v at h2; cases h2; rfl
    obtain ⟨e, inf, hun, _, _⟩ := tSl_spec ht
    exact ⟨.bool false, by rw [neq_run hun hv hv2]; rfl, .d (.bool _)⟩
theorem Q.eqnil_nil {t sz : Nat} {t' : TypeId} {x y : Operand} (ht : tSl P t = some sz) (hx : oev σ x = .nilsl) (hy : oev σ y = .nilsl) :
    Quiet P N σ hs ⟨d, .binOp .eql t x y t', ty, pos, af, g⟩ (.d (.bool true)) :=
  .of_run fun κ a w s => by
    have h1 := s.oev x; rw [hx] at h1
    have h2 := s.oev y; rw [hy] at h2
    have hv : a.eval x = .slice none 0 0 := by generalize a.eval x = v at h1; cases h1; rfl
    have hv2 : a.eval y = .slice none 0 0 := by generalize a.eval y = v at h2; cases h2; rfl
    obtain ⟨e, inf, hun, _, _⟩ := tSl_spec ht
    exact ⟨.bool true, by rw [eq_run hun hv hv2]; rfl, .d (.bool _)⟩

/-- An empty slice that is written out: there is no room behind it. -/
theorem Q.bsl0 {t sz : Nat} (ht : tSl P t = some sz) : Quiet P N σ hs ⟨d, .buildSlice t 0 #[], ty, pos, af, g⟩ (.dcut sz []) := by
  intro κ a w s K Q hK
  obtain ⟨e, inf, hu, hi, rfl⟩ := tSl_spec ht
  have ex : Ext κ hs w κ hs (w.alloc (.cells #[] e)) :=
    ⟨fun _ _ h => h, by simp, Nat.le_refl _, rfl, rfl, rfl, fun b hb _ => heap_alloc_old w _ b hb, fun b _ h => h, fun _ o h => .inl ⟨o, h⟩, SameT.lt fun b hb => heap_alloc_old w _ b hb⟩
  have hsz2 : HS κ (w.alloc (.cells #[] e)) hs := ⟨s.heap.nodup, fun id o hi => by
      obtain ⟨x, hx, hok⟩ := s.heap.ok id o hi
      refine ⟨x, hx, hok.ext ex fun b hb => heap_alloc_old w _ b (s.heap.block_lt hi (c := x.2) ?_)⟩
      rw [hx, ← hb], s.heap.inj, s.heap.fresh⟩
  have hrun : (execOp a.eval ⟨d, .buildSlice t 0 #[], ty, pos, af, g⟩).run P w = .ok (.value (.slice (some ⟨w.heap.size, 0, none⟩) 0 0)) (w.alloc (.cells #[] e)) := by
    simp [execOp, Instr.buildSlice, run_underlying hu, size_run hi, Instr.fill, newRow_run]
    rw [show (Array.map (fun (x : Nat) => (default : Value)) (Array.range 0)) = #[] from Array.eq_empty_of_size_eq_zero (by simp)]
  unfold oWp
  rw [hrun]
  exact hK κ _ _ hsz2 ex (.dcut _ 0 _ [] (.sl _ _ _ _ _ (fun _ _ => undef) rfl (Nat.le_refl _) (by simp) (by simp) (by simp) (by simp)))

end
end Go.Proofs.YtldkkoecehdicaaDoorA
