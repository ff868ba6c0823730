/- Variables that hold lists of one's own: nil read as an empty list, structs built with slices, pointers against nil; calls over fewer objects. -/
import Derived.Test.YtldkkoecehdicaaDoorAbs17
namespace Go.Proofs.YtldkkoecehdicaaDoorA
open Go
set_option linter.unusedVariables false
set_option linter.unusedSimpArgs false

theorem AC.le {P : Program} {f : FuncId} {args : List AV} {hs hs₁ : Hp} {R : AV → Hp → Prop} (h : AC P f args hs₁ R) (hle : HLe hs₁ hs) : AC P f args hs R := by
  intro κ vals w h1 h2 h3
  obtain ⟨g1, g2⟩ := h1.sub (hle.2 h1.nodup) hle.1
  refine (h κ vals w g1 h2 fun i v x hv hx => (h3 i v x hv hx).ext g2).mono ?_
  rintro e w' ⟨κ', hs', v, x, a, b, c, d, r⟩
  exact ⟨κ', hs', v, x, a, b, g2.trans c, d, r⟩

section
variable {P : Program} {N : Nm} {σ : Env} {hs : Hp} {Q : Post}
/-- Ghost step: a nil slice in a variable becomes an empty list of one's own. -/
theorem W.ghostc {c : Code} (k off sz : Nat) {id : Nat} {l : List AV} (hz : 0 < sz) (hk : hs[k]? = some (id, .cells l)) (hl : l[off]? = some .nilsl)
    (h : ∀ v, W P N c Q σ ((v, .lst sz []) :: hs.set k (id, .cells (l.set off (.vs v 0 0 sz))))) : W P N c Q σ hs := by
  intro κ a w s
  obtain ⟨v, κ', h1, e, hkv⟩ := s.heap.none sz hz
  have hk1 : ((v, HO.lst sz []) :: hs)[k + 1]? = some (id, .cells l) := by simpa using hk
  obtain ⟨⟨ob, cap⟩, hx, hok⟩ := h1.ok id _ (List.mem_of_getElem? hk1)
  have hok2 := hok
  obtain ⟨b, cs, rfl, hw, hsz, hone, hr⟩ := hok2
  have hoff : off < l.length := (List.getElem?_eq_some_iff.1 hl).1
  obtain ⟨g1, g2⟩ := h1.write (o' := .cells (l.set off (.vs v 0 0 sz))) hk1 hx rfl rfl rfl rfl rfl (fun _ _ => rfl) (fun hA hD => by
    refine ⟨b, cs, rfl, hw, by simpa using hsz, hone, fun i u x hi hxx => ?_⟩
    rw [List.getElem?_set] at hxx
    split at hxx
    · rename_i he
      subst he
      obtain rfl := Option.some.inj hxx
      have := hr _ u _ hi hl
      cases this with
      | nilsl => exact .vs _ _ _ v 0 0 sz hkv (Nat.le_refl _) (fun h => absurd h (Nat.lt_irrefl _))
    · exact hA _ _ (hr i u x hi hxx))
  have e2 := e.trans g2
  refine wpIn_mono (h v κ' a w ⟨?_, s.size, ?_, fun i => ?_⟩) fun _ _ _ hc => hc.ext ?_
  · simpa using g1
  · have := s.defers.ext e2; simpa using this
  · simpa using (s.get i).ext e2
  · simpa using e2
end

section
variable {P : Program} {N : Nm} {σ : Env} {hs : Hp} {d : Option Tmp} {ty : TypeId} {pos : String} {af : Array Edge} {g : Option (Nat × Bool)}
theorem Q.buildS {t : Nat} {pl : List (Nat × Nat)} {z : List Value} {l : List AV} {parts : Array (Nat × Operand)} (ht : tPl P t = some pl) (hz : tZero P t = some z) (hz1 : z.all (·.oneCell') = true)
    (hf : afillA (fun i => pl[i]?) (z.map cellA) (parts.toList.map fun p => (p.1, oev σ p.2)) = some l) : Quiet P N σ hs ⟨d, .build t parts, ty, pos, af, g⟩ (.aggv l) :=
  .of_run fun κ a w s => by
    obtain ⟨inf, hi, hz⟩ := Option.bind_eq_some_iff.1 hz
    obtain ⟨zv, hzv, rfl⟩ := Option.map_eq_some_iff.1 hz
    obtain ⟨h1, h2⟩ := parts_rep s parts
    have h0 : FilledA κ w (Own κ hs) zv.cells (zv.cells.toList.map cellA) := by
      refine ⟨by simp, fun v hv => List.all_eq_true.1 hz1 v hv, fun i v x hv hx => ?_⟩
      rw [List.getElem?_map] at hx
      obtain ⟨u, hu, rfl⟩ := Option.map_eq_some_iff.1 hx
      have : u = v := by rw [Array.getElem?_toList, hv] at hu; exact (Option.some.inj hu).symm
      subst this
      exact cellA_rep _ _ _ _
    obtain ⟨cs', h3, f1, f2, f3⟩ := fillA_run _ _ _ _ l h1 h2 h0 hf
    unfold tPl at ht
    split at ht
    · rename_i fs hu
      have hpl := places_run (P := P) w fs.toList pl ht
      refine ⟨.agg cs', ?_, .aggv _ _ f1 f2 f3⟩
      have hzr : (zeroValue t).run P w = .ok zv w := by simp [zeroValue, typeInfo, hi, hzv]
      have hpl2 : (fs.mapM (m := Sem) fun f => (do let n ← sizeOf f.type; pure (f.offset, n))).run P w = .ok pl.toArray w := by
        rw [Array.mapM_eq_mapM_toList, Sem.run_map, hpl]; rfl
      rw [show execOp a.eval ⟨d, .build t parts, ty, pos, af, g⟩ = (do pure (.value (← Instr.build t (parts.map fun (i, x) => (i, a.eval x))))) from rfl, Sem.run_bind]
      have hb : (Instr.build t (parts.map fun (i, x) => (i, a.eval x))).run P w = .ok (.agg cs') w := by
        simp only [Instr.build, Sem.run_bind, hzr, Result.andThen_ok, run_underlying hu, hpl2]
        simp only [List.getElem?_toArray]
        simp only [Array.toArray_toList] at h3
        rw [h3]
        rfl
      rw [hb]; rfl
    · cases ht

theorem L.boxv {t T : Nat} {l : List AV} {x : Operand} (hx : oev σ x = .aggv l) (htN : Nat.blt t N.n = true) :
    Loud P N σ hs ⟨some t, .box T x, ty, pos, af, g⟩ (fun σ' hs' => ∃ id, σ' = (t, .ptr id 0) :: σ ∧ hs' = (id, .cells l) :: hs) := by
  intro κ a w s K Q hK
  have hx1 := s.oev x; rw [hx] at hx1
  generalize hu : a.eval x = u at hx1
  cases hx1 with
  | aggv cs _ hsz h1 hr =>
    obtain ⟨id, κ', h2, e, hk⟩ := new_cells s.heap cs.toList l T (by simpa using hsz) h1 (fun i u y hi hy => hr i u y (by simpa using hi) hy)
    have hrun : (execOp a.eval ⟨some t, .box T x, ty, pos, af, g⟩).run P w = .ok (.value (.pointer (some ⟨w.heap.size, 0, none⟩))) (w.alloc (.cells cs.toList.toArray T)) := by
      rw [show execOp a.eval ⟨some t, .box T x, ty, pos, af, g⟩ = (do pure (.value (← (do pure (.pointer (some (← newVar T (a.eval x)))))))) from rfl]
      simp only [Sem.run_bind, Result.andThen_ok, newVar, newRow_run, Sem.run_pure, hu, Value.cells]
    unfold oWp
    rw [hrun]
    refine hK κ' _ _ _ _ (s.put e h2 (by simpa [Nat.blt_eq] using htN) (.ptr w.heap.size _ id 0 hk)) e ⟨id, rfl, rfl⟩

/-- Is it a pointer type. -/
def isPtr (P : Program) (t : TypeId) : Bool := match P.underlying t with | some (.pointer _) => true | _ => false
theorem isPtr_spec {t : TypeId} (h : isPtr P t = true) : ∃ e, P.underlying t = some (.pointer e) := by
  unfold isPtr at h
  split at h
  · exact ⟨_, by assumption⟩
  · cases h
theorem equal_ptr {t e : TypeId} (hu : P.underlying t = some (.pointer e)) (p : Option Addr) (w : World) : (Op.equal t (.pointer p) (.pointer none)).run P w = .ok p.isNone w := by
  show (Op.equalIn (9999 + 1) t (.pointer p) (.pointer none)).run P w = _
  rw [Op.equalIn, Sem.run_bind, run_underlying hu]
  cases p <;> rfl
theorem eqp_run {a : Act} {w : World} {t e t' : TypeId} {x y : Operand} (hu : P.underlying t = some (.pointer e)) {p : Option Addr} (hx : a.eval x = .pointer p) (hy : a.eval y = .pointer none) :
    (execOp a.eval ⟨d, .binOp .eql t x y t', ty, pos, af, g⟩).run P w = .ok (.value (.bool p.isNone)) w := by
  rw [show execOp a.eval ⟨d, .binOp .eql t x y t', ty, pos, af, g⟩ = (do pure (.value (← (do eqGuard .eql t x y (a.eval x) (a.eval y); binOp .eql t (a.eval x) (a.eval y))))) from rfl, hx, hy]
  rw [show binOp .eql t (.pointer p) (.pointer none) = (do pure (.bool (← Op.equal t (.pointer p) (.pointer none)))) from rfl]
  simp only [Sem.run_bind, equal_ptr hu, Result.andThen_ok, Sem.run_pure]
  rw [show (eqGuard .eql t x y (.pointer p) (.pointer none)).run P w = .ok () w from rfl]
  rfl
theorem neqp_run {a : Act} {w : World} {t e t' : TypeId} {x y : Operand} (hu : P.underlying t = some (.pointer e)) {p : Option Addr} (hx : a.eval x = .pointer p) (hy : a.eval y = .pointer none) :
    (execOp a.eval ⟨d, .binOp .neq t x y t', ty, pos, af, g⟩).run P w = .ok (.value (.bool (!p.isNone))) w := by
  rw [show execOp a.eval ⟨d, .binOp .neq t x y t', ty, pos, af, g⟩ = (do pure (.value (← (do eqGuard .neq t x y (a.eval x) (a.eval y); binOp .neq t (a.eval x) (a.eval y))))) from rfl, hx, hy]
  rw [show binOp .neq t (.pointer p) (.pointer none) = (do pure (.bool (!(← Op.equal t (.pointer p) (.pointer none))))) from rfl]
  simp only [Sem.run_bind, equal_ptr hu, Result.andThen_ok, Sem.run_pure]
  rw [show (eqGuard .neq t x y (.pointer p) (.pointer none)).run P w = .ok () w from rfl]
  rfl
theorem nilp_inv {κ : Kap} {w : World} {O : Nat → Prop} {v : Value} (h : RepA κ w O v (.d .nilp)) : v = .pointer none := by
  cases h.d_inv; rfl
theorem Q.eql_ptr {t : Nat} {t' : TypeId} {id off : Nat} {x y : Operand} (ht : isPtr P t = true) (hx : oev σ x = .ptr id off) (hy : oev σ y = .d .nilp) : Quiet P N σ hs ⟨d, .binOp .eql t x y t', ty, pos, af, g⟩ (.d (.bool false)) :=
  .of_run fun κ a w s => by
    have h2 := s.oev x; rw [hx] at h2
    have h3 := s.oev y; rw [hy] at h3
    obtain ⟨e, hu⟩ := isPtr_spec ht
    obtain ⟨b, cap, _, hv⟩ := h2.ptr_inv
    exact ⟨_, eqp_run hu hv (nilp_inv h3), .d (.bool _)⟩
theorem Q.neq_ptr {t : Nat} {t' : TypeId} {id off : Nat} {x y : Operand} (ht : isPtr P t = true) (hx : oev σ x = .ptr id off) (hy : oev σ y = .d .nilp) : Quiet P N σ hs ⟨d, .binOp .neq t x y t', ty, pos, af, g⟩ (.d (.bool true)) :=
  .of_run fun κ a w s => by
    have h2 := s.oev x; rw [hx] at h2
    have h3 := s.oev y; rw [hy] at h3
    obtain ⟨e, hu⟩ := isPtr_spec ht
    obtain ⟨b, cap, _, hv⟩ := h2.ptr_inv
    exact ⟨_, neqp_run hu hv (nilp_inv h3), .d (.bool _)⟩
theorem Q.eql_nilp {t : Nat} {t' : TypeId} {x y : Operand} (ht : isPtr P t = true) (hx : oev σ x = .d .nilp) (hy : oev σ y = .d .nilp) : Quiet P N σ hs ⟨d, .binOp .eql t x y t', ty, pos, af, g⟩ (.d (.bool true)) :=
  .of_run fun κ a w s => by
    have h2 := s.oev x; rw [hx] at h2
    have h3 := s.oev y; rw [hy] at h3
    obtain ⟨e, hu⟩ := isPtr_spec ht
    exact ⟨_, eqp_run hu (nilp_inv h2) (nilp_inv h3), .d (.bool _)⟩
end

section
variable {P : Program} {N : Nm} {ops : Array Oper} {h : Nat} {σ : Env} {R : Env → Hp → Prop} {p : Nat} {ps did : List Nat} {prev : Option (List Nat)} {vals : List AV} {hs : Hp}
theorem DT.moreF {E : Hp} {F : AV} (sts : List St) (hc : (stOk ops h did (p :: ps) prev sts && (ps.all (fun q => !freeB ops [p] ops.size q && Nat.blt q h) && Nat.blt p h)) = true)
    (c : PC P N ops hs (fun k => sts.getD k .later) (fun r h' => r = F ∧ h' = E) 0 (ops.toList.take h) vals σ (fun vs _ => ∀ v hs', v = F ∧ hs' = E → DT P N ops h σ R ps (predsB ops p ++ p :: did) (some (p :: ps)) (vs.set p v) hs')) : DT P N ops h σ R (p :: ps) did prev vals hs :=
  DT.more (Rp := fun r h' => r = F ∧ h' = E) sts hc c
theorem DT.moreE {E : Nat → Hp} {F : Nat → AV} (sts : List St) (hc : (stOk ops h did (p :: ps) prev sts && (ps.all (fun q => !freeB ops [p] ops.size q && Nat.blt q h) && Nat.blt p h)) = true)
    (c : PC P N ops hs (fun k => sts.getD k .later) (fun r h' => ∃ n, r = F n ∧ h' = E n) 0 (ops.toList.take h) vals σ (fun vs _ => ∀ v hs', (∃ n, v = F n ∧ hs' = E n) → DT P N ops h σ R ps (predsB ops p ++ p :: did) (some (p :: ps)) (vs.set p v) hs')) : DT P N ops h σ R (p :: ps) did prev vals hs :=
  DT.more (Rp := fun r h' => ∃ n, r = F n ∧ h' = E n) sts hc c
theorem DT.moreC {F : AV → Hp → Prop} (sts : List St) (hc : (stOk ops h did (p :: ps) prev sts && (ps.all (fun q => !freeB ops [p] ops.size q && Nat.blt q h) && Nat.blt p h)) = true)
    (c : PC P N ops hs (fun k => sts.getD k .later) (fun r h' => ∃ h1, F r h1 ∧ h' = h1) 0 (ops.toList.take h) vals σ (fun vs _ => ∀ v hs', (∃ h1, F v h1 ∧ hs' = h1) → DT P N ops h σ R ps (predsB ops p ++ p :: did) (some (p :: ps)) (vs.set p v) hs')) : DT P N ops h σ R (p :: ps) did prev vals hs :=
  DT.more (Rp := fun r h' => ∃ h1, F r h1 ∧ h' = h1) sts hc c
theorem DT.moreB {E : Hp} {F : AV → Hp → Prop} (sts : List St) (hc : (stOk ops h did (p :: ps) prev sts && (ps.all (fun q => !freeB ops [p] ops.size q && Nat.blt q h) && Nat.blt p h)) = true)
    (c : PC P N ops hs (fun k => sts.getD k .later) (fun r h' => ∃ h1, F r h1 ∧ h' = h1 ++ E) 0 (ops.toList.take h) vals σ (fun vs _ => ∀ v hs', (∃ h1, F v h1 ∧ hs' = h1 ++ E) → DT P N ops h σ R ps (predsB ops p ++ p :: did) (some (p :: ps)) (vs.set p v) hs')) : DT P N ops h σ R (p :: ps) did prev vals hs :=
  DT.more (Rp := fun r h' => ∃ h1, F r h1 ∧ h' = h1 ++ E) sts hc c
end

/-! ### a list that is changed at one place -/
def updF {α : Type} (f : Nat → α) (p : Nat) (x : α) : Nat → α := fun i => if i = p then x else f i
theorem updF_same {α : Type} (f : Nat → α) (p : Nat) (x : α) : updF f p x p = x := by simp [updF]
theorem updF_ne {α : Type} (f : Nat → α) {p i : Nat} (x : α) (h : i ≠ p) : updF f p x i = f i := by simp [updF, h]
theorem perm_updF {α : Type} (f : Nat → α) (n p : Nat) (x : α) (rest : List α) (hp : p < n) :
    (x :: (((List.range n).map f ++ rest).eraseIdx p)).Perm ((List.range n).map (updF f p x) ++ rest) := by
  have hlen : p < ((List.range n).map f).length := by simpa using hp
  rw [List.eraseIdx_append_of_lt_length hlen]
  rw [← List.cons_append]
  refine List.Perm.append_right rest ?_
  have h1 : (List.range n).map (updF f p x) = ((List.range n).map f).set p x := by
    refine List.ext_getElem? fun i => ?_
    rw [List.getElem?_set, List.getElem?_map]
    by_cases hi : i < n
    · rw [List.getElem?_range hi]
      by_cases he : p = i
      · subst he; simp [updF, hi]
      · simp [updF, he, Ne.symm he, hi]
    · rw [List.getElem?_eq_none (show (List.range n).length ≤ i by simp; omega), if_neg (by omega)]
      rw [List.getElem?_eq_none (show (List.map f (List.range n)).length ≤ i by simp; omega)]
      rfl
  rw [h1, List.set_eq_take_append_cons_drop, if_pos hlen, List.eraseIdx_eq_take_drop_succ]
  exact (List.perm_middle).symm
end Go.Proofs.YtldkkoecehdicaaDoorA
