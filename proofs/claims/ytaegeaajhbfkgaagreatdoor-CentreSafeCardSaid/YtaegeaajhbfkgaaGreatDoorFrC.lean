/- Our framework: Abs17 Abs18 Abs19 Abs20 Abs21 Abs22 Abs27 Abs28 Abs29 Abs30 Abs31 Abs32. -/
import Derived.Test.YtaegeaajhbfkgaaGreatDoorFrB
import Derived.Lib.ConvBytes
import Derived.Laws.Strings
import Derived.Laws.IdiomStrings
import Derived.Lib.AppendZeros
import Derived.Laws.StructEq
import Derived.Lib.AppendZerosOnto
import Derived.Lib.Overlaps
import Derived.Lib.Bytealg
/- Plain facts about lists of ints and searches, shared by the walks of library functions. -/
namespace Go.Proofs.YtaegeaajhbfkgaaGreatDoorA
open Go
set_option linter.unusedVariables false
def nE (n : Int) : List D := [.int .i64 n]
def slN (l : List Int) : D := .sl 1 (l.map nE)
def idxP {α : Type} (p : α → Bool) (l : List α) : Int := match l.findIdx? p with | some i => (i : Int) | none => -1
theorem idxP_some {α : Type} {p : α → Bool} {l : List α} {k : Nat} {x : α} (hx : l[k]? = some x) (hp : p x = true) (hI : ∀ (i : Nat) y, i < k → l[i]? = some y → p y = false) : idxP p l = k := by
  have : l.findIdx? p = some k := by
    obtain ⟨hlt, he⟩ := List.getElem?_eq_some_iff.1 hx
    rw [List.findIdx?_eq_some_iff_getElem]
    refine ⟨hlt, by rw [he]; exact hp, fun j hj => ?_⟩
    have := hI j _ hj (List.getElem?_eq_getElem (by omega))
    simp [this]
  rw [idxP, this]
theorem idxP_none {α : Type} {p : α → Bool} {l : List α} (hI : ∀ (i : Nat) y, l[i]? = some y → p y = false) : idxP p l = -1 := by
  have : l.findIdx? p = none := List.findIdx?_eq_none_iff.2 fun x hx => by
    obtain ⟨i, hi⟩ := List.getElem?_of_mem hx
    exact hI i x hi
  rw [idxP, this]
theorem idxP_any {α : Type} (p : α → Bool) (l : List α) : AV.d (.bool (decide ((0 : Int) ≤ idxP p l))) = .d (.bool (l.any p)) := by
  congr 2
  unfold idxP
  cases h : l.findIdx? p with
  | none =>
    have := List.findIdx?_eq_none_iff.1 h
    simp only [show ¬ ((0 : Int) ≤ -1) by omega, decide_false]
    symm
    rw [List.any_eq_false]
    intro x hx
    rw [this x hx]; simp
  | some i =>
    obtain ⟨hlt, he, _⟩ := List.findIdx?_eq_some_iff_getElem.1 h
    simp only [show ((0 : Int) ≤ (i : Int)) by omega, decide_true]
    symm
    rw [List.any_eq_true]
    exact ⟨_, List.getElem_mem hlt, he⟩
end Go.Proofs.YtaegeaajhbfkgaaGreatDoorA
/- Variables that hold lists of one's own: nil read as an empty list, structs built with slices, pointers against nil; calls over fewer objects. -/
namespace Go.Proofs.YtaegeaajhbfkgaaGreatDoorA
open Go
set_option linter.unusedVariables false
set_option linter.unusedSimpArgs false
theorem AC.le {P : Program} {f : FuncId} {args : List AV} {hs hs₁ : Hp} {R : AV → Hp → Prop} (h : AC P f args hs₁ R) (hle : HLe hs₁ hs) : AC P f args hs R := by
  intro κ vals w h1 h2 h3
  obtain ⟨g1, g2⟩ := h1.sub (hle.2 h1.nodup) hle.1
  refine (h κ vals w g1 h2 fun i v x hv hx => (h3 i v x hv hx).ext g2).mono ?_
  rintro e w' ⟨κ', hs', v, x, a, b, c, d, r⟩
  exact ⟨κ', hs', v, x, a, b, g2.trans c, d, r⟩
section
variable {P : Program} {N : Nm} {σ : Env} {hs : Hp} {Q : Post}
theorem W.ghostc {c : Code} (k off sz : Nat) {id : Nat} {l : List AV} (hz : 0 < sz) (hk : hs[k]? = some (id, .cells l)) (hl : l[off]? = some .nilsl)
    (h : ∀ v, W P N c Q σ ((v, .lst sz []) :: hs.set k (id, .cells (l.set off (.vs v 0 0 sz))))) : W P N c Q σ hs := by
  intro κ a w s
  obtain ⟨v, κ', h1, e, hkv⟩ := s.heap.none sz hz
  have hk1 : ((v, HO.lst sz []) :: hs)[k + 1]? = some (id, .cells l) := by simpa using hk
  obtain ⟨⟨ob, cap⟩, hx, hok⟩ := h1.ok id _ (List.mem_of_getElem? hk1)
  have hok2 := hok
  obtain ⟨b, cs, rfl, hw, hsz, hone, hr⟩ := hok2
  have hoff : off < l.length := (List.getElem?_eq_some_iff.1 hl).1
  obtain ⟨g1, g2⟩ := h1.write (o' := .cells (l.set off (.vs v 0 0 sz))) hk1 hx rfl rfl rfl rfl rfl (fun _ _ => rfl) (fun hA hD => by
    refine ⟨b, cs, rfl, hw, by simpa using hsz, hone, fun i u x hi hxx => ?_⟩
    rw [List.getElem?_set] at hxx
    split at hxx
    · rename_i he
      subst he
      obtain rfl := Option.some.inj hxx
      have := hr _ u _ hi hl
      cases this with
      | nilsl => exact .vs _ _ _ v 0 0 sz hkv (Nat.le_refl _) (fun h => absurd h (Nat.lt_irrefl _))
    · exact hA _ _ (hr i u x hi hxx))
  have e2 := e.trans g2
  refine wpIn_mono (h v κ' a w ⟨?_, s.size, ?_, fun i => ?_⟩) fun _ _ _ hc => hc.ext ?_
  · simpa using g1
  · have := s.defers.ext e2; simpa using this
  · simpa using (s.get i).ext e2
  · simpa using e2
end
section
variable {P : Program} {N : Nm} {σ : Env} {hs : Hp} {d : Option Tmp} {ty : TypeId} {pos : String} {af : Array Edge} {g : Option (Nat × Bool)}
theorem Q.buildS {t : Nat} {pl : List (Nat × Nat)} {z : List Value} {l : List AV} {parts : Array (Nat × Operand)} (ht : tPl P t = some pl) (hz : tZero P t = some z) (hz1 : z.all (·.oneCell') = true)
    (hf : afillA (fun i => pl[i]?) (z.map cellA) (parts.toList.map fun p => (p.1, oev σ p.2)) = some l) : Quiet P N σ hs ⟨d, .build t parts, ty, pos, af, g⟩ (.aggv l) :=
  .of_run fun κ a w s => by
    obtain ⟨inf, hi, hz⟩ := Option.bind_eq_some_iff.1 hz
    obtain ⟨zv, hzv, rfl⟩ := Option.map_eq_some_iff.1 hz
    obtain ⟨h1, h2⟩ := parts_rep s parts
    have h0 : FilledA κ w (Own κ hs) zv.cells (zv.cells.toList.map cellA) := by
      refine ⟨by simp, fun v hv => List.all_eq_true.1 hz1 v hv, fun i v x hv hx => ?_⟩
      rw [List.getElem?_map] at hx
      obtain ⟨u, hu, rfl⟩ := Option.map_eq_some_iff.1 hx
      have : u = v := by rw [Array.getElem?_toList, hv] at hu; exact (Option.some.inj hu).symm
      subst this
      exact cellA_rep _ _ _ _
    obtain ⟨cs', h3, f1, f2, f3⟩ := fillA_run _ _ _ _ l h1 h2 h0 hf
    unfold tPl at ht
    split at ht
    · rename_i fs hu
      have hpl := places_run (P := P) w fs.toList pl ht
      refine ⟨.agg cs', ?_, .aggv _ _ f1 f2 f3⟩
      have hzr : (zeroValue t).run P w = .ok zv w := by simp [zeroValue, typeInfo, hi, hzv]
      have hpl2 : (fs.mapM (m := Sem) fun f => (do let n ← sizeOf f.type; pure (f.offset, n))).run P w = .ok pl.toArray w := by
        rw [Array.mapM_eq_mapM_toList, Sem.run_map, hpl]; rfl
      rw [show execOp a.eval ⟨d, .build t parts, ty, pos, af, g⟩ = (do pure (.value (← Instr.build t (parts.map fun (i, x) => (i, a.eval x))))) from rfl, Sem.run_bind]
      have hb : (Instr.build t (parts.map fun (i, x) => (i, a.eval x))).run P w = .ok (.agg cs') w := by
        simp only [Instr.build, Sem.run_bind, hzr, Result.andThen_ok, run_underlying hu, hpl2]
        simp only [List.getElem?_toArray]
        simp only [Array.toArray_toList] at h3
        rw [h3]
        rfl
      rw [hb]; rfl
    · cases ht
theorem L.boxv {t T : Nat} {l : List AV} {x : Operand} (hx : oev σ x = .aggv l) (htN : Nat.blt t N.n = true) :
    Loud P N σ hs ⟨some t, .box T x, ty, pos, af, g⟩ (fun σ' hs' => ∃ id, σ' = (t, .ptr id 0) :: σ ∧ hs' = (id, .cells l) :: hs) := by
  intro κ a w s K Q hK
  have hx1 := s.oev x; rw [hx] at hx1
  generalize hu : a.eval x = u at hx1
  cases hx1 with
  | aggv cs _ hsz h1 hr =>
    obtain ⟨id, κ', h2, e, hk⟩ := new_cells s.heap cs.toList l T (by simpa using hsz) h1 (fun i u y hi hy => hr i u y (by simpa using hi) hy)
    have hrun : (execOp a.eval ⟨some t, .box T x, ty, pos, af, g⟩).run P w = .ok (.value (.pointer (some ⟨w.heap.size, 0, none⟩))) (w.alloc (.cells cs.toList.toArray T)) := by
      rw [show execOp a.eval ⟨some t, .box T x, ty, pos, af, g⟩ = (do pure (.value (← (do pure (.pointer (some (← newVar T (a.eval x)))))))) from rfl]
      simp only [Sem.run_bind, Result.andThen_ok, newVar, newRow_run, Sem.run_pure, hu, Value.cells]
    unfold oWp
    rw [hrun]
    refine hK κ' _ _ _ _ (s.put e h2 (by simpa [Nat.blt_eq] using htN) (.ptr w.heap.size _ id 0 hk)) e ⟨id, rfl, rfl⟩
def isPtr (P : Program) (t : TypeId) : Bool := match P.underlying t with | some (.pointer _) => true | _ => false
theorem isPtr_spec {t : TypeId} (h : isPtr P t = true) : ∃ e, P.underlying t = some (.pointer e) := by
  unfold isPtr at h
  split at h
  · exact ⟨_, by assumption⟩
  · cases h
theorem equal_ptr {t e : TypeId} (hu : P.underlying t = some (.pointer e)) (p : Option Addr) (w : World) : (Op.equal t (.pointer p) (.pointer none)).run P w = .ok p.isNone w := by
  show (Op.equalIn (9999 + 1) t (.pointer p) (.pointer none)).run P w = _
  rw [Op.equalIn, Sem.run_bind, run_underlying hu]
  cases p <;> rfl
theorem eqp_run {a : Act} {w : World} {t e t' : TypeId} {x y : Operand} (hu : P.underlying t = some (.pointer e)) {p : Option Addr} (hx : a.eval x = .pointer p) (hy : a.eval y = .pointer none) :
    (execOp a.eval ⟨d, .binOp .eql t x y t', ty, pos, af, g⟩).run P w = .ok (.value (.bool p.isNone)) w := by
  rw [show execOp a.eval ⟨d, .binOp .eql t x y t', ty, pos, af, g⟩ = (do pure (.value (← (do eqGuard .eql t x y (a.eval x) (a.eval y); binOp .eql t (a.eval x) (a.eval y))))) from rfl, hx, hy]
  rw [show binOp .eql t (.pointer p) (.pointer none) = (do pure (.bool (← Op.equal t (.pointer p) (.pointer none)))) from rfl]
  simp only [Sem.run_bind, equal_ptr hu, Result.andThen_ok, Sem.run_pure]
  rw [show (eqGuard .eql t x y (.pointer p) (.pointer none)).run P w = .ok () w from rfl]
  rfl
theorem nilp_inv {κ : Kap} {w : World} {O : Nat → Prop} {v : Value} (h : RepA κ w O v (.d .nilp)) : v = .pointer none := by
  cases h.d_inv; rfl
theorem Q.eql_ptr {t : Nat} {t' : TypeId} {id off : Nat} {x y : Operand} (ht : isPtr P t = true) (hx : oev σ x = .ptr id off) (hy : oev σ y = .d .nilp) : Quiet P N σ hs ⟨d, .binOp .eql t x y t', ty, pos, af, g⟩ (.d (.bool false)) :=
  .of_run fun κ a w s => by
    have h2 := s.oev x; rw [hx] at h2
    have h3 := s.oev y; rw [hy] at h3
    obtain ⟨e, hu⟩ := isPtr_spec ht
    obtain ⟨b, cap, _, hv⟩ := h2.ptr_inv
    exact ⟨_, eqp_run hu hv (nilp_inv h3), .d (.bool _)⟩
theorem Q.eql_nilp {t : Nat} {t' : TypeId} {x y : Operand} (ht : isPtr P t = true) (hx : oev σ x = .d .nilp) (hy : oev σ y = .d .nilp) : Quiet P N σ hs ⟨d, .binOp .eql t x y t', ty, pos, af, g⟩ (.d (.bool true)) :=
  .of_run fun κ a w s => by
    have h2 := s.oev x; rw [hx] at h2
    have h3 := s.oev y; rw [hy] at h3
    obtain ⟨e, hu⟩ := isPtr_spec ht
    exact ⟨_, eqp_run hu (nilp_inv h2) (nilp_inv h3), .d (.bool _)⟩
end
section
variable {P : Program} {N : Nm} {ops : Array Oper} {h : Nat} {σ : Env} {R : Env → Hp → Prop} {p : Nat} {ps did : List Nat} {prev : Option (List Nat)} {vals : List AV} {hs : Hp}
theorem DT.moreF {E : Hp} {F : AV} (sts : List St) (hc : (stOk ops h did (p :: ps) prev sts && (ps.all (fun q => !freeB ops [p] ops.size q && Nat.blt q h) && Nat.blt p h)) = true)
    (c : PC P N ops hs (fun k => sts.getD k .later) (fun r h' => r = F ∧ h' = E) 0 (ops.toList.take h) vals σ (fun vs _ => ∀ v hs', v = F ∧ hs' = E → DT P N ops h σ R ps (predsB ops p ++ p :: did) (some (p :: ps)) (vs.set p v) hs')) : DT P N ops h σ R (p :: ps) did prev vals hs :=
  DT.more (Rp := fun r h' => r = F ∧ h' = E) sts hc c
theorem DT.moreE {E : Nat → Hp} {F : Nat → AV} (sts : List St) (hc : (stOk ops h did (p :: ps) prev sts && (ps.all (fun q => !freeB ops [p] ops.size q && Nat.blt q h) && Nat.blt p h)) = true)
    (c : PC P N ops hs (fun k => sts.getD k .later) (fun r h' => ∃ n, r = F n ∧ h' = E n) 0 (ops.toList.take h) vals σ (fun vs _ => ∀ v hs', (∃ n, v = F n ∧ hs' = E n) → DT P N ops h σ R ps (predsB ops p ++ p :: did) (some (p :: ps)) (vs.set p v) hs')) : DT P N ops h σ R (p :: ps) did prev vals hs :=
  DT.more (Rp := fun r h' => ∃ n, r = F n ∧ h' = E n) sts hc c
theorem DT.moreC {F : AV → Hp → Prop} (sts : List St) (hc : (stOk ops h did (p :: ps) prev sts && (ps.all (fun q => !freeB ops [p] ops.size q && Nat.blt q h) && Nat.blt p h)) = true)
    (c : PC P N ops hs (fun k => sts.getD k .later) (fun r h' => ∃ h1, F r h1 ∧ h' = h1) 0 (ops.toList.take h) vals σ (fun vs _ => ∀ v hs', (∃ h1, F v h1 ∧ hs' = h1) → DT P N ops h σ R ps (predsB ops p ++ p :: did) (some (p :: ps)) (vs.set p v) hs')) : DT P N ops h σ R (p :: ps) did prev vals hs :=
  DT.more (Rp := fun r h' => ∃ h1, F r h1 ∧ h' = h1) sts hc c
end
end Go.Proofs.YtaegeaajhbfkgaaGreatDoorA
/- Strings as bytes. -/
namespace Go.Proofs.YtaegeaajhbfkgaaGreatDoorA
open Go
set_option linter.unusedVariables false
set_option linter.unusedSimpArgs false
def bE (b : UInt8) : List D := [.int .u8 b.toNat]
def bytesD (s : ByteArray) : D := .sl 1 (s.data.toList.map bE)
def isBytes (P : Program) (t : TypeId) : Bool := match P.underlying t with
  | some (.slice e) => match P.underlying e with | some (.int .u8) => true | _ => false
  | _ => false
theorem isBytes_spec {P : Program} {t : TypeId} (h : isBytes P t = true) : ∃ e, P.underlying t = some (.slice e) ∧ P.underlying e = some (.int .u8) := by
  unfold isBytes at h
  split at h
  · split at h
    · exact ⟨_, by assumption, by assumption⟩
    · cases h
  · cases h
theorem HS.oneMore {κ : Kap} {w w' : World} {hs : Hp} (h : HS κ w hs) (hsz : w.heap.size ≤ w'.heap.size) (hdr : NeedDrawn → w.drawn ≤ w'.drawn) (ho : w'.os = w.os) (ht : w'.tape = w.tape) (hu : w'.output = w.output)
    (hold : ∀ b, b < w.heap.size → w'.heap[b]? = w.heap[b]?) : HS κ w' hs ∧ Ext κ hs w κ hs w' := by
  have e : Ext κ hs w κ hs w' := ⟨fun _ _ h => h, hsz, hdr, ho, ht, hu, fun b hb _ => hold b hb, fun b _ h => h, fun _ o h => .inl ⟨o, h⟩, SameT.lt hold⟩
  refine ⟨⟨h.nodup, fun id o hi => ?_, h.inj, h.fresh⟩, e⟩
  obtain ⟨x, hx, hok⟩ := h.ok id o hi
  refine ⟨x, hx, hok.ext e fun b hb => hold b (h.block_lt hi (c := x.2) ?_)⟩
  rw [hx, ← hb]
section
variable {P : Program} {N : Nm} {σ : Env} {hs : Hp} {d : Option Tmp} {ty : TypeId} {pos : String} {af : Array Edge} {g : Option (Nat × Bool)}
theorem Q.conv_bytes {t t' : TypeId} {x : Operand} {s : ByteArray} (ht : isStr P t = true) (ht' : isBytes P t' = true) (hx : oev σ x = .d (.str s)) :
    Quiet P N σ hs ⟨d, .convert t t' x, ty, pos, af, g⟩ (.d (bytesD s)) := by
  intro κ a w sm K Q hK
  have hx1 := sm.oev x; rw [hx] at hx1
  obtain ⟨e, hu, he⟩ := isBytes_spec ht'
  have hrun : (execOp a.eval ⟨d, .convert t t' x, ty, pos, af, g⟩).run P w = .ok (.value (.slice (some ⟨w.heap.size, 0, none⟩) s.size (grownCap w s.size 0 e))) (Lib.bytesWorld w e s) := by
    rw [show execOp a.eval ⟨d, .convert t t' x, ty, pos, af, g⟩ = (do pure (.value (← convert t t' (a.eval x)))) from rfl, hx1.str_inv, Sem.run_bind,
      Lib.run_convert_string_bytes w t t' e s (isStr_spec ht) hu he]
    rfl
  obtain ⟨h1, e1⟩ := sm.heap.oneMore (w' := Lib.bytesWorld w e s) (by rw [Lib.bytesWorld_size]; omega) (by first | exact fun _ => Nat.le_refl _ | exact fun _ => Nat.le_succ _) rfl rfl rfl (fun b hb => Lib.bytesWorld_at_old w e s b hb)
  have hnot : ¬ Own κ hs w.heap.size := fun ⟨id, o, c, hi, hk⟩ => absurd (sm.heap.block_lt hi hk) (Nat.lt_irrefl _)
  unfold oWp
  rw [hrun]
  refine hK κ _ _ h1 e1 (.d (.sl _ _ _ _ _ (fun i j => .int .u8 ((s.data.toList.getD (i * 1 + j) 0).toNat)) (by simp) (by have := grownCap_ge w s.size 0 e; omega) ?_ ?_ ?_ ?_))
  · intro r hr
    obtain ⟨b, _, rfl⟩ := List.mem_map.1 hr
    rfl
  · intro r hr y hy
    obtain ⟨b, _, rfl⟩ := List.mem_map.1 hr
    simp [bE] at hy; subst hy; rfl
  · intro i j r y hi hj
    have hlt : i < s.size := by have := (List.getElem?_eq_some_iff.1 hi).1; simpa using this
    rw [List.getElem?_map] at hi
    obtain ⟨b, hb, rfl⟩ := Option.map_eq_some_iff.1 hi
    have hj0 : j = 0 := by have := (List.getElem?_eq_some_iff.1 hj).1; simp [bE] at this; exact this
    subst hj0
    refine ⟨_, rfl, hnot, ?_⟩
    rw [addr_add_lit, Nat.zero_add]
    exact Lib.bytesWorld_cell w e s (i * 1 + 0) (by omega)
  · intro i j r y hi hj
    rw [List.getElem?_map] at hi
    obtain ⟨b, hb, rfl⟩ := Option.map_eq_some_iff.1 hi
    have hj0 : j = 0 := by have := (List.getElem?_eq_some_iff.1 hj).1; simp [bE] at this; exact this
    subst hj0
    obtain rfl := Option.some.inj hj
    have : s.data.toList.getD (i * 1 + 0) 0 = b := by simp [List.getD_eq_getElem?_getD, hb]
    rw [this]
    exact .int _ _
theorem bytes_row {s : ByteArray} {k : Nat} (h : k < s.size) : (s.data.toList.map bE)[((k : Nat) : Int).toNat]? = some (bE (s.data.toList.getD k 0)) := by
  have : s.data.toList[k]? = some (s.data.toList.getD k 0) := by
    rw [List.getD_eq_getElem?_getD, List.getElem?_eq_getElem (by simpa using h)]; rfl
  exact map_at this
theorem bytes_len (s : ByteArray) : (s.data.toList.map bE).length = s.size := by simp
end
theorem HLe.pick {hs hs' : Hp} {id : Nat} {o o' : HO} (k : Nat) (hk : hs[k]? = some (id, o)) (ho : o' = o) (ht : HLe hs' (hs.eraseIdx k)) : HLe ((id, o') :: hs') hs := by
  subst ho
  exact HLe.trans (HLe.cons _ ht) (HLe.perm (erase_perm hs k _ hk))
theorem vs_eq {id n m sz : Nat} (h : n = m) : AV.vs id 0 n sz = .vs id 0 m sz := by rw [h]
def seq (a b : ByteArray) : Bool := a.toList == b.toList
theorem toList_inj {a b : ByteArray} (h : a.toList = b.toList) : a = b := by
  have : a.data.toList = b.data.toList := by
    rw [ByteArray.toList_eq, ByteArray.toList_eq] at h; exact h
  cases a; cases b
  congr 1
  exact Array.toList_inj.1 this
theorem seq_iff (a b : ByteArray) : seq a b = true ↔ a = b := by
  unfold seq
  rw [beq_iff_eq]
  exact ⟨toList_inj, fun h => by rw [h]⟩
theorem seq_refl (a : ByteArray) : seq a a = true := (seq_iff a a).2 rfl
end Go.Proofs.YtaegeaajhbfkgaaGreatDoorA
/- A guarded operation that changes objects: two ways on. -/
namespace Go.Proofs.YtaegeaajhbfkgaaGreatDoorA
open Go
set_option linter.unusedVariables false
set_option linter.unusedSimpArgs false
section
variable {P : Program} {N : Nm} {σ : Env} {hs : Hp} {ops : Array Oper} {l : List Oper} {R : Env → Hp → Prop} {Rp : AV → Hp → Prop}
theorem Sim.swap {κ : Kap} {w : World} {a : Act} {σ' : Env} (s : Sim N κ hs w σ a) (h : ∀ t u, RepA κ w (Own κ hs) u (eget σ t) → RepA κ w (Own κ hs) u (eget σ' t)) : Sim N κ hs w σ' a :=
  ⟨s.heap, s.size, s.defers, fun t => h t _ (s.get t)⟩
theorem Loud.open {o : Oper} {x : AV} {g : Bool} (t : Nat) (hg : g = true) (ht : eget σ t = .when g x) (h : Loud P N ((t, x) :: σ) hs o (fun σ' hs' => ∃ v, σ' = putE o.dst v ((t, x) :: σ) ∧ Rp v hs')) :
    Loud P N σ hs o (fun σ' hs' => ∃ v, σ' = putE o.dst v σ ∧ Rp v hs') := by
  intro κ a w s K Q hK
  have s1 : Sim N κ hs w ((t, x) :: σ) a := ⟨s.heap, s.size, s.defers, fun i => by
    by_cases hi : t = i
    · subst hi
      rw [eget_same]
      have hv := s.get t
      rw [ht] at hv
      generalize a.tmps.getD t undef = u at hv
      cases hv with | when _ _ _ h _ => exact h hg
    · rw [eget_ne σ _ hi]; exact s.get i⟩
  refine h κ a w s1 K Q fun κ' a' w' σ' hs' s' e ⟨v, hσ, hr⟩ => ?_
  subst hσ
  refine hK κ' a' w' _ hs' (s'.swap fun i u hu => ?_) e ⟨v, rfl, hr⟩
  rw [putE_get] at hu ⊢
  split
  · rename_i hd; rw [if_pos hd] at hu; exact hu
  · rename_i hd
    rw [if_neg hd] at hu
    by_cases hi : t = i
    · subst hi
      rw [eget_same] at hu
      rw [ht]
      exact .when _ _ _ (fun _ => hu) fun hf => by rw [hg] at hf; cases hf
    · rw [eget_ne σ _ hi] at hu; exact hu
theorem XOps.gl (X : AV) {o oj : Oper} {j t : Nat} {b want : Bool} (hg : o.guard = some (j, want)) (hj : ops[j]? = some oj) (hjd : oj.dst = some t) (hb : eget σ t = .d (.bool b)) (htN : Nat.blt t N.n = true) (hdN : dstOk N o.dst = true)
    (h : (b == want) = true → Loud P N σ hs o (fun σ' hs' => ∃ v, σ' = putE o.dst v σ ∧ Rp v hs')) (hl1 : (b == want) = true → ∀ v hs', Rp v hs' → XOps P N ops l (putE o.dst (.when (b == want) v) σ) hs' R)
    (hl2 : (b == want) = false → XOps P N ops l (putE o.dst (.when (b == want) X) σ) hs R) : XOps P N ops (o :: l) σ hs R := by
  intro κ a w s Q hQ
  have hv := s.get t
  rw [hb] at hv
  have htl : t < a.tmps.size := by rw [s.size]; simpa [Nat.blt_eq] using htN
  have hv2 := hv.bool_inv
  have hy : yielded ops a.tmps j = some b := by
    have hv3 : a.tmps[t]? = some (.bool b) := by
      rw [Array.getElem?_eq_getElem htl]
      rw [show a.tmps.getD t undef = a.tmps[t] from by simp [htl]] at hv2
      rw [hv2]
    simp [yielded, hj, hjd, hv3]
  have hw : Region.wanted o (yielded ops a.tmps) = (b == want) := by
    simp only [Region.wanted, hg, hy]
    cases b <;> cases want <;> rfl
  simp only [wpL, hw]
  cases hbw : (b == want) with
  | true =>
    rw [if_pos rfl]
    refine h hbw κ a w s _ Q fun κ' a' w' σ' hs' s' e ⟨v, hσ, hr⟩ => ?_
    subst hσ
    refine hl1 hbw v hs' hr κ' a' w' (s'.swap fun i u hu => ?_) Q fun κ₂ a₂ w₂ σ₂ hs₂ s₂ e₂ h₂ => hQ κ₂ a₂ w₂ σ₂ hs₂ s₂ (e.trans e₂) h₂
    rw [putE_get] at hu ⊢
    split
    · rename_i hd; rw [if_pos hd] at hu
      exact .when _ _ _ (fun _ => hu) fun hf => by rw [hbw] at hf; cases hf
    · rename_i hd; rw [if_neg hd] at hu; exact hu
  | false =>
    rw [if_neg (by simp)]
    exact hl2 hbw κ _ w (s.putO (.refl _ _ _) s.heap hdN (.when _ _ _ (fun h => by rw [hbw] at h; cases h) fun _ => rfl)) Q hQ
end
end Go.Proofs.YtaegeaajhbfkgaaGreatDoorA
/- Arrays of numbers in variables; an array read as a slice; slices made with a length. -/
namespace Go.Proofs.YtaegeaajhbfkgaaGreatDoorA
open Go
set_option linter.unusedVariables false
set_option linter.unusedSimpArgs false
section
variable {P : Program} {N : Nm} {σ : Env} {hs : Hp} {d : Option Tmp} {ty : TypeId} {pos : String} {af : Array Edge} {g : Option (Nat × Bool)}
theorem L.make {d : Tmp} {t sz bytes : Nat} {n : Nat} {z : List Value} {zd : List D} {x y : Operand} {kl kc : IntKind} (ht : tApp P t = some (sz, bytes)) (hz : tZrow P t = some z) (hzd : cellsD z = some zd) (hx : oev σ x = .d (.int kl (n : Int))) (hy : oev σ y = .d (.int kc (n : Int)))
    (hb : n * bytes ≤ 140737488355328) (hd : Nat.blt d N.n = true) :
    Loud P N σ hs ⟨some d, .makeSlice t x y, ty, pos, af, g⟩ (fun σ' hs' => ∃ id, σ' = (d, .vs id 0 n sz) :: σ ∧ hs' = (id, .lst sz (List.replicate n zd)) :: hs) := by
  intro κ a w s K Q hK
  have hdN : d < N.n := by simpa [Nat.blt_eq] using hd
  obtain ⟨e, inf, zv, hu, hi, hzv, h1, h2, h3, hsz, hbb⟩ := tApp_spec ht
  have hx1 := s.oev x; rw [hx] at hx1
  have hy1 := s.oev y; rw [hy] at hy1
  have hzc : z = zv.cells.toList := by
    unfold tZrow at hz
    rw [hu] at hz
    obtain ⟨i', hi', hz'⟩ := Option.bind_eq_some_iff.1 hz
    rw [hi] at hi'
    obtain rfl := Option.some.inj hi'
    obtain ⟨q, hq, rfl⟩ := Option.map_eq_some_iff.1 hz'
    rw [hzv] at hq
    rw [← Option.some.inj hq]
  have hn48 : n ≤ 140737488355328 := by have := Nat.mul_le_mul_left n hbb; omega
  have hbi : (inf.bytes : Int) * (n : Int) ≤ 281474976710656 := by
    have h4 : n * inf.bytes ≤ 140737488355328 := by rw [h2]; exact hb
    have h5 : ((inf.bytes * n : Nat) : Int) ≤ 281474976710656 := by rw [Nat.mul_comm]; omega
    rwa [Int.natCast_mul] at h5
  have hrun := run_make (P := P) w t e inf zv hu hi hzv kl kc n n (by omega) (Int.le_refl _) hbi (by omega)
  simp only [Int.toNat_natCast] at hrun
  have hex : (execOp a.eval ⟨some d, .makeSlice t x y, ty, pos, af, g⟩).run P w = .ok (.value (.slice (some ⟨w.heap.size, 0, none⟩) n n)) (w.alloc (.cells (madeCells zv.cells (n * inf.size)) e)) := by
    rw [show execOp a.eval ⟨some d, .makeSlice t x y, ty, pos, af, g⟩ = (do pure (.value (← Instr.makeSlice t (a.eval x) (a.eval y)))) from rfl, hx1.int_inv, hy1.int_inv, Sem.run_bind, hrun]
    rfl
  have hzf : Filled w (Own κ hs) zv.cells zd := by
    have := cellsD_rep w (Own κ hs) _ zd hzd
    rw [hzc] at this
    simpa using this
  have hzl := zero_lined hzf h3 hsz n
  have hzlen : zd.length = sz := by rw [← hzf.1]; exact h3
  have hsame : madeCells zv.cells (n * inf.size) = (Builtin.zeroCells zv.cells n) := by
    unfold madeCells Builtin.zeroCells
    rw [h1, h3]
  have hrr : ∀ r ∈ List.replicate n zd, r.length = sz := fun r hr => by rw [List.eq_of_mem_replicate hr]; exact hzlen
  have hoo : ∀ r ∈ List.replicate n zd, ∀ x ∈ r, x.one = true := fun r hr => by rw [List.eq_of_mem_replicate hr]; exact hzf.2.1
  obtain ⟨l1, l2, l3⟩ := hzl
  obtain ⟨id, κ', g1, g2, hk⟩ := s.heap.alloc (madeCells zv.cells (n * inf.size)) e (.lst sz (List.replicate n zd)) n (fun κ' id hkk O hA hD => by
    refine ⟨by simp, by simp only [maxLen]; omega, hsz, hrr, hoo, by simp, fun b hb => ?_⟩
    obtain rfl := Option.some.inj hb
    refine ⟨madeCells zv.cells (n * inf.size), e, heap_alloc_new w _, by rw [size_madeCells, h1], fun i j r x hi hj => ?_⟩
    obtain ⟨u, hu1, hu2⟩ := l3 i j r x hi hj
    exact ⟨u, by rw [hsame, ← Array.getElem?_toList]; exact hu1, hD _ _ hu2⟩)
  unfold oWp
  rw [hex]
  refine hK κ' _ _ _ _ (s.put g2 g1 hdN ?_) g2 ⟨id, rfl, rfl⟩
  have := RepA.vs (κ := κ') (w := w.alloc (.cells (madeCells zv.cells (n * inf.size)) e)) (O := Own κ' ((id, .lst sz (List.replicate n zd)) :: hs)) (some w.heap.size) n (some ⟨w.heap.size, 0, none⟩) id 0 n sz hk (by omega) (fun _ => by simp)
  simpa using this
end
end Go.Proofs.YtaegeaajhbfkgaaGreatDoorA
/- The capacity of nil; an append of a made slice to nil. -/
namespace Go.Proofs.YtaegeaajhbfkgaaGreatDoorA
open Go
set_option linter.unusedVariables false
set_option linter.unusedSimpArgs false
section
variable {P : Program} {N : Nm} {σ : Env} {hs : Hp} {d : Option Tmp} {ty : TypeId} {pos : String} {af : Array Edge} {g : Option (Nat × Bool)}
theorem app_op2 {d : Tmp} {t t2 : Nat} {x y : Operand} {a : Act} {w w' : World} {v u : Value} (hx : a.eval x = v) (hy : a.eval y = u) {r : Value} (h : (Builtin.append_ #[t, t2] ty #[v, u]).run P w = .ok r w') :
    (execOp a.eval ⟨some d, .call ⟨.builtin .append, #[x, y], #[t, t2]⟩, ty, pos, af, g⟩).run P w = .ok (.value r) w' := by
  rw [builtin_run]
  simp [builtin, hx, hy, h]
end
end Go.Proofs.YtaegeaajhbfkgaaGreatDoorA
/- A range over a function: the loop's record as an object of one's own, calls of yield, rounds, the statement. -/
namespace Go.Proofs.YtaegeaajhbfkgaaGreatDoorA
open Go
set_option linter.unusedVariables false
set_option linter.unusedSimpArgs false
def YC (P : Program) (id : Nat) (args : List AV) (hs : Hp) (R : AV → Hp → Prop) : Prop :=
  ∀ κ b c vals w, HS κ w hs → κ id = some (some b, c) → vals.size = args.length → (∀ (i : Nat) (v : Value) (x : AV), vals[i]? = some v → args[i]? = some x → RepA κ w (Own κ hs) v x) →
    ∃ f tmps assign body, (Instr.yield b vals).run P w = .ok (.round b f tmps assign body) w ∧ RoundIn Fence.wide 0 P b f tmps assign body w fun e w' =>
      ∃ κ' hs' v x, e = .returned v ∧ HS κ' w' hs' ∧ Ext κ hs w κ' hs' w' ∧ RepA κ' w' (Own κ' hs') v x ∧ R x hs'
theorem YC.mono {P : Program} {id : Nat} {args : List AV} {hs : Hp} {R R' : AV → Hp → Prop} (h : YC P id args hs R) (hr : ∀ x hs', R x hs' → R' x hs') : YC P id args hs R' :=
  fun κ b c vals w h1 h2 h3 h4 => let ⟨f, t, a, bd, h5, h6⟩ := h κ b c vals w h1 h2 h3 h4; ⟨f, t, a, bd, h5, h6.mono fun _ _ ⟨κ', hs', v, x, a, b, c, d, e⟩ => ⟨κ', hs', v, x, a, b, c, d, hr _ _ e⟩⟩
section
variable {P : Program} {N : Nm} {σ : Env} {hs : Hp} {d : Option Tmp} {ty : TypeId} {pos : String} {af : Array Edge} {g : Option (Nat × Bool)}
theorem yield_run {x : Operand} {args : Array Operand} {tys : Array TypeId} {b : Nat} {a : Act} {w : World} (hx : a.eval x = .func (.yield b) #[] #[]) :
    (execOp a.eval ⟨d, .call ⟨.value x, args, tys⟩, ty, pos, af, g⟩).run P w = (Instr.yield b (args.map a.eval)).run P w := by
  simp [execOp, resolve, invoke, hx, Deferred.ofValue]
theorem L.ycall {x : Operand} {args : Array Operand} {tys : Array TypeId} {id : Nat} {xs : List AV} {R : AV → Hp → Prop} (hx : oev σ x = .yl id) (ha : args.toList.map (oev σ) = xs) (hy : YC P id xs hs R) (hd : dstOk N d = true) :
    Loud P N σ hs ⟨d, .call ⟨.value x, args, tys⟩, ty, pos, af, g⟩ (fun σ' hs' => ∃ r, σ' = putE d r σ ∧ R r hs') := by
  intro κ a w s K Q hK
  have hx1 := s.oev x; rw [hx] at hx1
  obtain ⟨b, cap, hk, hv⟩ : ∃ b cap, κ id = some (some b, cap) ∧ a.eval x = .func (.yield b) #[] #[] := by
    generalize a.eval x = u at hx1
    cases hx1 with | yl b cap _ hk => exact ⟨b, cap, hk, rfl⟩
  obtain ⟨h3, h4⟩ := args_rep s (args := args) (caps := []) (cs := #[]) rfl (fun i v x hi => by simp at hi)
  subst ha
  simp only [Array.append_empty, List.append_nil] at h3 h4
  obtain ⟨f, tmps, assign, body, h5, h6⟩ := hy κ b cap _ w s.heap hk h3 h4
  unfold oWp
  rw [yield_run hv, h5]
  refine ⟨fun h => (by cases h), h6.mono ?_⟩
  rintro e w' ⟨κ', hs', v, r, rfl, g1, g2, g3, g4⟩
  exact hK κ' _ w' _ hs' (s.putO g2 g1 hd g3) g2 ⟨r, rfl, g4⟩
end
theorem HS.record {κ : Kap} {w : World} {hs : Hp} {id n : Nat} {σ : Env} {ps : Array Tmp} {assign body : Code} {st : LoopState} {pe : Option Code} (h : HS κ w ((id, .loopr σ n ps assign body st pe) :: hs)) :
    ∃ b c fn tmps D, κ id = some (some b, c) ∧ w.heap[b]? = some (.loop { state := st, pending := pe, fn := fn, tmps := tmps, params := ps, assign := assign, body := body, defers := D }) ∧ tmps.size = n ∧
      (∀ t, RepA κ w (Own κ ((id, .loopr σ n ps assign body st pe) :: hs)) (tmps.getD t undef) (eget σ t)) ∧
      ∀ st' pe', HS κ (w.putObj b (.loop { state := st', pending := pe', fn := fn, tmps := tmps, params := ps, assign := assign, body := body, defers := D })) ((id, .loopr σ n ps assign body st' pe') :: hs) ∧
        Ext κ ((id, .loopr σ n ps assign body st pe) :: hs) w κ ((id, .loopr σ n ps assign body st' pe') :: hs) (w.putObj b (.loop { state := st', pending := pe', fn := fn, tmps := tmps, params := ps, assign := assign, body := body, defers := D })) := by
  obtain ⟨⟨ob, c⟩, hk, b, fn, tmps, D, rfl, hw, hsz, hr⟩ := h.ok id _ (List.mem_cons_self ..)
  refine ⟨b, c, fn, tmps, D, hk, hw, hsz, hr, fun st' pe' => ?_⟩
  have hlt := (Array.getElem?_eq_some_iff.1 hw).1
  exact h.write (k := 0) (o' := .loopr σ n ps assign body st' pe') rfl hk (by simp) rfl rfl rfl rfl (fun i hi => World.putObj_heap_other hi)
    (fun hA _ => ⟨b, fn, tmps, D, rfl, World.putObj_heap_same hlt, hsz, fun t => hA _ _ (hr t)⟩) (fun cs T f h => by rw [hw] at h; cases h)
def zipE : List Tmp → List AV → Env → Env
  | p :: ps, x :: xs, σ => zipE ps xs ((p, x) :: σ)
  | _, _, σ => σ
theorem fold_rep {κ : Kap} {w : World} {O : Nat → Prop} {n : Nat} : ∀ (ps : List Tmp) (vs : List Value) (xs : List AV) (tmps : Array Value) (σ : Env), (∀ p ∈ ps, p < n) → vs.length = xs.length → tmps.size = n →
    (∀ (i : Nat) (v : Value) (x : AV), vs[i]? = some v → xs[i]? = some x → RepA κ w O v x) → (∀ t, RepA κ w O (tmps.getD t undef) (eget σ t)) →
      ((ps.zip vs).foldl (fun t (p : Tmp × Value) => t.setIfInBounds p.1 p.2) tmps).size = n ∧ ∀ t, RepA κ w O (((ps.zip vs).foldl (fun t (p : Tmp × Value) => t.setIfInBounds p.1 p.2) tmps).getD t undef) (eget (zipE ps xs σ) t)
  | [], vs, xs, tmps, σ, _, _, h3, _, h => ⟨h3, h⟩
  | p :: ps, [], [], tmps, σ, _, _, h3, _, h => ⟨h3, h⟩
  | p :: ps, v :: vs, x :: xs, tmps, σ, h1, h2, h3, h4, h => by
    have hp := h1 p (List.mem_cons_self ..)
    refine fold_rep ps vs xs (tmps.setIfInBounds p v) ((p, x) :: σ) (fun q hq => h1 q (List.mem_cons_of_mem _ hq)) (by simpa using h2) (by simpa using h3) (fun i v x hi hx => h4 (i + 1) v x (by simpa using hi) (by simpa using hx)) fun t => ?_
    by_cases ht : p = t
    · subst ht
      rw [eget_same]
      have : (tmps.setIfInBounds p v).getD p undef = v := by simp [h3, hp]
      rw [this]
      exact h4 0 v x rfl rfl
    · rw [eget_ne _ _ ht]
      have : (tmps.setIfInBounds p v).getD t undef = tmps.getD t undef := by simp [Array.getElem?_setIfInBounds_ne ht]
      rw [this]; exact h t
def roundQ (id n : Nat) (σ : Env) (ps : Array Tmp) (assign body : Code) (R : AV → Hp → Prop) : Post := fun x _ hs' => ∃ hs₃, HLe ((id, .loopr σ n ps assign body .busy none) :: hs₃) hs' ∧
  match x with
  | .normal => R (.d (.bool true)) ((id, .loopr σ n ps assign body .ready none) :: hs₃)
  | .ret => R (.d (.bool false)) ((id, .loopr σ n ps assign body .done (some .ret)) :: hs₃)
  | .exit i => R (.d (.bool false)) ((id, .loopr σ n ps assign body .done (some (.exit i))) :: hs₃)
theorem YC.of {P : Program} {id n : Nat} {σ : Env} {ps : Array Tmp} {assign body : Code} {args : List AV} {hs : Hp} {R : AV → Hp → Prop} (hps : args.length = ps.size) (hpn : ps.toList.all (Nat.blt · n) = true)
    (h : ∀ B l, W P ⟨n, B, some l⟩ assign (Post.then (fun σ₁ hs₁ => ∃ hs₂, HLe ((id, .loopr σ n ps assign body .ready none) :: hs₂) hs₁ ∧
      W P ⟨n, B, some l⟩ body (roundQ id n σ ps assign body R) σ₁ ((id, .loopr σ n ps assign body .busy none) :: hs₂)) (fun _ _ _ => False)) (zipE ps.toList args σ) ((id, .loopr σ n ps assign body .ready none) :: hs)) :
    YC P id args ((id, .loopr σ n ps assign body .ready none) :: hs) R := by
  intro κ b c vals w h1 hκ hsz hrep
  obtain ⟨b', c', fn, tmps, D, hk, hw, htn, hr, _⟩ := h1.record
  rw [hκ] at hk
  obtain ⟨rfl, rfl⟩ : b = b' ∧ c = c' := by injection hk with hk; injection hk with h1 h2; exact ⟨Option.some.inj h1, h2⟩
  have hy := run_yield (P := P) (args := vals) hw (by show vals.size = ps.size; omega)
  refine ⟨fn, _, assign, body, hy, roundIn_of_wpIn trivial ?_⟩
  clear hy
  obtain ⟨f1, f2⟩ := fold_rep (n := n) ps.toList vals.toList args tmps σ (fun p hp => by have := List.all_eq_true.1 hpn p hp; simpa [Nat.blt_eq] using this) (by simpa using hsz) htn
    (fun i v x hi hx => hrep i v x (by simpa using hi) hx) hr
  have hfold : (ps.zip vals).foldl (fun tmps (x : Tmp × Value) => tmps.setIfInBounds x.1 x.2) tmps = (ps.toList.zip vals.toList).foldl (fun t (p : Tmp × Value) => t.setIfInBounds p.1 p.2) tmps := by
    rw [← Array.foldl_toList, Array.toList_zip]
  rw [← hfold] at f1 f2
  refine wpIn_mono (h 0 b κ { tmps := _, defers := [] } w ⟨h1, f1, Marks.nil _ _ (Nat.zero_le _), f2⟩) ?_
  rintro e a₁ w₁ ⟨t, κ₁, σ₁, hs₁, rfl, s₁, e₁, hq⟩
  cases t with
  | exit i => exact hq.elim
  | ret => exact hq.elim
  | normal =>
    obtain ⟨hs₂, hle, hW⟩ := hq
    obtain ⟨g1, g2⟩ := s₁.heap.sub (hle.2 s₁.heap.nodup) hle.1
    obtain ⟨b₁, c₁, fn₁, tmps₁, D₁, hk₁, hw₁, _, _, hrec⟩ := g1.record
    have hb : b₁ = b := by
      have := e₁.kap _ _ hκ
      rw [hk₁] at this
      injection this with this; injection this with h1 _; exact (Option.some.inj h1)
    subst hb
    obtain ⟨k1, k2⟩ := hrec .busy none
    refine ⟨_, run_beginRound hw₁ rfl, ?_⟩
    refine wpIn_mono (hW κ₁ a₁ _ ⟨k1, s₁.size, (s₁.defers.ext g2).ext k2, fun t => ((s₁.get t).ext g2).ext k2⟩) ?_
    rintro e a₂ w₂ ⟨x, κ₂, σ₂, hs', rfl, s₂, e₂, hs₃, hle₃, hx⟩
    obtain ⟨m1, m2⟩ := s₂.heap.sub (hle₃.2 s₂.heap.nodup) hle₃.1
    obtain ⟨b₂, c₂, fn₂, tmps₂, D₂, hk₂, hw₂, _, _, hrec₂⟩ := m1.record
    have hb : b₂ = b₁ := by
      have := e₂.kap _ _ hk₁
      rw [hk₂] at this
      injection this with this; injection this with h1 _; exact (Option.some.inj h1)
    subst hb
    have eall := ((((e₁.trans g2).trans k2).trans e₂).trans m2)
    cases x with
    | normal =>
      obtain ⟨p1, p2⟩ := hrec₂ .ready none
      exact ⟨_, _, run_endRound none hw₂, κ₂, _, _, _, rfl, p1, eall.trans p2, .d (.bool _), hx⟩
    | ret =>
      obtain ⟨p1, p2⟩ := hrec₂ .done (some .ret)
      exact ⟨_, _, run_endRound (some .ret) hw₂, κ₂, _, _, _, rfl, p1, eall.trans p2, .d (.bool _), hx⟩
    | exit i =>
      obtain ⟨p1, p2⟩ := hrec₂ .done (some (.exit i))
      exact ⟨_, _, run_endRound (some (.exit i)) hw₂, κ₂, _, _, _, rfl, p1, eall.trans p2, .d (.bool _), hx⟩
def rangeQ (id : Nat) (N : Nm) (σ : Env) (ps : Array Tmp) (assign body : Code) (Q : Post) : AV → Hp → Prop := fun _ h' =>
  (∃ hs', HLe ((id, .loopr σ N.n ps assign body .ready none) :: hs') h' ∧ Q .normal σ hs') ∨
  (∃ hs', HLe ((id, .loopr σ N.n ps assign body .done (some .ret)) :: hs') h' ∧ Q .ret σ hs') ∨
  (∃ hs' i, HLe ((id, .loopr σ N.n ps assign body .done (some (.exit i))) :: hs') h' ∧ Q (.exit i) σ hs')
theorem roundQ.go {id n : Nat} {σ σ' : Env} {ps : Array Tmp} {assign body : Code} {R : AV → Hp → Prop} {hs' : Hp} (hs₃ : Hp) (hle : HLe ((id, .loopr σ n ps assign body .busy none) :: hs₃) hs') (hr : R (.d (.bool true)) ((id, .loopr σ n ps assign body .ready none) :: hs₃)) :
    roundQ id n σ ps assign body R .normal σ' hs' := ⟨hs₃, hle, hr⟩
theorem rangeQ.go {id : Nat} {N : Nm} {σ : Env} {ps : Array Tmp} {assign body : Code} {Q : Post} {r : AV} {h' : Hp} (hs' : Hp) (hle : HLe ((id, .loopr σ N.n ps assign body .ready none) :: hs') h') (hq : Q .normal σ hs') :
    rangeQ id N σ ps assign body Q r h' := .inl ⟨hs', hle, hq⟩
theorem W.range {P : Program} {N : Nm} {σ : Env} {hs : Hp} {Q : Post} {g : Operand} {ps : Array Tmp} {assign body : Code} {f : FuncId} {fn : Func} {caps : List AV} (hx : oev σ g = .fn f caps) (hf : P.funcs[f]? = some fn) (hg : callGo fn = true)
    (h : ∀ id, AC P f (.yl id :: caps) ((id, .loopr σ N.n ps assign body .ready none) :: hs) (rangeQ id N σ ps assign body Q)) (hro : N.ro = none := by rfl) : W P N (.rangeFunc g ps assign body) Q σ hs := by
  intro κ a w s
  rw [hro]
  refine wpIn_rangeFunc fun fn' _ => ?_
  have hx1 := s.oev g; rw [hx] at hx1
  obtain ⟨lb, hv, hl1, hl2⟩ := hx1.fn_inv
  -- the two new blocks
  obtain ⟨h1, e1⟩ := s.heap.oneMore (w' := w.alloc (.deferred (some []))) (by simp) (fun _ => Nat.le_refl _) rfl rfl rfl (fun i hi => allocOld w _ i hi)
  have hsz1 : (w.alloc (.deferred (some []))).heap.size = w.heap.size + 1 := by simp
  obtain ⟨id, κ', h2, e2, hk2⟩ := h1.allocO (.loop { state := .ready, pending := none, fn := fn', tmps := a.tmps, params := ps, assign := assign, body := body, defers := w.heap.size }) (.loopr σ N.n ps assign body .ready none) 0
    (fun κ' id hid O hA _ => ⟨_, fn', a.tmps, w.heap.size, rfl, World.alloc_heap_new _ _, s.size, fun t => hA _ _ ((s.get t).ext e1)⟩)
  have hDlt : w.heap.size < ((w.alloc (.deferred (some []))).alloc (.loop { state := .ready, pending := none, fn := fn', tmps := a.tmps, params := ps, assign := assign, body := body, defers := w.heap.size })).heap.size := by simp; omega
  have hD : ((w.alloc (.deferred (some []))).alloc (.loop { state := .ready, pending := none, fn := fn', tmps := a.tmps, params := ps, assign := assign, body := body, defers := w.heap.size })).heap[w.heap.size]? = some (.deferred (some [])) :=
    (allocOld _ _ _ (by simp)).trans (World.alloc_heap_new w _)
  have hel := run_enterLoop_outer (P := P) (w := w) fn' a.tmps ps assign body
  generalize ((w.alloc (.deferred (some []))).alloc (.loop { state := .ready, pending := none, fn := fn', tmps := a.tmps, params := ps, assign := assign, body := body, defers := w.heap.size })) = W1 at *
  have e12 := e1.trans e2
  have hDn : ¬ Own κ' ((id, .loopr σ N.n ps assign body .ready none) :: hs) w.heap.size := by
    rintro ⟨i, o, c, hi, hk⟩
    rcases List.mem_cons.1 hi with he | hi
    · obtain ⟨rfl, rfl⟩ := Prod.mk.inj he
      rw [hk2] at hk
      injection hk with hk; injection hk with hk _
      have := Option.some.inj hk
      rw [hsz1] at this; omega
    · obtain ⟨x, hx, _⟩ := s.heap.ok i o hi
      have hx2 := e12.kap _ _ hx
      rw [hk] at hx2
      obtain rfl := Option.some.inj hx2
      have := s.heap.block_lt hi hx
      omega
  refine ⟨w.heap.size + 1, [{ target := .collected w.heap.size, args := #[] }], W1, { target := .fn (.func f) lb, args := #[.func (.yield (w.heap.size + 1)) #[] #[]] }, W1, f, #[.func (.yield (w.heap.size + 1)) #[] #[]] ++ lb, W1, hel, ?_, fun _ _ => trivial, ?_, fun h => (by cases h), callsIn_wide.2 ?_⟩
  · simp only [resolve, hv]
    simp [go_sem]
  · have := callFunc_run hf hg
    simp [invoke, go_sem, this]
  · refine (h id κ' _ _ h2 (by simp [hl1]; omega) (fun i v x hi hx => ?_)).mono ?_
    · rw [Array.getElem?_append] at hi
      split at hi
      · rename_i hlt
        have h0 : i = 0 := by simpa using hlt
        subst h0
        simp at hi hx
        subst hi hx
        exact .yl _ _ _ (by rw [hk2, hsz1])
      · rename_i hge
        obtain ⟨j, rfl⟩ : ∃ j, i = j + 1 := ⟨i - 1, by simp at hge; omega⟩
        have hi' : lb[j]? = some v := by simpa using hi
        have hx' : caps[j]? = some x := by simpa using hx
        exact (hl2 j v x hi' hx').ext e12
    · rintro e w₃ ⟨κ₃, hs₃, v, x, rfl, k1, k2, k3, hq⟩
      have e3 := e12.trans k2
      have hD3 : w₃.heap[w.heap.size]? = some (.deferred (some [])) := (k2.same _ hDlt hDn).trans hD
      have hDn3 : ¬ Own κ₃ hs₃ w.heap.size := fun h => hDn (k2.own _ hDlt h)
      -- behind the loop
      have fin : ∀ {hs' : Hp} {st : LoopState} {pe : Option Code}, HLe ((id, .loopr σ N.n ps assign body st pe) :: hs') hs₃ → st ≠ .busy → ∃ w₄, (Instr.endLoop (w.heap.size + 1)).run P w₃ = .ok pe w₄ ∧
          Ext κ hs w κ₃ hs' w₄ ∧ Sim N κ₃ hs' w₄ σ { a with defers := [{ target := .collected w.heap.size, args := #[] }] ++ a.defers } := by
        intro hs' st pe hle hst
        obtain ⟨m1, m2⟩ := k1.sub (hle.2 k1.nodup) hle.1
        obtain ⟨b, c, fn₂, tmps₂, D₂, hkb, hwb, _, _, hrec⟩ := m1.record
        have hb : b = w.heap.size + 1 := by
          have := k2.kap _ _ hk2
          rw [hkb] at this
          injection this with this; injection this with h1 _
          rw [Option.some.inj h1, hsz1]
        subst hb
        obtain ⟨p1, p2⟩ := hrec .exhausted pe
        obtain ⟨q1, q2⟩ := p1.sublist (List.sublist_cons_self _ _)
        have eA := ((e3.trans m2).trans p2).trans q2
        refine ⟨_, run_endLoop hwb hst, eA, q1, s.size, ⟨(s.defers.ext eA).1, ?_, ?_⟩, fun t => (s.get t).ext eA⟩
        · rw [List.singleton_append, List.nodup_cons]
          refine ⟨fun hm => ?_, s.defers.2.1⟩
          obtain ⟨D', he, _, hD', _⟩ := s.defers.2.2 _ hm
          have := (Array.getElem?_eq_some_iff.1 hD').1
          injection he with he
          injection he with he
          omega
        · intro d hd
          rw [List.singleton_append] at hd
          rcases List.mem_cons.1 hd with rfl | hd
          · refine ⟨w.heap.size, rfl, s.defers.1, (World.putObj_heap_other (by omega)).trans hD3, fun ho => ?_⟩
            obtain ⟨i, o, c', hi, hk⟩ := ho
            exact hDn3 ⟨i, o, c', hle.1 _ (List.mem_cons_of_mem _ hi), hk⟩
          · exact (s.defers.ext eA).2.2 d hd
      rcases hq with ⟨hs', hle, hq⟩ | ⟨hs', hle, hq⟩ | ⟨hs', i, hle, hq⟩
      · obtain ⟨w₄, he, eA, sA⟩ := fin hle (by simp)
        exact ⟨_, _, he, .normal, κ₃, σ, hs', rfl, sA, eA, hq⟩
      · obtain ⟨w₄, he, eA, sA⟩ := fin hle (by simp)
        exact ⟨_, _, he, wpIn_ret ⟨.ret, κ₃, σ, hs', rfl, sA, eA, hq⟩⟩
      · obtain ⟨w₄, he, eA, sA⟩ := fin hle (by simp)
        exact ⟨_, _, he, wpIn_exit ⟨.exit i, κ₃, σ, hs', rfl, sA, eA, hq⟩⟩
end Go.Proofs.YtaegeaajhbfkgaaGreatDoorA
/- Arrays of own slices, loaded and stored whole; a list in a variable becomes data; yield over other objects. -/
namespace Go.Proofs.YtaegeaajhbfkgaaGreatDoorA
open Go
set_option linter.unusedVariables false
set_option linter.unusedSimpArgs false
theorem Post.block_n {id : Nat} {Q : Post} {σ : Env} {hs : Hp} (h : Q .normal σ hs) : Post.block id Q .normal σ hs := h
theorem YC.le {P : Program} {id : Nat} {args : List AV} {hs hs₁ : Hp} {R : AV → Hp → Prop} (h : YC P id args hs₁ R) (hle : HLe hs₁ hs) : YC P id args hs R := by
  intro κ b c vals w h1 h2 h3 h4
  obtain ⟨g1, g2⟩ := h1.sub (hle.2 h1.nodup) hle.1
  obtain ⟨f, t, a, bd, h5, h6⟩ := h κ b c vals w g1 h2 h3 (fun i v x hv hx => (h4 i v x hv hx).ext g2)
  exact ⟨f, t, a, bd, h5, h6.mono fun _ _ ⟨κ', hs', v, x, a, b, c, d, e⟩ => ⟨κ', hs', v, x, a, b, g2.trans c, d, e⟩⟩
section
variable {P : Program} {N : Nm} {σ : Env} {hs : Hp} {ty : TypeId} {pos : String} {af : Array Edge} {g : Option (Nat × Bool)}
theorem Q.ld_ptrv {d : Option Tmp} {t n id off k : Nat} {l : List AV} {x : Operand} (ht : tAgg P t = some (true, n)) (hx : oev σ x = .ptr id off) (hk : hs[k]? = some (id, .cells l)) (hn : Nat.ble (off + n) l.length = true) :
    Quiet P N σ hs ⟨d, .load t x, ty, pos, af, g⟩ (.aggv ((l.drop off).take n)) :=
  .of_run fun κ a w s => by
    have h1 := s.oev x; rw [hx] at h1
    obtain ⟨b, cap, hkk, hv1⟩ := h1.ptr_inv
    obtain ⟨y, hy, hok⟩ := s.heap.ok id _ (List.mem_of_getElem? hk)
    rw [hkk] at hy
    obtain rfl := Option.some.inj hy
    obtain ⟨b', cs, hbe, hw, hsz, hone, hr⟩ := hok
    obtain rfl := Option.some.inj hbe
    have hn' : off + n ≤ l.length := by simpa [Nat.ble_eq] using hn
    have hcell : ∀ (j : Nat) (v : Value), ((cs.toList.drop off).take n)[j]? = some v → w.cell? ((⟨b, off, none⟩ : Addr).add j) = some v := fun j v hj => by
      rw [addr_add_lit]
      rw [List.getElem?_take] at hj
      split at hj
      · rw [List.getElem?_drop] at hj
        simp [World.cell?, hw]; simpa using hj
      · cases hj
    have hlen : ((cs.toList.drop off).take n).length = n := by simp; omega
    refine ⟨.agg ((cs.toList.drop off).take n).toArray, by simp [execOp, hv1, loadn_run ht hlen hcell], .aggv _ _ (by simp; omega) (fun v hv => hone v (List.mem_of_mem_drop (List.mem_of_mem_take (by simpa using hv)))) (fun i v x hi hx => ?_)⟩
    have hi' : ((cs.toList.drop off).take n)[i]? = some v := by simpa using hi
    rw [List.getElem?_take] at hi' hx
    split at hi'
    · rename_i hlt
      rw [if_pos hlt] at hx
      rw [List.getElem?_drop] at hi' hx
      exact hr _ v x (by simpa using hi') hx
    · cases hi'
theorem L.storev {t n id off k : Nat} {l xs : List AV} {x y : Operand} (ht : tAgg P t = some (true, n)) (hx : oev σ x = .ptr id off) (hk : hs[k]? = some (id, .cells l)) (hy : oev σ y = .aggv xs)
    (hl : xs.length = n) (hoff : Nat.ble (off + xs.length) l.length = true) : Loud P N σ hs ⟨none, .store t x y, ty, pos, af, g⟩ (fun σ' hs' => σ' = σ ∧ hs' = hs.set k (id, .cells (l.take off ++ xs ++ l.drop (off + xs.length)))) := by
  intro κ a w s K Q hK
  have hx1 := s.oev x; rw [hx] at hx1
  have hy1 := s.oev y; rw [hy] at hy1
  obtain ⟨b, cap, hκ, hv⟩ := hx1.ptr_inv
  have hle : off + xs.length ≤ l.length := by simpa [Nat.ble_eq] using hoff
  generalize hu : a.eval y = u at hy1
  cases hy1 with
  | aggv cs _ hsz h1 hr =>
    obtain ⟨w', hst, h2, h3⟩ := write_cells (P := P) s.heap (xs := xs) (vs := cs.toList) hk hκ (by simpa using hsz)
      (fun i u x hi hx => hr i u x (by simpa using hi) hx) h1 hle
    have hrun : (execOp a.eval ⟨none, .store t x y, ty, pos, af, g⟩).run P w = .ok .skip w' := by
      rw [show execOp a.eval ⟨none, .store t x y, ty, pos, af, g⟩ = (do Instr.storeAt t (a.eval x) (a.eval y); pure .skip) from rfl, hv, hu, Sem.run_bind,
        storeVar_run ht (v := .agg cs) (vs := cs.toList) rfl (by rw [Array.length_toList, hsz, hl]) hst]
      rfl
    unfold oWp
    rw [hrun]
    exact hK κ a w' σ _ (s.ext h3 h2) h3 ⟨rfl, rfl⟩
end
section
variable {P : Program} {N : Nm} {σ : Env} {hs : Hp} {Q : Post}
theorem HS.freezec {κ : Kap} {w : World} {id off v n sz : Nat} {l : List AV} {rows : List (List D)} (h : HS κ w ((v, .lst sz rows) :: (id, .cells l) :: hs)) (hl : l[off]? = some (.vs v 0 n sz)) (hn : n = rows.length) :
    HS κ w ((id, .cells (l.set off (.d (.sl sz rows)))) :: hs) ∧ Ext κ ((v, .lst sz rows) :: (id, .cells l) :: hs) w κ ((id, .cells (l.set off (.d (.sl sz rows)))) :: hs) w := by
  obtain ⟨h1, e1⟩ := h.sublist (List.sublist_cons_self _ _)
  obtain ⟨⟨ob, cap⟩, hx, hok⟩ := h1.ok id _ (List.mem_cons_self ..)
  have hok2 := hok
  obtain ⟨b, cs, rfl, hw, hsz, hone, hr⟩ := hok2
  have hoff : off < l.length := (List.getElem?_eq_some_iff.1 hl).1
  obtain ⟨u, hu⟩ : ∃ u, cs[off]? = some u := ⟨cs[off]'(by omega), Array.getElem?_eq_getElem _⟩
  have hrep0 := hr off u _ hu hl
  obtain ⟨x0, hx0, hok0⟩ := h.ok id _ (List.mem_cons_of_mem _ (List.mem_cons_self ..))
  rw [hx] at hx0
  obtain rfl := Option.some.inj hx0
  obtain ⟨b0, cs0, hb0, hw0, _, _, hr0⟩ := hok0
  obtain rfl := Option.some.inj hb0
  rw [hw] at hw0
  injection hw0 with hw0; injection hw0 with hw1 _ _
  subst hw1
  have hd : RepD w (Own κ ((id, .cells l) :: hs)) u (.sl sz rows) := (vs_frz h (k := 0) rfl (hr0 off u _ hu hl) hn).d_inv
  obtain ⟨g1, g2⟩ := h1.write (k := 0) (o' := .cells (l.set off (.d (.sl sz rows)))) rfl hx rfl rfl rfl rfl rfl (fun _ _ => rfl) (fun hA hD => by
    refine ⟨b, cs, rfl, hw, by simpa using hsz, hone, fun i v x hi hxx => ?_⟩
    rw [List.getElem?_set] at hxx
    split at hxx
    · rename_i he
      subst he
      obtain rfl := Option.some.inj hxx
      rw [hu] at hi
      obtain rfl := Option.some.inj hi
      exact .d (hD _ _ hd)
    · exact hA _ _ (hr i v x hi hxx))
  exact ⟨g1, e1.trans g2⟩
theorem W.freezec {c : Code} (off : Nat) {id v n sz : Nat} {l : List AV} {rows : List (List D)} (hl : l[off]? = some (.vs v 0 n sz)) (hn : n = rows.length)
    (h : W P N c Q σ ((id, .cells (l.set off (.d (.sl sz rows)))) :: hs)) : W P N c Q σ ((v, .lst sz rows) :: (id, .cells l) :: hs) := by
  intro κ a w s
  obtain ⟨h1, e⟩ := s.heap.freezec hl hn
  exact wpIn_mono (h κ a w (s.ext e h1)) fun _ _ _ hc => hc.ext e
end
end Go.Proofs.YtaegeaajhbfkgaaGreatDoorA
/- Equality of structs and arrays of ints, bools and strings. -/
namespace Go.Proofs.YtaegeaajhbfkgaaGreatDoorA
open Go
set_option linter.unusedVariables false
set_option linter.unusedSimpArgs false
inductive LK where
  | int (k : IntKind)
  | bool
  | str
def lkV : LK → Value → Prop
  | .int k, .int k' _ => k' = k
  | .bool, .bool _ => True
  | .str, .string _ => True
  | _, _ => False
def Knd : List LK → List Value → Prop
  | [], [] => True
  | k :: ks, v :: vs => lkV k v ∧ Knd ks vs
  | _, _ => False
theorem Knd.len : ∀ {ks : List LK} {vs : List Value}, Knd ks vs → vs.length = ks.length
  | [], [], _ => rfl
  | k :: ks, v :: vs, h => by simp [Knd.len h.2]
  | [], v :: vs, h => h.elim
  | k :: ks, [], h => h.elim
theorem Knd.split : ∀ {ks ls : List LK} {vs : List Value}, Knd (ks ++ ls) vs → Knd ks (vs.take ks.length) ∧ Knd ls (vs.drop ks.length)
  | [], ls, vs, h => ⟨by simp [Knd], by simpa using h⟩
  | k :: ks, ls, v :: vs, h => by
    have := Knd.split (ks := ks) (ls := ls) h.2
    exact ⟨⟨h.1, this.1⟩, this.2⟩
  | k :: ks, ls, [], h => h.elim
section
variable {P : Program}
end
section
variable {P : Program} {N : Nm} {σ : Env} {hs : Hp} {d : Option Tmp} {ty : TypeId} {pos : String} {af : Array Edge} {g : Option (Nat × Bool)}
end
end Go.Proofs.YtaegeaajhbfkgaaGreatDoorA
/- copy, cap, cuts up to a capacity, made slices behind a list's front, lists of one element. -/
namespace Go.Proofs.YtaegeaajhbfkgaaGreatDoorA
open Go
set_option linter.unusedVariables false
set_option linter.unusedSimpArgs false
theorem HS.noneO {κ : Kap} {w : World} {hs : Hp} (h : HS κ w hs) (o : HO) (ho : ∀ κ' : Kap, ∀ O : Nat → Prop, (∀ id x, κ id = some x → κ' id = some x) → HOk κ' w O o (Option.none, 0)) :
    ∃ id κ', HS κ' w ((id, o) :: hs) ∧ Ext κ hs w κ' ((id, o) :: hs) w := by
  obtain ⟨n, hn⟩ := h.fresh
  let κ' : Kap := fun i => if i = n then some (Option.none, 0) else κ i
  have hk : ∀ id x, κ id = some x → κ' id = some x := fun id x hx => by
    have : id ≠ n := fun he => by rw [he, hn n (Nat.le_refl _)] at hx; cases hx
    simp [κ', this, hx]
  have hnew : κ' n = some (Option.none, 0) := by simp [κ']
  have hold : ∀ id, id ≠ n → κ' id = κ id := fun id hid => by simp [κ', hid]
  have hmem : ∀ id o, (id, o) ∈ hs → id ≠ n := fun id o hi he => by
    obtain ⟨x, hx, _⟩ := h.ok id o hi
    rw [he, hn n (Nat.le_refl _)] at hx; cases hx
  have hpart : ∀ id o' b c, (id, o') ∈ (n, o) :: hs → κ' id = some (some b, c) → (id, o') ∈ hs ∧ κ id = some (some b, c) := by
    intro id o' b c hi hkk
    rcases List.mem_cons.1 hi with he | hi
    · obtain ⟨rfl, rfl⟩ := Prod.mk.inj he
      rw [hnew] at hkk; cases hkk
    · exact ⟨hi, by rw [← hold id (hmem _ _ hi)]; exact hkk⟩
  have e : Ext κ hs w κ' ((n, o) :: hs) w :=
    ⟨hk, Nat.le_refl _, fun _ => Nat.le_refl _, rfl, rfl, rfl, fun _ _ _ => rfl, fun b hb ⟨id, o', c, hi, hkk⟩ => let ⟨h1, h2⟩ := hpart _ _ _ _ hi hkk; ⟨id, o', c, h1, h2⟩, fun id o' hi => by
      rcases List.mem_cons.1 hi with he | hi
      · obtain ⟨rfl, rfl⟩ := Prod.mk.inj he
        exact .inr (hn _ (Nat.le_refl _))
      · exact .inl ⟨_, hi⟩, SameT.refl w⟩
  refine ⟨n, κ', ⟨?_, ?_, ?_, n + 1, fun id hid => ?_⟩, e⟩
  · rw [List.map_cons, List.nodup_cons]
    refine ⟨fun hi => ?_, h.nodup⟩
    obtain ⟨⟨id, o'⟩, hi, he⟩ := List.mem_map.1 hi
    exact hmem id o' hi he
  · intro id o' hi
    rcases List.mem_cons.1 hi with he | hi
    · obtain ⟨rfl, rfl⟩ := Prod.mk.inj he
      exact ⟨_, hnew, ho κ' _ hk⟩
    · obtain ⟨x, hx, hok⟩ := h.ok id o' hi
      exact ⟨x, hk _ _ hx, hok.ext e fun b _ => rfl⟩
  · intro id id' o₁ o₂ b c c' hi hi' h1 h2
    obtain ⟨h3, h4⟩ := hpart _ _ _ _ hi h1
    obtain ⟨h5, h6⟩ := hpart _ _ _ _ hi' h2
    exact h.inj id id' o₁ o₂ b c c' h3 h5 h4 h6
  · have : id ≠ n := by omega
    rw [hold id this]; exact hn id (by omega)
def Src (κ : Kap) (hs : Hp) (w : World) (v : Value) (sz L : Nat) (rows : List (List D)) : Prop := ∃ p c vs, v = .slice p L c ∧ Lined w (Own κ hs) sz rows vs ∧
  (∀ (j : Nat) u, vs[j]? = some u → ∃ ad, p = some ad ∧ w.cell? (ad.add j) = some u) ∧ (∀ r ∈ rows, r.length = sz) ∧ ∀ r ∈ rows, ∀ x ∈ r, x.one = true
theorem src_own {κ : Kap} {hs : Hp} {w : World} (h : HS κ w hs) {v : Value} {id lo L sz k m : Nat} {rows : List (List D)} (hv : RepA κ w (Own κ hs) v (.vs id lo L sz)) (hk : hs[k]? = some (id, .lst sz rows)) (hm : lo + m ≤ rows.length) :
    Src κ hs w v sz L ((rows.drop lo).take m) := by
  obtain ⟨ob, cap, q, hκ, hle, hq, rfl⟩ := hv.vs_inv
  obtain ⟨olds, hl1, hblk⟩ := lst_cells h hk hκ
  obtain ⟨yy, hyy, hok⟩ := h.ok id _ (List.mem_of_getElem? hk)
  rw [hκ] at hyy
  obtain rfl := Option.some.inj hyy
  obtain ⟨g0, g0', g1, g2, g3, g4, g5⟩ := hok
  have hl2 := hl1.sub hm g2
  refine ⟨q, cap - lo, _, rfl, hl2, fun j u hj => ?_, fun r hr => g2 r (List.mem_of_mem_drop (List.mem_of_mem_take hr)), fun r hr => g3 r (List.mem_of_mem_drop (List.mem_of_mem_take hr))⟩
  have hmpos : 0 < m := by
    rcases Nat.eq_zero_or_pos m with h0 | h0
    · subst h0; simp at hj
    · exact h0
  cases ob with
  | none => exact absurd (g4 rfl) (by omega)
  | some b =>
    have hqe : q = some ⟨b, lo * sz, none⟩ := by rw [hq (by omega)]; simp
    subst hqe
    obtain ⟨cs, T, hw, hcs, hvs⟩ := hblk b rfl
    refine ⟨_, rfl, ?_⟩
    rw [List.getElem?_take] at hj
    split at hj
    · rw [List.getElem?_drop, hvs, List.getElem?_take] at hj
      split at hj
      · rw [addr_add_lit]
        simp [World.cell?, hw]
        simpa using hj
      · cases hj
    · cases hj
section
variable {P : Program} {N : Nm} {σ : Env} {hs : Hp} {d : Option Tmp} {ty : TypeId} {pos : String} {af : Array Edge} {g : Option (Nat × Bool)}
theorem copy_op {t t2 : Nat} {x y : Operand} {a : Act} {w w' : World} {v u : Value} (hx : a.eval x = v) (hy : a.eval y = u) {r : Value} (h : (Builtin.copy_ #[t, t2] ty #[v, u]).run P w = .ok r w') :
    (execOp a.eval ⟨d, .call ⟨.builtin .copy, #[x, y], #[t, t2]⟩, ty, pos, af, g⟩).run P w = .ok (.value r) w' := by
  rw [builtin_run]
  simp [builtin, hx, hy, h]
theorem firstCells_src {κ : Kap} {w : World} {v : Value} {sz L : Nat} {rows : List (List D)} (h : Src κ hs w v sz L rows) (hz : 0 < sz) :
    ∃ vs, (Builtin.firstCells sz rows.length v).run P w = .ok vs.toArray w ∧ (Builtin.lenOf v).run P w = .ok L w ∧ Lined w (Own κ hs) sz rows vs := by
  obtain ⟨p, c, vs, rfl, hl, hc, hr, ho⟩ := h
  refine ⟨vs, ?_, by simp [Builtin.lenOf], hl⟩
  cases p with
  | none =>
    have hv0 : vs = [] := by
      cases vs with
      | nil => rfl
      | cons u vs => obtain ⟨ad, h, _⟩ := hc 0 u rfl; cases h
    subst hv0
    have h0 : rows.length = 0 := by
      have h1 := hl.1
      simp only [List.length_nil] at h1
      rcases Nat.mul_eq_zero.1 h1.symm with h | h <;> omega
    rw [h0]
    simp [Builtin.firstCells]
  | some ad =>
    exact run_firstCells_some w sz rows.length ad L c vs hl.1 fun j u hj => by
      obtain ⟨ad', h1, h2⟩ := hc j u hj
      obtain rfl := Option.some.inj h1
      exact h2
theorem L.copy0 {t t2 id lo n sz k : Nat} {rows rows2 : List (List D)} {x y : Operand} {L : Nat} (ht : tSl P t = some sz) (hx : oev σ x = .vs id lo n sz) (hk : hs[k]? = some (id, .lst sz rows)) (hlo : lo ≤ rows.length)
    (hs2 : ∀ κ w, HS κ w hs → ∀ v, RepA κ w (Own κ hs) v (oev σ y) → Src κ hs w v sz L rows2) (hm : min L n = rows2.length) (hd : dstOk N d = true) :
    Loud P N σ hs ⟨d, .call ⟨.builtin .copy, #[x, y], #[t, t2]⟩, ty, pos, af, g⟩ (fun σ' hs' => σ' = putE d (.d (.int .i64 (rows2.length : Nat))) σ ∧ hs' = hs.set k (id, .lst sz (rows.take lo ++ rows2 ++ rows.drop (lo + rows2.length)))) := by
  intro κ a w s K Q hK
  obtain ⟨e, inf, hu, hi, rfl⟩ := tSl_spec ht
  have hx1 := s.oev x; rw [hx] at hx1
  obtain ⟨ob, cap, p, hκ, hle, hp, hv⟩ := hx1.vs_inv
  have hsrc := hs2 κ w s.heap _ (s.oev y)
  obtain ⟨yy, hyy, hok⟩ := s.heap.ok id _ (List.mem_of_getElem? hk)
  rw [hκ] at hyy
  obtain rfl := Option.some.inj hyy
  obtain ⟨g0, g0', g1, g2, g3, g4, g5⟩ := hok
  obtain ⟨vs, f1, f2, hl⟩ := firstCells_src (P := P) hsrc g1
  obtain ⟨_, _, _, _, _, _, hr2, ho2⟩ := hsrc
  have hmin : Nat.min L n = rows2.length := hm
  by_cases h0 : rows2.length = 0
  · have hr0 : rows2 = [] := List.eq_nil_of_length_eq_zero h0
    subst hr0
    have hv0 : vs = [] := List.eq_nil_of_length_eq_zero (by rw [hl.1]; simp)
    subst hv0
    have hset : hs.set k (id, HO.lst inf.size (rows.take lo ++ [] ++ rows.drop (lo + ([] : List (List D)).length))) = hs := by
      simp only [List.append_nil, List.length_nil, Nat.add_zero, List.take_append_drop]
      refine List.ext_getElem? fun j => ?_
      rw [List.getElem?_set]
      split
      · subst_vars; split
        · exact hk.symm
        · rename_i h; exact absurd (List.getElem?_eq_some_iff.1 hk).1 h
      · rfl
    have hrun : (Builtin.copy_ #[t, t2] ty #[.slice p n (cap - lo), a.eval y]).run P w = .ok (goInt 0) w := by
      simp only [List.length_nil] at f1 hmin
      cases p <;> simp [Builtin.copy_, run_underlying hu, size_run hi, f2, hmin, f1, storeCells]
    unfold oWp
    rw [copy_op hv rfl hrun]
    exact hK κ _ w _ _ (s.putO (.refl _ _ _) s.heap hd (.d (.int _ _))) (.refl _ _ _) ⟨rfl, hset.symm⟩
  · have hpos : 0 < cap - lo := by have := Nat.min_le_right L n; omega
    cases ob with
    | none => exact absurd (g4 rfl) (by omega)
    | some b =>
      have hpe : p = some ⟨b, lo * inf.size, none⟩ := by rw [hp (by omega)]; simp
      subst hpe
      obtain ⟨w', hst, h5, e5⟩ := write_rows (P := P) s.heap hk hκ hl hr2 ho2 hlo (by have := Nat.min_le_right L n; omega)
      have hrun : (Builtin.copy_ #[t, t2] ty #[.slice (some ⟨b, lo * inf.size, none⟩) n (cap - lo), a.eval y]).run P w = .ok (goInt rows2.length) w' := by
        simp [Builtin.copy_, run_underlying hu, size_run hi, f2, hmin, f1, hst]
      unfold oWp
      rw [copy_op hv rfl hrun]
      exact hK κ _ w' _ _ (s.putO e5 h5 hd (.d (.int _ _))) e5 ⟨rfl, rfl⟩
theorem L.copy_own {t t2 id lo n sz k k2 id2 lo2 LL : Nat} {rows rows2 : List (List D)} {x y : Operand} (m : Nat) (ht : tSl P t = some sz) (hx : oev σ x = .vs id lo n sz) (hk : hs[k]? = some (id, .lst sz rows)) (hlo : lo ≤ rows.length)
    (hy : oev σ y = .vs id2 lo2 LL sz) (hk2 : hs[k2]? = some (id2, .lst sz rows2)) (hm : min LL n = m) (hlo2 : lo2 + m ≤ rows2.length) (hd : dstOk N d = true) :
    Loud P N σ hs ⟨d, .call ⟨.builtin .copy, #[x, y], #[t, t2]⟩, ty, pos, af, g⟩ (fun σ' hs' => σ' = putE d (.d (.int .i64 (m : Nat))) σ ∧ hs' = hs.set k (id, .lst sz (rows.take lo ++ (rows2.drop lo2).take m ++ rows.drop (lo + m)))) := by
  have hlen : ((rows2.drop lo2).take m).length = m := by rw [List.length_take, List.length_drop]; omega
  have := L.copy0 (P := P) (N := N) (d := d) (ty := ty) (pos := pos) (af := af) (g := g) (t2 := t2) (rows2 := (rows2.drop lo2).take m) (L := LL) ht hx hk hlo
    (fun κ w h v hv => src_own h (by rw [hy] at hv; exact hv) hk2 hlo2) (by rw [hlen]; exact hm) hd
  rwa [hlen] at this
theorem L.cap {dd : Tmp} {t id n sz k : Nat} {rows : List (List D)} {x : Operand} (ht : isSl P t = true) (hx : oev σ x = .vs id 0 n sz) (hk : hs[k]? = some (id, .lst sz rows)) (hd : Nat.blt dd N.n = true) :
    Loud P N σ hs ⟨some dd, .call ⟨.builtin .cap, #[x], #[t]⟩, ty, pos, af, g⟩ (fun σ' hs' => ∃ idc c : Nat, (n ≤ c ∧ c ≤ maxLen) ∧ σ' = (dd, .d (.int .i64 (c : Nat))) :: σ ∧ hs' = (idc, .cap id c) :: hs) := by
  intro κ a w s K Q hK
  obtain ⟨e, hu⟩ := isSl_spec ht
  have hx1 := s.oev x; rw [hx] at hx1
  obtain ⟨ob, cap, p, hκ, hle, hp, hv⟩ := hx1.vs_inv
  obtain ⟨yy, hyy, hok⟩ := s.heap.ok id _ (List.mem_of_getElem? hk)
  rw [hκ] at hyy
  obtain rfl := Option.some.inj hyy
  obtain ⟨idc, κ', h1, e1⟩ := s.heap.noneO (.cap id cap) (fun κ' O hk => ⟨rfl, ob, hk _ _ hκ⟩)
  have hrun : (execOp a.eval ⟨some dd, .call ⟨.builtin .cap, #[x], #[t]⟩, ty, pos, af, g⟩).run P w = .ok (.value (.int .i64 (cap : Nat))) w := by
    rw [builtin_run]
    simp [builtin, hv, Builtin.cap_, run_underlying hu, goInt]
  unfold oWp
  rw [hrun]
  exact hK κ' _ w _ _ (s.put e1 h1 (by simpa [Nat.blt_eq] using hd) (.d (.int _ _))) e1 ⟨idc, cap, ⟨by omega, hok.2.1⟩, rfl, rfl⟩
theorem Q.cut_cap {t sz id idc c n kk : Nat} {x : Operand} {lo hi : Option Operand} {i j : Int} (ht : tSl P t = some sz) (hx : oev σ x = .vs id 0 n sz) (hk : hs[kk]? = some (idc, .cap id c)) (hl : OI σ lo 0 i) (hh : OI σ hi n j)
    (h0 : 0 ≤ i) (h1 : i ≤ j) (h2 : j ≤ c) : Quiet P N σ hs ⟨d, .slice t x lo hi none, ty, pos, af, g⟩ (.vs id i.toNat (j.toNat - i.toNat) sz) :=
  .of_run fun κ a w s => by
    have h3 := s.oev x; rw [hx] at h3
    obtain ⟨e, inf, hu, hin, rfl⟩ := tSl_spec ht
    obtain ⟨ob, cap, p, hκ, hle, hp, hv⟩ := h3.vs_inv
    obtain ⟨y, hy, _, ob', hκ'⟩ := s.heap.ok idc _ (List.mem_of_getElem? hk)
    rw [hκ] at hκ'
    obtain ⟨rfl, rfl⟩ := Prod.mk.inj (Option.some.inj hκ')
    have hb := bounds_run (P := P) s true (len := n) (cap := cap - 0) hl hh h0 h1 (by omega)
    refine ⟨.slice (if cap - 0 = i.toNat then p else p.map (·.add (i.toNat * inf.size))) (j.toNat - i.toNat) (cap - 0 - i.toNat), ?_, ?_⟩
    · rw [show execOp a.eval ⟨d, .slice t x lo hi none, ty, pos, af, g⟩ = (do pure (.value (← Instr.sliceAt t (a.eval x) (lo.map a.eval) (hi.map a.eval) (Option.map a.eval none)))) from rfl, hv, Sem.run_bind]
      simp only [Option.map_none]
      rw [sliceAt_run hu hin hb]
      rfl
    · rw [Nat.sub_zero]
      refine .vs ob cap _ id _ _ _ hκ (by omega) fun hlt => ?_
      have hne : ¬ cap = i.toNat := by omega
      rw [if_neg hne, hp (by omega)]
      cases ob with
      | none => rfl
      | some b => simp only [Option.map_some, addr_add_lit, Nat.zero_mul, Nat.zero_add]
theorem L.app_mk2 {dd : Tmp} {t t2 sz bytes i m id idc c n k kk : Nat} {z : List Value} {zd : List D} {rows : List (List D)} {x y : Operand} {kl kn : IntKind} (ht : tApp P t = some (sz, bytes)) (hz : tZrow P t = some z) (hzd : cellsD z = some zd) (ht2 : tInt P t2 = some kn)
    (hx : oev σ x = .vs id 0 i sz) (hk : hs[k]? = some (id, .lst sz rows)) (hi : i ≤ rows.length) (hkc : hs[kk]? = some (idc, .cap id c)) (hy : oev σ y = .d (.int kl n)) (hn : n = m)
    (h0 : 0 < m) (hg : c < i + m) (hb : (i + m) * bytes ≤ 140737488355328) (hd : Nat.blt dd N.n = true) :
    Loud P N σ hs ⟨some dd, .call ⟨.builtin .append, #[x, y], #[t, t2]⟩, ty, pos, af, g⟩ (fun σ' hs' => ∃ id', σ' = (dd, .vs id' 0 (i + m) sz) :: σ ∧ hs' = (id', .lst sz (rows.take i ++ List.replicate m zd)) :: hs) := by
  intro κ a w s K Q hK
  subst hn
  have hdN : dd < N.n := by simpa [Nat.blt_eq] using hd
  obtain ⟨e, inf, zv, hu, hin, hzv, h1, h2, h3, hsz, hbb⟩ := tApp_spec ht
  have hx1 := s.oev x; rw [hx] at hx1
  have hy1 := s.oev y; rw [hy] at hy1
  have hzc : z = zv.cells.toList := by
    unfold tZrow at hz
    rw [hu] at hz
    obtain ⟨i', hi', hz'⟩ := Option.bind_eq_some_iff.1 hz
    rw [hin] at hi'
    obtain rfl := Option.some.inj hi'
    obtain ⟨q, hq, rfl⟩ := Option.map_eq_some_iff.1 hz'
    rw [hzv] at hq
    rw [← Option.some.inj hq]
  obtain ⟨s1, e1⟩ := s.heap.drew (w.drawn + 1) (Nat.le_succ _)
  have s1' : HS κ w.drew hs := s1
  have hsrc := src_own s1' (m := i) (hx1.ext e1) hk (by omega)
  obtain ⟨ob, cap, p, hκ, hle, hp, hv⟩ := hx1.vs_inv
  obtain ⟨yy, hyy, _, ob', hκ'⟩ := s.heap.ok idc _ (List.mem_of_getElem? hkc)
  rw [hκ] at hκ'
  obtain ⟨rfl, rfl⟩ := Prod.mk.inj (Option.some.inj hκ')
  have hlen : ((rows.drop 0).take i).length = i := by rw [List.drop_zero, List.length_take]; omega
  obtain ⟨olds, f1, f2, hl⟩ := firstCells_src (P := P) hsrc hsz
  rw [hlen] at f1
  obtain ⟨_, _, _, _, _, _, hr2, ho2⟩ := hsrc
  rw [List.drop_zero] at hl hr2 ho2
  rw [hv] at f1
  have hnb : n ≤ 140737488355328 ∧ i ≤ 140737488355328 := by have := Nat.mul_le_mul_left (i + n) hbb; omega
  subst h1
  subst h2
  have hrun := Lib.run_append_grow_zeros (P := P) w t t2 ty e inf zv kl kn hu (tInt_spec ht2) hin hzv p i (cap - 0) olds f1 n h0 hsz (by omega) (by omega) (by have := Nat.mul_le_mul_right inf.bytes (show n ≤ i + n by omega); omega) (growslice_fits (by omega) hb)
  have hzf : Filled w.drew (Own κ hs) zv.cells zd := by
    have := cellsD_rep w.drew (Own κ hs) _ zd hzd
    rw [hzc] at this
    simpa using this
  have hzl := zero_lined hzf h3 hsz n
  have hzlen : zd.length = inf.size := by rw [← hzf.1]; exact h3
  have hrr : ∀ r ∈ rows.take i ++ List.replicate n zd, r.length = inf.size := fun r hr => (List.mem_append.1 hr).elim (hr2 r) fun hr => by rw [List.eq_of_mem_replicate hr]; exact hzlen
  have hoo : ∀ r ∈ rows.take i ++ List.replicate n zd, ∀ x ∈ r, x.one = true := fun r hr => (List.mem_append.1 hr).elim (ho2 r) fun hr => by rw [List.eq_of_mem_replicate hr]; exact hzf.2.1
  have hall := hl.append hzl hr2
  have hlt : (rows.take i ++ List.replicate n zd).length = i + n := by rw [List.length_append, List.length_take, List.length_replicate]; omega
  have hback : Lined w (Own κ hs) inf.size (rows.take i ++ List.replicate n zd) (olds ++ (Builtin.zeroCells zv.cells n).toList) := hall.mono fun v x hx => hx.mono (fun _ _ h => h) (fun _ _ _ => rfl)
  obtain ⟨id', κ', h6, e6, hκ6⟩ := new_lst s.heap (cap := grownCap w (i + n) (cap - 0) e) (rest := (Builtin.zeroCells zv.cells (grownCap w (i + n) (cap - 0) e - (i + n))).toList) e hsz hback hrr hoo (by rw [hlt]; exact grownCap_ge w _ _ e) (grownCap_le_maxLen w _ _ e (by simp only [maxLen]; omega)) (by rw [Array.length_toList, size_zeroCells, h3, hlt])
  have hcells : ((olds ++ (Builtin.zeroCells zv.cells n).toList) ++ (Builtin.zeroCells zv.cells (grownCap w (i + n) (cap - 0) e - (i + n))).toList).toArray = olds.toArray ++ Builtin.zeroCells zv.cells n ++ Builtin.zeroCells zv.cells (grownCap w (i + n) (cap - 0) e - (i + n)) := by
    apply Array.ext'; simp
  rw [hcells] at h6 e6
  unfold oWp
  rw [app_op2 hv hy1.int_inv hrun]
  refine hK κ' _ _ _ _ (s.put e6 h6 hdN ?_) e6 ⟨id', rfl, rfl⟩
  have := RepA.vs (κ := κ') (w := w.drew.alloc (.cells (olds.toArray ++ Builtin.zeroCells zv.cells n ++ Builtin.zeroCells zv.cells (grownCap w (i + n) (cap - 0) e - (i + n))) e)) (O := Own κ' ((id', HO.lst inf.size (rows.take i ++ List.replicate n zd)) :: hs)) (some w.heap.size) (grownCap w (i + n) (cap - 0) e) (some ⟨w.heap.size, 0, none⟩) id' 0 (i + n) inf.size hκ6 (by have := grownCap_ge w (i + n) (cap - 0) e; omega) (fun _ => by simp)
  simpa using this
end
end Go.Proofs.YtaegeaajhbfkgaaGreatDoorA
/- Functions of the model's own: comparing strings, overlapping slices, a byte in a string; lists of one element as one's own. -/
namespace Go.Proofs.YtaegeaajhbfkgaaGreatDoorA
open Go
set_option linter.unusedVariables false
set_option linter.unusedSimpArgs false
section
variable {P : Program} {N : Nm} {σ : Env} {hs : Hp} {d : Option Tmp} {ty : TypeId} {pos : String} {af : Array Edge} {g : Option (Nat × Bool)}
theorem Q.ext {x : Operand} {args : Array Operand} {tys : Array TypeId} {f : FuncId} {xs : List AV} {v : AV} {e : Array Value → Sem Value} (hx : oev σ x = .fn f []) (he : ∀ args w, (callFunc f args).run P w = ((e args).run P w).andThen fun v w' => .ok (.value v) w')
    (ha : args.toList.map (oev σ) = xs)
    (h : ∀ κ w vals, HS κ w hs → vals.size = xs.length → (∀ (i : Nat) (v : Value) (x : AV), vals[i]? = some v → xs[i]? = some x → RepA κ w (Own κ hs) v x) → ∃ u, (e vals).run P w = .ok u w ∧ RepA κ w (Own κ hs) u v) :
    Quiet P N σ hs ⟨d, .call ⟨.value x, args, tys⟩, ty, pos, af, g⟩ v := by
  intro κ a w s K Q hK
  have hx1 := s.oev x; rw [hx] at hx1
  obtain ⟨cs, hv, h1, h2⟩ := hx1.fn_inv
  have hcs : cs = #[] := Array.eq_empty_of_size_eq_zero (by simpa using h1)
  subst hcs
  obtain ⟨h3, h4⟩ := args_rep s (args := args) (caps := []) (cs := #[]) rfl (fun i v x hi => by simp at hi)
  rw [List.append_nil, ha] at h3 h4
  rw [Array.append_empty] at h3 h4
  obtain ⟨u, h5, h6⟩ := h κ w _ s.heap h3 h4
  have hrun : (execOp a.eval ⟨d, .call ⟨.value x, args, tys⟩, ty, pos, af, g⟩).run P w = .ok (.value u) w := by
    simp [execOp, resolve, invoke, hv, Deferred.ofValue, he, h5]
  unfold oWp
  rw [hrun]
  exact hK κ w u s.heap (.refl _ _ _) h6
theorem two_vals {vals : Array Value} (h : vals.size = 2) : ∃ u v, vals = #[u, v] := by
  refine ⟨vals[0], vals[1], ?_⟩
  apply Array.ext
  · exact h
  · intro i hi hi'
    have h01 : i = 0 ∨ i = 1 := by omega
    rcases h01 with h | h
    · subst h; rfl
    · subst h; rfl
def cmpB (a b : ByteArray) : Int := Lib.compareBytes a.data.toList b.data.toList
theorem Q.cmpstr {x y z : Operand} {tys : Array TypeId} {f : FuncId} {a b : ByteArray} (hx : oev σ x = .fn f []) (he : ∀ args w, (callFunc f args).run P w = ((Extern.BytealgCompare.compare args).run P w).andThen fun v w' => .ok (.value v) w')
    (hy : oev σ y = .d (.str a)) (hz : oev σ z = .d (.str b)) : Quiet P N σ hs ⟨d, .call ⟨.value x, #[y, z], tys⟩, ty, pos, af, g⟩ (.d (.int .i64 (cmpB a b))) :=
  Q.ext (xs := [.d (.str a), .d (.str b)]) hx he (by simp [hy, hz]) fun κ w vals h h1 h2 => by
    obtain ⟨u, v, rfl⟩ := two_vals h1
    obtain rfl := (h2 0 u _ rfl rfl).str_inv
    obtain rfl := (h2 1 v _ rfl rfl).str_inv
    exact ⟨_, Lib.run_compareString a b w, .d (.int _ _)⟩
theorem Q.overlaps {x y z : Operand} {tys : Array TypeId} {f : FuncId} {tS tR sz id id2 lo lo2 n n2 k k2 : Nat} {rows rows2 : List (List D)} (ht : tSl P tS = some sz) (hx : oev σ x = .fn f [])
    (he : ∀ args w, (callFunc f args).run P w = ((Extern.SlicesOverlaps.overlaps #[tS, tS] #[tR] args).run P w).andThen fun v w' => .ok (.value v) w')
    (hy : oev σ y = .vs id lo n sz) (hz : oev σ z = .vs id2 lo2 n2 sz) (hk : hs[k]? = some (id, .lst sz rows)) (hk2 : hs[k2]? = some (id2, .lst sz rows2)) (hne : k ≠ k2) (h0 : 0 < n) (h1 : 0 < n2) :
    Quiet P N σ hs ⟨d, .call ⟨.value x, #[y, z], tys⟩, ty, pos, af, g⟩ (.d (.bool false)) :=
  Q.ext (xs := [.vs id lo n sz, .vs id2 lo2 n2 sz]) hx he (by simp [hy, hz]) fun κ w vals h h3 h4 => by
    obtain ⟨u, v, rfl⟩ := two_vals h3
    obtain ⟨ob, cap, p, hκ, hle, hp, rfl⟩ := (h4 0 u _ rfl rfl).vs_inv
    obtain ⟨ob2, cap2, p2, hκ2, hle2, hp2, rfl⟩ := (h4 1 v _ rfl rfl).vs_inv
    obtain ⟨e, inf, hu, hi, rfl⟩ := tSl_spec ht
    have blk : ∀ {id ob cap k : Nat} {o : Option Nat} {rows : List (List D)}, hs[k]? = some (id, .lst inf.size rows) → κ id = some (o, cap) → 0 < cap → ∃ b cs T, o = some b ∧ w.heap[b]? = some (.cells cs T (0, 0)) ∧ cs.size = cap * inf.size ∧ 0 < inf.size := by
      intro id ob cap k o rows hk hκ hc
      obtain ⟨y, hy, hok⟩ := h.ok id _ (List.mem_of_getElem? hk)
      rw [hκ] at hy
      obtain rfl := Option.some.inj hy
      obtain ⟨g0, g0', g1, g2, g3, g4, g5⟩ := hok
      cases o with
      | none => exact absurd (g4 rfl) (by omega)
      | some b => obtain ⟨cs, T, hw, hsz, _⟩ := g5 b rfl; exact ⟨b, cs, T, rfl, hw, hsz, g1⟩
    obtain ⟨b, cs, T, rfl, hw, hcs, hpos⟩ := blk (ob := 0) hk hκ (by omega)
    obtain ⟨b2, cs2, T2, rfl, hw2, hcs2, _⟩ := blk (ob := 0) hk2 hκ2 (by omega)
    have hbb : b ≠ b2 := by
      rintro rfl
      have hid := h.inj id id2 _ _ b cap cap2 (List.mem_of_getElem? hk) (List.mem_of_getElem? hk2) hκ hκ2
      subst hid
      have e1 : (hs.map (·.1))[k]? = some id := by rw [List.getElem?_map, hk]; rfl
      have e2 : (hs.map (·.1))[k2]? = some id := by rw [List.getElem?_map, hk2]; rfl
      exact hne ((List.getElem?_inj (List.getElem?_eq_some_iff.1 e1).1 h.nodup).1 (e1.trans e2.symm))
    have hpe : p = some ⟨b, lo * inf.size, none⟩ := by rw [hp (by omega)]; rfl
    have hpe2 : p2 = some ⟨b2, lo2 * inf.size, none⟩ := by rw [hp2 (by omega)]; rfl
    subst hpe hpe2
    refine ⟨_, Lib.run_overlaps_apart w tS tR e hu inf.size (fun w => size_run hi w) ⟨b, lo * inf.size, none⟩ ⟨b2, lo2 * inf.size, none⟩ n (cap - lo) n2 (cap2 - lo2) hbb T T2 cs.size cs2.size ?_ ?_ ?_ ?_ ?_, .d (.bool _)⟩
    · simp [World.shape?, hw]
    · simp [World.shape?, hw2]
    · rw [hcs2]; have := Nat.mul_le_mul_right inf.size (show 1 ≤ cap2 by omega); omega
    · simp [World.frozen?, hw]
    · simp [World.frozen?, hw]
theorem L.bslo {dd : Tmp} {t sz len : Nat} {z : List Value} {zd l : List D} {rows : List (List D)} {parts : Array (Nat × Operand)} (ht : tSl P t = some sz) (hsz : 0 < sz) (hz : tZrow P t = some z) (hzl : z.length = sz) (hzd : cellsD z = some zd)
    (hlen : len * sz ≤ 16777216) (hf : afill (fun i => some (i * sz, sz)) (zeroList zd len) (parts.toList.map fun p => (p.1, oev σ p.2)) = some l) (hrows : chop sz len l = rows) (hd : Nat.blt dd N.n = true) :
    Loud P N σ hs ⟨some dd, .buildSlice t len parts, ty, pos, af, g⟩ (fun σ' hs' => ∃ id, σ' = (dd, .vs id 0 len sz) :: σ ∧ hs' = (id, .lst sz rows) :: hs) := by
  intro κ a w s K Q hK
  have hdN : dd < N.n := by simpa [Nat.blt_eq] using hd
  obtain ⟨e, inf, hu, hi, rfl⟩ := tSl_spec ht
  unfold tZrow at hz
  rw [hu] at hz
  obtain ⟨inf', hi', hz⟩ := Option.bind_eq_some_iff.1 hz
  rw [hi] at hi'
  obtain rfl := Option.some.inj hi'
  obtain ⟨zv, hzv, rfl⟩ := Option.map_eq_some_iff.1 hz
  obtain ⟨h1, h2⟩ := parts_rep s parts
  have hzs : zv.cells.size = inf.size := by rw [← Array.length_toList]; exact hzl
  have hzf : Filled w (Own κ hs) ((Array.range (len * inf.size)).map (fun i => zv.cells[i % zv.cells.size]!)) (zeroList zd len) := by
    have := zero_filled (cellsD_rep w (Own κ hs) _ zd hzd) (by simpa [hzs] using hsz) len
    simpa [hzs] using this
  obtain ⟨cs', h3, f1, f2, f3⟩ := fill_run _ _ _ _ l h1 h2 hzf hf
  have hl : l.length = len * inf.size := by
    have key : ∀ (parts : List (Nat × AV)) (l₀ l : List D), afill (fun i => some (i * inf.size, inf.size)) l₀ parts = some l → l.length = l₀.length := by
      intro parts
      induction parts with
      | nil => intro l₀ l h; simp [afill] at h; rw [h]
      | cons p parts ih =>
        intro l₀ l h
        obtain ⟨i, x⟩ := p
        simp only [afill] at h
        cases hd : dcells x with
        | none => simp [hd] at h
        | some ds =>
          simp only [hd] at h
          cases hb : Nat.beq ds.length inf.size && Nat.ble (i * inf.size + inf.size) l₀.length with
          | false => simp [hb] at h
          | true =>
            simp only [hb] at h
            have hb2 := Bool.and_eq_true_iff.1 hb
            have e1 : ds.length = inf.size := Nat.eq_of_beq_eq_true hb2.1
            have e2 : i * inf.size + inf.size ≤ l₀.length := Nat.le_of_ble_eq_true hb2.2
            rw [ih _ _ h]; simp; omega
    rw [key _ _ _ hf, ← hzf.1]; simp
  have hget : ∀ (i j : Nat) (r : List D) (x : D), rows[i]? = some r → r[j]? = some x → j < inf.size ∧ l[i * inf.size + j]? = some x := by
    intro i j r x hi hj
    rw [← hrows] at hi
    obtain ⟨rfl, _⟩ := chop_get _ _ _ _ _ hi
    rw [List.getElem?_take] at hj
    split at hj
    · rw [List.getElem?_drop] at hj; exact ⟨by assumption, hj⟩
    · cases hj
  have hln : len ≤ 16777216 := by have := Nat.mul_le_mul_left len (show 1 ≤ inf.size from hsz); omega
  have hrun : (execOp a.eval ⟨some dd, .buildSlice t len parts, ty, pos, af, g⟩).run P w = .ok (.value (.slice (some ⟨w.heap.size, 0, none⟩) len len)) (w.alloc (.cells cs' e)) := by
    rw [show execOp a.eval ⟨some dd, .buildSlice t len parts, ty, pos, af, g⟩ = (do pure (.value (← Instr.buildSlice t len (parts.map fun (i, x) => (i, a.eval x))))) from rfl, Sem.run_bind]
    have hb : (Instr.buildSlice t len (parts.map fun (i, x) => (i, a.eval x))).run P w = .ok (.slice (some ⟨w.heap.size, 0, none⟩) len len) (w.alloc (.cells cs' e)) := by
      have hzr : (zeroValue e).run P w = .ok zv w := by simp [zeroValue, typeInfo, hi, hzv]
      simp only [Instr.buildSlice, Sem.run_bind, run_underlying hu, Result.andThen_ok, size_run hi]
      rw [if_neg (by simpa using hlen)]
      by_cases hl0 : len * inf.size = 0
      · have hlen0 : len = 0 := by rcases Nat.mul_eq_zero.1 hl0 with h | h <;> omega
        subst hlen0
        simp only [Nat.zero_mul, if_true, Sem.run_pure, Result.andThen_ok, Sem.run_bind] at h3 ⊢
        have h4 : (Array.range 0).map (fun i => (#[] : Array Value)[i % (#[] : Array Value).size]!) = (Array.range 0).map (fun i => zv.cells[i % zv.cells.size]!) := by simp
        rw [h4]
        rw [h3]
        simp [newRow_run]
      · rw [if_neg hl0]
        simp only [Sem.run_bind, hzr, Result.andThen_ok, Sem.run_pure]
        rw [h3]
        simp [newRow_run]
    rw [hb]; rfl
  obtain ⟨id, κ', g1, g2, hk⟩ := s.heap.alloc cs' e (.lst inf.size rows) len fun κ' id hk O hA hD => by
    refine ⟨by rw [← hrows, chop_length]; exact Nat.le_refl _, by simp only [maxLen]; omega, hsz, fun r hr => ?_, fun r hr x hx => ?_, (fun h => by cases h), fun b hb => ?_⟩
    · obtain ⟨i, hi⟩ := List.getElem?_of_mem hr
      rw [← hrows] at hi
      obtain ⟨rfl, hlt⟩ := chop_get _ _ _ _ _ hi
      have := Nat.mul_le_mul_right inf.size (show i + 1 ≤ len from hlt)
      rw [Nat.succ_mul] at this
      simp; omega
    · obtain ⟨i, hi⟩ := List.getElem?_of_mem hr
      obtain ⟨j, hj⟩ := List.getElem?_of_mem hx
      exact f2 x (List.mem_of_getElem? (hget i j r x hi hj).2)
    · obtain rfl := Option.some.inj hb
      refine ⟨cs', e, heap_alloc_new w _, by rw [f1, hl], fun i j r x hi hj => ?_⟩
      obtain ⟨_, hg⟩ := hget i j r x hi hj
      have hlt : i * inf.size + j < cs'.size := by rw [f1]; exact (List.getElem?_eq_some_iff.1 hg).1
      exact ⟨_, Array.getElem?_eq_getElem hlt, hD _ _ (f3 _ _ x (Array.getElem?_eq_getElem hlt) hg)⟩
  unfold oWp
  rw [hrun]
  refine hK κ' _ _ _ _ (s.put g2 g1 hdN ?_) g2 ⟨id, rfl, rfl⟩
  have := RepA.vs (κ := κ') (w := w.alloc (.cells cs' e)) (O := Own κ' ((id, HO.lst inf.size rows) :: hs)) (some w.heap.size) len (some ⟨w.heap.size, 0, none⟩) id 0 len inf.size hk (by omega) (fun _ => by simp)
  simpa using this
end
end Go.Proofs.YtaegeaajhbfkgaaGreatDoorA
/- The order of strings; shifts of counts; a search by halves on plain lists. -/
namespace Go.Proofs.YtaegeaajhbfkgaaGreatDoorA
open Go
set_option linter.unusedVariables false
set_option linter.unusedSimpArgs false
theorem u8_not {x y : UInt8} (h : ¬ x < y) : y.toNat ≤ x.toNat := Nat.le_of_not_lt fun h2 => h (UInt8.lt_iff_toNat_lt.2 h2)
theorem cmpL_zero : ∀ a b : List UInt8, Lib.compareBytes a b = 0 ↔ a = b
  | [], [] => by simp [Lib.compareBytes]
  | [], _ :: _ => by simp [Lib.compareBytes]
  | _ :: _, [] => by simp [Lib.compareBytes]
  | x :: a, y :: b => by
    unfold Lib.compareBytes
    by_cases h : x < y
    · rw [if_pos h]
      refine ⟨fun h => by omega, fun he => ?_⟩
      obtain ⟨rfl, _⟩ := List.cons.inj he
      exact absurd h (by simp)
    · rw [if_neg h]
      by_cases h2 : y < x
      · rw [if_pos h2]
        refine ⟨fun h => by omega, fun he => ?_⟩
        obtain ⟨rfl, _⟩ := List.cons.inj he
        exact absurd h2 (by simp)
      · rw [if_neg h2, cmpL_zero a b]
        have hxy : x = y := by
          have h3 := u8_not h
          have h4 := u8_not h2
          exact UInt8.toNat_inj.1 (by omega)
        rw [hxy]; simp
theorem cmpL_anti : ∀ a b : List UInt8, Lib.compareBytes b a = - Lib.compareBytes a b
  | [], [] => rfl
  | [], _ :: _ => rfl
  | _ :: _, [] => rfl
  | x :: a, y :: b => by
    unfold Lib.compareBytes
    by_cases h : x < y
    · rw [if_pos h, if_neg (by intro h2; exact absurd h (by have := UInt8.lt_iff_toNat_lt.1 h2; intro h3; have := UInt8.lt_iff_toNat_lt.1 h3; omega)), if_pos h]; rfl
    · rw [if_neg h]
      by_cases h2 : y < x
      · simp [h, h2]
      · simp [h, h2, cmpL_anti a b]
theorem cmpL_trans : ∀ a b c : List UInt8, Lib.compareBytes a b < 0 → Lib.compareBytes b c < 0 → Lib.compareBytes a c < 0
  | [], [], _, h, _ => by simp [Lib.compareBytes] at h
  | [], _ :: _, [], _, h => by simp [Lib.compareBytes] at h
  | [], _ :: _, _ :: _, _, _ => by simp [Lib.compareBytes]
  | _ :: _, [], _, h, _ => by simp [Lib.compareBytes] at h
  | _ :: _, _ :: _, [], _, h => by simp [Lib.compareBytes] at h
  | x :: a, y :: b, z :: c, h, k => by
    unfold Lib.compareBytes at h k ⊢
    by_cases h1 : x < y
    · have e1 := UInt8.lt_iff_toNat_lt.1 h1
      by_cases h2 : y < z
      · have e2 := UInt8.lt_iff_toNat_lt.1 h2
        rw [if_pos (UInt8.lt_iff_toNat_lt.2 (by omega))]; omega
      · rw [if_neg h2] at k
        by_cases h3 : z < y
        · rw [if_pos h3] at k; omega
        · have e2 := u8_not h2
          have e3 := u8_not h3
          rw [if_pos (UInt8.lt_iff_toNat_lt.2 (by omega))]; omega
    · rw [if_neg h1] at h
      by_cases h3 : y < x
      · rw [if_pos h3] at h; omega
      · rw [if_neg h3] at h
        have e1 := u8_not h1
        have e3 := u8_not h3
        obtain rfl : x = y := UInt8.toNat_inj.1 (by omega)
        by_cases h2 : x < z
        · rw [if_pos h2]; omega
        · rw [if_neg h2] at k ⊢
          by_cases h4 : z < x
          · rw [if_pos h4] at k; omega
          · rw [if_neg h4] at k ⊢
            exact cmpL_trans a b c h k
theorem cmpB_zero (a b : ByteArray) : cmpB a b = 0 ↔ a = b := by
  unfold cmpB
  rw [cmpL_zero]
  refine ⟨fun h => ?_, fun h => by rw [h]⟩
  exact toList_inj (by rw [ByteArray.toList_eq, ByteArray.toList_eq, h])
theorem cmpB_anti (a b : ByteArray) : cmpB b a = - cmpB a b := cmpL_anti _ _
theorem cmpB_trans {a b c : ByteArray} (h : cmpB a b < 0) (k : cmpB b c < 0) : cmpB a c < 0 := cmpL_trans _ _ _ h k
theorem cmpB_self (a : ByteArray) : cmpB a a = 0 := (cmpB_zero a a).2 rfl
theorem less_cmpL : ∀ a b : List UInt8, Op.bytesLess a b = decide (Lib.compareBytes a b < 0)
  | [], [] => by simp [Op.bytesLess, Lib.compareBytes]
  | [], _ :: _ => by simp [Op.bytesLess, Lib.compareBytes]
  | _ :: _, [] => by simp [Op.bytesLess, Lib.compareBytes]
  | x :: a, y :: b => by
    unfold Op.bytesLess Lib.compareBytes
    by_cases h : x < y
    · simp [h]
    · by_cases h2 : y < x
      · have hne : x ≠ y := by rintro rfl; exact absurd h2 (by simp)
        simp [h, h2, hne]
      · have e1 := u8_not h
        have e2 := u8_not h2
        obtain rfl : x = y := UInt8.toNat_inj.1 (by omega)
        simp [h, less_cmpL a b]
theorem less_cmpB (a b : ByteArray) : Op.bytesLess a.toList b.toList = decide (cmpB a b < 0) := by
  rw [ByteArray.toList_eq, ByteArray.toList_eq]; exact less_cmpL _ _
theorem leq_cmpB (a b : ByteArray) : (Op.bytesLess a.toList b.toList || a.toList == b.toList) = decide (cmpB a b ≤ 0) := by
  rw [less_cmpB, show (a.toList == b.toList) = seq a b from rfl]
  by_cases h : a = b
  · subst h; rw [seq_refl, cmpB_self]; simp
  · have h1 : seq a b = false := by
      cases hs : seq a b with
      | false => rfl
      | true => exact absurd ((seq_iff a b).1 hs) h
    have h2 : cmpB a b ≠ 0 := fun h0 => h ((cmpB_zero a b).1 h0)
    rw [h1, Bool.or_false, decide_eq_decide]
    omega
section
variable {P : Program} {N : Nm} {σ : Env} {hs : Hp} {d : Option Tmp} {ty : TypeId} {pos : String} {af : Array Edge} {g : Option (Nat × Bool)}
theorem Q.shr1 {t t' : TypeId} {x y : Operand} {k : IntKind} {n : Nat} (hx : oev σ x = .d (.int .u64 (n : Nat))) (hy : oev σ y = .d (.int k 1)) : Quiet P N σ hs ⟨d, .binOp .shr t x y t', ty, pos, af, g⟩ (.d (.int .u64 ((n / 2 : Nat) : Nat))) :=
  .of_run fun κ a w s => ⟨.int .u64 ((n / 2 : Nat) : Nat), by
    rw [bin_run s hx hy]
    have h2 : (n : Int).fdiv (2 ^ (min (1 : Int).toNat IntKind.u64.bits)) = ((n / 2 : Nat) : Int) := by
      rw [show min (1 : Int).toNat IntKind.u64.bits = 1 from rfl, Int.fdiv_eq_ediv_of_nonneg _ (by decide)]; rfl
    show Result.andThen (Sem.run P (Op.shift .shr .u64 n k 1) w) _ = _
    unfold Op.shift
    rw [if_neg (by decide)]
    dsimp only
    rw [h2]; rfl, .d (.int _ _)⟩
theorem Q.conv_cnt {t t' : TypeId} {x : Operand} {k k' : IntKind} {n : Int} (ht : tInt P t' = some k') (hx : oev σ x = .d (.int k n)) (hs0 : ∃ u, P.underlying t = some u) (h0 : 0 ≤ n) (h1 : n ≤ 9223372036854775807) (hk : k' = .u64 ∨ k' = .i64) :
    Quiet P N σ hs ⟨d, .convert t t' x, ty, pos, af, g⟩ (.d (.int k' n)) := Q.conv_int ht hx hs0 (by
  rcases hk with rfl | rfl
  · show n % 18446744073709551616 = n
    omega
  · exact wi64 (by omega) h1)
end
section
variable {α : Type} (c : α → Int)
def bsK (l : List α) : Nat := (l.takeWhile fun x => decide (c x < 0)).length
def bsF (l : List α) : Bool := match l[bsK c l]? with | some x => decide (c x = 0) | none => false
theorem bsK_le (l : List α) : bsK c l ≤ l.length := by
  unfold bsK
  exact (List.takeWhile_sublist _).length_le
theorem bsK_lt {l : List α} {i : Nat} {x : α} (h : i < bsK c l) (hx : l[i]? = some x) : c x < 0 := by
  have h1 : (l.takeWhile fun x => decide (c x < 0))[i]? = some x := by
    obtain ⟨r, hr⟩ := List.takeWhile_prefix (l := l) (fun x => decide (c x < 0))
    rw [← hr, List.getElem?_append_left h] at hx
    exact hx
  have key : ∀ (l : List α) (x : α), x ∈ l.takeWhile (fun x => decide (c x < 0)) → c x < 0 := fun l => by
    induction l with
    | nil => intro x hx; simp at hx
    | cons y l ih =>
      intro x hx
      rw [List.takeWhile_cons] at hx
      split at hx
      · rename_i hy
        rcases List.mem_cons.1 hx with rfl | hx
        · simpa using hy
        · exact ih x hx
      · cases hx
  exact key l x (List.mem_of_getElem? h1)
theorem bsK_at {l : List α} {x : α} (hx : l[bsK c l]? = some x) : ¬ c x < 0 := by
  unfold bsK at hx
  induction l with
  | nil => simp at hx
  | cons y l ih =>
    rw [List.takeWhile_cons] at hx
    split at hx
    · exact ih (by simpa using hx)
    · rename_i h
      simp at hx
      subst hx
      simpa using h
theorem bsK_eq {l : List α} {k : Nat} (h1 : ∀ (i : Nat) x, i < k → l[i]? = some x → c x < 0) (h2 : ∀ x, l[k]? = some x → ¬ c x < 0) (hk : k ≤ l.length) : bsK c l = k := by
  rcases Nat.lt_trichotomy (bsK c l) k with h | h | h
  · obtain ⟨x, hx⟩ : ∃ x, l[bsK c l]? = some x := ⟨_, List.getElem?_eq_getElem (by omega)⟩
    exact absurd (h1 _ x h hx) (bsK_at c hx)
  · exact h
  · obtain ⟨x, hx⟩ : ∃ x, l[k]? = some x := ⟨_, List.getElem?_eq_getElem (by have := bsK_le c l; omega)⟩
    exact absurd (bsK_lt c h hx) (h2 x hx)
end
end Go.Proofs.YtaegeaajhbfkgaaGreatDoorA

