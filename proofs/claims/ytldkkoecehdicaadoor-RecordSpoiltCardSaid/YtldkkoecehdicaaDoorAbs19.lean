/- Strings as bytes. -/
import Derived.Test.YtldkkoecehdicaaDoorAbs18
import Derived.Lib.ConvBytes
import Derived.Laws.Strings
import Derived.Laws.IdiomStrings
namespace Go.Proofs.YtldkkoecehdicaaDoorA
open Go
set_option linter.unusedVariables false
set_option linter.unusedSimpArgs false

def bE (b : UInt8) : List D := [.int .u8 b.toNat]
def bytesD (s : ByteArray) : D := .sl 1 (s.data.toList.map bE)

def isBytes (P : Program) (t : TypeId) : Bool := match P.underlying t with
  | some (.slice e) => match P.underlying e with | some (.int .u8) => true | _ => false
  | _ => false
theorem isBytes_spec {P : Program} {t : TypeId} (h : isBytes P t = true) : ∃ e, P.underlying t = some (.slice e) ∧ P.underlying e = some (.int .u8) := by
  unfold isBytes at h
  split at h
  · split at h
    · exact ⟨_, by assumption, by assumption⟩
    · cases h
  · cases h

theorem HS.oneMore {κ : Kap} {w w' : World} {hs : Hp} (h : HS κ w hs) (hsz : w.heap.size ≤ w'.heap.size) (hdr : w.drawn ≤ w'.drawn) (ho : w'.os = w.os) (ht : w'.tape = w.tape) (hu : w'.output = w.output)
    (hold : ∀ b, b < w.heap.size → w'.heap[b]? = w.heap[b]?) : HS κ w' hs ∧ Ext κ hs w κ hs w' := by
  have e : Ext κ hs w κ hs w' := ⟨fun _ _ h => h, hsz, hdr, ho, ht, hu, fun b hb _ => hold b hb, fun b _ h => h, fun _ o h => .inl ⟨o, h⟩, SameT.lt hold⟩
  refine ⟨⟨h.nodup, fun id o hi => ?_, h.inj, h.fresh⟩, e⟩
  obtain ⟨x, hx, hok⟩ := h.ok id o hi
  refine ⟨x, hx, hok.ext e fun b hb => hold b (h.block_lt hi (c := x.2) ?_)⟩
  rw [hx, ← hb]

section
variable {P : Program} {N : Nm} {σ : Env} {hs : Hp} {d : Option Tmp} {ty : TypeId} {pos : String} {af : Array Edge} {g : Option (Nat × Bool)}
/-- []byte(s), never to be written. -/
theorem Q.conv_bytes {t t' : TypeId} {x : Operand} {s : ByteArray} (ht : isStr P t = true) (ht' : isBytes P t' = true) (hx : oev σ x = .d (.str s)) :
    Quiet P N σ hs ⟨d, .convert t t' x, ty, pos, af, g⟩ (.d (bytesD s)) := by
  intro κ a w sm K Q hK
  have hx1 := sm.oev x; rw [hx] at hx1
  obtain ⟨e, hu, he⟩ := isBytes_spec ht'
  have hrun : (execOp a.eval ⟨d, .convert t t' x, ty, pos, af, g⟩).run P w = .ok (.value (.slice (some ⟨w.heap.size, 0, none⟩) s.size (grownCap w s.size 0 e))) (Lib.bytesWorld w e s) := by
    rw [show execOp a.eval ⟨d, .convert t t' x, ty, pos, af, g⟩ = (do pure (.value (← convert t t' (a.eval x)))) from rfl, hx1.str_inv, Sem.run_bind,
      Lib.run_convert_string_bytes w t t' e s (isStr_spec ht) hu he]
    rfl
  obtain ⟨h1, e1⟩ := sm.heap.oneMore (w' := Lib.bytesWorld w e s) (by rw [Lib.bytesWorld_size]; omega) (by first | exact Nat.le_refl _ | exact Nat.le_succ _) rfl rfl rfl (fun b hb => Lib.bytesWorld_at_old w e s b hb)
  have hnot : ¬ Own κ hs w.heap.size := fun ⟨id, o, c, hi, hk⟩ => absurd (sm.heap.block_lt hi hk) (Nat.lt_irrefl _)
  unfold oWp
  rw [hrun]
  refine hK κ _ _ h1 e1 (.d (.sl _ _ _ _ _ (fun i j => .int .u8 ((s.data.toList.getD (i * 1 + j) 0).toNat)) (by simp) (by have := grownCap_ge w s.size 0 e; omega) ?_ ?_ ?_ ?_))
  · intro r hr
    obtain ⟨b, _, rfl⟩ := List.mem_map.1 hr
    rfl
  · intro r hr y hy
    obtain ⟨b, _, rfl⟩ := List.mem_map.1 hr
    simp [bE] at hy; subst hy; rfl
  · intro i j r y hi hj
    have hlt : i < s.size := by have := (List.getElem?_eq_some_iff.1 hi).1; simpa using this
    rw [List.getElem?_map] at hi
    obtain ⟨b, hb, rfl⟩ := Option.map_eq_some_iff.1 hi
    have hj0 : j = 0 := by have := (List.getElem?_eq_some_iff.1 hj).1; simp [bE] at this; exact this
    subst hj0
    refine ⟨_, rfl, hnot, ?_⟩
    rw [addr_add_lit, Nat.zero_add]
    exact Lib.bytesWorld_cell w e s (i * 1 + 0) (by omega)
  · intro i j r y hi hj
    rw [List.getElem?_map] at hi
    obtain ⟨b, hb, rfl⟩ := Option.map_eq_some_iff.1 hi
    have hj0 : j = 0 := by have := (List.getElem?_eq_some_iff.1 hj).1; simp [bE] at this; exact this
    subst hj0
    obtain rfl := Option.some.inj hj
    have : s.data.toList.getD (i * 1 + 0) 0 = b := by simp [List.getD_eq_getElem?_getD, hb]
    rw [this]
    exact .int _ _

theorem bytes_row {s : ByteArray} {k : Nat} (h : k < s.size) : (s.data.toList.map bE)[((k : Nat) : Int).toNat]? = some (bE (s.data.toList.getD k 0)) := by
  have : s.data.toList[k]? = some (s.data.toList.getD k 0) := by
    rw [List.getD_eq_getElem?_getD, List.getElem?_eq_getElem (by simpa using h)]; rfl
  exact map_at this
theorem bytes_len (s : ByteArray) : (s.data.toList.map bE).length = s.size := by simp

/-- string(b) of data. -/
theorem Q.conv_str {t t' : TypeId} {x : Operand} {l : List UInt8} (ht : isBytes P t = true) (ht' : isStr P t' = true) (hx : oev σ x = .d (.sl 1 (l.map bE))) :
    Quiet P N σ hs ⟨d, .convert t t' x, ty, pos, af, g⟩ (.d (.str ⟨l.toArray⟩)) :=
  .of_run fun κ a w s => by
    have h1 := s.oev x; rw [hx] at h1
    obtain ⟨e, hu, he⟩ := isBytes_spec ht
    obtain ⟨p, cap, c, hv, hle, _, _, hm, hd⟩ := h1.sl_inv
    have hlen : (l.map bE).length = l.length := List.length_map _
    rw [hlen] at hv
    refine ⟨.string ⟨l.toArray⟩, ?_, .d (.str _)⟩
    cases hl : l with
    | nil =>
      subst hl
      rw [show execOp a.eval ⟨d, .convert t t' x, ty, pos, af, g⟩ = (do pure (.value (← convert t t' (a.eval x)))) from rfl, hv, Sem.run_bind]
      rw [show ([] : List UInt8).length = 0 from rfl, run_convert_bytes_string w t t' e p 0 cap hu he (isStr_spec ht')]
      cases p with
      | none => rfl
      | some ad =>
        have := run_loadCells_list (P := P) w ad [] (fun j v hj => by simp at hj)
        rw [run_bytesToString w ad 0 cap [] this]
        rfl
    | cons b l' =>
      rw [← hl]
      have hpos : 0 < l.length := by rw [hl]; simp
      obtain ⟨ad, rfl, _, _⟩ := hm 0 0 (bE l[0]) (.int .u8 l[0].toNat) (by simp [List.getElem?_eq_getElem hpos]) rfl
      rw [show execOp a.eval ⟨d, .convert t t' x, ty, pos, af, g⟩ = (do pure (.value (← convert t t' (a.eval x)))) from rfl, hv, Sem.run_bind,
        run_convert_bytes_back w t t' e ad cap l hu he (isStr_spec ht') (fun j hj => ?_)]
      · rfl
      · obtain ⟨ad', he', _, hc⟩ := hm j 0 (bE l[j]) (.int .u8 l[j].toNat) (by simp [List.getElem?_eq_getElem hj]) rfl
        obtain rfl := Option.some.inj he'
        have hr := hd j 0 (bE l[j]) (.int .u8 l[j].toNat) (by simp [List.getElem?_eq_getElem hj]) rfl
        rw [Nat.mul_one, Nat.add_zero] at hc
        rw [hc]
        generalize c j 0 = v at hr
        cases hr
        rfl
end

/-- One object of a heap, wherever it lies. -/
theorem HLe.pick {hs hs' : Hp} {id : Nat} {o o' : HO} (k : Nat) (hk : hs[k]? = some (id, o)) (ho : o' = o) (ht : HLe hs' (hs.eraseIdx k)) : HLe ((id, o') :: hs') hs := by
  subst ho
  exact HLe.trans (HLe.cons _ ht) (HLe.perm (erase_perm hs k _ hk))

theorem rot3 {α : Type} (a b c : α) (l : List α) : (b :: c :: a :: l).Perm (a :: b :: c :: l) :=
  ((List.Perm.swap a c l).cons b).trans (List.Perm.swap a b (c :: l))

theorem set_at0 {α : Type} {l : List α} {k : Nat} {x : α} (h : k < l.length) : (l.set (0 + ((k : Nat) : Int).toNat) x)[0 + ((k : Nat) : Int).toNat]? = some x := by
  rw [show 0 + ((k : Nat) : Int).toNat = k by omega]
  exact List.getElem?_set_self h
theorem okH1 {α : Type} {v sz : Nat} {f : α → List D} {l : List α} (h : ∀ z, ∀ x ∈ f z, x.flat = true) : ∀ p ∈ [(v, HO.lst sz (l.map f))], OkH p.2 := by
  intro p hp
  rw [List.mem_singleton.1 hp]
  intro r hr
  obtain ⟨z, _, rfl⟩ := List.mem_map.1 hr
  exact h z
theorem bt {b : Bool} (h : b = true) : AV.d (.bool b) = .d (.bool true) := by rw [h]
theorem vs_eq {id n m sz : Nat} (h : n = m) : AV.vs id 0 n sz = .vs id 0 m sz := by rw [h]

/-- Go's equality of strings. -/
def seq (a b : ByteArray) : Bool := a.toList == b.toList
theorem toList_inj {a b : ByteArray} (h : a.toList = b.toList) : a = b := by
  have : a.data.toList = b.data.toList := by
    rw [ByteArray.toList_eq, ByteArray.toList_eq] at h; exact h
  cases a; cases b
  congr 1
  exact Array.toList_inj.1 this
theorem seq_iff (a b : ByteArray) : seq a b = true ↔ a = b := by
  unfold seq
  rw [beq_iff_eq]
  exact ⟨toList_inj, fun h => by rw [h]⟩
theorem seq_refl (a : ByteArray) : seq a a = true := (seq_iff a a).2 rfl
end Go.Proofs.YtldkkoecehdicaaDoorA
