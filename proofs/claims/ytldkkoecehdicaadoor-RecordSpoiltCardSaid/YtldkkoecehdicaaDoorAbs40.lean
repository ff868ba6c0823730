/- Own bytes that a conversion made: the block bears the conversion's mark behind its cells. -/
import Derived.Test.YtldkkoecehdicaaDoorAbs37
namespace Go.Proofs.YtldkkoecehdicaaDoorA
open Go
set_option linter.unusedVariables false
set_option linter.unusedSimpArgs false

theorem bytesWorld_alloc (w : World) (e : TypeId) (s : ByteArray) : Lib.bytesWorld w e s = w.drew.alloc (.cells (Lib.bytesCells w e s) e ((Lib.bytesCells w e s).size, (Lib.bytesCells w e s).size + 1)) := by
  have h1 : (Lib.bytesWorld w e s).heap = (w.drew.alloc (.cells (Lib.bytesCells w e s) e ((Lib.bytesCells w e s).size, (Lib.bytesCells w e s).size + 1))).heap := by
    refine Array.ext_getElem? fun i => ?_
    rcases Nat.lt_trichotomy i w.heap.size with h | h | h
    · rw [Lib.bytesWorld_at_old w e s i h, heap_alloc_old w.drew _ i h]; rfl
    · subst h
      rw [Lib.bytesWorld_at_new]
      exact (heap_alloc_new w.drew _).symm
    · rw [Array.getElem?_eq_none (by rw [Lib.bytesWorld_size]; omega), Array.getElem?_eq_none (by simp; omega)]
  have h2 : ∀ a b : World, a.heap = b.heap → a.tape = b.tape → a.drawn = b.drawn → a.os = b.os → a.output = b.output → a = b := by
    intro a b; cases a; cases b; rintro rfl rfl rfl rfl rfl; rfl
  exact h2 _ _ h1 rfl rfl rfl rfl
theorem bytesCells_size (w : World) (e : TypeId) (s : ByteArray) : (Lib.bytesCells w e s).size = grownCap w s.size 0 e := by
  have := grownCap_ge w s.size 0 e
  unfold Lib.bytesCells
  have h : s.data.size = s.size := rfl
  simp only [Array.size_append, Array.size_map, Array.size_replicate, h]
  omega

section
variable {P : Program} {N : Nm} {σ : Env} {hs : Hp} {d : Option Tmp} {ty : TypeId} {pos : String} {af : Array Edge} {g : Option (Nat × Bool)}
theorem L.conv_own {t : Tmp} {t1 t2 : TypeId} {x : Operand} {s : ByteArray} (ht : isStr P t1 = true) (ht' : isBytes P t2 = true) (hx : oev σ x = .d (.str s)) (hd : Nat.blt t N.n = true) :
    Loud P N σ hs ⟨some t, .convert t1 t2 x, ty, pos, af, g⟩ (fun σ' hs' => ∃ id, σ' = (t, .vs id 0 s.size 1) :: σ ∧ hs' = (id, .byt s.data.toList) :: hs) := by
  intro κ a w sm K Q hK
  have hdN : t < N.n := by simpa [Nat.blt_eq] using hd
  have hx1 := sm.oev x; rw [hx] at hx1
  obtain ⟨e, hu, he⟩ := isBytes_spec ht'
  have hge := grownCap_ge w s.size 0 e
  have hrun : (execOp a.eval ⟨some t, .convert t1 t2 x, ty, pos, af, g⟩).run P w = .ok (.value (.slice (some ⟨w.heap.size, 0, none⟩) s.size (grownCap w s.size 0 e))) (w.drew.alloc (.cells (Lib.bytesCells w e s) e ((Lib.bytesCells w e s).size, (Lib.bytesCells w e s).size + 1))) := by
    rw [show execOp a.eval ⟨some t, .convert t1 t2 x, ty, pos, af, g⟩ = (do pure (.value (← convert t1 t2 (a.eval x)))) from rfl, hx1.str_inv, Sem.run_bind,
      Lib.run_convert_string_bytes w t1 t2 e s (isStr_spec ht) hu he, bytesWorld_alloc]
    rfl
  obtain ⟨h1, e1⟩ := sm.heap.drew (w.drawn + 1) (Nat.le_succ _)
  have h1' : HS κ w.drew hs := h1
  have e1' : Ext κ hs w κ hs w.drew := e1
  obtain ⟨id, κ', g1, g2, hk⟩ := h1'.allocO (.cells (Lib.bytesCells w e s) e ((Lib.bytesCells w e s).size, (Lib.bytesCells w e s).size + 1)) (.byt s.data.toList) (grownCap w s.size 0 e) (fun κ' id hkk O hA hD => by
    refine ⟨w.heap.size, _, e, _, rfl, heap_alloc_new w.drew _, bytesCells_size w e s, Nat.le_of_eq (bytesCells_size w e s).symm, by simpa using hge, fun i c hi => ?_⟩
    have hlt : i < s.data.size := by have := (List.getElem?_eq_some_iff.1 hi).1; simpa using this
    unfold Lib.bytesCells
    rw [Array.getElem?_append_left (by simpa using hlt), Array.getElem?_map, ← Array.getElem?_toList, hi]; rfl)
  unfold oWp
  rw [hrun]
  refine hK κ' _ _ _ _ (sm.put (e1'.trans g2) g1 hdN ?_) (e1'.trans g2) ⟨id, rfl, rfl⟩
  have := RepA.vs (κ := κ') (w := w.drew.alloc (.cells (Lib.bytesCells w e s) e ((Lib.bytesCells w e s).size, (Lib.bytesCells w e s).size + 1))) (O := Own κ' ((id, .byt s.data.toList) :: hs)) (some w.heap.size) (grownCap w s.size 0 e) (some ⟨w.heap.size, 0, none⟩) id 0 s.size 1 hk (by omega) (fun _ => by simp)
  simpa using this

theorem Q.idx_byt {t id n kk : Nat} {l : List UInt8} {x ix : Operand} {k : IntKind} {i : Int} (ht : tSl P t = some 1) (hx : oev σ x = .vs id 0 n 1) (hh : hs[kk]? = some (id, .byt l)) (hi : oev σ ix = .d (.int k i)) (h0 : 0 ≤ i) (h1 : i < n) :
    Quiet P N σ hs ⟨d, .indexAddr t x ix, ty, pos, af, g⟩ (.ep id 1 i.toNat 0) :=
  .of_run fun κ a w s => by
    have h2 := s.oev x; rw [hx] at h2
    have h3 := s.oev ix; rw [hi] at h3
    obtain ⟨e, inf, hu, hin, he1⟩ := tSl_spec ht
    generalize hv : a.eval x = v at h2
    cases h2 with
    | vs ob cap p _ _ _ _ hk hn hp =>
      obtain ⟨y, hy, hok⟩ := s.heap.ok id _ (List.mem_of_getElem? hh)
      rw [hk] at hy
      obtain rfl := Option.some.inj hy
      obtain ⟨b, cs, T, f, rfl, g2, g3⟩ := hok
      have hpe := hp (by omega)
      subst hpe
      refine ⟨.pointer (some ((⟨b, 0 * 1, none⟩ : Addr).add (i.toNat * inf.size))), by simp only [execOp, hv, h3.int_inv, Option.map_some, Sem.run_bind, idx_run hu hin _ h0 h1, Result.andThen_ok, Sem.run_pure], ?_⟩
      rw [addr_add_lit, he1]
      have := RepA.ep (w := w) (O := Own κ hs) b cap id 1 i.toNat 0 hk
      simpa using this

theorem byt_cell {κ : Kap} {w : World} (h : HS κ w hs) {k id b cap : Nat} {l : List UInt8} {i : Nat} {c : UInt8} (hk : hs[k]? = some (id, .byt l)) (hκ : κ id = some (some b, cap)) (hi : l[i]? = some c) :
    w.cell? ⟨b, i, none⟩ = some (.int .u8 c.toNat) := by
  obtain ⟨y, hy, hok⟩ := h.ok id _ (List.mem_of_getElem? hk)
  rw [hκ] at hy
  obtain rfl := Option.some.inj hy
  obtain ⟨b', cs, T, f, he, h1, h2, h3, h4, h5⟩ := hok
  obtain rfl := Option.some.inj he
  have := h5 i c hi
  simp [World.cell?, h1, this]

theorem Q.ld_byt {t id i k : Nat} {l : List UInt8} {c : UInt8} {x : Operand} (ht : tAgg P t = some (false, 1)) (hx : oev σ x = .ep id 1 i 0) (hk : hs[k]? = some (id, .byt l)) (hi : l[i]? = some c) :
    Quiet P N σ hs ⟨d, .load t x, ty, pos, af, g⟩ (.d (.int .u8 c.toNat)) :=
  .of_run fun κ a w s => by
    have h1 := s.oev x; rw [hx] at h1
    obtain ⟨b, cap, hkk, hv1⟩ := h1.ep_inv
    have hu := byt_cell s.heap hk hkk hi
    rw [show (⟨b, i, none⟩ : Addr) = ⟨b, i * 1 + 0, none⟩ by simp] at hu
    refine ⟨_, ?_, .d (.int _ _)⟩
    rw [show execOp a.eval ⟨d, .load t x, ty, pos, af, g⟩ = (do pure (.value (← Instr.loadAt t (a.eval x)))) from rfl, hv1, Sem.run_bind, load1_run ht hu]
    rfl

theorem L.store_byt {t id i k : Nat} {l : List UInt8} {c : UInt8} {x y : Operand} (ht : tAgg P t = some (false, 1)) (hx : oev σ x = .ep id 1 i 0) (hk : hs[k]? = some (id, .byt l)) (hi : i < l.length) (hy : oev σ y = .d (.int .u8 c.toNat)) :
    Loud P N σ hs ⟨none, .store t x y, ty, pos, af, g⟩ (fun σ' hs' => σ' = σ ∧ hs' = hs.set k (id, .byt (l.set i c))) := by
  intro κ a w s K Q hK
  have hx1 := s.oev x; rw [hx] at hx1
  have hy1 := s.oev y; rw [hy] at hy1
  obtain ⟨b, cap, hκ, hv⟩ := hx1.ep_inv
  have hyv : a.eval y = .int .u8 c.toNat := hy1.int_inv
  have hcell := byt_cell s.heap hk hκ (List.getElem?_eq_getElem hi)
  obtain ⟨z, hz, hok⟩ := s.heap.ok id _ (List.mem_of_getElem? hk)
  rw [hκ] at hz
  obtain rfl := Option.some.inj hz
  obtain ⟨b', cs, T, f, he, h1, h2, h3, h4, h5⟩ := hok
  obtain rfl := Option.some.inj he
  have hfro : w.frozen? ⟨b, i, none⟩ = false := by
    obtain ⟨lo, hi'⟩ := f
    have : ¬ lo ≤ i := by have := h3; simp only at this; omega
    simp [World.frozen?, h1, this]
  have hst : (storeCells ⟨b, i, none⟩ [Value.int .u8 c.toNat]).run P w = .ok () (w.setRow b (cs.setIfInBounds i (.int .u8 c.toNat))) := by
    rw [storeCells, storeCells]
    have hadd : (⟨b, i, none⟩ : Addr).add 0 = ⟨b, i, none⟩ := by unfold Addr.add; split <;> simp_all
    rw [Sem.run_bind, hadd, run_store P w _ _ _ rfl, hcell]
    simp [hfro, setCell_eq_setRow w b i cs T f _ h1]
  obtain ⟨h6, e6⟩ := s.heap.write (w' := w.setRow b (cs.setIfInBounds i (.int .u8 c.toNat))) (o' := .byt (l.set i c)) hk hκ (by simp) rfl rfl rfl rfl (fun j hj => setRow_other w b j _ hj) fun hA hD =>
    ⟨b, _, T, f, rfl, setRow_heap w b cs _ T f h1, by simpa using h2, h3, by simpa using h4, fun j x hj => by
      by_cases hji : j = i
      · subst hji
        rw [List.getElem?_set_self hi] at hj
        obtain rfl := Option.some.inj hj
        rw [Array.getElem?_setIfInBounds_self_of_lt (by omega)]
      · rw [List.getElem?_set_ne (Ne.symm hji)] at hj
        rw [Array.getElem?_setIfInBounds_ne (Ne.symm hji)]
        exact h5 j x hj⟩
  have hrun : (execOp a.eval ⟨none, .store t x y, ty, pos, af, g⟩).run P w = .ok .skip (w.setRow b (cs.setIfInBounds i (.int .u8 c.toNat))) := by
    rw [show execOp a.eval ⟨none, .store t x y, ty, pos, af, g⟩ = (do Instr.storeAt t (a.eval x) (a.eval y); pure .skip) from rfl, hv, hyv, Sem.run_bind, storeVar_run ht (cells_one rfl) rfl (by simpa using hst)]
    rfl
  unfold oWp
  rw [hrun]
  exact hK κ a _ σ _ (s.ext e6 h6) e6 ⟨rfl, rfl⟩

theorem Q.conv_byt {t t' : TypeId} {x : Operand} {l : List UInt8} {id n k : Nat} (ht : isBytes P t = true) (ht' : isStr P t' = true) (hx : oev σ x = .vs id 0 n 1) (hk : hs[k]? = some (id, .byt l)) (hn : n = l.length) :
    Quiet P N σ hs ⟨d, .convert t t' x, ty, pos, af, g⟩ (.d (.str ⟨l.toArray⟩)) :=
  .of_run fun κ a w s => by
    have h0 := s.oev x; rw [hx] at h0
    obtain ⟨e, hu, he⟩ := isBytes_spec ht
    subst hn
    generalize hv : a.eval x = v at h0
    cases h0 with
    | vs ob cap p _ _ _ _ hkk hle hp =>
      obtain ⟨y, hy, hok⟩ := s.heap.ok id _ (List.mem_of_getElem? hk)
      rw [hkk] at hy
      obtain rfl := Option.some.inj hy
      obtain ⟨b, cs, T, f, rfl, g2, g3⟩ := hok
      refine ⟨.string ⟨l.toArray⟩, ?_, .d (.str _)⟩
      rw [show execOp a.eval ⟨d, .convert t t' x, ty, pos, af, g⟩ = (do pure (.value (← convert t t' (a.eval x)))) from rfl, hv, Sem.run_bind]
      rcases Nat.eq_zero_or_pos l.length with h | h
      · have hl : l = [] := List.eq_nil_of_length_eq_zero h
        subst hl
        rw [show ([] : List UInt8).length = 0 from rfl, run_convert_bytes_string w t t' e p 0 _ hu he (isStr_spec ht')]
        cases p with
        | none => rfl
        | some ad =>
          have := run_loadCells_list (P := P) w ad [] (fun j v hj => by simp at hj)
          rw [run_bytesToString w ad 0 _ [] this]
          rfl
      · have hpe := hp (by omega)
        subst hpe
        rw [show (Option.map (fun b => (⟨b, 0 * 1, none⟩ : Addr)) (some b)) = some ⟨b, 0, none⟩ by simp, run_convert_bytes_back w t t' e ⟨b, 0, none⟩ _ l hu he (isStr_spec ht') (fun j hj => ?_)]
        · rfl
        · have := byt_cell s.heap hk hkk (List.getElem?_eq_getElem hj)
          rw [addr_add_lit, Nat.zero_add]; exact this
end
end Go.Proofs.YtldkkoecehdicaaDoorA
