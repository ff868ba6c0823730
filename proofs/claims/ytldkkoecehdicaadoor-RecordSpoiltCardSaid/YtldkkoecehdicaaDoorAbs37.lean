/- Package-level tables; types of variables; strings appended to own bytes; own bytes handed on as a string; bits. -/
import Derived.Test.YtldkkoecehdicaaDoorAbs36
import Derived.Test.YtldkkoecehdicaaDoorAbs31
import Derived.Test.YtldkkoecehdicaaDoorAbs21
import Derived.Lib.AppendStr
import Derived.Lib.UnsafeStr
import Derived.Lib.Builder
namespace Go.Proofs.YtldkkoecehdicaaDoorA
open Go
set_option linter.unusedVariables false
set_option linter.unusedSimpArgs false

section
variable {P : Program} {N : Nm} {σ : Env} {hs : Hp} {d : Option Tmp} {ty : TypeId} {pos : String} {af : Array Edge} {g : Option (Nat × Bool)}

/-! ### tables -/
theorem glob_rep {κ : Kap} {w : World} (h : HS κ w hs) {kk id b : Nat} {l : List Value} {ds : List D} (hk : hs[kk]? = some (id, .glob b l)) (hds : cellsD l = some ds) (off : Nat) :
    RepA κ w (Own κ hs) (.pointer (some ⟨b, off, none⟩)) (.dp (ds.drop off)) := by
  obtain ⟨⟨ob, cap⟩, hκ, hok⟩ := h.ok id _ (List.mem_of_getElem? hk)
  obtain ⟨h0, hno, T, f, hw⟩ := hok
  have h1 : ∀ (i : Nat) (v : Value), l[i]? = some v → ¬ Own κ hs b ∧ w.cell? ⟨b, i, none⟩ = some v := fun i v hv => ⟨hno, by simp [World.cell?, hw, hv]⟩
  obtain ⟨f1, f2, f3⟩ := cellsD_rep w (Own κ hs) l ds hds
  have hlen : ds.length = l.length := by simpa using f1.symm
  refine .dp _ _ (fun j => l.getD (off + j) undef) (fun d hd => f2 d (List.mem_of_mem_drop hd)) (fun j d hj => ?_) (fun j d hj => ?_)
  · rw [List.getElem?_drop] at hj
    have hlt : off + j < l.length := by rw [← hlen]; exact (List.getElem?_eq_some_iff.1 hj).1
    obtain ⟨h2, h3⟩ := h1 (off + j) _ (List.getElem?_eq_getElem hlt)
    refine ⟨h2, ?_⟩
    rw [addr_add_lit]
    simp only [List.getD_eq_getElem?_getD, List.getElem?_eq_getElem hlt, Option.getD_some]
    exact h3
  · rw [List.getElem?_drop] at hj
    have hlt : off + j < l.length := by rw [← hlen]; exact (List.getElem?_eq_some_iff.1 hj).1
    simp only [List.getD_eq_getElem?_getD, List.getElem?_eq_getElem hlt, Option.getD_some]
    exact f3 (off + j) _ d (by simp [hlt]) hj

theorem Q.idx_glob {t n sz b id kk : Nat} {l : List Value} {ds : List D} {ix : Operand} {k : IntKind} {i : Int} (ht : tArr P t = some (n, sz)) (hk : hs[kk]? = some (id, .glob b l)) (hds : cellsD l = some ds) (hi : oev σ ix = .d (.int k i)) (h0 : 0 ≤ i) (h1 : i < n) :
    Quiet P N σ hs ⟨d, .indexAddr t (.global b) ix, ty, pos, af, g⟩ (.dp (ds.drop (i.toNat * sz))) :=
  .of_run fun κ a w s => by
    have h := s.oev ix; rw [hi] at h
    obtain ⟨e, inf, hu, hei, rfl⟩ := tArr_spec ht
    refine ⟨.pointer (some ⟨b, i.toNat * inf.size, none⟩), ?_, glob_rep s.heap hk hds _⟩
    rw [show execOp a.eval ⟨d, .indexAddr t (.global b) ix, ty, pos, af, g⟩ = (do pure (.value (← Instr.indexAt t (.pointer (some ⟨b, 0, none⟩)) (a.eval ix)))) from rfl, h.int_inv, Sem.run_bind, arr_run hu hei _ h0 h1]
    simp [addr_add_lit]

/-- A variable of the package, loaded. -/
theorem Q.ld_glob {t b id kk : Nat} {l : List Value} {y : D} {ds : List D} (ht : tAgg P t = some (false, 1)) (hk : hs[kk]? = some (id, .glob b l)) (hds : cellsD l = some (y :: ds)) :
    Quiet P N σ hs ⟨d, .load t (.global b), ty, pos, af, g⟩ (.d y) :=
  .of_run fun κ a w s => by
    have h := glob_rep s.heap hk hds 0
    obtain ⟨ad, c, he, h1, h2, h5⟩ := h.dp_inv
    obtain rfl : (⟨b, 0, none⟩ : Addr) = ad := by injection he with he; injection he
    have h3 := (h2 0 y rfl).2
    have h4 := h5 0 y rfl
    rw [addr_add_zero] at h3
    refine ⟨c 0, ?_, .d h4⟩
    rw [show execOp a.eval ⟨d, .load t (.global b), ty, pos, af, g⟩ = (do pure (.value (← Instr.loadAt t (.pointer (some ⟨b, 0, none⟩))))) from rfl, Sem.run_bind, load1_run ht h3]
    rfl

/-! ### types of blocks -/
theorem HS.note {κ : Kap} {w : World} (h : HS κ w hs) {id b c : Nat} {cs : Array Value} {T : TypeId} {f : Nat × Nat} (hκ : κ id = some (some b, c)) (hw : w.heap[b]? = some (.cells cs T f)) :
    ∃ fid κ', HS κ' w ((fid, .typ id T) :: hs) ∧ Ext κ hs w κ' ((fid, .typ id T) :: hs) w := by
  obtain ⟨fid, κ', h1, h2, _⟩ := h.noneO2 (.typ id T) (fun κ' O hk => ⟨rfl, b, c, cs, f, hk _ _ hκ, hw⟩)
  exact ⟨fid, κ', h1, h2⟩

/-- A new variable, its type kept in mind. -/
theorem L.allocT {t T : Nat} {vs : List Value} (hz : tZero P T = some vs) (h1 : vs.all (·.oneCell') = true) (htN : Nat.blt t N.n = true) :
    Loud P N σ hs ⟨some t, .alloc T, ty, pos, af, g⟩ (fun σ' hs' => ∃ id fid, σ' = (t, .ptr id 0) :: σ ∧ hs' = (fid, .typ id T) :: (id, .cells (vs.map cellA)) :: hs) := by
  intro κ a w s K Q hK
  obtain ⟨i, hi, hz⟩ := Option.bind_eq_some_iff.1 hz
  obtain ⟨z, hz, hvs⟩ := Option.map_eq_some_iff.1 hz
  obtain ⟨id, κ', h2, e, hk⟩ := new_cells s.heap vs (vs.map cellA) T (by simp) (by simpa using h1)
    (fun i v x hi hx => by
      rw [List.getElem?_map, hi] at hx
      obtain rfl := Option.some.inj hx
      exact cellA_rep _ _ _ v)
  have hzr : (zeroValue T).run P w = .ok z w := by simp [zeroValue, typeInfo, hi, hz]
  have hrun : (execOp a.eval ⟨some t, .alloc T, ty, pos, af, g⟩).run P w = .ok (.value (.pointer (some ⟨w.heap.size, 0, none⟩))) (w.alloc (.cells vs.toArray T)) := by
    rw [show execOp a.eval ⟨some t, .alloc T, ty, pos, af, g⟩ = (do pure (.value (← (do let zero ← zeroValue T; pure (.pointer (some (← newVar T zero))))))) from rfl]
    simp only [Sem.run_bind, hzr, Result.andThen_ok, newVar, newRow_run, Sem.run_pure]
    rw [← hvs]
  obtain ⟨fid, κ₂, h3, e3⟩ := h2.note hk (heap_alloc_new w _)
  unfold oWp
  rw [hrun]
  exact hK κ₂ _ _ _ _ (s.put (e.trans e3) h3 (by simpa [Nat.blt_eq] using htN) (.ptr w.heap.size _ id 0 (e3.kap _ _ hk))) (e.trans e3) ⟨id, fid, rfl, rfl⟩

/-! ### strings appended to bytes -/
def tBy (P : Program) (t : TypeId) : Option TypeId := match P.underlying t with
  | some (.slice e) => match P.info? e with
    | some i => match i.zero with
      | some (.int .u8 0) => if i.size = 1 ∧ i.bytes = 1 then some e else none
      | _ => none
    | none => none
  | _ => none
theorem tBy_spec {t e : TypeId} (h : tBy P t = some e) : ∃ i, P.underlying t = some (.slice e) ∧ P.info? e = some i ∧ i.zero = some (.int .u8 0) ∧ i.size = 1 ∧ i.bytes = 1 := by
  unfold tBy at h
  split at h
  · rename_i e' hu
    split at h
    · rename_i i hi
      split at h
      · rename_i hz
        split at h
        · rename_i h2; obtain rfl := Option.some.inj h; exact ⟨i, hu, hi, hz, h2⟩
        · cases h
      · cases h
    · cases h
  · cases h

theorem lined_str (w : World) (O : Nat → Prop) (s : ByteArray) : Lined w O 1 (s.data.toList.map bE) (Lib.strCells s) := by
  refine ⟨by simp [Lib.strCells], fun u hu => Lib.strCells_oneCell s u hu, fun i j r x hi hj => ?_⟩
  rw [List.getElem?_map] at hi
  obtain ⟨b, hb, rfl⟩ := Option.map_eq_some_iff.1 hi
  have hj0 : j = 0 := by have := (List.getElem?_eq_some_iff.1 hj).1; simpa [bE] using this
  subst hj0
  obtain rfl := Option.some.inj hj
  exact ⟨.int .u8 b.toNat, by simp [Lib.strCells, hb], .int _ _⟩

theorem str_rows (s : ByteArray) : (s.data.toList.map bE).length = s.size := by simp
theorem bE_len {l : List UInt8} : ∀ r ∈ l.map bE, r.length = 1 := fun r hr => by obtain ⟨b, _, rfl⟩ := List.mem_map.1 hr; rfl
theorem bE_one {l : List UInt8} : ∀ r ∈ l.map bE, ∀ x ∈ r, x.one = true := fun r hr x hx => by
  obtain ⟨b, _, rfl⟩ := List.mem_map.1 hr
  simp [bE] at hx; subst hx; rfl

theorem app_opS {d : Tmp} {t u : Nat} {x y : Operand} {a : Act} {w w' : World} {v v2 : Value} (hx : a.eval x = v) (hy : a.eval y = v2) {r : Value} (h : (Builtin.append_ #[t, u] ty #[v, v2]).run P w = .ok r w') :
    (execOp a.eval ⟨some d, .call ⟨.builtin .append, #[x, y], #[t, u]⟩, ty, pos, af, g⟩).run P w = .ok (.value r) w' := by
  rw [builtin_run]
  simp [builtin, hx, hy, h]

theorem zc_list (n : Nat) : (Builtin.zeroCells (Value.int .u8 0).cells n).toList.length = n := by rw [Array.length_toList, size_zeroCells]; exact Nat.mul_one n

/-- A string appended to own bytes. -/
theorem L.app_strT {d : Tmp} {t u id n k kt fid : Nat} {e : TypeId} {l : List UInt8} {s : ByteArray} {x y : Operand} (ht : tBy P t = some e) (hu : isStr P u = true) (hx : oev σ x = .vs id 0 n 1) (hk : hs[k]? = some (id, .lst 1 (l.map bE)))
    (hkt : hs[kt]? = some (fid, .typ id e)) (hn : n = l.length) (hy : oev σ y = .d (.str s)) (hb : l.length + s.size ≤ 140737488355328) (hd : Nat.blt d N.n = true) :
    Loud P N σ hs ⟨some d, .call ⟨.builtin .append, #[x, y], #[t, u]⟩, ty, pos, af, g⟩
      (fun σ' hs' => ∃ id' fid', σ' = (d, .vs id' 0 (l.length + s.size) 1) :: σ ∧ hs' = (fid', .typ id' e) :: (id', .lst 1 ((l ++ s.data.toList).map bE)) :: hs.eraseIdx k) := by
  intro κ a w sm K Q hK
  subst hn
  have hdN : d < N.n := by simpa [Nat.blt_eq] using hd
  obtain ⟨inf, hue, hi, hz, h1, h2⟩ := tBy_spec ht
  have hus := isStr_spec hu
  have hx1 := sm.oev x; rw [hx] at hx1
  have hy1 := sm.oev y; rw [hy] at hy1
  have hv2 := hy1.str_inv
  obtain ⟨ob, cap, p, hκ, hle, hp, hv⟩ := hx1.vs_inv
  have hl2 := lined_str w (Own κ hs) s
  obtain ⟨olds, hl1, hblk⟩ := lst_cells sm.heap hk hκ
  obtain ⟨yy, hyy, hok⟩ := sm.heap.ok id _ (List.mem_of_getElem? hk)
  rw [hκ] at hyy
  obtain rfl := Option.some.inj hyy
  obtain ⟨g0, g0', g1, g2, g3, g4, g5⟩ := hok
  obtain ⟨⟨ob2, c2⟩, hκ2, ht0, b2, c3, cs2, f2, ht1, ht2⟩ := sm.heap.ok fid _ (List.mem_of_getElem? hkt)
  rw [hκ] at ht1
  obtain ⟨rfl, rfl⟩ := Prod.mk.inj (Option.some.inj ht1)
  have hcapn : 0 < cap → p = some ⟨b2, 0, none⟩ := fun hc => by rw [hp hc]; simp
  have hrr : ∀ r ∈ l.map bE ++ s.data.toList.map bE, r.length = 1 := fun r hr => (List.mem_append.1 hr).elim (g2 r) (bE_len r)
  have hoo : ∀ r ∈ l.map bE ++ s.data.toList.map bE, ∀ x ∈ r, x.one = true := fun r hr => (List.mem_append.1 hr).elim (g3 r) (bE_one r)
  rw [Nat.sub_zero] at hv
  rw [List.length_map] at g0
  by_cases hm : s.size = 0
  · have hs0 : s.data.toList = [] := List.eq_nil_of_length_eq_zero (by simpa using hm)
    have hrun : (Builtin.append_ #[t, u] ty #[.slice p l.length cap, .string s]).run P w = .ok (.slice p l.length cap) w := by
      have hf := Lib.run_firstCells_string (P := P) w inf.size s
      rw [hm] at hf
      have hsc : Lib.strCells s = [] := by simp [Lib.strCells, hs0]
      rw [hsc] at hf
      cases p <;> simp [Builtin.append_, run_underlying hue, run_underlying hus, sizeOf, typeInfo, hi, Builtin.lenOf, hm, g0, hf, storeCells]
    obtain ⟨h5, e5⟩ := sm.heap.perm (erase_perm hs k _ hk)
    obtain ⟨fid', κ', h6, e6⟩ := h5.note hκ ht2
    unfold oWp
    rw [app_opS (hv.trans rfl) hv2 hrun]
    refine hK κ' _ w _ _ (sm.put (e5.trans e6) h6 hdN ?_) (e5.trans e6) ⟨id, fid', by rw [hm], by rw [hs0, List.append_nil]⟩
    have := RepA.vs (κ := κ') (w := w) (O := Own κ' ((fid', HO.typ id e) :: (id, HO.lst 1 (l.map bE)) :: hs.eraseIdx k)) (some b2) cap p id 0 l.length 1 (e6.kap _ _ hκ) hle (by simpa using hp)
    simpa [hm] using this
  · by_cases hroom : l.length + s.size ≤ cap
    · have hpe := hcapn (by omega)
      subst hpe
      obtain ⟨w', hst, h5, e5⟩ := write_rows (P := P) sm.heap hk hκ hl2 bE_len bE_one (Nat.le_refl _) (by rw [List.length_map, str_rows]; exact hroom)
      rw [List.take_length, List.drop_of_length_le (by omega), List.append_nil] at h5 e5
      rw [List.length_map, Nat.mul_one] at hst
      obtain ⟨id', κ', h6, e6, hκ'⟩ := h5.rename (k := k) (id := id) (o := .lst 1 (l.map bE ++ s.data.toList.map bE)) (by rw [List.getElem?_set]; simp [(List.getElem?_eq_some_iff.1 hk).1])
      have hers : (hs.set k (id, HO.lst 1 (l.map bE ++ s.data.toList.map bE))).eraseIdx k = hs.eraseIdx k := List.eraseIdx_set_eq ..
      rw [hers] at h6 e6
      obtain ⟨cs3, f3, ht3⟩ := (e5.trans e6).ty b2 cs2 e f2 ht2
      obtain ⟨fid', κ₂, h7, e7⟩ := h6.note (hκ'.trans hκ) ht3
      have hf := Lib.run_firstCells_string (P := P) w inf.size s
      have hrun : (Builtin.append_ #[t, u] ty #[.slice (some ⟨b2, 0, none⟩) l.length cap, .string s]).run P w = .ok (.slice (some ⟨b2, 0, none⟩) (l.length + s.size) cap) w' := by
        simp [Builtin.append_, run_underlying hue, run_underlying hus, sizeOf, typeInfo, hi, h1, Builtin.lenOf, hroom, Addr.add_lit, hst]
        rw [h1] at hf
        simp [hf, hst]
      unfold oWp
      rw [app_opS (hv.trans rfl) hv2 hrun]
      refine hK κ₂ _ w' _ _ (sm.put ((e5.trans e6).trans e7) h7 hdN ?_) ((e5.trans e6).trans e7) ⟨id', fid', rfl, by rw [List.map_append]⟩
      have := RepA.vs (κ := κ₂) (w := w') (O := Own κ₂ ((fid', HO.typ id' e) :: (id', HO.lst 1 (l.map bE ++ s.data.toList.map bE)) :: hs.eraseIdx k)) (some b2) cap (some ⟨b2, 0, none⟩) id' 0 (l.length + s.size) 1 (e7.kap _ _ (hκ'.trans hκ)) (by omega) (fun _ => by simp)
      simpa using this
    · have hgrow : ∃ ncap rest, (Builtin.append_ #[t, u] ty #[.slice p l.length cap, .string s]).run P w = .ok (.slice (some ⟨w.heap.size, 0, none⟩) (l.length + s.size) ncap) (w.drew.alloc (.cells ((olds ++ Lib.strCells s) ++ rest).toArray e)) ∧
          l.length + s.size ≤ ncap ∧ ncap ≤ maxLen ∧ rest.length = (ncap - (l.length + s.size)) * 1 := by
        have hol : olds.length = l.length * 1 := by have := hl1.1; rwa [List.length_map] at this
        by_cases hc0 : cap = 0
        · subst hc0
          have hl0 : l = [] := List.eq_nil_of_length_eq_zero (by omega)
          subst hl0
          have ho : olds = [] := List.eq_nil_of_length_eq_zero (by simpa using hol)
          subst ho
          obtain ⟨cs4, T4, hw4, hcs4, _⟩ := hblk b2 rfl
          rw [hw4] at ht2
          cases p with
          | none =>
            have hr := run_append_nil_string (P := P) w t u ty e inf (.int .u8 0) hue hus hi hz s (by omega) (by simp at hb; omega) (by rw [h2]; simp at hb; omega)
            refine ⟨grownCap w s.size 0 e, (Builtin.zeroCells (Value.int .u8 0).cells (grownCap w s.size 0 e - s.size)).toList, ?_, by simpa using grownCap_ge w s.size 0 e, grownCap_le_maxLen w s.size 0 e (by simp only [maxLen]; simp at hb; omega), by rw [zc_list]; simp⟩
            have e1 : (s.data.map fun b => Value.int .u8 b.toNat) = (Lib.strCells s).toArray := by apply Array.ext'; simp [Lib.strCells]
            rw [e1] at hr
            simp only [List.length_nil, Nat.zero_add, List.nil_append]
            rw [hr]
            congr 3
            apply Array.ext'; simp
          | some pa =>
            have hr := Lib.run_append_grow_string (P := P) w t u ty e inf (.int .u8 0) hue hus hi hz pa 0 0 [] (by simp) (fun j v hj => by simp at hj) s (by omega) (by simp at hb ⊢; omega) (by rw [h2]; exact growslice_fits (by omega) (by simp at hb ⊢; omega))
            refine ⟨grownCap w (0 + s.size) 0 e, (Builtin.zeroCells (Value.int .u8 0).cells (grownCap w (0 + s.size) 0 e - (0 + s.size))).toList, ?_, grownCap_ge w (0 + s.size) 0 e, grownCap_le_maxLen w (0 + s.size) 0 e (by simp only [maxLen]; simp at hb ⊢; omega), by rw [zc_list]; simp⟩
            simp only [List.length_nil]
            rw [hr]
            congr 3
            apply Array.ext'; simp
        · have hpe := hcapn (by omega)
          subst hpe
          obtain ⟨cs4, T4, hw4, hcs4, hvs4⟩ := hblk b2 rfl
          have holds : ∀ (j : Nat) v, olds[j]? = some v → w.cell? ((⟨b2, 0, none⟩ : Addr).add j) = some v := fun j v hj => by
            have hlt : j < olds.length := (List.getElem?_eq_some_iff.1 hj).1
            rw [addr_add_lit, Nat.zero_add]
            rw [hvs4, List.length_map, List.getElem?_take, if_pos (by omega)] at hj
            simp [World.cell?, hw4]; simpa using hj
          have hr := Lib.run_append_grow_string (P := P) w t u ty e inf (.int .u8 0) hue hus hi hz ⟨b2, 0, none⟩ l.length cap olds (by rw [h1]; exact hol) holds s (by omega) (by omega) (by rw [h2]; exact growslice_fits (by omega) (by omega))
          refine ⟨grownCap w (l.length + s.size) cap e, (Builtin.zeroCells (Value.int .u8 0).cells (grownCap w (l.length + s.size) cap e - (l.length + s.size))).toList, ?_, grownCap_ge w _ cap e, grownCap_le_maxLen w _ cap e (by simp only [maxLen]; omega), by rw [zc_list]; simp⟩
          rw [hr]
          congr 3
          apply Array.ext'; simp
      obtain ⟨ncap, rest, hrun, hge, hmx, hrest⟩ := hgrow
      obtain ⟨h5, e5⟩ := sm.heap.sublist (List.eraseIdx_sublist hs k)
      obtain ⟨id', κ', h6, e6, hκ'⟩ := new_lst h5 (cap := ncap) (rest := rest) e (by decide) ((hl1.append hl2 g2).mono fun v x hx => hx.ext e5) hrr hoo (by rw [List.length_append, List.length_map, str_rows]; exact hge) hmx (by rw [List.length_append, List.length_map, str_rows]; exact hrest)
      obtain ⟨fid', κ₂, h7, e7⟩ := h6.note hκ' (heap_alloc_new w.drew _)
      unfold oWp
      rw [app_opS (hv.trans rfl) hv2 hrun]
      refine hK κ₂ _ _ _ _ (sm.put ((e5.trans e6).trans e7) h7 hdN ?_) ((e5.trans e6).trans e7) ⟨id', fid', rfl, by rw [List.map_append]⟩
      have := RepA.vs (κ := κ₂) (w := w.drew.alloc (.cells ((olds ++ Lib.strCells s) ++ rest).toArray e)) (O := Own κ₂ ((fid', HO.typ id' e) :: (id', HO.lst 1 (l.map bE ++ s.data.toList.map bE)) :: hs.eraseIdx k)) (some w.heap.size) ncap (some ⟨w.heap.size, 0, none⟩) id' 0 (l.length + s.size) 1 (e7.kap _ _ hκ') (by omega) (fun _ => by simp)
      simpa using this

/-- A string appended to nil. -/
theorem L.app_str0T {d : Tmp} {t u : Nat} {e : TypeId} {s : ByteArray} {x y : Operand} (ht : tBy P t = some e) (hu : isStr P u = true) (hx : oev σ x = .nilsl) (hy : oev σ y = .d (.str s)) (h0 : s.size ≠ 0)
    (hb : s.size ≤ 140737488355328) (hd : Nat.blt d N.n = true) :
    Loud P N σ hs ⟨some d, .call ⟨.builtin .append, #[x, y], #[t, u]⟩, ty, pos, af, g⟩
      (fun σ' hs' => ∃ id' fid', σ' = (d, .vs id' 0 s.size 1) :: σ ∧ hs' = (fid', .typ id' e) :: (id', .lst 1 (s.data.toList.map bE)) :: hs) := by
  intro κ a w sm K Q hK
  have hdN : d < N.n := by simpa [Nat.blt_eq] using hd
  obtain ⟨inf, hue, hi, hz, h1, h2⟩ := tBy_spec ht
  have hus := isStr_spec hu
  have hx1 := sm.oev x; rw [hx] at hx1
  have hy1 := sm.oev y; rw [hy] at hy1
  have hv2 := hy1.str_inv
  generalize hv : a.eval x = v at hx1
  cases hx1
  have hl2 := lined_str w (Own κ hs) s
  have hr := run_append_nil_string (P := P) w t u ty e inf (.int .u8 0) hue hus hi hz s (by omega) (by omega) (by rw [h2]; omega)
  have e1 : (s.data.map fun b => Value.int .u8 b.toNat) = (Lib.strCells s).toArray := by apply Array.ext'; simp [Lib.strCells]
  rw [e1] at hr
  have e2 : ((Lib.strCells s).toArray ++ Builtin.zeroCells (Value.int .u8 0).cells (grownCap w s.size 0 e - s.size)) = (Lib.strCells s ++ (Builtin.zeroCells (Value.int .u8 0).cells (grownCap w s.size 0 e - s.size)).toList).toArray := by apply Array.ext'; simp
  rw [e2] at hr
  obtain ⟨id', κ', h6, e6, hκ'⟩ := new_lst sm.heap (cap := grownCap w s.size 0 e) (rest := (Builtin.zeroCells (Value.int .u8 0).cells (grownCap w s.size 0 e - s.size)).toList) e (by decide) hl2 bE_len bE_one
    (by rw [str_rows]; exact grownCap_ge w s.size 0 e) (grownCap_le_maxLen w s.size 0 e (by simp only [maxLen]; omega)) (by rw [zc_list, str_rows]; simp)
  obtain ⟨fid', κ₂, h7, e7⟩ := h6.note hκ' (heap_alloc_new w.drew _)
  unfold oWp
  rw [app_opS hv hv2 hr]
  refine hK κ₂ _ _ _ _ (sm.put (e6.trans e7) h7 hdN ?_) (e6.trans e7) ⟨id', fid', rfl, rfl⟩
  have := RepA.vs (κ := κ₂) (w := w.drew.alloc (.cells (Lib.strCells s ++ (Builtin.zeroCells (Value.int .u8 0).cells (grownCap w s.size 0 e - s.size)).toList).toArray e)) (O := Own κ₂ ((fid', HO.typ id' e) :: (id', HO.lst 1 (s.data.toList.map bE)) :: hs)) (some w.heap.size) (grownCap w s.size 0 e) (some ⟨w.heap.size, 0, none⟩) id' 0 s.size 1 (e7.kap _ _ hκ') (by have := grownCap_ge w s.size 0 e; omega) (fun _ => by simp)
  simpa using this

/-! ### own bytes handed on as a string -/
/-- One's own object is given up, and its block written. -/
theorem HS.leaveO {κ : Kap} {w w' : World} (h : HS κ w hs) {k id : Nat} {o : HO} {b c : Nat} (hk : hs[k]? = some (id, o)) (hκ : κ id = some (some b, c))
    (hsize : w'.heap.size = w.heap.size) (hdr : w'.drawn = w.drawn) (hos : w'.os = w.os) (ht : w'.tape = w.tape) (hout : w'.output = w.output) (hoth : ∀ i, i ≠ b → w'.heap[i]? = w.heap[i]?) (hty : SameT w w' b) :
    HS κ w' (hs.eraseIdx k) ∧ Ext κ hs w κ (hs.eraseIdx k) w' := by
  have hmem : (id, o) ∈ hs := List.mem_of_getElem? hk
  have hb : Own κ hs b := ⟨id, o, c, hmem, hκ⟩
  have hsub := List.eraseIdx_sublist hs k
  have e : Ext κ hs w κ (hs.eraseIdx k) w' :=
    ⟨fun _ _ h => h, by omega, Nat.le_of_eq hdr.symm, hos, ht, hout, fun i _ hn => hoth i fun he => hn (he ▸ hb), fun i _ ⟨j, o', c', hi, hj⟩ => ⟨j, o', c', hsub.subset hi, hj⟩, fun i o₁ hi => .inl ⟨o₁, hsub.subset hi⟩, fun i => by
      by_cases hi : i = b
      · subst hi; exact hty
      · exact .of_eq (hoth i hi)⟩
  have hnd : ((hs.eraseIdx k).map (·.1)).Nodup := (hsub.map _).nodup h.nodup
  refine ⟨⟨hnd, fun i o₁ hi => ?_, fun i i' o₁ o₂ b' c₁ c₂ hi hi' => h.inj i i' o₁ o₂ b' c₁ c₂ (hsub.subset hi) (hsub.subset hi'), h.fresh⟩, e⟩
  obtain ⟨x, hx, hok⟩ := h.ok i o₁ (hsub.subset hi)
  refine ⟨x, hx, hok.ext e fun b' hb' => hoth b' fun he => ?_⟩
  subst he
  have hid : i = id := h.inj i id o₁ o b' x.2 c (hsub.subset hi) hmem (by rw [hx, ← hb']) hκ
  subst hid
  have h3 := ((erase_perm hs k _ hk).map (·.1)).nodup_iff.2 h.nodup
  rw [List.map_cons, List.nodup_cons] at h3
  exact h3.1 (List.mem_map.2 ⟨_, hi, rfl⟩)

theorem SameT.freeze (w : World) (b n : Nat) : SameT w (w.freeze ⟨b, 0, none⟩ n) b := fun cs T f h => by
  unfold World.freeze
  split
  · exact ⟨cs, f, h⟩
  · obtain ⟨lo, hi⟩ := f
    refine ⟨cs, (if lo == hi then (0, 0 + n) else (min lo 0, max hi (0 + n))), ?_⟩
    show (Array.modify _ _ _)[b]? = _
    rw [Array.getElem?_modify, if_pos rfl, h]
    rfl
theorem freeze_other (w : World) (b n i : Nat) (h : i ≠ b) : (w.freeze ⟨b, 0, none⟩ n).heap[i]? = w.heap[i]? := by
  unfold World.freeze
  split
  · rfl
  · show (Array.modify _ _ _)[i]? = _
    rw [Array.getElem?_modify, if_neg (Ne.symm h)]
theorem freeze_size (w : World) (b n : Nat) : (w.freeze ⟨b, 0, none⟩ n).heap.size = w.heap.size := by
  unfold World.freeze
  split <;> simp

def tPe (P : Program) (t : TypeId) : Option TypeId := match P.underlying t with
  | some (.pointer e) => if P.cellsOf e = 1 then some e else none
  | _ => none
theorem tPe_spec {t e : TypeId} (h : tPe P t = some e) : P.underlying t = some (.pointer e) ∧ P.cellsOf e = 1 := by
  unfold tPe at h
  split at h
  · rename_i e' hu
    split at h
    · rename_i hc; obtain rfl := Option.some.inj h; exact ⟨hu, hc⟩
    · cases h
  · cases h

theorem Q.sdata_vs {tys : Array TypeId} {id n k : Nat} {l : List (List D)} {x : Operand} (hx : oev σ x = .vs id 0 n 1) (hk : hs[k]? = some (id, .lst 1 l)) (hn : n = l.length) (h0 : l ≠ []) :
    Quiet P N σ hs ⟨d, .call ⟨.builtin .unsafeSliceData, #[x], tys⟩, ty, pos, af, g⟩ (.ptr id 0) :=
  .of_run fun κ a w s => by
    have h1 := s.oev x; rw [hx] at h1
    obtain ⟨ob, cap, p, hκ, hle, hp, hv⟩ := h1.vs_inv
    obtain ⟨yy, hyy, hok⟩ := s.heap.ok id _ (List.mem_of_getElem? hk)
    rw [hκ] at hyy
    obtain rfl := Option.some.inj hyy
    obtain ⟨g0, g0', g1, g2, g3, g4, g5⟩ := hok
    have hpos : 0 < l.length := List.length_pos_iff.2 h0
    cases ob with
    | none => exact absurd (g4 rfl) (by omega)
    | some b =>
      have hpe : p = some ⟨b, 0, none⟩ := by rw [hp (by omega)]; simp
      subst hpe
      refine ⟨.pointer (some ⟨b, 0, none⟩), ?_, .ptr b cap id 0 hκ⟩
      rw [builtin_run]
      have := Lib.run_unsafeSliceData_row (P := P) w tys ty ⟨b, 0, none⟩ n cap (by omega)
      simp [builtin, hv, this]
theorem Q.sdata_nil {tys : Array TypeId} {x : Operand} (hx : oev σ x = .nilsl) : Quiet P N σ hs ⟨d, .call ⟨.builtin .unsafeSliceData, #[x], tys⟩, ty, pos, af, g⟩ (.d .nilp) :=
  .of_run fun κ a w s => by
    have h1 := s.oev x; rw [hx] at h1
    generalize hv : a.eval x = v at h1
    cases h1
    refine ⟨.pointer none, ?_, .d .nilp⟩
    rw [builtin_run]
    have := Lib.run_unsafeSliceData_nil (P := P) w tys ty 0 0
    simp [builtin, hv, this]
theorem Q.ustr0 {pt it : TypeId} {x y : Operand} (hx : oev σ x = .d .nilp) (hy : oev σ y = .d (.int .i64 0)) : Quiet P N σ hs ⟨d, .call ⟨.builtin .unsafeString, #[x, y], #[pt, it]⟩, ty, pos, af, g⟩ (.d (.str ⟨#[]⟩)) :=
  .of_run fun κ a w s => by
    have h1 := s.oev x; rw [hx] at h1
    have h2 := s.oev y; rw [hy] at h2
    refine ⟨.string .empty, ?_, .d (.str _)⟩
    rw [builtin_run]
    have := Lib.run_unsafeString_none (P := P) w pt it ty none
    simp [builtin, nilp_inv h1, h2.int_inv, this]

/-- unsafe.String over one's own bytes: they are given up. -/
theorem L.ustr {d : Tmp} {pt it e : TypeId} {x y : Operand} {l : List UInt8} {id n k kt fid : Nat} (hp : tPe P pt = some e) (hx : oev σ x = .ptr id 0) (hy : oev σ y = .d (.int .i64 (n : Nat))) (hk : hs[k]? = some (id, .lst 1 (l.map bE)))
    (hkt : hs[kt]? = some (fid, .typ id e)) (hn : n = l.length) (h0 : l ≠ []) (hd : Nat.blt d N.n = true) :
    Loud P N σ hs ⟨some d, .call ⟨.builtin .unsafeString, #[x, y], #[pt, it]⟩, ty, pos, af, g⟩ (fun σ' hs' => σ' = (d, .d (.str ⟨l.toArray⟩)) :: σ ∧ hs' = hs.eraseIdx k) := by
  intro κ a w s K Q hK
  subst hn
  have hdN : d < N.n := by simpa [Nat.blt_eq] using hd
  obtain ⟨hpu, hpc⟩ := tPe_spec hp
  have hx1 := s.oev x; rw [hx] at hx1
  have hy1 := s.oev y; rw [hy] at hy1
  obtain ⟨b, cap, hκ, hv⟩ := hx1.ptr_inv
  obtain ⟨yy, hyy, hok⟩ := s.heap.ok id _ (List.mem_of_getElem? hk)
  rw [hκ] at hyy
  obtain rfl := Option.some.inj hyy
  obtain ⟨g0, g0', g1, g2, g3, g4, g5⟩ := hok
  rw [List.length_map] at g0
  obtain ⟨cs, T, hw, hcs, hr⟩ := g5 b rfl
  obtain ⟨⟨ob2, c2⟩, hκ2, ht0, b2, c3, cs2, f2, ht1, ht2⟩ := s.heap.ok fid _ (List.mem_of_getElem? hkt)
  rw [hκ] at ht1
  obtain ⟨he1, rfl⟩ := Prod.mk.inj (Option.some.inj ht1)
  obtain rfl := Option.some.inj he1
  rw [hw] at ht2
  obtain ⟨rfl, rfl, _⟩ : cs = cs2 ∧ T = e ∧ (0, 0) = f2 := by injection ht2 with ht2; injection ht2 with h1 h2 h3; exact ⟨h1, h2, h3⟩
  have hrun := Lib.run_unsafeString_row (P := P) w pt it ty T hpu hpc b cap (by simp [World.shape?, hw, hcs]) l h0 g0 (by simp only [maxLen] at g0'; omega) (fun j q hj => by
    obtain ⟨v, hv1, hv2⟩ := hr j 0 (bE q) (.int .u8 q.toNat) (by rw [List.getElem?_map, hj]; rfl) rfl
    cases hv2
    rw [addr_add_lit]
    simp only [Nat.mul_one, Nat.add_zero] at hv1
    simp [World.cell?, hw, hv1])
  obtain ⟨h5, e5⟩ := s.heap.leaveO (w' := w.freeze ⟨b, 0, none⟩ l.length) hk hκ (freeze_size w b _) (by unfold World.freeze; split <;> rfl) (by unfold World.freeze; split <;> rfl) (by unfold World.freeze; split <;> rfl) (by unfold World.freeze; split <;> rfl) (fun i hi => freeze_other w b _ i hi) (SameT.freeze w b _)
  have hop : (execOp a.eval ⟨some d, .call ⟨.builtin .unsafeString, #[x, y], #[pt, it]⟩, ty, pos, af, g⟩).run P w = .ok (.value (.string ⟨l.toArray⟩)) (w.freeze ⟨b, 0, none⟩ l.length) := by
    rw [builtin_run]
    simp [builtin, hv, hy1.int_inv, hrun]
  unfold oWp
  rw [hop]
  exact hK κ _ _ _ _ (s.put e5 h5 hdN (.d (.str _))) e5 ⟨rfl, rfl⟩

/-! ### a builder's own address -/
def tUn (P : Program) (t t' : TypeId) : Bool := match P.underlying t, P.underlying t' with
  | some (.pointer e), some .unsafePointer => match P.info? e with | some i => decide (i.size ≠ 0) | none => false
  | _, _ => false
def tNu (P : Program) (t t' T : TypeId) (n : Nat) : Bool := match P.underlying t, P.underlying t' with
  | some .unsafePointer, some (.pointer u) => (P.info? u).isSome && liesAt P P.depth T (n / P.cellsOf T) 0 u 1
  | _, _ => false
theorem typ_shape {κ : Kap} {w : World} (h : HS κ w hs) {id fid k kt b c : Nat} {T : TypeId} {l : List AV} (hk : hs[k]? = some (id, .cells l)) (hkt : hs[kt]? = some (fid, .typ id T)) (hκ : κ id = some (some b, c)) : w.shape? b = some (T, l.length) := by
  obtain ⟨yy, hyy, b', cs, hbe, hw, hsz, _⟩ := h.ok id _ (List.mem_of_getElem? hk)
  rw [hκ] at hyy
  obtain rfl := Option.some.inj hyy
  obtain rfl := Option.some.inj hbe
  obtain ⟨⟨ob2, c2⟩, hκ2, ht0, b2, c3, cs2, f2, ht1, ht2⟩ := h.ok fid _ (List.mem_of_getElem? hkt)
  rw [hκ] at ht1
  obtain ⟨he1, rfl⟩ := Prod.mk.inj (Option.some.inj ht1)
  obtain rfl := Option.some.inj he1
  rw [hw] at ht2
  obtain ⟨rfl, rfl, _⟩ : cs = cs2 ∧ c = T ∧ (0, 0) = f2 := by injection ht2 with ht2; injection ht2 with h1 h2 h3; exact ⟨h1, h2, h3⟩
  simp [World.shape?, hw, hsz]
theorem Q.to_uns {t t' : TypeId} {x : Operand} {id k kt fid : Nat} {T : TypeId} {l : List AV} (ht : tUn P t t' = true) (hx : oev σ x = .ptr id 0) (hk : hs[k]? = some (id, .cells l)) (hkt : hs[kt]? = some (fid, .typ id T)) (h0 : Nat.blt 0 l.length = true) :
    Quiet P N σ hs ⟨d, .convert t t' x, ty, pos, af, g⟩ (.ptr id 0) :=
  .of_run fun κ a w s => by
    have h1 := s.oev x; rw [hx] at h1
    obtain ⟨b, cap, hκ, hv⟩ := h1.ptr_inv
    have hsh := typ_shape s.heap hk hkt hκ
    unfold tUn at ht
    split at ht
    · rename_i e hu hu'
      split at ht
      · rename_i i hi
        refine ⟨.pointer (some ⟨b, 0, none⟩), ?_, .ptr b cap id 0 hκ⟩
        rw [show execOp a.eval ⟨d, .convert t t' x, ty, pos, af, g⟩ = (do pure (.value (← convert t t' (a.eval x)))) from rfl, hv, Sem.run_bind, Lib.run_to_unsafe w ⟨b, 0, none⟩ hu hu' hi (by simpa using ht) hsh (by simpa [Nat.blt_eq] using h0)]
        rfl
      · cases ht
    · cases ht
theorem Q.of_uns {t t' : TypeId} {x : Operand} {id k kt fid : Nat} {T : TypeId} {l : List AV} (hx : oev σ x = .ptr id 0) (hk : hs[k]? = some (id, .cells l)) (hkt : hs[kt]? = some (fid, .typ id T)) (ht : tNu P t t' T l.length = true) :
    Quiet P N σ hs ⟨d, .convert t t' x, ty, pos, af, g⟩ (.ptr id 0) :=
  .of_run fun κ a w s => by
    have h1 := s.oev x; rw [hx] at h1
    obtain ⟨b, cap, hκ, hv⟩ := h1.ptr_inv
    have hsh := typ_shape s.heap hk hkt hκ
    unfold tNu at ht
    split at ht
    · rename_i u hu hu'
      obtain ⟨h2, h3⟩ := Bool.and_eq_true_iff.1 ht
      obtain ⟨j, hj⟩ := Option.isSome_iff_exists.1 h2
      refine ⟨.pointer (some ⟨b, 0, none⟩), ?_, .ptr b cap id 0 hκ⟩
      rw [show execOp a.eval ⟨d, .convert t t' x, ty, pos, af, g⟩ = (do pure (.value (← convert t t' (a.eval x)))) from rfl, hv, Sem.run_bind, Lib.run_from_unsafe w ⟨b, 0, none⟩ hu hu' hj hsh h3]
      rfl
    · cases ht
theorem Q.noesc {x y : Operand} {tys : Array TypeId} {f : FuncId} {v : AV} (hx : oev σ x = .fn f []) (he : ∀ args w, (callFunc f args).run P w = ((Extern.AbiNoEscape.same args).run P w).andThen fun v w' => .ok (.value v) w')
    (hy : oev σ y = v) : Quiet P N σ hs ⟨d, .call ⟨.value x, #[y], tys⟩, ty, pos, af, g⟩ v :=
  Q.ext (xs := [v]) hx he (by simp [hy]) fun κ w vals h h1 h2 => by
    obtain ⟨u, rfl⟩ : ∃ u, vals = #[u] := ⟨vals[0]'(by rw [h1]; exact Nat.zero_lt_one), by
      apply Array.ext
      · exact h1
      · intro i hi hi'
        have : i = 0 := by simp at h1; omega
        subst this; rfl⟩
    exact ⟨u, rfl, h2 0 u v rfl rfl⟩
theorem Q.neq_same {t : Nat} {t' : TypeId} {id off : Nat} {x y : Operand} (ht : isPtr P t = true) (hi : (match P.underlying t with | some (.pointer e) => (P.info? e).isSome | _ => false) = true) (hx : oev σ x = .ptr id off) (hy : oev σ y = .ptr id off) :
    Quiet P N σ hs ⟨d, .binOp .neq t x y t', ty, pos, af, g⟩ (.d (.bool false)) :=
  .of_run fun κ a w s => by
    have h1 := s.oev x; rw [hx] at h1
    have h2 := s.oev y; rw [hy] at h2
    obtain ⟨b, cap, hκ, hv⟩ := h1.ptr_inv
    obtain ⟨b', cap', hκ', hv'⟩ := h2.ptr_inv
    rw [hκ] at hκ'
    obtain ⟨hbe, rfl⟩ := Prod.mk.inj (Option.some.inj hκ')
    obtain rfl := Option.some.inj hbe
    obtain ⟨e, hu⟩ := isPtr_spec ht
    rw [hu] at hi
    obtain ⟨j, hj⟩ := Option.isSome_iff_exists.1 hi
    refine ⟨.bool false, ?_, .d (.bool _)⟩
    have := Lib.run_neq_ptr_same (P := P) w ⟨b, off, none⟩ hu hj
    have hg : (eqGuard .neq t x y (.pointer (some ⟨b, off, none⟩)) (.pointer (some ⟨b, off, none⟩))).run P w = .ok () w := rfl
    simp only [execOp, hv, hv'] 
    simp [this, hg]

/-- An array variable cut from a place on: it is never written again. -/
theorem L.arrcut {d : Tmp} {t n id k i : Nat} {ds : List D} {x lo : Operand} (ht : tArr P t = some (n, 1)) (hx : oev σ x = .ptr id 0) (hlo : oev σ lo = .d (.int .i64 (i : Nat))) (hk : hs[k]? = some (id, .cells (ds.map .d))) (hn : ds.length = n) (h1 : ∀ x ∈ ds, x.one = true) (hi : i < n) (hd : Nat.blt d N.n = true) :
    Loud P N σ hs ⟨some d, .slice t x (some lo) none none, ty, pos, af, g⟩ (fun σ' hs' => σ' = (d, .d (.sl 1 ((ds.drop i).map fun x => [x]))) :: σ ∧ hs' = hs.eraseIdx k) := by
  intro κ a w s K Q hK
  have hdN : d < N.n := by simpa [Nat.blt_eq] using hd
  obtain ⟨e, inf, hu, hei, hsz⟩ := tArr_spec ht
  have hx1 := s.oev x; rw [hx] at hx1
  have hlo1 := s.oev lo; rw [hlo] at hlo1
  obtain ⟨b, cap, hkk, hv⟩ := hx1.ptr_inv
  have hmem : (id, HO.cells (ds.map .d)) ∈ hs := List.mem_of_getElem? hk
  obtain ⟨y, hy, hok⟩ := s.heap.ok id _ hmem
  rw [hkk] at hy
  obtain rfl := Option.some.inj hy
  obtain ⟨b', cs, hbe, hw, hcs, hone, hr⟩ := hok
  obtain rfl := Option.some.inj hbe
  obtain ⟨g1, g2⟩ := s.heap.sublist (List.eraseIdx_sublist hs k)
  have hnot : ¬ Own κ (hs.eraseIdx k) b := by
    rintro ⟨id', o', c', hi', hk'⟩
    have : id' = id := s.heap.inj id' id o' _ b c' cap ((List.eraseIdx_sublist hs k).subset hi') hmem hk' hkk
    subst this
    have hnd := s.heap.nodup
    have h3 := ((erase_perm hs k _ hk).map (·.1)).nodup_iff.2 hnd
    rw [List.map_cons, List.nodup_cons] at h3
    exact h3.1 (List.mem_map.2 ⟨_, hi', rfl⟩)
  have hrun : (execOp a.eval ⟨some d, .slice t x (some lo) none none, ty, pos, af, g⟩).run P w = .ok (.value (.slice (some ⟨b, i, none⟩) (n - i) (n - i))) w := by
    rw [show execOp a.eval ⟨some d, .slice t x (some lo) none none, ty, pos, af, g⟩ = (do pure (.value (← Instr.sliceAt t (a.eval x) (some (a.eval lo)) none none))) from rfl, hv, hlo1.int_inv, Sem.run_bind]
    have hne : ¬ n = i := by omega
    have hsz1 : inf.size = 1 := hsz
    first
      | simp [Instr.sliceAt, run_underlying hu, Instr.sureAddr, Instr.sliceBounds, Instr.sliceBound, size_run hei, hsz1, addr_add_lit, hne, show i ≤ n by omega, asInt, asIntOf]
      | skip
  have hcsn : cs.size = n := by rw [hcs, List.length_map, hn]
  have hrep : RepA κ w (Own κ (hs.eraseIdx k)) (.slice (some ⟨b, i, none⟩) (n - i) (n - i)) (.d (.sl 1 ((ds.drop i).map fun x => [x]))) := by
    refine .d (.sl _ _ _ _ _ (fun q j => cs.getD (i + (q * 1 + j)) undef) (by simp [hn]) (Nat.le_refl _) ?_ ?_ (fun q j r x hq hj => ?_) (fun q j r x hq hj => ?_))
    · intro r hr; obtain ⟨z, _, rfl⟩ := List.mem_map.1 hr; rfl
    · intro r hr z hz; obtain ⟨z', hz', rfl⟩ := List.mem_map.1 hr; rw [List.mem_singleton.1 hz]; exact h1 _ (List.mem_of_mem_drop hz')
    all_goals
      rw [List.getElem?_map] at hq
      obtain ⟨z, hz, rfl⟩ := Option.map_eq_some_iff.1 hq
      have hj0 : j = 0 := by have := (List.getElem?_eq_some_iff.1 hj).1; simpa using this
      subst hj0
      rw [List.getElem?_drop] at hz
      have hlt : i + q < cs.size := by rw [hcsn, ← hn]; exact (List.getElem?_eq_some_iff.1 hz).1
    · refine ⟨_, rfl, hnot, ?_⟩
      rw [addr_add_lit]
      simp [World.cell?, hw, hlt]
    · obtain rfl := Option.some.inj hj
      have h4 := hr (i + q) cs[i + q] (.d z) (Array.getElem?_eq_getElem hlt) (by rw [List.getElem?_map, hz]; rfl)
      have : cs.getD (i + (q * 1 + 0)) undef = cs[i + q] := by simp [hlt]
      rw [this]
      exact h4.d_inv.mono (fun b' _ ho => g2.own b' ‹_› ho) (fun _ _ _ => rfl)
  unfold oWp
  rw [hrun]
  exact hK κ _ _ _ _ (s.put g2 g1 hdN hrep) g2 ⟨rfl, rfl⟩

/-! ### bits -/
theorem Q.xor64 {t t' : TypeId} {x y : Operand} {m n : Nat} (hx : oev σ x = .d (.int .u64 (m : Nat))) (hy : oev σ y = .d (.int .u64 (n : Nat))) (hm : m < 18446744073709551616) (hn : n < 18446744073709551616) :
    Quiet P N σ hs ⟨d, .binOp .xor t x y t', ty, pos, af, g⟩ (.d (.int .u64 ((m ^^^ n : Nat) : Nat))) :=
  .of_run fun κ a w st => ⟨.int .u64 ((m ^^^ n : Nat) : Nat), by
    rw [bin_run st hx hy]
    have h1 : (BitVec.ofInt IntKind.u64.bits (m : Nat) ^^^ BitVec.ofInt IntKind.u64.bits (n : Nat)).toNat = m ^^^ n := by
      show (BitVec.ofInt 64 (m : Nat) ^^^ BitVec.ofInt 64 (n : Nat)).toNat = m ^^^ n
      rw [BitVec.toNat_xor, BitVec.ofInt_natCast, BitVec.ofInt_natCast, BitVec.toNat_ofNat, BitVec.toNat_ofNat, Nat.mod_eq_of_lt (by omega), Nat.mod_eq_of_lt (by omega)]
    have hlt : m ^^^ n < 2 ^ 64 := Nat.xor_lt_two_pow (by omega) (by omega)
    have h2 : IntKind.u64.wrap ((m ^^^ n : Nat) : Nat) = ((m ^^^ n : Nat) : Int) := by show ((m ^^^ n : Nat) : Int) % 18446744073709551616 = _; omega
    show Result.andThen (Sem.run P (Op.intBits .xor .u64 m n) w) _ = _
    simp only [Op.intBits]
    rw [h1, h2]; rfl, .d (.int _ _)⟩
/-- The lower s bits of a count. -/
theorem Q.andm {t t' : TypeId} {x y : Operand} {n s : Nat} {q : Int} (hx : oev σ x = .d (.int .u64 (n : Nat))) (hy : oev σ y = .d (.int .u64 q)) (hq : q = ((2 ^ s - 1 : Nat) : Nat)) (hs1 : s ≤ 64) (hn : n < 18446744073709551616) :
    Quiet P N σ hs ⟨d, .binOp .and t x y t', ty, pos, af, g⟩ (.d (.int .u64 ((n % 2 ^ s : Nat) : Nat))) :=
  .of_run fun κ a w st => ⟨.int .u64 ((n % 2 ^ s : Nat) : Nat), by
    rw [bin_run st hx hy]
    have hp : 2 ^ s ≤ 2 ^ 64 := Nat.pow_le_pow_right (by decide) hs1
    have hp0 : 0 < 2 ^ s := Nat.pow_pos (by decide)
    have h1 : (BitVec.ofInt IntKind.u64.bits (n : Nat) &&& BitVec.ofInt IntKind.u64.bits q).toNat = n % 2 ^ s := by
      subst hq
      show (BitVec.ofInt 64 (n : Nat) &&& BitVec.ofInt 64 ((2 ^ s - 1 : Nat) : Nat)).toNat = n % 2 ^ s
      rw [BitVec.toNat_and, BitVec.ofInt_natCast, BitVec.ofInt_natCast, BitVec.toNat_ofNat, BitVec.toNat_ofNat, Nat.mod_eq_of_lt (show n < 2 ^ 64 by omega), Nat.mod_eq_of_lt (show 2 ^ s - 1 < 2 ^ 64 by omega), Nat.and_two_pow_sub_one_eq_mod]
    have hlt : n % 2 ^ s < 2 ^ s := Nat.mod_lt _ hp0
    have h2 : IntKind.u64.wrap ((n % 2 ^ s : Nat) : Nat) = ((n % 2 ^ s : Nat) : Int) := by show ((n % 2 ^ s : Nat) : Int) % 18446744073709551616 = _; omega
    show Result.andThen (Sem.run P (Op.intBits .and .u64 n q) w) _ = _
    simp only [Op.intBits]
    rw [h1, h2]; rfl, .d (.int _ _)⟩
end
end Go.Proofs.YtldkkoecehdicaaDoorA
