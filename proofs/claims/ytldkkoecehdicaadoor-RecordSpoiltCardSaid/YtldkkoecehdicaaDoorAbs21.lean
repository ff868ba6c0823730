/- Arrays of numbers in variables; an array read as a slice; slices made with a length. -/
import Derived.Test.YtldkkoecehdicaaDoorAbs20
namespace Go.Proofs.YtldkkoecehdicaaDoorA
open Go
set_option linter.unusedVariables false
set_option linter.unusedSimpArgs false

def cellsI (n : Nat) (f : Nat → Int) : List AV := (List.range n).map fun i => AV.d (.int .i64 (f i))
def vD (v : Nat → Int) : List D := (List.range 8).map fun j => D.int .i64 (v j)
theorem cellsI_len (n : Nat) (f : Nat → Int) : (cellsI n f).length = n := by simp [cellsI]
theorem cellsI_at {n : Nat} (f : Nat → Int) {i : Nat} (h : i < n) : (cellsI n f)[i]? = some (.d (.int .i64 (f i))) := by
  unfold cellsI; rw [List.getElem?_map, List.getElem?_range h]; rfl
theorem cellsI_set {n : Nat} (f : Nat → Int) {i : Nat} (h : i < n) (v : Int) : (cellsI n f).set i (.d (.int .i64 v)) = cellsI n (updF f i v) := by
  refine List.ext_getElem? fun q => ?_
  rw [List.getElem?_set]
  by_cases hq : q < n
  · rw [cellsI_at (updF f i v) hq]
    by_cases he : i = q
    · subst he; rw [if_pos rfl, if_pos (by rw [cellsI_len]; exact h), updF_same]
    · rw [if_neg he, cellsI_at _ hq, updF_ne _ _ (Ne.symm he)]
  · rw [List.getElem?_eq_none (show (cellsI n (updF f i v)).length ≤ q by rw [cellsI_len]; omega), if_neg (by omega), List.getElem?_eq_none (show (cellsI n f).length ≤ q by rw [cellsI_len]; omega)]
theorem vD_at (v : Nat → Int) {j : Nat} (h : j < 8) : (vD v)[j]? = some (.int .i64 (v j)) := by
  unfold vD; rw [List.getElem?_map, List.getElem?_range h]; rfl
theorem vD_len (v : Nat → Int) : (vD v).length = 8 := by simp [vD]
theorem vD_drop (v : Nat → Int) {j : Nat} (h : j < 8) : ((vD v).drop j)[0]? = some (.int .i64 (v j)) := by
  rw [List.getElem?_drop]; exact vD_at v (by omega)
theorem vD_map (v : Nat → Int) : (vD v).map AV.d = cellsI 8 v := by unfold vD cellsI; rw [List.map_map]; rfl
theorem vD_ext {v w : Nat → Int} (h : ∀ j, j < 8 → v j = w j) : vD v = vD w := by
  unfold vD
  exact List.map_congr_left fun j hj => by rw [h j (List.mem_range.1 hj)]
theorem cellsI_ext {n : Nat} {v w : Nat → Int} (h : ∀ j, j < n → v j = w j) : cellsI n v = cellsI n w := by
  unfold cellsI
  exact List.map_congr_left fun j hj => by rw [h j (List.mem_range.1 hj)]
theorem takeD_map (ds : List D) (r : List AV) : takeD ds.length (ds.map AV.d ++ r) = some ds := by
  induction ds with
  | nil => rfl
  | cons x l ih => rw [List.map_cons, List.cons_append, List.length_cons, takeD, ih]
theorem row_split (f : Nat → Int) {s : Nat} (h : s < 8) : cellsI 64 f = (cellsI 64 f).take (s * 8) ++ (vD fun j => f (s * 8 + j)).map AV.d ++ (cellsI 64 f).drop (s * 8 + 8) := by
  refine List.ext_getElem? fun q => ?_
  have h1 : ((cellsI 64 f).take (s * 8)).length = s * 8 := by rw [List.length_take, cellsI_len]; omega
  rw [List.append_assoc, List.getElem?_append, h1]
  split
  · rename_i hq; rw [List.getElem?_take, if_pos hq]
  · rename_i hq
    rw [List.getElem?_append, List.length_map, vD_len]
    split
    · rename_i hq2
      rw [List.getElem?_map, vD_at _ hq2, cellsI_at _ (by omega), show s * 8 + (q - s * 8) = q by omega]; rfl
    · rename_i hq2
      rw [List.getElem?_drop, show s * 8 + 8 + (q - s * 8 - 8) = q by omega]
theorem row_take (f : Nat → Int) {s : Nat} (h : s < 8) : takeD 8 ((cellsI 64 f).drop (s * 8)) = some (vD fun j => f (s * 8 + j)) := by
  have h2 : (cellsI 64 f).drop (s * 8) = (vD fun j => f (s * 8 + j)).map AV.d ++ (cellsI 64 f).drop (s * 8 + 8) := by
    have h1 : ((cellsI 64 f).take (s * 8)).length = s * 8 := by rw [List.length_take, cellsI_len]; omega
    have := congrArg (List.drop (s * 8)) (row_split f h)
    rw [List.append_assoc, List.drop_left' h1] at this
    exact this
  rw [h2]
  have := takeD_map (vD fun j => f (s * 8 + j)) ((cellsI 64 f).drop (s * 8 + 8))
  rw [vD_len] at this
  exact this
def updR (f : Nat → Int) (s : Nat) (v : Nat → Int) : Nat → Int := fun i => if s * 8 ≤ i ∧ i < s * 8 + 8 then v (i - s * 8) else f i
theorem row_store (f : Nat → Int) {s : Nat} (h : s < 8) (v : Nat → Int) : (cellsI 64 f).take (s * 8) ++ (vD v).map AV.d ++ (cellsI 64 f).drop (s * 8 + 8) = cellsI 64 (updR f s v) := by
  refine List.ext_getElem? fun q => ?_
  have h1 : ((cellsI 64 f).take (s * 8)).length = s * 8 := by rw [List.length_take, cellsI_len]; omega
  rw [List.append_assoc, List.getElem?_append, h1]
  by_cases hq64 : q < 64
  · rw [cellsI_at _ hq64]
    split
    · rename_i hq; rw [List.getElem?_take, if_pos hq, cellsI_at _ hq64]; unfold updR; rw [if_neg (by omega)]
    · rename_i hq
      rw [List.getElem?_append, List.length_map, vD_len]
      split
      · rename_i hq2
        rw [List.getElem?_map, vD_at _ hq2]; unfold updR; rw [if_pos (by omega)]; rfl
      · rename_i hq2
        rw [List.getElem?_drop, show s * 8 + 8 + (q - s * 8 - 8) = q by omega, cellsI_at _ hq64]; unfold updR; rw [if_neg (by omega)]
  · rw [List.getElem?_eq_none (show (cellsI 64 (updR f s v)).length ≤ q by rw [cellsI_len]; omega), if_neg (by omega), List.getElem?_append, List.length_map, vD_len, if_neg (by omega), List.getElem?_drop,
      List.getElem?_eq_none (by rw [cellsI_len]; omega)]
theorem updR_in (f : Nat → Int) (s : Nat) (v : Nat → Int) {j : Nat} (h : j < 8) : updR f s v (s * 8 + j) = v j := by
  unfold updR; rw [if_pos (by omega), show s * 8 + j - s * 8 = j by omega]
theorem updR_out (f : Nat → Int) {s t : Nat} (v : Nat → Int) {j : Nat} (h : j < 8) (hst : t ≠ s) : updR f s v (t * 8 + j) = f (t * 8 + j) := by
  unfold updR; rw [if_neg (by omega)]

section
variable {P : Program} {N : Nm} {σ : Env} {hs : Hp} {d : Option Tmp} {ty : TypeId} {pos : String} {af : Array Edge} {g : Option (Nat × Bool)}
/-- A whole array variable read as a slice: it is never written again. -/
theorem L.arrslice {d : Tmp} {t n id k : Nat} {ds : List D} {x : Operand} (ht : tArr P t = some (n, 1)) (hx : oev σ x = .ptr id 0) (hk : hs[k]? = some (id, .cells (ds.map .d))) (hn : ds.length = n) (h1 : ∀ x ∈ ds, x.one = true) (hd : Nat.blt d N.n = true) :
    Loud P N σ hs ⟨some d, .slice t x none none none, ty, pos, af, g⟩ (fun σ' hs' => σ' = (d, .d (.sl 1 (ds.map fun x => [x]))) :: σ ∧ hs' = hs.eraseIdx k) := by
  intro κ a w s K Q hK
  have hdN : d < N.n := by simpa [Nat.blt_eq] using hd
  obtain ⟨e, inf, hu, hei, hsz⟩ := tArr_spec ht
  have hx1 := s.oev x; rw [hx] at hx1
  obtain ⟨b, cap, hkk, hv⟩ := hx1.ptr_inv
  have hmem : (id, HO.cells (ds.map .d)) ∈ hs := List.mem_of_getElem? hk
  obtain ⟨y, hy, hok⟩ := s.heap.ok id _ hmem
  rw [hkk] at hy
  obtain rfl := Option.some.inj hy
  obtain ⟨b', cs, hbe, hw, hcs, hone, hr⟩ := hok
  obtain rfl := Option.some.inj hbe
  obtain ⟨g1, g2⟩ := s.heap.sublist (List.eraseIdx_sublist hs k)
  have hnot : ¬ Own κ (hs.eraseIdx k) b := by
    rintro ⟨id', o', c', hi', hk'⟩
    have : id' = id := s.heap.inj id' id o' _ b c' cap ((List.eraseIdx_sublist hs k).subset hi') hmem hk' hkk
    subst this
    have hnd := s.heap.nodup
    have h3 := ((erase_perm hs k _ hk).map (·.1)).nodup_iff.2 hnd
    rw [List.map_cons, List.nodup_cons] at h3
    exact h3.1 (List.mem_map.2 ⟨_, hi', rfl⟩)
  have hrun : (execOp a.eval ⟨some d, .slice t x none none none, ty, pos, af, g⟩).run P w = .ok (.value (.slice (some ⟨b, 0, none⟩) n n)) w := by
    rw [show execOp a.eval ⟨some d, .slice t x none none none, ty, pos, af, g⟩ = (do pure (.value (← Instr.sliceAt t (a.eval x) none none none))) from rfl, hv, Sem.run_bind]
    simp [Instr.sliceAt, run_underlying hu, Instr.sureAddr, Instr.sliceBounds, size_run hei, addr_add_zero]
  have hcsn : cs.size = n := by rw [hcs, List.length_map, hn]
  have hrep : RepA κ w (Own κ (hs.eraseIdx k)) (.slice (some ⟨b, 0, none⟩) n n) (.d (.sl 1 (ds.map fun x => [x]))) := by
    refine .d (.sl _ _ _ _ _ (fun i j => cs.getD (i * 1 + j) undef) (by simp [hn]) (Nat.le_refl _) ?_ ?_ (fun i j r x hi hj => ?_) (fun i j r x hi hj => ?_))
    · intro r hr; obtain ⟨z, _, rfl⟩ := List.mem_map.1 hr; rfl
    · intro r hr z hz; obtain ⟨z', hz', rfl⟩ := List.mem_map.1 hr; rw [List.mem_singleton.1 hz]; exact h1 _ hz'
    all_goals
      rw [List.getElem?_map] at hi
      obtain ⟨z, hz, rfl⟩ := Option.map_eq_some_iff.1 hi
      have hj0 : j = 0 := by have := (List.getElem?_eq_some_iff.1 hj).1; simpa using this
      subst hj0
      have hlt : i < cs.size := by rw [hcsn, ← hn]; exact (List.getElem?_eq_some_iff.1 hz).1
    · refine ⟨_, rfl, hnot, ?_⟩
      rw [addr_add_lit]
      simp [World.cell?, hw, hlt]
    · obtain rfl := Option.some.inj hj
      have h4 := hr i cs[i] (.d z) (Array.getElem?_eq_getElem hlt) (by rw [List.getElem?_map, hz]; rfl)
      have : cs.getD (i * 1 + 0) undef = cs[i] := by simp [hlt]
      rw [this]
      exact h4.d_inv.mono (fun b' _ ho => g2.own b' ‹_› ho) (fun _ _ _ => rfl)
  unfold oWp
  rw [hrun]
  exact hK κ _ _ _ _ (s.put g2 g1 hdN hrep) g2 ⟨rfl, rfl⟩

/-- make with a length. -/
theorem L.make {d : Tmp} {t sz bytes : Nat} {n : Nat} {z : List Value} {zd : List D} {x y : Operand} {kl kc : IntKind} (ht : tApp P t = some (sz, bytes)) (hz : tZrow P t = some z) (hzd : cellsD z = some zd) (hx : oev σ x = .d (.int kl (n : Int))) (hy : oev σ y = .d (.int kc (n : Int)))
    (hb : n * bytes ≤ 140737488355328) (hd : Nat.blt d N.n = true) :
    Loud P N σ hs ⟨some d, .makeSlice t x y, ty, pos, af, g⟩ (fun σ' hs' => ∃ id, σ' = (d, .vs id 0 n sz) :: σ ∧ hs' = (id, .lst sz (List.replicate n zd)) :: hs) := by
  intro κ a w s K Q hK
  have hdN : d < N.n := by simpa [Nat.blt_eq] using hd
  obtain ⟨e, inf, zv, hu, hi, hzv, h1, h2, h3, hsz, hbb⟩ := tApp_spec ht
  have hx1 := s.oev x; rw [hx] at hx1
  have hy1 := s.oev y; rw [hy] at hy1
  have hzc : z = zv.cells.toList := by
    unfold tZrow at hz
    rw [hu] at hz
    obtain ⟨i', hi', hz'⟩ := Option.bind_eq_some_iff.1 hz
    rw [hi] at hi'
    obtain rfl := Option.some.inj hi'
    obtain ⟨q, hq, rfl⟩ := Option.map_eq_some_iff.1 hz'
    rw [hzv] at hq
    rw [← Option.some.inj hq]
  have hn48 : n ≤ 140737488355328 := by have := Nat.mul_le_mul_left n hbb; omega
  have hbi : (inf.bytes : Int) * (n : Int) ≤ 281474976710656 := by
    have h4 : n * inf.bytes ≤ 140737488355328 := by rw [h2]; exact hb
    have h5 : ((inf.bytes * n : Nat) : Int) ≤ 281474976710656 := by rw [Nat.mul_comm]; omega
    rwa [Int.natCast_mul] at h5
  have hrun := run_make (P := P) w t e inf zv hu hi hzv kl kc n n (by omega) (Int.le_refl _) hbi (by omega)
  simp only [Int.toNat_natCast] at hrun
  have hex : (execOp a.eval ⟨some d, .makeSlice t x y, ty, pos, af, g⟩).run P w = .ok (.value (.slice (some ⟨w.heap.size, 0, none⟩) n n)) (w.alloc (.cells (madeCells zv.cells (n * inf.size)) e)) := by
    rw [show execOp a.eval ⟨some d, .makeSlice t x y, ty, pos, af, g⟩ = (do pure (.value (← Instr.makeSlice t (a.eval x) (a.eval y)))) from rfl, hx1.int_inv, hy1.int_inv, Sem.run_bind, hrun]
    rfl
  have hzf : Filled w (Own κ hs) zv.cells zd := by
    have := cellsD_rep w (Own κ hs) _ zd hzd
    rw [hzc] at this
    simpa using this
  have hzl := zero_lined hzf h3 hsz n
  have hzlen : zd.length = sz := by rw [← hzf.1]; exact h3
  have hsame : madeCells zv.cells (n * inf.size) = (Builtin.zeroCells zv.cells n) := by
    unfold madeCells Builtin.zeroCells
    rw [h1, h3]
  have hrr : ∀ r ∈ List.replicate n zd, r.length = sz := fun r hr => by rw [List.eq_of_mem_replicate hr]; exact hzlen
  have hoo : ∀ r ∈ List.replicate n zd, ∀ x ∈ r, x.one = true := fun r hr => by rw [List.eq_of_mem_replicate hr]; exact hzf.2.1
  obtain ⟨l1, l2, l3⟩ := hzl
  obtain ⟨id, κ', g1, g2, hk⟩ := s.heap.alloc (madeCells zv.cells (n * inf.size)) e (.lst sz (List.replicate n zd)) n (fun κ' id hkk O hA hD => by
    refine ⟨by simp, by simp only [maxLen]; omega, hsz, hrr, hoo, by simp, fun b hb => ?_⟩
    obtain rfl := Option.some.inj hb
    refine ⟨madeCells zv.cells (n * inf.size), e, heap_alloc_new w _, by rw [size_madeCells, h1], fun i j r x hi hj => ?_⟩
    obtain ⟨u, hu1, hu2⟩ := l3 i j r x hi hj
    exact ⟨u, by rw [hsame, ← Array.getElem?_toList]; exact hu1, hD _ _ hu2⟩)
  unfold oWp
  rw [hex]
  refine hK κ' _ _ _ _ (s.put g2 g1 hdN ?_) g2 ⟨id, rfl, rfl⟩
  have := RepA.vs (κ := κ') (w := w.alloc (.cells (madeCells zv.cells (n * inf.size)) e)) (O := Own κ' ((id, .lst sz (List.replicate n zd)) :: hs)) (some w.heap.size) n (some ⟨w.heap.size, 0, none⟩) id 0 n sz hk (by omega) (fun _ => by simp)
  simpa using this
end
end Go.Proofs.YtldkkoecehdicaaDoorA
