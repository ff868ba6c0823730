/- Operations over abstract states: stores, new variables, lists that grow, cuts of slices, lengths, calls. -/
import Derived.Test.YtldkkoecehdicaaDoorAbs3
import Derived.Laws.MakeOwn
namespace Go.Proofs.YtldkkoecehdicaaDoorA
open Go
set_option linter.unusedVariables false
set_option linter.unusedSimpArgs false

def oneA : AV → Bool
  | .d x => x.one
  | .any | .tup _ | .aggv _ | .when _ _ => false
  | _ => true

theorem RepA.one {κ : Kap} {w : World} {O : Nat → Prop} {v : Value} {x : AV} (h : RepA κ w O v x) (h1 : oneA x = true) : v.oneCell' = true := by
  cases h <;> first | rfl | (simp [oneA] at h1; done) | skip
  case d h => exact h.oneCell h1

/-- An object under a new name. -/
theorem HS.rename {κ : Kap} {w : World} {hs : Hp} (h : HS κ w hs) {k id : Nat} {o : HO} (hk : hs[k]? = some (id, o)) :
    ∃ n κ', HS κ' w ((n, o) :: hs.eraseIdx k) ∧ Ext κ hs w κ' ((n, o) :: hs.eraseIdx k) w ∧ κ' n = κ id := by
  obtain ⟨n, hn⟩ := h.fresh
  obtain ⟨⟨ob, cap⟩, hx, hok⟩ := h.ok id o (List.mem_of_getElem? hk)
  have hsub := List.eraseIdx_sublist hs k
  let κ' : Kap := fun i => if i = n then κ id else κ i
  have hold : ∀ i x, κ i = some x → κ' i = some x := fun i x hi => by
    have : i ≠ n := fun he => by rw [he, hn n (Nat.le_refl _)] at hi; cases hi
    simp [κ', this, hi]
  have hmem : ∀ i o, (i, o) ∈ hs → i ≠ n := fun i o hi he => by
    obtain ⟨x, hx, _⟩ := h.ok i o hi
    rw [he, hn n (Nat.le_refl _)] at hx; cases hx
  have hne : ∀ i, i ≠ n → κ' i = κ i := fun i hi => by simp [κ', hi]
  have hnew : κ' n = κ id := by simp [κ']
  have hback : ∀ i o₁ b c, (i, o₁) ∈ (n, o) :: hs.eraseIdx k → κ' i = some (some b, c) → ∃ j o₂, (j, o₂) ∈ hs ∧ κ j = some (some b, c) := by
    intro i o₁ b c hi hb
    rcases List.mem_cons.1 hi with he | hi
    · obtain ⟨rfl, rfl⟩ := Prod.mk.inj he
      exact ⟨id, o₁, List.mem_of_getElem? hk, by rw [← hnew]; exact hb⟩
    · exact ⟨i, o₁, hsub.subset hi, by rw [← hne i (hmem _ _ (hsub.subset hi))]; exact hb⟩
  have e : Ext κ hs w κ' ((n, o) :: hs.eraseIdx k) w :=
    ⟨hold, Nat.le_refl _, Nat.le_refl _, rfl, rfl, rfl, fun _ _ _ => rfl, fun b _ ⟨i, o₁, c, hi, hb⟩ => let ⟨j, o₂, h1, h2⟩ := hback i o₁ b c hi hb; ⟨j, o₂, c, h1, h2⟩, fun i o' hi => by
      rcases List.mem_cons.1 hi with he | hi
      · obtain ⟨rfl, rfl⟩ := Prod.mk.inj he
        exact .inr (hn _ (Nat.le_refl _))
      · exact .inl ⟨_, hsub.subset hi⟩, SameT.refl w⟩
  have hperm := erase_perm hs k _ hk
  have hnd := (hperm.map (·.1)).nodup_iff.2 h.nodup
  rw [List.map_cons, List.nodup_cons] at hnd
  refine ⟨n, κ', ⟨?_, ?_, ?_, n + 1, fun i hi => ?_⟩, e, hnew⟩
  · rw [List.map_cons, List.nodup_cons]
    refine ⟨fun hi => ?_, hnd.2⟩
    obtain ⟨⟨i, o'⟩, hi, he⟩ := List.mem_map.1 hi
    exact hmem i o' (hsub.subset hi) he
  · intro i o₁ hi
    rcases List.mem_cons.1 hi with he | hi
    · obtain ⟨rfl, rfl⟩ := Prod.mk.inj he
      exact ⟨_, hnew.trans hx, hok.ext e fun b _ => rfl⟩
    · obtain ⟨x, h1, h2⟩ := h.ok i o₁ (hsub.subset hi)
      exact ⟨x, hold _ _ h1, h2.ext e fun b _ => rfl⟩
  · intro i i' o₁ o₂ b c c' hi hi' h1 h2
    rcases List.mem_cons.1 hi with he | gi <;> rcases List.mem_cons.1 hi' with he' | gi'
    · obtain ⟨rfl, rfl⟩ := Prod.mk.inj he; obtain ⟨rfl, rfl⟩ := Prod.mk.inj he'; rfl
    · obtain ⟨rfl, rfl⟩ := Prod.mk.inj he
      rw [hne i' (hmem _ _ (hsub.subset gi'))] at h2
      rw [hnew] at h1
      have := h.inj id i' o₁ o₂ b c c' (List.mem_of_getElem? hk) (hsub.subset gi') h1 h2
      subst this
      exact absurd (List.mem_map.2 ⟨_, gi', rfl⟩) hnd.1
    · obtain ⟨rfl, rfl⟩ := Prod.mk.inj he'
      rw [hne i (hmem _ _ (hsub.subset gi))] at h1
      rw [hnew] at h2
      have := h.inj i id o₁ o₂ b c c' (hsub.subset gi) (List.mem_of_getElem? hk) h1 h2
      subst this
      exact absurd (List.mem_map.2 ⟨_, gi, rfl⟩) hnd.1
    · rw [hne i (hmem _ _ (hsub.subset gi))] at h1; rw [hne i' (hmem _ _ (hsub.subset gi'))] at h2
      exact h.inj i i' o₁ o₂ b c c' (hsub.subset gi) (hsub.subset gi') h1 h2
  · have : i ≠ n := by omega
    rw [hne i this]; exact hn i (by omega)

/-- A write of some cells of a variable of one's own. -/
theorem write_cells {P : Program} {κ : Kap} {w : World} {hs : Hp} (h : HS κ w hs) {k id b cap off : Nat} {l xs : List AV} {vs : List Value} (hk : hs[k]? = some (id, .cells l)) (hκ : κ id = some (some b, cap))
    (hl : vs.length = xs.length) (hr : ∀ (i : Nat) (v : Value) (x : AV), vs[i]? = some v → xs[i]? = some x → RepA κ w (Own κ hs) v x) (h1 : ∀ v ∈ vs, v.oneCell' = true) (hoff : off + xs.length ≤ l.length) :
    ∃ w', (storeCells ⟨b, off, none⟩ vs).run P w = .ok () w' ∧ HS κ w' (hs.set k (id, .cells (l.take off ++ xs ++ l.drop (off + xs.length)))) ∧
      Ext κ hs w κ (hs.set k (id, .cells (l.take off ++ xs ++ l.drop (off + xs.length)))) w' := by
  obtain ⟨y, hy, hok⟩ := h.ok id _ (List.mem_of_getElem? hk)
  rw [hκ] at hy
  obtain rfl := Option.some.inj hy
  obtain ⟨b', cs, hbe, hw, hsz, hone, hrep⟩ := hok
  obtain rfl := Option.some.inj hbe
  have hst := run_storeCells_at P b off cap vs 0 cs w hw (by omega) h1
  simp only [Nat.add_zero] at hst
  refine ⟨_, hst, h.write hk hκ (by simp) rfl rfl rfl rfl (fun i hi => setRow_other w b i _ hi) fun hA hD => ?_⟩
  refine ⟨b, _, rfl, setRow_heap w b cs _ cap (0, 0) hw, ?_, ?_, ?_⟩
  · simp [hl, hsz]
  · intro v hv
    simp only [List.append_assoc, List.mem_append] at hv
    rcases hv with hv | hv | hv
    · exact hone v (List.mem_of_mem_take hv)
    · exact h1 v hv
    · exact hone v (List.mem_of_mem_drop hv)
  · intro i v x hi hx
    have hi' : (cs.toList.take off ++ vs ++ cs.toList.drop (off + vs.length))[i]? = some v := by simpa using hi
    apply hA
    rw [List.append_assoc, List.getElem?_append] at hi' hx
    have hlt1 : (cs.toList.take off).length = off := by simp; omega
    have hlt2 : (l.take off).length = off := by simp; omega
    rw [hlt1] at hi'; rw [hlt2] at hx
    split at hi'
    · rename_i hlt
      rw [if_pos hlt] at hx
      rw [List.getElem?_take, if_pos hlt] at hi' hx
      exact hrep i v x (by simpa using hi') hx
    · rename_i hge
      rw [if_neg hge] at hx
      rw [List.getElem?_append] at hi' hx
      rw [hl] at hi'
      split at hi'
      · rename_i hlt
        rw [if_pos hlt] at hx
        exact hr _ v x hi' hx
      · rename_i hge2
        rw [if_neg hge2] at hx
        rw [List.getElem?_drop] at hi' hx
        have he : off + xs.length + (i - off - xs.length) = i := by omega
        rw [he] at hi' hx
        exact hrep i v x (by simpa using hi') hx

section loud
variable {P : Program} {N : Nm} {σ : Env} {hs : Hp} {ty : TypeId} {pos : String} {af : Array Edge} {g : Option (Nat × Bool)}

theorem storeVar_run {t n : Nat} {b : Bool} (ht : tAgg P t = some (b, n)) {ad : Addr} {v : Value} {vs : List Value} (hv : v.cells.toList = vs) (hl : vs.length = n) {w w' : World}
    (hs : (storeCells ad vs).run P w = .ok () w') : (Instr.storeAt t (.pointer (some ad)) v).run P w = .ok () w' := by
  obtain ⟨h1, h2⟩ := tAgg_spec ht w
  have hsz : v.cells.size = n := by rw [← Array.length_toList, hv, hl]
  simp [Instr.storeAt, Instr.sureAddr, storeVar, h2, hsz, hv, hs]

theorem cells_one {v : Value} (h : v.oneCell' = true) : v.cells.toList = [v] := by
  cases v <;> first | rfl | simp [Value.oneCell'] at h

theorem set_eq {α : Type} (l : List α) (k : Nat) (x : α) (h : k < l.length) : l.take k ++ [x] ++ l.drop (k + 1) = l.set k x := by
  rw [List.set_eq_take_append_cons_drop]; simp [h]

theorem L.store {t id off k : Nat} {l : List AV} {v : AV} {x y : Operand} (ht : tAgg P t = some (false, 1)) (hx : oev σ x = .ptr id off) (hk : hs[k]? = some (id, .cells l)) (hoff : Nat.blt off l.length = true)
    (hy : oev σ y = v) (h1 : oneA v = true) : Loud P N σ hs ⟨none, .store t x y, ty, pos, af, g⟩ (fun σ' hs' => σ' = σ ∧ hs' = hs.set k (id, .cells (l.set off v))) := by
  intro κ a w s K Q hK
  have hx1 := s.oev x; rw [hx] at hx1
  have hy1 := s.oev y; rw [hy] at hy1
  obtain ⟨b, cap, hκ, hv⟩ := hx1.ptr_inv
  have hlt : off < l.length := by simpa [Nat.blt_eq] using hoff
  have ho := hy1.one h1
  obtain ⟨w', hst, h2, h3⟩ := write_cells (P := P) s.heap (xs := [v]) (vs := [a.eval y]) hk hκ rfl
    (fun i u x hi hx => by cases i with | zero => simp at hi hx; subst hi hx; exact hy1 | succ i => simp at hi) (by simpa using ho) (show off + [v].length ≤ l.length from hlt)
  rw [show l.take off ++ [v] ++ l.drop (off + [v].length) = l.set off v from set_eq l off v hlt] at h2 h3
  have hrun : (execOp a.eval ⟨none, .store t x y, ty, pos, af, g⟩).run P w = .ok .skip w' := by
    rw [show execOp a.eval ⟨none, .store t x y, ty, pos, af, g⟩ = (do Instr.storeAt t (a.eval x) (a.eval y); pure .skip) from rfl, hv, Sem.run_bind, storeVar_run ht (cells_one ho) rfl hst]
    rfl
  unfold oWp
  rw [hrun]
  exact hK κ a w' σ _ (s.ext h3 h2) h3 ⟨rfl, rfl⟩

theorem L.storen {t n id off k : Nat} {l : List AV} {ds : List D} {x y : Operand} (ht : tAgg P t = some (true, n)) (hx : oev σ x = .ptr id off) (hk : hs[k]? = some (id, .cells l)) (hy : oev σ y = .d (.agg ds))
    (hl : ds.length = n) (hoff : Nat.ble (off + ds.length) l.length = true) : Loud P N σ hs ⟨none, .store t x y, ty, pos, af, g⟩ (fun σ' hs' => σ' = σ ∧ hs' = hs.set k (id, .cells (l.take off ++ ds.map .d ++ l.drop (off + ds.length)))) := by
  intro κ a w s K Q hK
  have hx1 := s.oev x; rw [hx] at hx1
  have hy1 := s.oev y; rw [hy] at hy1
  obtain ⟨b, cap, hκ, hv⟩ := hx1.ptr_inv
  have hle : off + ds.length ≤ l.length := by simpa [Nat.ble_eq] using hoff
  have hd := hy1.d_inv
  generalize hu : a.eval y = u at hd
  cases hd with
  | agg cs _ hsz h1 hr =>
    obtain ⟨w', hst, h2, h3⟩ := write_cells (P := P) s.heap (xs := ds.map .d) (vs := cs.toList) hk hκ (by simpa using hsz)
      (fun i u x hi hx => by
        rw [List.getElem?_map] at hx
        obtain ⟨y, hy, rfl⟩ := Option.map_eq_some_iff.1 hx
        exact .d (hr i u y (by simpa using hi) hy))
      (fun v hv => by
        obtain ⟨i, hi⟩ := List.getElem?_of_mem hv
        have hi' : cs[i]? = some v := by simpa using hi
        have hlt : i < ds.length := by rw [← hsz]; exact (Array.getElem?_eq_some_iff.1 hi').1
        exact (hr i v _ hi' (List.getElem?_eq_getElem hlt)).oneCell (h1 _ (List.getElem_mem hlt)))
      (by simpa using hle)
    rw [List.length_map] at h2 h3
    have hrun : (execOp a.eval ⟨none, .store t x y, ty, pos, af, g⟩).run P w = .ok .skip w' := by
      rw [show execOp a.eval ⟨none, .store t x y, ty, pos, af, g⟩ = (do Instr.storeAt t (a.eval x) (a.eval y); pure .skip) from rfl, hv, hu, Sem.run_bind,
        storeVar_run ht (v := .agg cs) (vs := cs.toList) rfl (by rw [Array.length_toList, hsz, hl]) hst]
      rfl
    unfold oWp
    rw [hrun]
    exact hK κ a w' σ _ (s.ext h3 h2) h3 ⟨rfl, rfl⟩

/-- A write of some cells of an element of a list of one's own. -/
theorem write_row {κ : Kap} {w : World} (h : HS κ w hs) {k id b cap sz i off : Nat} {rows : List (List D)} {r xs : List D} {vs : List Value} (hk : hs[k]? = some (id, .lst sz rows)) (hκ : κ id = some (some b, cap))
    (hr : rows[i]? = some r) (hl : vs.length = xs.length) (hrep : ∀ (j : Nat) (v : Value) (x : D), vs[j]? = some v → xs[j]? = some x → RepD w (Own κ hs) v x) (h1 : ∀ x ∈ xs, x.one = true)
    (hoff : off + xs.length ≤ r.length) :
    ∃ w', (storeCells ⟨b, i * sz + off, none⟩ vs).run P w = .ok () w' ∧ HS κ w' (hs.set k (id, .lst sz (rows.set i (r.take off ++ xs ++ r.drop (off + xs.length))))) ∧
      Ext κ hs w κ (hs.set k (id, .lst sz (rows.set i (r.take off ++ xs ++ r.drop (off + xs.length))))) w' := by
  obtain ⟨y, hy, hok⟩ := h.ok id _ (List.mem_of_getElem? hk)
  rw [hκ] at hy
  obtain rfl := Option.some.inj hy
  obtain ⟨g0, g0', g1, g2, g3, g4, g5⟩ := hok
  obtain ⟨cs, T, hw, hsz, hrp⟩ := g5 b rfl
  have hrl : r.length = sz := g2 r (List.mem_of_getElem? hr)
  have hi : i < rows.length := (List.getElem?_eq_some_iff.1 hr).1
  have hmul : (i + 1) * sz ≤ cap * sz := Nat.mul_le_mul_right _ (by omega)
  rw [Nat.succ_mul] at hmul
  have hone : ∀ v ∈ vs, v.oneCell' = true := fun v hv => by
    obtain ⟨j, hj⟩ := List.getElem?_of_mem hv
    have hlt : j < xs.length := by rw [← hl]; exact (List.getElem?_eq_some_iff.1 hj).1
    exact (hrep j v _ hj (List.getElem?_eq_getElem hlt)).oneCell (h1 _ (List.getElem_mem hlt))
  have hst := run_storeCells_at P b (i * sz + off) T vs 0 cs w hw (by omega) hone
  simp only [Nat.add_zero] at hst
  have hnew : (r.take off ++ xs ++ r.drop (off + xs.length)).length = sz := by simp; omega
  refine ⟨_, hst, h.write hk hκ (by simp) rfl rfl rfl rfl (fun i hi => setRow_other w b i _ hi) fun hA hD => ?_⟩
  refine ⟨by simpa using g0, g0', g1, ?_, ?_, g4, fun b' hb' => ?_⟩
  · intro r' hr'
    rcases List.mem_or_eq_of_mem_set hr' with hr' | rfl
    · exact g2 r' hr'
    · exact hnew
  · intro r' hr' x hx
    rcases List.mem_or_eq_of_mem_set hr' with hr' | rfl
    · exact g3 r' hr' x hx
    · simp only [List.append_assoc, List.mem_append] at hx
      rcases hx with hx | hx | hx
      · exact g3 r (List.mem_of_getElem? hr) x (List.mem_of_mem_take hx)
      · exact h1 x hx
      · exact g3 r (List.mem_of_getElem? hr) x (List.mem_of_mem_drop hx)
  · obtain rfl := Option.some.inj hb'
    refine ⟨_, T, setRow_heap w b cs _ T (0, 0) hw, by simp; omega, ?_⟩
    have get : ∀ q, (cs.toList.take (i * sz + off) ++ vs ++ cs.toList.drop (i * sz + off + vs.length)).toArray[q]? =
        if q < i * sz + off then cs[q]? else if q < i * sz + off + xs.length then vs[q - (i * sz + off)]? else cs[q]? := by
      intro q
      simp only [List.getElem?_toArray, List.append_assoc, List.getElem?_append, List.length_take, Array.length_toList, hl]
      have : min (i * sz + off) cs.size = i * sz + off := by omega
      rw [this]
      by_cases hq : q < i * sz + off
      · simp [hq]
      · rw [if_neg hq, if_neg hq]
        by_cases hq2 : q < i * sz + off + xs.length
        · rw [if_pos (by omega), if_pos hq2]
        · rw [if_neg (by omega), if_neg hq2, List.getElem?_drop]
          have : i * sz + off + xs.length + (q - (i * sz + off) - xs.length) = q := by omega
          rw [this]; simp
    intro i' j r' d' hi' hj'
    rw [List.getElem?_set] at hi'
    split at hi'
    · rename_i hii
      subst hii
      obtain rfl := Option.some.inj hi'
      rw [get]
      rw [List.append_assoc, List.getElem?_append] at hj'
      have h2 : (r.take off).length = off := by simp; omega
      rw [h2] at hj'
      split at hj'
      · rename_i hlt
        rw [List.getElem?_take, if_pos hlt] at hj'
        obtain ⟨u, hu, hd⟩ := hrp i j r d' hr hj'
        exact ⟨u, by rw [if_pos (by omega)]; exact hu, hD _ _ hd⟩
      · rename_i hge
        rw [List.getElem?_append] at hj'
        split at hj'
        · rename_i hlt
          have hlv : j - off < vs.length := by omega
          refine ⟨vs[j - off], ?_, hD _ _ (hrep (j - off) _ d' (List.getElem?_eq_getElem hlv) hj')⟩
          rw [if_neg (by omega), if_pos (by omega)]
          have : i * sz + j - (i * sz + off) = j - off := by omega
          rw [this]; exact List.getElem?_eq_getElem hlv
        · rename_i hge2
          rw [List.getElem?_drop] at hj'
          have : off + xs.length + (j - off - xs.length) = j := by omega
          rw [this] at hj'
          obtain ⟨u, hu, hd⟩ := hrp i j r d' hr hj'
          exact ⟨u, by rw [if_neg (by omega), if_neg (by omega)]; exact hu, hD _ _ hd⟩
    · rename_i hii
      have hjl : j < sz := by rw [← g2 r' (List.mem_of_getElem? hi')]; exact (List.getElem?_eq_some_iff.1 hj').1
      obtain ⟨u, hu, hd⟩ := hrp i' j r' d' hi' hj'
      refine ⟨u, ?_, hD _ _ hd⟩
      rw [get]
      rcases Nat.lt_or_gt_of_ne (fun h => hii h.symm) with hlt | hgt
      · have := Nat.mul_le_mul_right sz (show i' + 1 ≤ i by omega)
        rw [Nat.succ_mul] at this
        rw [if_pos (by omega)]; exact hu
      · have := Nat.mul_le_mul_right sz (show i + 1 ≤ i' by omega)
        rw [Nat.succ_mul] at this
        rw [if_neg (by omega), if_neg (by omega)]; exact hu

theorem L.store_ep {t id sz i off k : Nat} {rows : List (List D)} {r : List D} {v : D} {x y : Operand} (ht : tAgg P t = some (false, 1)) (hx : oev σ x = .ep id sz i off) (hk : hs[k]? = some (id, .lst sz rows))
    (hr : rows[i]? = some r) (hoff : Nat.blt off r.length = true) (hy : oev σ y = .d v) (h1 : v.one = true) :
    Loud P N σ hs ⟨none, .store t x y, ty, pos, af, g⟩ (fun σ' hs' => σ' = σ ∧ hs' = hs.set k (id, .lst sz (rows.set i (r.set off v)))) := by
  intro κ a w s K Q hK
  have hx1 := s.oev x; rw [hx] at hx1
  have hy1 := s.oev y; rw [hy] at hy1
  obtain ⟨b, cap, hκ, hv⟩ := hx1.ep_inv
  have hlt : off < r.length := by simpa [Nat.blt_eq] using hoff
  have ho := hy1.d_inv.oneCell h1
  obtain ⟨w', hst, h2, h3⟩ := write_row (P := P) s.heap (xs := [v]) (vs := [a.eval y]) hk hκ hr rfl
    (fun i u x hi hx => by cases i with | zero => simp at hi hx; subst hi hx; exact hy1.d_inv | succ i => simp at hi) (by simpa using h1) (show off + [v].length ≤ r.length from hlt)
  rw [show r.take off ++ [v] ++ r.drop (off + [v].length) = r.set off v from set_eq r off v hlt] at h2 h3
  have hrun : (execOp a.eval ⟨none, .store t x y, ty, pos, af, g⟩).run P w = .ok .skip w' := by
    rw [show execOp a.eval ⟨none, .store t x y, ty, pos, af, g⟩ = (do Instr.storeAt t (a.eval x) (a.eval y); pure .skip) from rfl, hv, Sem.run_bind, storeVar_run ht (cells_one ho) rfl hst]
    rfl
  unfold oWp
  rw [hrun]
  exact hK κ a w' σ _ (s.ext h3 h2) h3 ⟨rfl, rfl⟩

theorem L.storen_ep {t n id sz i off k : Nat} {rows : List (List D)} {r ds : List D} {x y : Operand} (ht : tAgg P t = some (true, n)) (hx : oev σ x = .ep id sz i off) (hk : hs[k]? = some (id, .lst sz rows))
    (hr : rows[i]? = some r) (hy : oev σ y = .d (.agg ds)) (hl : ds.length = n) (hoff : Nat.ble (off + ds.length) r.length = true) :
    Loud P N σ hs ⟨none, .store t x y, ty, pos, af, g⟩ (fun σ' hs' => σ' = σ ∧ hs' = hs.set k (id, .lst sz (rows.set i (r.take off ++ ds ++ r.drop (off + ds.length))))) := by
  intro κ a w s K Q hK
  have hx1 := s.oev x; rw [hx] at hx1
  have hy1 := s.oev y; rw [hy] at hy1
  obtain ⟨b, cap, hκ, hv⟩ := hx1.ep_inv
  have hle : off + ds.length ≤ r.length := by simpa [Nat.ble_eq] using hoff
  have hd := hy1.d_inv
  generalize hu : a.eval y = u at hd
  cases hd with
  | agg cs _ hsz h1 hrp =>
    obtain ⟨w', hst, h2, h3⟩ := write_row (P := P) s.heap (xs := ds) (vs := cs.toList) hk hκ hr (by simpa using hsz)
      (fun i u x hi hx => hrp i u x (by simpa using hi) hx) h1 hle
    have hrun : (execOp a.eval ⟨none, .store t x y, ty, pos, af, g⟩).run P w = .ok .skip w' := by
      rw [show execOp a.eval ⟨none, .store t x y, ty, pos, af, g⟩ = (do Instr.storeAt t (a.eval x) (a.eval y); pure .skip) from rfl, hv, hu, Sem.run_bind,
        storeVar_run ht (v := .agg cs) (vs := cs.toList) rfl (by rw [Array.length_toList, hsz, hl]) hst]
      rfl
    unfold oWp
    rw [hrun]
    exact hK κ a w' σ _ (s.ext h3 h2) h3 ⟨rfl, rfl⟩

theorem cellA_rep (κ : Kap) (w : World) (O : Nat → Prop) (v : Value) : RepA κ w O v (cellA v) := by
  unfold cellA
  split
  · exact .nilsl
  · cases hc : cellD v with
    | none => exact .any _
    | some x =>
      unfold cellD at hc
      split at hc <;> first | (cases hc; done) | (obtain rfl := Option.some.inj hc)
      · exact .d (.int _ _)
      · exact .d (.bool _)
      · exact .d (.str _)
      · exact .d .nilp
      · exact .d .nilif
      · exact .d (.sl none 0 0 0 [] (fun _ _ => undef) rfl (Nat.le_refl _) (by simp) (by simp) (by simp) (by simp))

/-- A new variable of cells l. -/
theorem new_cells {κ : Kap} {w : World} (h : HS κ w hs) (vs : List Value) (l : List AV) (T : TypeId) (hl : vs.length = l.length) (h1 : ∀ v ∈ vs, v.oneCell' = true)
    (hr : ∀ (i : Nat) (v : Value) (x : AV), vs[i]? = some v → l[i]? = some x → RepA κ w (Own κ hs) v x) :
    ∃ id κ', HS κ' (w.alloc (.cells vs.toArray T)) ((id, .cells l) :: hs) ∧ Ext κ hs w κ' ((id, .cells l) :: hs) (w.alloc (.cells vs.toArray T)) ∧ κ' id = some (some w.heap.size, T) :=
  h.alloc vs.toArray T (.cells l) T fun κ' id hk O hA hD =>
    ⟨w.heap.size, vs.toArray, rfl, heap_alloc_new w _, by simpa using hl, by simpa using h1, fun i v x hi hx => hA _ _ (hr i v x (by simpa using hi) hx)⟩

theorem newRow_run (T : TypeId) (cs : Array Value) (w : World) : (newRow T cs).run P w = .ok ⟨w.heap.size, 0, none⟩ (w.alloc (.cells cs T)) := by
  simp [newRow]

theorem L.alloc {t T : Nat} {vs : List Value} (hz : tZero P T = some vs) (h1 : vs.all (·.oneCell') = true) (htN : Nat.blt t N.n = true) :
    Loud P N σ hs ⟨some t, .alloc T, ty, pos, af, g⟩ (fun σ' hs' => ∃ id, σ' = (t, .ptr id 0) :: σ ∧ hs' = (id, .cells (vs.map cellA)) :: hs) := by
  intro κ a w s K Q hK
  obtain ⟨i, hi, hz⟩ := Option.bind_eq_some_iff.1 hz
  obtain ⟨z, hz, hvs⟩ := Option.map_eq_some_iff.1 hz
  obtain ⟨id, κ', h2, e, hk⟩ := new_cells s.heap vs (vs.map cellA) T (by simp) (by simpa using h1)
    (fun i v x hi hx => by
      rw [List.getElem?_map, hi] at hx
      obtain rfl := Option.some.inj hx
      exact cellA_rep _ _ _ v)
  have hzr : (zeroValue T).run P w = .ok z w := by simp [zeroValue, typeInfo, hi, hz]
  have hrun : (execOp a.eval ⟨some t, .alloc T, ty, pos, af, g⟩).run P w = .ok (.value (.pointer (some ⟨w.heap.size, 0, none⟩))) (w.alloc (.cells vs.toArray T)) := by
    rw [show execOp a.eval ⟨some t, .alloc T, ty, pos, af, g⟩ = (do pure (.value (← (do let zero ← zeroValue T; pure (.pointer (some (← newVar T zero))))))) from rfl]
    simp only [Sem.run_bind, hzr, Result.andThen_ok, newVar, newRow_run, Sem.run_pure]
    rw [← hvs]
  unfold oWp
  rw [hrun]
  exact hK κ' _ _ _ _ (s.put e h2 (by simpa [Nat.blt_eq] using htN) (.ptr w.heap.size _ id 0 hk)) e ⟨id, rfl, rfl⟩

theorem L.box {t T : Nat} {v : AV} {x : Operand} (hx : oev σ x = v) (h1 : oneA v = true) (htN : Nat.blt t N.n = true) :
    Loud P N σ hs ⟨some t, .box T x, ty, pos, af, g⟩ (fun σ' hs' => ∃ id, σ' = (t, .ptr id 0) :: σ ∧ hs' = (id, .cells [v]) :: hs) := by
  intro κ a w s K Q hK
  have hx1 := s.oev x; rw [hx] at hx1
  have ho := hx1.one h1
  obtain ⟨id, κ', h2, e, hk⟩ := new_cells s.heap [a.eval x] [v] T rfl (by simpa using ho)
    (fun i u y hi hy => by cases i with | zero => simp at hi hy; subst hi hy; exact hx1 | succ i => simp at hi)
  have hrun : (execOp a.eval ⟨some t, .box T x, ty, pos, af, g⟩).run P w = .ok (.value (.pointer (some ⟨w.heap.size, 0, none⟩))) (w.alloc (.cells [a.eval x].toArray T)) := by
    rw [show execOp a.eval ⟨some t, .box T x, ty, pos, af, g⟩ = (do pure (.value (← (do pure (.pointer (some (← newVar T (a.eval x)))))))) from rfl]
    simp only [Sem.run_bind, Result.andThen_ok, newVar, newRow_run, Sem.run_pure]
    rw [show (a.eval x).cells = [a.eval x].toArray from by rw [← cells_one ho]]
  unfold oWp
  rw [hrun]
  exact hK κ' _ _ _ _ (s.put e h2 (by simpa [Nat.blt_eq] using htN) (.ptr w.heap.size _ id 0 hk)) e ⟨id, rfl, rfl⟩

theorem L.boxn {t T : Nat} {ds : List D} {x : Operand} (hx : oev σ x = .d (.agg ds)) (htN : Nat.blt t N.n = true) :
    Loud P N σ hs ⟨some t, .box T x, ty, pos, af, g⟩ (fun σ' hs' => ∃ id, σ' = (t, .ptr id 0) :: σ ∧ hs' = (id, .cells (ds.map .d)) :: hs) := by
  intro κ a w s K Q hK
  have hx1 := s.oev x; rw [hx] at hx1
  have hd := hx1.d_inv
  generalize hu : a.eval x = u at hd
  cases hd with
  | agg cs _ hsz h1 hr =>
    obtain ⟨id, κ', h2, e, hk⟩ := new_cells s.heap cs.toList (ds.map .d) T (by simpa using hsz)
      (fun v hv => by
        obtain ⟨i, hi⟩ := List.getElem?_of_mem hv
        have hi' : cs[i]? = some v := by simpa using hi
        have hlt : i < ds.length := by rw [← hsz]; exact (Array.getElem?_eq_some_iff.1 hi').1
        exact (hr i v _ hi' (List.getElem?_eq_getElem hlt)).oneCell (h1 _ (List.getElem_mem hlt)))
      (fun i u y hi hy => by
        rw [List.getElem?_map] at hy
        obtain ⟨z, hz, rfl⟩ := Option.map_eq_some_iff.1 hy
        exact .d (hr i u z (by simpa using hi) hz))
    have hrun : (execOp a.eval ⟨some t, .box T x, ty, pos, af, g⟩).run P w = .ok (.value (.pointer (some ⟨w.heap.size, 0, none⟩))) (w.alloc (.cells cs.toList.toArray T)) := by
      rw [show execOp a.eval ⟨some t, .box T x, ty, pos, af, g⟩ = (do pure (.value (← (do pure (.pointer (some (← newVar T (a.eval x)))))))) from rfl]
      simp only [Sem.run_bind, Result.andThen_ok, newVar, newRow_run, Sem.run_pure, hu, Value.cells]
    unfold oWp
    rw [hrun]
    exact hK κ' _ _ _ _ (s.put e h2 (by simpa [Nat.blt_eq] using htN) (.ptr w.heap.size _ id 0 hk)) e ⟨id, rfl, rfl⟩

end loud

/-! ### lengths and cuts -/
section cuts
variable {P : Program} {N : Nm} {σ : Env} {hs : Hp} {d : Option Tmp} {ty : TypeId} {pos : String} {af : Array Edge} {g : Option (Nat × Bool)}

theorem builtin_run {b : Builtin} {args : Array Operand} {at_ : Array TypeId} {a : Act} {w : World} : (execOp a.eval ⟨d, .call ⟨.builtin b, args, at_⟩, ty, pos, af, g⟩).run P w =
    (builtin b at_ ty (args.map fun | .const _ => true | _ => false) (args.map a.eval)).run P w := by
  simp [execOp, resolve, invoke]
  rfl

def isSl (P : Program) (t : TypeId) : Bool := match P.underlying t with | some (.slice _) => true | _ => false
def isStr (P : Program) (t : TypeId) : Bool := match P.underlying t with | some .string => true | _ => false
theorem isSl_spec {t : TypeId} (h : isSl P t = true) : ∃ e, P.underlying t = some (.slice e) := by
  unfold isSl at h
  split at h
  · rename_i e he; exact ⟨e, he⟩
  · cases h
theorem isStr_spec {t : TypeId} (h : isStr P t = true) : P.underlying t = some .string := by
  unfold isStr at h
  split at h
  · rename_i he; exact he
  · cases h

theorem len_run {t e len cap : Nat} {p : Option Addr} (hu : P.underlying t = some (.slice e)) (w : World) : (Builtin.len_ #[t] ty #[.slice p len cap]).run P w = .ok (.int .i64 len) w := by
  simp [Builtin.len_, run_underlying hu, goInt]

theorem Q.len_sl {t sz : Nat} {rows : List (List D)} {x : Operand} (ht : isSl P t = true) (hx : oev σ x = .d (.sl sz rows)) :
    Quiet P N σ hs ⟨d, .call ⟨.builtin .len, #[x], #[t]⟩, ty, pos, af, g⟩ (.d (.int .i64 rows.length)) :=
  .of_run fun κ a w s => by
    have h1 := s.oev x; rw [hx] at h1
    obtain ⟨p, cap, c, hv, _⟩ := h1.sl_inv
    obtain ⟨e, hu⟩ := isSl_spec ht
    refine ⟨.int .i64 rows.length, ?_, .d (.int _ _)⟩
    rw [builtin_run]
    simp [builtin, hv, len_run hu]
theorem Q.len_dcut {t sz : Nat} {rows : List (List D)} {x : Operand} (ht : isSl P t = true) (hx : oev σ x = .dcut sz rows) :
    Quiet P N σ hs ⟨d, .call ⟨.builtin .len, #[x], #[t]⟩, ty, pos, af, g⟩ (.d (.int .i64 rows.length)) :=
  .of_run fun κ a w s => by
    have h1 := s.oev x; rw [hx] at h1
    obtain ⟨e, hu⟩ := isSl_spec ht
    refine ⟨.int .i64 rows.length, ?_, .d (.int _ _)⟩
    generalize hv : a.eval x = v at h1
    cases h1 with
    | dcut p n _ _ h =>
      cases h with
      | sl _ _ _ _ _ c hl =>
        rw [builtin_run]
        simp [builtin, hv, len_run hu, hl]
theorem Q.len_nil {t : Nat} {x : Operand} (ht : isSl P t = true) (hx : oev σ x = .nilsl) : Quiet P N σ hs ⟨d, .call ⟨.builtin .len, #[x], #[t]⟩, ty, pos, af, g⟩ (.d (.int .i64 0)) :=
  .of_run fun κ a w s => by
    have h1 := s.oev x; rw [hx] at h1
    obtain ⟨e, hu⟩ := isSl_spec ht
    refine ⟨.int .i64 0, ?_, .d (.int _ _)⟩
    generalize hv : a.eval x = v at h1
    cases h1
    rw [builtin_run]
    simp [builtin, hv, len_run hu]
theorem Q.len_vs {t id lo n sz : Nat} {x : Operand} (ht : isSl P t = true) (hx : oev σ x = .vs id lo n sz) : Quiet P N σ hs ⟨d, .call ⟨.builtin .len, #[x], #[t]⟩, ty, pos, af, g⟩ (.d (.int .i64 n)) :=
  .of_run fun κ a w s => by
    have h1 := s.oev x; rw [hx] at h1
    obtain ⟨e, hu⟩ := isSl_spec ht
    refine ⟨.int .i64 n, ?_, .d (.int _ _)⟩
    generalize hv : a.eval x = v at h1
    cases h1
    rw [builtin_run]
    simp [builtin, hv, len_run hu]
theorem Q.len_str {t : Nat} {b : ByteArray} {x : Operand} (ht : isStr P t = true) (hx : oev σ x = .d (.str b)) : Quiet P N σ hs ⟨d, .call ⟨.builtin .len, #[x], #[t]⟩, ty, pos, af, g⟩ (.d (.int .i64 b.size)) :=
  .of_run fun κ a w s => by
    have h1 := s.oev x; rw [hx] at h1
    refine ⟨.int .i64 b.size, ?_, .d (.int _ _)⟩
    rw [builtin_run]
    simp [builtin, h1.str_inv, Builtin.len_, run_underlying (isStr_spec ht), goInt]

theorem Q.maxi {ta : Array TypeId} {x y : Operand} {k : IntKind} {m n : Int} (hx : oev σ x = .d (.int k m)) (hy : oev σ y = .d (.int k n)) :
    Quiet P N σ hs ⟨d, .call ⟨.builtin .max, #[x, y], ta⟩, ty, pos, af, g⟩ (.d (.int k (max m n))) :=
  .of_run fun κ a w s => by
    have h1 := s.oev x; have h2 := s.oev y
    rw [hx] at h1; rw [hy] at h2
    refine ⟨.int k (max m n), ?_, .d (.int _ _)⟩
    rw [builtin_run]
    have : (if n > m then n else m) = max m n := by omega
    simp [builtin, h1.int_inv, h2.int_inv, Builtin.max_, Builtin.max2, ← this]
theorem Q.mini {ta : Array TypeId} {x y : Operand} {k : IntKind} {m n : Int} (hx : oev σ x = .d (.int k m)) (hy : oev σ y = .d (.int k n)) :
    Quiet P N σ hs ⟨d, .call ⟨.builtin .min, #[x, y], ta⟩, ty, pos, af, g⟩ (.d (.int k (min m n))) :=
  .of_run fun κ a w s => by
    have h1 := s.oev x; have h2 := s.oev y
    rw [hx] at h1; rw [hy] at h2
    refine ⟨.int k (min m n), ?_, .d (.int _ _)⟩
    rw [builtin_run]
    have : (if n < m then n else m) = min m n := by omega
    simp [builtin, h1.int_inv, h2.int_inv, Builtin.min_, Builtin.min2, ← this]

theorem Q.mkfn {f : FuncId} {caps : Array Operand} {xs : List AV} (hc : caps.toList.map (oev σ) = xs) : Quiet P N σ hs ⟨d, .makeFunc (.func f) #[] caps, ty, pos, af, g⟩ (.fn f xs) :=
  .of_run fun κ a w s => by
    refine ⟨.func (.func f) #[] (caps.map a.eval), by simp [execOp, Instr.makeFunc], .fn _ _ _ (by simp [← hc]) (fun i v x hi hx => ?_)⟩
    rw [← hc, List.getElem?_map] at hx
    obtain ⟨o, ho, rfl⟩ := Option.map_eq_some_iff.1 hx
    have : caps[i]? = some o := by simpa using ho
    simp [this] at hi
    subst hi
    exact s.oev o

end cuts
end Go.Proofs.YtldkkoecehdicaaDoorA
