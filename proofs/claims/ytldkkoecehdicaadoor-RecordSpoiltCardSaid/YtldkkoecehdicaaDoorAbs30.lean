/- copy, cap, cuts up to a capacity, made slices behind a list's front, lists of one element. -/
import Derived.Test.YtldkkoecehdicaaDoorAbs29
import Derived.Lib.AppendZerosOnto
import Derived.Lib.Overlaps
namespace Go.Proofs.YtldkkoecehdicaaDoorA
open Go
set_option linter.unusedVariables false
set_option linter.unusedSimpArgs false

/-- An object that owns no block. -/
theorem HS.noneO {κ : Kap} {w : World} {hs : Hp} (h : HS κ w hs) (o : HO) (ho : ∀ κ' : Kap, ∀ O : Nat → Prop, (∀ id x, κ id = some x → κ' id = some x) → HOk κ' w O o (Option.none, 0)) :
    ∃ id κ', HS κ' w ((id, o) :: hs) ∧ Ext κ hs w κ' ((id, o) :: hs) w := by
  obtain ⟨n, hn⟩ := h.fresh
  let κ' : Kap := fun i => if i = n then some (Option.none, 0) else κ i
  have hk : ∀ id x, κ id = some x → κ' id = some x := fun id x hx => by
    have : id ≠ n := fun he => by rw [he, hn n (Nat.le_refl _)] at hx; cases hx
    simp [κ', this, hx]
  have hnew : κ' n = some (Option.none, 0) := by simp [κ']
  have hold : ∀ id, id ≠ n → κ' id = κ id := fun id hid => by simp [κ', hid]
  have hmem : ∀ id o, (id, o) ∈ hs → id ≠ n := fun id o hi he => by
    obtain ⟨x, hx, _⟩ := h.ok id o hi
    rw [he, hn n (Nat.le_refl _)] at hx; cases hx
  have hpart : ∀ id o' b c, (id, o') ∈ (n, o) :: hs → κ' id = some (some b, c) → (id, o') ∈ hs ∧ κ id = some (some b, c) := by
    intro id o' b c hi hkk
    rcases List.mem_cons.1 hi with he | hi
    · obtain ⟨rfl, rfl⟩ := Prod.mk.inj he
      rw [hnew] at hkk; cases hkk
    · exact ⟨hi, by rw [← hold id (hmem _ _ hi)]; exact hkk⟩
  have e : Ext κ hs w κ' ((n, o) :: hs) w :=
    ⟨hk, Nat.le_refl _, Nat.le_refl _, rfl, rfl, rfl, fun _ _ _ => rfl, fun b hb ⟨id, o', c, hi, hkk⟩ => let ⟨h1, h2⟩ := hpart _ _ _ _ hi hkk; ⟨id, o', c, h1, h2⟩, fun id o' hi => by
      rcases List.mem_cons.1 hi with he | hi
      · obtain ⟨rfl, rfl⟩ := Prod.mk.inj he
        exact .inr (hn _ (Nat.le_refl _))
      · exact .inl ⟨_, hi⟩, SameT.refl w⟩
  refine ⟨n, κ', ⟨?_, ?_, ?_, n + 1, fun id hid => ?_⟩, e⟩
  · rw [List.map_cons, List.nodup_cons]
    refine ⟨fun hi => ?_, h.nodup⟩
    obtain ⟨⟨id, o'⟩, hi, he⟩ := List.mem_map.1 hi
    exact hmem id o' hi he
  · intro id o' hi
    rcases List.mem_cons.1 hi with he | hi
    · obtain ⟨rfl, rfl⟩ := Prod.mk.inj he
      exact ⟨_, hnew, ho κ' _ hk⟩
    · obtain ⟨x, hx, hok⟩ := h.ok id o' hi
      exact ⟨x, hk _ _ hx, hok.ext e fun b _ => rfl⟩
  · intro id id' o₁ o₂ b c c' hi hi' h1 h2
    obtain ⟨h3, h4⟩ := hpart _ _ _ _ hi h1
    obtain ⟨h5, h6⟩ := hpart _ _ _ _ hi' h2
    exact h.inj id id' o₁ o₂ b c c' h3 h5 h4 h6
  · have : id ≠ n := by omega
    rw [hold id this]; exact hn id (by omega)

/-- What a copy or an append reads: the first rows of a slice. -/
def Src (κ : Kap) (hs : Hp) (w : World) (v : Value) (sz L : Nat) (rows : List (List D)) : Prop := ∃ p c vs, v = .slice p L c ∧ Lined w (Own κ hs) sz rows vs ∧
  (∀ (j : Nat) u, vs[j]? = some u → ∃ ad, p = some ad ∧ w.cell? (ad.add j) = some u) ∧ (∀ r ∈ rows, r.length = sz) ∧ ∀ r ∈ rows, ∀ x ∈ r, x.one = true

theorem src_take {κ : Kap} {hs : Hp} {w : World} {v : Value} {sz L : Nat} {rows : List (List D)} (h : Src κ hs w v sz L rows) (m : Nat) (hm : m ≤ rows.length) : Src κ hs w v sz L (rows.take m) := by
  obtain ⟨p, c, vs, hv, hl, hc, hr, ho⟩ := h
  have hs0 := hl.sub (lo := 0) (m := m) (by omega) hr
  simp only [Nat.zero_mul, List.drop_zero] at hs0
  refine ⟨p, c, vs.take (m * sz), hv, hs0, fun j u hj => ?_, fun r hx => hr r (List.mem_of_mem_take hx), fun r hx => ho r (List.mem_of_mem_take hx)⟩
  rw [List.getElem?_take] at hj
  split at hj
  · exact hc j u hj
  · cases hj
theorem src_data {κ : Kap} {hs : Hp} {w : World} {v : Value} {sz : Nat} {rows : List (List D)} (hz : 0 < sz) (h : RepD w (Own κ hs) v (.sl sz rows)) : Src κ hs w v sz rows.length rows := by
  obtain ⟨p, c, vs, hv, _, hl, hc, hr, ho⟩ := src_cells (κ := κ) hz h
  exact ⟨p, c, vs, hv, hl, hc, hr, ho⟩
theorem src_own {κ : Kap} {hs : Hp} {w : World} (h : HS κ w hs) {v : Value} {id lo L sz k m : Nat} {rows : List (List D)} (hv : RepA κ w (Own κ hs) v (.vs id lo L sz)) (hk : hs[k]? = some (id, .lst sz rows)) (hm : lo + m ≤ rows.length) :
    Src κ hs w v sz L ((rows.drop lo).take m) := by
  obtain ⟨ob, cap, q, hκ, hle, hq, rfl⟩ := hv.vs_inv
  obtain ⟨olds, hl1, hblk⟩ := lst_cells h hk hκ
  obtain ⟨yy, hyy, hok⟩ := h.ok id _ (List.mem_of_getElem? hk)
  rw [hκ] at hyy
  obtain rfl := Option.some.inj hyy
  obtain ⟨g0, g0', g1, g2, g3, g4, g5⟩ := hok
  have hl2 := hl1.sub hm g2
  refine ⟨q, cap - lo, _, rfl, hl2, fun j u hj => ?_, fun r hr => g2 r (List.mem_of_mem_drop (List.mem_of_mem_take hr)), fun r hr => g3 r (List.mem_of_mem_drop (List.mem_of_mem_take hr))⟩
  have hmpos : 0 < m := by
    rcases Nat.eq_zero_or_pos m with h0 | h0
    · subst h0; simp at hj
    · exact h0
  cases ob with
  | none => exact absurd (g4 rfl) (by omega)
  | some b =>
    have hqe : q = some ⟨b, lo * sz, none⟩ := by rw [hq (by omega)]; simp
    subst hqe
    obtain ⟨cs, T, hw, hcs, hvs⟩ := hblk b rfl
    refine ⟨_, rfl, ?_⟩
    rw [List.getElem?_take] at hj
    split at hj
    · rw [List.getElem?_drop, hvs, List.getElem?_take] at hj
      split at hj
      · rw [addr_add_lit]
        simp [World.cell?, hw]
        simpa using hj
      · cases hj
    · cases hj

section
variable {P : Program} {N : Nm} {σ : Env} {hs : Hp} {d : Option Tmp} {ty : TypeId} {pos : String} {af : Array Edge} {g : Option (Nat × Bool)}

theorem copy_op {t t2 : Nat} {x y : Operand} {a : Act} {w w' : World} {v u : Value} (hx : a.eval x = v) (hy : a.eval y = u) {r : Value} (h : (Builtin.copy_ #[t, t2] ty #[v, u]).run P w = .ok r w') :
    (execOp a.eval ⟨d, .call ⟨.builtin .copy, #[x, y], #[t, t2]⟩, ty, pos, af, g⟩).run P w = .ok (.value r) w' := by
  rw [builtin_run]
  simp [builtin, hx, hy, h]

theorem firstCells_src {κ : Kap} {w : World} {v : Value} {sz L : Nat} {rows : List (List D)} (h : Src κ hs w v sz L rows) (hz : 0 < sz) :
    ∃ vs, (Builtin.firstCells sz rows.length v).run P w = .ok vs.toArray w ∧ (Builtin.lenOf v).run P w = .ok L w ∧ Lined w (Own κ hs) sz rows vs := by
  obtain ⟨p, c, vs, rfl, hl, hc, hr, ho⟩ := h
  refine ⟨vs, ?_, by simp [Builtin.lenOf], hl⟩
  cases p with
  | none =>
    have hv0 : vs = [] := by
      cases vs with
      | nil => rfl
      | cons u vs => obtain ⟨ad, h, _⟩ := hc 0 u rfl; cases h
    subst hv0
    have h0 : rows.length = 0 := by
      have h1 := hl.1
      simp only [List.length_nil] at h1
      rcases Nat.mul_eq_zero.1 h1.symm with h | h <;> omega
    rw [h0]
    simp [Builtin.firstCells]
  | some ad =>
    exact run_firstCells_some w sz rows.length ad L c vs hl.1 fun j u hj => by
      obtain ⟨ad', h1, h2⟩ := hc j u hj
      obtain rfl := Option.some.inj h1
      exact h2

/-- A copy into a list of one's own. -/
theorem L.copy0 {t t2 id lo n sz k : Nat} {rows rows2 : List (List D)} {x y : Operand} {L : Nat} (ht : tSl P t = some sz) (hx : oev σ x = .vs id lo n sz) (hk : hs[k]? = some (id, .lst sz rows)) (hlo : lo ≤ rows.length)
    (hs2 : ∀ κ w, HS κ w hs → ∀ v, RepA κ w (Own κ hs) v (oev σ y) → Src κ hs w v sz L rows2) (hm : min L n = rows2.length) (hd : dstOk N d = true) :
    Loud P N σ hs ⟨d, .call ⟨.builtin .copy, #[x, y], #[t, t2]⟩, ty, pos, af, g⟩ (fun σ' hs' => σ' = putE d (.d (.int .i64 (rows2.length : Nat))) σ ∧ hs' = hs.set k (id, .lst sz (rows.take lo ++ rows2 ++ rows.drop (lo + rows2.length)))) := by
  intro κ a w s K Q hK
  obtain ⟨e, inf, hu, hi, rfl⟩ := tSl_spec ht
  have hx1 := s.oev x; rw [hx] at hx1
  obtain ⟨ob, cap, p, hκ, hle, hp, hv⟩ := hx1.vs_inv
  have hsrc := hs2 κ w s.heap _ (s.oev y)
  obtain ⟨yy, hyy, hok⟩ := s.heap.ok id _ (List.mem_of_getElem? hk)
  rw [hκ] at hyy
  obtain rfl := Option.some.inj hyy
  obtain ⟨g0, g0', g1, g2, g3, g4, g5⟩ := hok
  obtain ⟨vs, f1, f2, hl⟩ := firstCells_src (P := P) hsrc g1
  obtain ⟨_, _, _, _, _, _, hr2, ho2⟩ := hsrc
  have hmin : Nat.min L n = rows2.length := hm
  by_cases h0 : rows2.length = 0
  · have hr0 : rows2 = [] := List.eq_nil_of_length_eq_zero h0
    subst hr0
    have hv0 : vs = [] := List.eq_nil_of_length_eq_zero (by rw [hl.1]; simp)
    subst hv0
    have hset : hs.set k (id, HO.lst inf.size (rows.take lo ++ [] ++ rows.drop (lo + ([] : List (List D)).length))) = hs := by
      simp only [List.append_nil, List.length_nil, Nat.add_zero, List.take_append_drop]
      refine List.ext_getElem? fun j => ?_
      rw [List.getElem?_set]
      split
      · subst_vars; split
        · exact hk.symm
        · rename_i h; exact absurd (List.getElem?_eq_some_iff.1 hk).1 h
      · rfl
    have hrun : (Builtin.copy_ #[t, t2] ty #[.slice p n (cap - lo), a.eval y]).run P w = .ok (goInt 0) w := by
      simp only [List.length_nil] at f1 hmin
      cases p <;> simp [Builtin.copy_, run_underlying hu, size_run hi, f2, hmin, f1, storeCells]
    unfold oWp
    rw [copy_op hv rfl hrun]
    exact hK κ _ w _ _ (s.putO (.refl _ _ _) s.heap hd (.d (.int _ _))) (.refl _ _ _) ⟨rfl, hset.symm⟩
  · have hpos : 0 < cap - lo := by have := Nat.min_le_right L n; omega
    cases ob with
    | none => exact absurd (g4 rfl) (by omega)
    | some b =>
      have hpe : p = some ⟨b, lo * inf.size, none⟩ := by rw [hp (by omega)]; simp
      subst hpe
      obtain ⟨w', hst, h5, e5⟩ := write_rows (P := P) s.heap hk hκ hl hr2 ho2 hlo (by have := Nat.min_le_right L n; omega)
      have hrun : (Builtin.copy_ #[t, t2] ty #[.slice (some ⟨b, lo * inf.size, none⟩) n (cap - lo), a.eval y]).run P w = .ok (goInt rows2.length) w' := by
        simp [Builtin.copy_, run_underlying hu, size_run hi, f2, hmin, f1, hst]
      unfold oWp
      rw [copy_op hv rfl hrun]
      exact hK κ _ w' _ _ (s.putO e5 h5 hd (.d (.int _ _))) e5 ⟨rfl, rfl⟩

theorem L.copy_d {t t2 id lo n sz k : Nat} {rows rows2 : List (List D)} {x y : Operand} (m : Nat) (ht : tSl P t = some sz) (hsz : 0 < sz) (hx : oev σ x = .vs id lo n sz) (hk : hs[k]? = some (id, .lst sz rows)) (hlo : lo ≤ rows.length)
    (hy : oev σ y = .d (.sl sz rows2)) (hm : min rows2.length n = m) (hd : dstOk N d = true) :
    Loud P N σ hs ⟨d, .call ⟨.builtin .copy, #[x, y], #[t, t2]⟩, ty, pos, af, g⟩ (fun σ' hs' => σ' = putE d (.d (.int .i64 (m : Nat))) σ ∧ hs' = hs.set k (id, .lst sz (rows.take lo ++ rows2.take m ++ rows.drop (lo + m)))) := by
  have hlen : (rows2.take m).length = m := by rw [List.length_take]; omega
  have := L.copy0 (P := P) (N := N) (d := d) (ty := ty) (pos := pos) (af := af) (g := g) (t2 := t2) (rows2 := rows2.take m) (L := rows2.length) ht hx hk hlo
    (fun κ w h v hv => src_take (src_data hsz (by rw [hy] at hv; exact hv.d_inv)) m (by omega)) (by rw [hlen]; exact hm) hd
  rwa [hlen] at this
theorem L.copy_own {t t2 id lo n sz k k2 id2 lo2 LL : Nat} {rows rows2 : List (List D)} {x y : Operand} (m : Nat) (ht : tSl P t = some sz) (hx : oev σ x = .vs id lo n sz) (hk : hs[k]? = some (id, .lst sz rows)) (hlo : lo ≤ rows.length)
    (hy : oev σ y = .vs id2 lo2 LL sz) (hk2 : hs[k2]? = some (id2, .lst sz rows2)) (hm : min LL n = m) (hlo2 : lo2 + m ≤ rows2.length) (hd : dstOk N d = true) :
    Loud P N σ hs ⟨d, .call ⟨.builtin .copy, #[x, y], #[t, t2]⟩, ty, pos, af, g⟩ (fun σ' hs' => σ' = putE d (.d (.int .i64 (m : Nat))) σ ∧ hs' = hs.set k (id, .lst sz (rows.take lo ++ (rows2.drop lo2).take m ++ rows.drop (lo + m)))) := by
  have hlen : ((rows2.drop lo2).take m).length = m := by rw [List.length_take, List.length_drop]; omega
  have := L.copy0 (P := P) (N := N) (d := d) (ty := ty) (pos := pos) (af := af) (g := g) (t2 := t2) (rows2 := (rows2.drop lo2).take m) (L := LL) ht hx hk hlo
    (fun κ w h v hv => src_own h (by rw [hy] at hv; exact hv) hk2 hlo2) (by rw [hlen]; exact hm) hd
  rwa [hlen] at this

/-- A list's capacity, from now on known. -/
theorem L.cap {dd : Tmp} {t id n sz k : Nat} {rows : List (List D)} {x : Operand} (ht : isSl P t = true) (hx : oev σ x = .vs id 0 n sz) (hk : hs[k]? = some (id, .lst sz rows)) (hd : Nat.blt dd N.n = true) :
    Loud P N σ hs ⟨some dd, .call ⟨.builtin .cap, #[x], #[t]⟩, ty, pos, af, g⟩ (fun σ' hs' => ∃ idc c : Nat, (n ≤ c ∧ c ≤ maxLen) ∧ σ' = (dd, .d (.int .i64 (c : Nat))) :: σ ∧ hs' = (idc, .cap id c) :: hs) := by
  intro κ a w s K Q hK
  obtain ⟨e, hu⟩ := isSl_spec ht
  have hx1 := s.oev x; rw [hx] at hx1
  obtain ⟨ob, cap, p, hκ, hle, hp, hv⟩ := hx1.vs_inv
  obtain ⟨yy, hyy, hok⟩ := s.heap.ok id _ (List.mem_of_getElem? hk)
  rw [hκ] at hyy
  obtain rfl := Option.some.inj hyy
  obtain ⟨idc, κ', h1, e1⟩ := s.heap.noneO (.cap id cap) (fun κ' O hk => ⟨rfl, ob, hk _ _ hκ⟩)
  have hrun : (execOp a.eval ⟨some dd, .call ⟨.builtin .cap, #[x], #[t]⟩, ty, pos, af, g⟩).run P w = .ok (.value (.int .i64 (cap : Nat))) w := by
    rw [builtin_run]
    simp [builtin, hv, Builtin.cap_, run_underlying hu, goInt]
  unfold oWp
  rw [hrun]
  exact hK κ' _ w _ _ (s.put e1 h1 (by simpa [Nat.blt_eq] using hd) (.d (.int _ _))) e1 ⟨idc, cap, ⟨by omega, hok.2.1⟩, rfl, rfl⟩

/-- A cut up to what a list can hold. -/
theorem Q.cut_cap {t sz id idc c n kk : Nat} {x : Operand} {lo hi : Option Operand} {i j : Int} (ht : tSl P t = some sz) (hx : oev σ x = .vs id 0 n sz) (hk : hs[kk]? = some (idc, .cap id c)) (hl : OI σ lo 0 i) (hh : OI σ hi n j)
    (h0 : 0 ≤ i) (h1 : i ≤ j) (h2 : j ≤ c) : Quiet P N σ hs ⟨d, .slice t x lo hi none, ty, pos, af, g⟩ (.vs id i.toNat (j.toNat - i.toNat) sz) :=
  .of_run fun κ a w s => by
    have h3 := s.oev x; rw [hx] at h3
    obtain ⟨e, inf, hu, hin, rfl⟩ := tSl_spec ht
    obtain ⟨ob, cap, p, hκ, hle, hp, hv⟩ := h3.vs_inv
    obtain ⟨y, hy, _, ob', hκ'⟩ := s.heap.ok idc _ (List.mem_of_getElem? hk)
    rw [hκ] at hκ'
    obtain ⟨rfl, rfl⟩ := Prod.mk.inj (Option.some.inj hκ')
    have hb := bounds_run (P := P) s true (len := n) (cap := cap - 0) hl hh h0 h1 (by omega)
    refine ⟨.slice (if cap - 0 = i.toNat then p else p.map (·.add (i.toNat * inf.size))) (j.toNat - i.toNat) (cap - 0 - i.toNat), ?_, ?_⟩
    · rw [show execOp a.eval ⟨d, .slice t x lo hi none, ty, pos, af, g⟩ = (do pure (.value (← Instr.sliceAt t (a.eval x) (lo.map a.eval) (hi.map a.eval) (Option.map a.eval none)))) from rfl, hv, Sem.run_bind]
      simp only [Option.map_none]
      rw [sliceAt_run hu hin hb]
      rfl
    · rw [Nat.sub_zero]
      refine .vs ob cap _ id _ _ _ hκ (by omega) fun hlt => ?_
      have hne : ¬ cap = i.toNat := by omega
      rw [if_neg hne, hp (by omega)]
      cases ob with
      | none => rfl
      | some b => simp only [Option.map_some, addr_add_lit, Nat.zero_mul, Nat.zero_add]

/-- append(s[:i], make(S, m)...), beyond what s can hold. -/
theorem L.app_mk2 {dd : Tmp} {t t2 sz bytes i m id idc c n k kk : Nat} {z : List Value} {zd : List D} {rows : List (List D)} {x y : Operand} {kl kn : IntKind} (ht : tApp P t = some (sz, bytes)) (hz : tZrow P t = some z) (hzd : cellsD z = some zd) (ht2 : tInt P t2 = some kn)
    (hx : oev σ x = .vs id 0 i sz) (hk : hs[k]? = some (id, .lst sz rows)) (hi : i ≤ rows.length) (hkc : hs[kk]? = some (idc, .cap id c)) (hy : oev σ y = .d (.int kl n)) (hn : n = m)
    (h0 : 0 < m) (hg : c < i + m) (hb : (i + m) * bytes ≤ 140737488355328) (hd : Nat.blt dd N.n = true) :
    Loud P N σ hs ⟨some dd, .call ⟨.builtin .append, #[x, y], #[t, t2]⟩, ty, pos, af, g⟩ (fun σ' hs' => ∃ id', σ' = (dd, .vs id' 0 (i + m) sz) :: σ ∧ hs' = (id', .lst sz (rows.take i ++ List.replicate m zd)) :: hs) := by
  intro κ a w s K Q hK
  subst hn
  have hdN : dd < N.n := by simpa [Nat.blt_eq] using hd
  obtain ⟨e, inf, zv, hu, hin, hzv, h1, h2, h3, hsz, hbb⟩ := tApp_spec ht
  have hx1 := s.oev x; rw [hx] at hx1
  have hy1 := s.oev y; rw [hy] at hy1
  have hzc : z = zv.cells.toList := by
    unfold tZrow at hz
    rw [hu] at hz
    obtain ⟨i', hi', hz'⟩ := Option.bind_eq_some_iff.1 hz
    rw [hin] at hi'
    obtain rfl := Option.some.inj hi'
    obtain ⟨q, hq, rfl⟩ := Option.map_eq_some_iff.1 hz'
    rw [hzv] at hq
    rw [← Option.some.inj hq]
  obtain ⟨s1, e1⟩ := s.heap.drew (w.drawn + 1) (Nat.le_succ _)
  have s1' : HS κ w.drew hs := s1
  have hsrc := src_own s1' (m := i) (hx1.ext e1) hk (by omega)
  obtain ⟨ob, cap, p, hκ, hle, hp, hv⟩ := hx1.vs_inv
  obtain ⟨yy, hyy, _, ob', hκ'⟩ := s.heap.ok idc _ (List.mem_of_getElem? hkc)
  rw [hκ] at hκ'
  obtain ⟨rfl, rfl⟩ := Prod.mk.inj (Option.some.inj hκ')
  have hlen : ((rows.drop 0).take i).length = i := by rw [List.drop_zero, List.length_take]; omega
  obtain ⟨olds, f1, f2, hl⟩ := firstCells_src (P := P) hsrc hsz
  rw [hlen] at f1
  obtain ⟨_, _, _, _, _, _, hr2, ho2⟩ := hsrc
  rw [List.drop_zero] at hl hr2 ho2
  rw [hv] at f1
  have hnb : n ≤ 140737488355328 ∧ i ≤ 140737488355328 := by have := Nat.mul_le_mul_left (i + n) hbb; omega
  subst h1
  subst h2
  have hrun := Lib.run_append_grow_zeros (P := P) w t t2 ty e inf zv kl kn hu (tInt_spec ht2) hin hzv p i (cap - 0) olds f1 n h0 hsz (by omega) (by omega) (by have := Nat.mul_le_mul_right inf.bytes (show n ≤ i + n by omega); omega) (growslice_fits (by omega) hb)
  have hzf : Filled w.drew (Own κ hs) zv.cells zd := by
    have := cellsD_rep w.drew (Own κ hs) _ zd hzd
    rw [hzc] at this
    simpa using this
  have hzl := zero_lined hzf h3 hsz n
  have hzlen : zd.length = inf.size := by rw [← hzf.1]; exact h3
  have hrr : ∀ r ∈ rows.take i ++ List.replicate n zd, r.length = inf.size := fun r hr => (List.mem_append.1 hr).elim (hr2 r) fun hr => by rw [List.eq_of_mem_replicate hr]; exact hzlen
  have hoo : ∀ r ∈ rows.take i ++ List.replicate n zd, ∀ x ∈ r, x.one = true := fun r hr => (List.mem_append.1 hr).elim (ho2 r) fun hr => by rw [List.eq_of_mem_replicate hr]; exact hzf.2.1
  have hall := hl.append hzl hr2
  have hlt : (rows.take i ++ List.replicate n zd).length = i + n := by rw [List.length_append, List.length_take, List.length_replicate]; omega
  have hback : Lined w (Own κ hs) inf.size (rows.take i ++ List.replicate n zd) (olds ++ (Builtin.zeroCells zv.cells n).toList) := hall.mono fun v x hx => hx.mono (fun _ _ h => h) (fun _ _ _ => rfl)
  obtain ⟨id', κ', h6, e6, hκ6⟩ := new_lst s.heap (cap := grownCap w (i + n) (cap - 0) e) (rest := (Builtin.zeroCells zv.cells (grownCap w (i + n) (cap - 0) e - (i + n))).toList) e hsz hback hrr hoo (by rw [hlt]; exact grownCap_ge w _ _ e) (grownCap_le_maxLen w _ _ e (by simp only [maxLen]; omega)) (by rw [Array.length_toList, size_zeroCells, h3, hlt])
  have hcells : ((olds ++ (Builtin.zeroCells zv.cells n).toList) ++ (Builtin.zeroCells zv.cells (grownCap w (i + n) (cap - 0) e - (i + n))).toList).toArray = olds.toArray ++ Builtin.zeroCells zv.cells n ++ Builtin.zeroCells zv.cells (grownCap w (i + n) (cap - 0) e - (i + n)) := by
    apply Array.ext'; simp
  rw [hcells] at h6 e6
  unfold oWp
  rw [app_op2 hv hy1.int_inv hrun]
  refine hK κ' _ _ _ _ (s.put e6 h6 hdN ?_) e6 ⟨id', rfl, rfl⟩
  have := RepA.vs (κ := κ') (w := w.drew.alloc (.cells (olds.toArray ++ Builtin.zeroCells zv.cells n ++ Builtin.zeroCells zv.cells (grownCap w (i + n) (cap - 0) e - (i + n))) e)) (O := Own κ' ((id', HO.lst inf.size (rows.take i ++ List.replicate n zd)) :: hs)) (some w.heap.size) (grownCap w (i + n) (cap - 0) e) (some ⟨w.heap.size, 0, none⟩) id' 0 (i + n) inf.size hκ6 (by have := grownCap_ge w (i + n) (cap - 0) e; omega) (fun _ => by simp)
  simpa using this
end
end Go.Proofs.YtldkkoecehdicaaDoorA
