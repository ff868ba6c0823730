/- An append within a list's room, clear, a list cut to its front. -/
import Derived.Test.YtldkkoecehdicaaDoorAbs12
namespace Go.Proofs.YtldkkoecehdicaaDoorA
open Go
set_option linter.unusedVariables false
set_option linter.unusedSimpArgs false

theorem Lined.sub {w : World} {O : Nat → Prop} {sz : Nat} {rows : List (List D)} {vs : List Value} (h : Lined w O sz rows vs) {lo m : Nat} (hlo : lo + m ≤ rows.length) (hr : ∀ r ∈ rows, r.length = sz) :
    Lined w O sz ((rows.drop lo).take m) ((vs.drop (lo * sz)).take (m * sz)) := by
  obtain ⟨h1, h2, h3⟩ := h
  have hm : (lo + m) * sz ≤ rows.length * sz := Nat.mul_le_mul_right _ hlo
  rw [Nat.add_mul] at hm
  refine ⟨?_, fun u hu => h2 u (List.mem_of_mem_drop (List.mem_of_mem_take hu)), fun i j r x hi hj => ?_⟩
  · simp only [List.length_take, List.length_drop, h1]
    rw [show min m (rows.length - lo) = m by omega]
    omega
  · rw [List.getElem?_take] at hi
    split at hi
    · rename_i hlt
      rw [List.getElem?_drop] at hi
      obtain ⟨u, hu, hd⟩ := h3 _ j r x hi hj
      have hj' : j < sz := by rw [← hr r (List.mem_of_getElem? hi)]; exact (List.getElem?_eq_some_iff.1 hj).1
      have h5 := Nat.mul_le_mul_right sz (show i + 1 ≤ m from hlt)
      rw [Nat.succ_mul] at h5
      refine ⟨u, ?_, hd⟩
      rw [List.getElem?_take, if_pos (by omega), List.getElem?_drop, ← hu, Nat.add_mul]
      congr 1; omega
    · cases hi

theorem del_rows {α : Type} (rows : List α) (i j lo n : Nat) (hij : i < j) (hj : j ≤ rows.length) (hlo : lo = i + (rows.length - j)) (hn : n = i + (rows.length - j)) (X Y : List α) :
    ((rows.take i ++ (rows.drop j).take (rows.length - j) ++ Y).take lo ++ X).take n = rows.take i ++ rows.drop j := by
  have hB : (rows.drop j).take (rows.length - j) = rows.drop j := List.take_of_length_le (by simp)
  have hl : (rows.take i ++ rows.drop j).length = i + (rows.length - j) := by simp; omega
  rw [hB, hlo, hn, ← hl, List.take_left, List.take_left]

section
variable {P : Program} {N : Nm} {σ : Env} {hs : Hp} {ty : TypeId} {pos : String} {af : Array Edge} {g : Option (Nat × Bool)} {Q : Post}

theorem DT.more {ops : Array Oper} {h : Nat} {σ : Env} {R : Env → Hp → Prop} {Rp : AV → Hp → Prop} {p : Nat} {ps did : List Nat} {prev : Option (List Nat)} {vals : List AV} {hs : Hp} (sts : List St) (hc : (stOk ops h did (p :: ps) prev sts && (ps.all (fun q => !freeB ops [p] ops.size q && Nat.blt q h) && Nat.blt p h)) = true)
    (c : PC P N ops hs (fun k => sts.getD k .later) Rp 0 (ops.toList.take h) vals σ (fun vs _ => ∀ v hs', Rp v hs' → DT P N ops h σ R ps (predsB ops p ++ p :: did) (some (p :: ps)) (vs.set p v) hs')) : DT P N ops h σ R (p :: ps) did prev vals hs := ⟨Rp, sts, hc, c⟩
theorem DT.last {ops : Array Oper} {h : Nat} {σ : Env} {R : Env → Hp → Prop} {did : List Nat} {prev : Option (List Nat)} {vals : List AV} {hs : Hp} (sts : List St) (hc : stOk ops h did [] prev sts = true)
    (c : PC P N ops hs (fun k => sts.getD k .later) (fun _ _ => False) 0 (ops.toList.take h) vals σ (fun _ σ' => R σ' hs)) : DT P N ops h σ R [] did prev vals hs := ⟨sts, hc, c⟩

/-- An append of rows of one's own list within its room. -/
theorem L.app_in {d : Tmp} {t id i lo m sz bytes k : Nat} {rows : List (List D)} {x y : Operand} (ht : tApp P t = some (sz, bytes)) (hx : oev σ x = .vs id 0 i sz) (hk : hs[k]? = some (id, .lst sz rows))
    (hy : oev σ y = .vs id lo m sz) (hlo : lo + m ≤ rows.length) (him : i + m ≤ rows.length) (hd : Nat.blt d N.n = true) :
    Loud P N σ hs ⟨some d, .call ⟨.builtin .append, #[x, y], #[t, t]⟩, ty, pos, af, g⟩
      (fun σ' hs' => σ' = (d, .vs id 0 (i + m) sz) :: σ ∧ hs' = hs.set k (id, .lst sz (rows.take i ++ (rows.drop lo).take m ++ rows.drop (i + m)))) := by
  intro κ a w s K Q hK
  have hdN : d < N.n := by simpa [Nat.blt_eq] using hd
  obtain ⟨e, inf, z, hu, hi, hz, h1, h2, h3, hsz, hbb⟩ := tApp_spec ht
  have hx1 := s.oev x; rw [hx] at hx1
  have hy1 := s.oev y; rw [hy] at hy1
  obtain ⟨ob, cap, p, hκ, hle, hp, hv⟩ := hx1.vs_inv
  obtain ⟨ob2, cap2, q, hκ2, hle2, hq, hv2⟩ := hy1.vs_inv
  rw [hκ] at hκ2
  obtain ⟨rfl, rfl⟩ := Prod.mk.inj (Option.some.inj hκ2)
  obtain ⟨olds, hl1, hblk⟩ := lst_cells s.heap hk hκ
  obtain ⟨yy, hyy, hok⟩ := s.heap.ok id _ (List.mem_of_getElem? hk)
  rw [hκ] at hyy
  obtain rfl := Option.some.inj hyy
  obtain ⟨g0, g0', g1, g2, g3, g4, g5⟩ := hok
  rw [Nat.sub_zero] at hv
  by_cases hm : m = 0
  · subst hm
    have hrun := app_op (P := P) (ty := ty) (pos := pos) (af := af) (g := g) (d := d) (t := t) hv hv2 (app0_run (P := P) (w := w) (ty := ty) hu hi (c := cap - lo) (show i ≤ cap by omega))
    have hset : hs.set k (id, HO.lst sz (rows.take i ++ (rows.drop lo).take 0 ++ rows.drop (i + 0))) = hs := by
      rw [List.take_zero, List.append_nil, Nat.add_zero, List.take_append_drop]
      refine List.ext_getElem? fun j => ?_
      rw [List.getElem?_set]
      split
      · subst_vars; split
        · exact hk.symm
        · rename_i h; exact absurd (List.getElem?_eq_some_iff.1 hk).1 h
      · rfl
    unfold oWp
    rw [hrun]
    refine hK κ _ w _ _ (s.put (.refl _ _ _) s.heap hdN ?_) (.refl _ _ _) ⟨rfl, hset.symm⟩
    have := RepA.vs (κ := κ) (w := w) (O := Own κ hs) ob cap p id 0 i sz hκ hle hp
    simpa using this
  · cases ob with
    | none => exact absurd (g4 rfl) (by omega)
    | some b =>
      have hpe : p = some ⟨b, 0, none⟩ := by rw [hp (by omega)]; simp
      have hqe : q = some ⟨b, lo * sz, none⟩ := by rw [hq (by omega)]; simp
      subst hpe; subst hqe
      obtain ⟨cs, T, hw, hcs, hvs⟩ := hblk b rfl
      have hl2 := hl1.sub hlo g2
      have hn' : ∀ (j : Nat) u, ((olds.drop (lo * sz)).take (m * sz))[j]? = some u → w.cell? ((⟨b, lo * sz, none⟩ : Addr).add j) = some u := fun j u hj => by
        rw [List.getElem?_take] at hj
        split at hj
        · rename_i hlt
          rw [List.getElem?_drop, hvs, List.getElem?_take] at hj
          split at hj
          · rw [addr_add_lit]
            simp [World.cell?, hw]
            simpa using hj
          · cases hj
        · cases hj
      have hrm : ((rows.drop lo).take m).length = m := by simp; omega
      obtain ⟨w', hst, h5, e5⟩ := write_rows (P := P) s.heap hk hκ hl2 (fun r hr => g2 r (List.mem_of_mem_drop (List.mem_of_mem_take hr))) (fun r hr => g3 r (List.mem_of_mem_drop (List.mem_of_mem_take hr))) (show i ≤ rows.length by omega) (show i + _ ≤ cap by rw [hrm]; omega)
      rw [hrm] at h5 e5
      subst h1
      have hf := run_firstCells_some (P := P) w inf.size m ⟨b, lo * inf.size, none⟩ m (cap - lo) ((olds.drop (lo * inf.size)).take (m * inf.size)) (by have := hl2.1; rwa [hrm] at this) hn'
      have hrun : (Builtin.append_ #[t, t] ty #[.slice (some ⟨b, 0, none⟩) i cap, .slice (some ⟨b, lo * inf.size, none⟩) m (cap - lo)]).run P w = .ok (.slice (some ⟨b, 0, none⟩) (i + m) cap) w' := by
        simp [Builtin.append_, run_underlying hu, sizeOf, typeInfo, hi, Builtin.lenOf, show i + m ≤ cap by omega, hf, Addr.add_lit, hst]
      unfold oWp
      rw [app_op hv hv2 hrun]
      refine hK κ _ w' _ _ (s.put e5 h5 hdN ?_) e5 ⟨rfl, rfl⟩
      have := RepA.vs (κ := κ) (w := w') (O := Own κ (hs.set k (id, HO.lst inf.size (rows.take i ++ (rows.drop lo).take m ++ rows.drop (i + m))))) (some b) cap (some ⟨b, 0, none⟩) id 0 (i + m) inf.size hκ (by omega) (fun _ => by simp)
      simpa using this

theorem zero_lined {w : World} {O : Nat → Prop} {z : Array Value} {zd : List D} {sz : Nat} (hf : Filled w O z zd) (hz : z.size = sz) (hs0 : 0 < sz) (m : Nat) : Lined w O sz (List.replicate m zd) (Builtin.zeroCells z m).toList := by
  obtain ⟨f1, f2, f3⟩ := hf
  have hget : ∀ q, q < m * sz → (Builtin.zeroCells z m).toList[q]? = z[q % sz]? := fun q hq => by
    have hlt : q % sz < z.size := by rw [hz]; exact Nat.mod_lt _ hs0
    simp only [Builtin.zeroCells, Array.getElem?_toList, Array.getElem?_map, hz]
    rw [Array.getElem?_range, if_pos hq]
    simp only [Option.map_some]
    rw [getElem!_pos z _ hlt, Array.getElem?_eq_getElem hlt]
  refine ⟨by simp [Builtin.zeroCells, hz], fun u hu => ?_, fun i j r x hi hj => ?_⟩
  · obtain ⟨q, hq⟩ := List.getElem?_of_mem hu
    have hlt : q < m * sz := by have := (List.getElem?_eq_some_iff.1 hq).1; simpa [Builtin.zeroCells, hz] using this
    rw [hget q hlt] at hq
    have hl : q % sz < zd.length := by rw [← f1, hz]; exact Nat.mod_lt _ hs0
    exact (f3 _ u _ hq (List.getElem?_eq_getElem hl)).oneCell (f2 _ (List.getElem_mem _))
  · have hr := List.mem_of_getElem? hi
    obtain ⟨hm0, rfl⟩ := List.mem_replicate.1 hr
    have hi' : i < m := by have := (List.getElem?_eq_some_iff.1 hi).1; simpa using this
    have hj' : j < sz := by rw [← hz, f1]; exact (List.getElem?_eq_some_iff.1 hj).1
    have h5 := Nat.mul_le_mul_right sz (show i + 1 ≤ m from hi')
    rw [Nat.succ_mul] at h5
    have hmod : (i * sz + j) % sz = j := by rw [Nat.mul_comm, Nat.mul_add_mod]; exact Nat.mod_eq_of_lt hj'
    have hjz : j < z.size := by omega
    exact ⟨z[j], by rw [hget _ (by omega), hmod]; exact Array.getElem?_eq_getElem hjz, f3 j _ x (Array.getElem?_eq_getElem hjz) hj⟩

theorem clear_op {t : Nat} {x : Operand} {a : Act} {w w' : World} {v : Value} (hx : a.eval x = v) {r : Value} (h : (Builtin.clear_ #[t] ty #[v]).run P w = .ok r w') :
    (execOp a.eval ⟨none, .call ⟨.builtin .clear, #[x], #[t]⟩, ty, pos, af, g⟩).run P w = .ok (.value r) w' := by
  rw [builtin_run]
  simp [builtin, hx, h]

/-- clear over rows of one's own. -/
theorem L.clear {t id lo m sz k : Nat} {z : List Value} {zd : List D} {rows : List (List D)} {x : Operand} (ht : tSl P t = some sz) (hz : tZrow P t = some z) (hzl : z.length = sz) (hzd : cellsD z = some zd) (hsz : 0 < sz)
    (hx : oev σ x = .vs id lo m sz) (hk : hs[k]? = some (id, .lst sz rows)) (hlo : lo + m ≤ rows.length) :
    Loud P N σ hs ⟨none, .call ⟨.builtin .clear, #[x], #[t]⟩, ty, pos, af, g⟩
      (fun σ' hs' => σ' = σ ∧ hs' = hs.set k (id, .lst sz (rows.take lo ++ List.replicate m zd ++ rows.drop (lo + m)))) := by
  intro κ a w s K Q hK
  obtain ⟨e, inf, hu, hi, rfl⟩ := tSl_spec ht
  unfold tZrow at hz
  rw [hu] at hz
  obtain ⟨inf', hi', hz⟩ := Option.bind_eq_some_iff.1 hz
  rw [hi] at hi'
  obtain rfl := Option.some.inj hi'
  obtain ⟨zv, hzv, rfl⟩ := Option.map_eq_some_iff.1 hz
  have hzs : zv.cells.size = inf.size := by rw [← Array.length_toList]; exact hzl
  have hx1 := s.oev x; rw [hx] at hx1
  obtain ⟨ob, cap, p, hκ, hle, hp, hv⟩ := hx1.vs_inv
  obtain ⟨yy, hyy, hok⟩ := s.heap.ok id _ (List.mem_of_getElem? hk)
  rw [hκ] at hyy
  obtain rfl := Option.some.inj hyy
  obtain ⟨g0, g0', g1, g2, g3, g4, g5⟩ := hok
  have hzr : (zeroValue e).run P w = .ok zv w := by simp [zeroValue, typeInfo, hi, hzv]
  unfold oWp
  by_cases hm : m = 0
  · subst hm
    have hset : hs.set k (id, HO.lst inf.size (rows.take lo ++ List.replicate 0 zd ++ rows.drop (lo + 0))) = hs := by
      rw [List.replicate_zero, List.append_nil, Nat.add_zero, List.take_append_drop]
      refine List.ext_getElem? fun j => ?_
      rw [List.getElem?_set]
      split
      · subst_vars; split
        · exact hk.symm
        · rename_i h; exact absurd (List.getElem?_eq_some_iff.1 hk).1 h
      · rfl
    have hrun : (Builtin.clear_ #[t] ty #[.slice p 0 (cap - lo)]).run P w = .ok (.tuple #[]) w := by
      cases p <;> simp [Builtin.clear_, run_underlying hu]
    rw [clear_op hv hrun]
    exact hK κ _ w _ _ (s.ext (.refl _ _ _) s.heap) (.refl _ _ _) ⟨rfl, hset.symm⟩
  · cases ob with
    | none => exact absurd (g4 rfl) (by omega)
    | some b =>
      have hpe : p = some ⟨b, lo * inf.size, none⟩ := by rw [hp (by omega)]; simp
      subst hpe
      have hl2 := zero_lined (cellsD_rep w (Own κ hs) _ zd hzd) (by simpa using hzs) hsz m
      have hzl' : zd.length = inf.size := by
        have := (cellsD_rep w (Own κ hs) _ zd hzd).1
        simp at this
        omega
      obtain ⟨w', hst, h5, e5⟩ := write_rows (P := P) s.heap hk hκ hl2 (fun r hr => by rw [(List.mem_replicate.1 hr).2]; exact hzl') (fun r hr => by rw [(List.mem_replicate.1 hr).2]; exact (cellsD_rep w (Own κ hs) _ zd hzd).2.1) (show lo ≤ rows.length by omega) (show lo + _ ≤ cap by simp; omega)
      rw [List.length_replicate] at h5 e5
      have hrun : (Builtin.clear_ #[t] ty #[.slice (some ⟨b, lo * inf.size, none⟩) m (cap - lo)]).run P w = .ok (.tuple #[]) w' := by
        have hst' : (storeCells ⟨b, lo * inf.size, none⟩ (Builtin.zeroCells zv.cells m).toList).run P w = .ok () w' := by simpa using hst
        cases m with
        | zero => exact absurd rfl hm
        | succ m => simp [Builtin.clear_, run_underlying hu, hzr, hst']
      rw [clear_op hv hrun]
      exact hK κ _ w' _ _ (s.ext e5 h5) e5 ⟨rfl, rfl⟩

/-- A list cut to its front. -/
theorem W.front_of {c : Code} (k n : Nat) {id sz : Nat} {rows : List (List D)} (hk : hs[k]? = some (id, .lst sz rows)) (h : W P N c Q σ (hs.set k (id, .lst sz (rows.take n)))) : W P N c Q σ hs := by
  intro κ a w s
  have hmem : (id, HO.lst sz rows) ∈ hs := List.mem_of_getElem? hk
  obtain ⟨⟨ob, cap⟩, hκ, hok⟩ := s.heap.ok id _ hmem
  obtain ⟨g0, g0', g1, g2, g3, g4, g5⟩ := hok
  have hfst := map_fst_set hs k id (.lst sz rows) (.lst sz (rows.take n)) hk
  have e : Ext κ hs w κ (hs.set k (id, .lst sz (rows.take n))) w :=
    ⟨fun _ _ h => h, Nat.le_refl _, Nat.le_refl _, rfl, rfl, rfl, fun _ _ _ => rfl, fun i _ hi => (own_set κ hs k id _ _ hk i).1 hi, fun i o₁ hi => by
      have h1 : i ∈ (hs.set k (id, .lst sz (rows.take n))).map (·.1) := List.mem_map.2 ⟨_, hi, rfl⟩
      rw [hfst] at h1
      obtain ⟨⟨i', o₂⟩, h2, h3⟩ := List.mem_map.1 h1
      exact .inl ⟨o₂, by cases h3; exact h2⟩, SameT.refl w⟩
  have hin : ∀ i o₁, (i, o₁) ∈ hs.set k (id, .lst sz (rows.take n)) → (i = id ∧ o₁ = .lst sz (rows.take n)) ∨ (i, o₁) ∈ hs := by
    intro i o₁ hi
    obtain ⟨j, hj⟩ := List.getElem?_of_mem hi
    rw [List.getElem?_set] at hj
    split at hj
    · split at hj
      · obtain ⟨rfl, rfl⟩ := Prod.mk.inj (Option.some.inj hj); exact .inl ⟨rfl, rfl⟩
      · cases hj
    · exact .inr (List.mem_of_getElem? hj)
  have h1 : HS κ w (hs.set k (id, .lst sz (rows.take n))) := by
    refine ⟨by rw [hfst]; exact s.heap.nodup, fun i o₁ hi => ?_, fun i i' o₁ o₂ b' c₁ c₂ hi hi' h1 h2 => ?_, s.heap.fresh⟩
    · rcases hin i o₁ hi with ⟨rfl, rfl⟩ | hi
      · refine ⟨_, hκ, by simp; omega, g0', g1, fun r hr => g2 r (List.mem_of_mem_take hr), fun r hr => g3 r (List.mem_of_mem_take hr), g4, fun b hb => ?_⟩
        obtain ⟨cs, T, hw, hcs, hr⟩ := g5 b hb
        exact ⟨cs, T, hw, hcs, fun i j r d hi hj => by
          rw [List.getElem?_take] at hi
          split at hi
          · obtain ⟨v, hv, hd⟩ := hr i j r d hi hj
            exact ⟨v, hv, hd.ext e⟩
          · cases hi⟩
      · obtain ⟨x, hx, hok⟩ := s.heap.ok i o₁ hi
        exact ⟨x, hx, hok.ext e fun _ _ => rfl⟩
    · have gg : ∀ i o₁, (i, o₁) ∈ hs.set k (id, .lst sz (rows.take n)) → ∃ o₂, (i, o₂) ∈ hs := fun i o₁ hi => by
        rcases hin i o₁ hi with ⟨rfl, _⟩ | hi
        · exact ⟨_, hmem⟩
        · exact ⟨_, hi⟩
      obtain ⟨_, g1'⟩ := gg i o₁ hi
      obtain ⟨_, g2'⟩ := gg i' o₂ hi'
      exact s.heap.inj i i' _ _ b' c₁ c₂ g1' g2' h1 h2
  exact wpIn_mono (h κ a w (s.ext e h1)) fun _ _ _ hc => hc.ext e

end
end Go.Proofs.YtldkkoecehdicaaDoorA
