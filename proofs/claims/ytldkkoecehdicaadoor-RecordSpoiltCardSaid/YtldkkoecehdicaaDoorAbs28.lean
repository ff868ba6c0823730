/- Arrays of own slices, loaded and stored whole; a list in a variable becomes data; yield over other objects. -/
import Derived.Test.YtldkkoecehdicaaDoorAbs27
namespace Go.Proofs.YtldkkoecehdicaaDoorA
open Go
set_option linter.unusedVariables false
set_option linter.unusedSimpArgs false

theorem Post.block_n {id : Nat} {Q : Post} {σ : Env} {hs : Hp} (h : Q .normal σ hs) : Post.block id Q .normal σ hs := h
theorem map_atz {α β : Type} {l : List α} {z : Int} {x : α} {f : α → β} (hx : l[z.toNat]? = some x) : (l.map f)[0 + z.toNat]? = some (f x) := by rw [Nat.zero_add, List.getElem?_map, hx]; rfl
theorem YC.le {P : Program} {id : Nat} {args : List AV} {hs hs₁ : Hp} {R : AV → Hp → Prop} (h : YC P id args hs₁ R) (hle : HLe hs₁ hs) : YC P id args hs R := by
  intro κ b c vals w h1 h2 h3 h4
  obtain ⟨g1, g2⟩ := h1.sub (hle.2 h1.nodup) hle.1
  obtain ⟨f, t, a, bd, h5, h6⟩ := h κ b c vals w g1 h2 h3 (fun i v x hv hx => (h4 i v x hv hx).ext g2)
  exact ⟨f, t, a, bd, h5, h6.mono fun _ _ ⟨κ', hs', v, x, a, b, c, d, e⟩ => ⟨κ', hs', v, x, a, b, g2.trans c, d, e⟩⟩

section
variable {P : Program} {N : Nm} {σ : Env} {hs : Hp} {ty : TypeId} {pos : String} {af : Array Edge} {g : Option (Nat × Bool)}

theorem Q.ld_ptrv {d : Option Tmp} {t n id off k : Nat} {l : List AV} {x : Operand} (ht : tAgg P t = some (true, n)) (hx : oev σ x = .ptr id off) (hk : hs[k]? = some (id, .cells l)) (hn : Nat.ble (off + n) l.length = true) :
    Quiet P N σ hs ⟨d, .load t x, ty, pos, af, g⟩ (.aggv ((l.drop off).take n)) :=
  .of_run fun κ a w s => by
    have h1 := s.oev x; rw [hx] at h1
    obtain ⟨b, cap, hkk, hv1⟩ := h1.ptr_inv
    obtain ⟨y, hy, hok⟩ := s.heap.ok id _ (List.mem_of_getElem? hk)
    rw [hkk] at hy
    obtain rfl := Option.some.inj hy
    obtain ⟨b', cs, hbe, hw, hsz, hone, hr⟩ := hok
    obtain rfl := Option.some.inj hbe
    have hn' : off + n ≤ l.length := by simpa [Nat.ble_eq] using hn
    have hcell : ∀ (j : Nat) (v : Value), ((cs.toList.drop off).take n)[j]? = some v → w.cell? ((⟨b, off, none⟩ : Addr).add j) = some v := fun j v hj => by
      rw [addr_add_lit]
      rw [List.getElem?_take] at hj
      split at hj
      · rw [List.getElem?_drop] at hj
        simp [World.cell?, hw]; simpa using hj
      · cases hj
    have hlen : ((cs.toList.drop off).take n).length = n := by simp; omega
    refine ⟨.agg ((cs.toList.drop off).take n).toArray, by simp [execOp, hv1, loadn_run ht hlen hcell], .aggv _ _ (by simp; omega) (fun v hv => hone v (List.mem_of_mem_drop (List.mem_of_mem_take (by simpa using hv)))) (fun i v x hi hx => ?_)⟩
    have hi' : ((cs.toList.drop off).take n)[i]? = some v := by simpa using hi
    rw [List.getElem?_take] at hi' hx
    split at hi'
    · rename_i hlt
      rw [if_pos hlt] at hx
      rw [List.getElem?_drop] at hi' hx
      exact hr _ v x (by simpa using hi') hx
    · cases hi'

theorem Q.idx_ep {d : Option Tmp} {t n esz id sz i off : Nat} {x ix : Operand} {k : IntKind} {j : Int} (ht : tArr P t = some (n, esz)) (hx : oev σ x = .ep id sz i off) (hi : oev σ ix = .d (.int k j)) (h0 : 0 ≤ j) (h1 : j < n) :
    Quiet P N σ hs ⟨d, .indexAddr t x ix, ty, pos, af, g⟩ (.ep id sz i (off + j.toNat * esz)) :=
  .of_run fun κ a w s => by
    have h2 := s.oev x; rw [hx] at h2
    have h3 := s.oev ix; rw [hi] at h3
    obtain ⟨b, cap, hk, hv⟩ := h2.ep_inv
    obtain ⟨e, inf, hu, hin, rfl⟩ := tArr_spec ht
    exact ⟨.pointer (some ((⟨b, i * sz + off, none⟩ : Addr).add (j.toNat * inf.size))), by simp [execOp, hv, h3.int_inv, arr_run hu hin _ h0 h1], by rw [addr_add_lit, Nat.add_assoc]; exact .ep b cap id sz i _ hk⟩
theorem Q.move_yl {d : Option Tmp} {x : Operand} {id : Nat} (hx : oev σ x = .yl id) : Quiet P N σ hs ⟨d, .move x, ty, pos, af, g⟩ (.yl id) := Q.move hx

theorem L.storev {t n id off k : Nat} {l xs : List AV} {x y : Operand} (ht : tAgg P t = some (true, n)) (hx : oev σ x = .ptr id off) (hk : hs[k]? = some (id, .cells l)) (hy : oev σ y = .aggv xs)
    (hl : xs.length = n) (hoff : Nat.ble (off + xs.length) l.length = true) : Loud P N σ hs ⟨none, .store t x y, ty, pos, af, g⟩ (fun σ' hs' => σ' = σ ∧ hs' = hs.set k (id, .cells (l.take off ++ xs ++ l.drop (off + xs.length)))) := by
  intro κ a w s K Q hK
  have hx1 := s.oev x; rw [hx] at hx1
  have hy1 := s.oev y; rw [hy] at hy1
  obtain ⟨b, cap, hκ, hv⟩ := hx1.ptr_inv
  have hle : off + xs.length ≤ l.length := by simpa [Nat.ble_eq] using hoff
  generalize hu : a.eval y = u at hy1
  cases hy1 with
  | aggv cs _ hsz h1 hr =>
    obtain ⟨w', hst, h2, h3⟩ := write_cells (P := P) s.heap (xs := xs) (vs := cs.toList) hk hκ (by simpa using hsz)
      (fun i u x hi hx => hr i u x (by simpa using hi) hx) h1 hle
    have hrun : (execOp a.eval ⟨none, .store t x y, ty, pos, af, g⟩).run P w = .ok .skip w' := by
      rw [show execOp a.eval ⟨none, .store t x y, ty, pos, af, g⟩ = (do Instr.storeAt t (a.eval x) (a.eval y); pure .skip) from rfl, hv, hu, Sem.run_bind,
        storeVar_run ht (v := .agg cs) (vs := cs.toList) rfl (by rw [Array.length_toList, hsz, hl]) hst]
      rfl
    unfold oWp
    rw [hrun]
    exact hK κ a w' σ _ (s.ext h3 h2) h3 ⟨rfl, rfl⟩
end

section
variable {P : Program} {N : Nm} {σ : Env} {hs : Hp} {Q : Post}
/-- A list that is not written again, in a variable: data. -/
theorem HS.freezec {κ : Kap} {w : World} {id off v n sz : Nat} {l : List AV} {rows : List (List D)} (h : HS κ w ((v, .lst sz rows) :: (id, .cells l) :: hs)) (hl : l[off]? = some (.vs v 0 n sz)) (hn : n = rows.length) :
    HS κ w ((id, .cells (l.set off (.d (.sl sz rows)))) :: hs) ∧ Ext κ ((v, .lst sz rows) :: (id, .cells l) :: hs) w κ ((id, .cells (l.set off (.d (.sl sz rows)))) :: hs) w := by
  obtain ⟨h1, e1⟩ := h.sublist (List.sublist_cons_self _ _)
  obtain ⟨⟨ob, cap⟩, hx, hok⟩ := h1.ok id _ (List.mem_cons_self ..)
  have hok2 := hok
  obtain ⟨b, cs, rfl, hw, hsz, hone, hr⟩ := hok2
  have hoff : off < l.length := (List.getElem?_eq_some_iff.1 hl).1
  obtain ⟨u, hu⟩ : ∃ u, cs[off]? = some u := ⟨cs[off]'(by omega), Array.getElem?_eq_getElem _⟩
  have hrep0 := hr off u _ hu hl
  obtain ⟨x0, hx0, hok0⟩ := h.ok id _ (List.mem_cons_of_mem _ (List.mem_cons_self ..))
  rw [hx] at hx0
  obtain rfl := Option.some.inj hx0
  obtain ⟨b0, cs0, hb0, hw0, _, _, hr0⟩ := hok0
  obtain rfl := Option.some.inj hb0
  rw [hw] at hw0
  injection hw0 with hw0; injection hw0 with hw1 _ _
  subst hw1
  have hd : RepD w (Own κ ((id, .cells l) :: hs)) u (.sl sz rows) := (vs_frz h (k := 0) rfl (hr0 off u _ hu hl) hn).d_inv
  obtain ⟨g1, g2⟩ := h1.write (k := 0) (o' := .cells (l.set off (.d (.sl sz rows)))) rfl hx rfl rfl rfl rfl rfl (fun _ _ => rfl) (fun hA hD => by
    refine ⟨b, cs, rfl, hw, by simpa using hsz, hone, fun i v x hi hxx => ?_⟩
    rw [List.getElem?_set] at hxx
    split at hxx
    · rename_i he
      subst he
      obtain rfl := Option.some.inj hxx
      rw [hu] at hi
      obtain rfl := Option.some.inj hi
      exact .d (hD _ _ hd)
    · exact hA _ _ (hr i v x hi hxx))
  exact ⟨g1, e1.trans g2⟩

theorem W.freezec {c : Code} (off : Nat) {id v n sz : Nat} {l : List AV} {rows : List (List D)} (hl : l[off]? = some (.vs v 0 n sz)) (hn : n = rows.length)
    (h : W P N c Q σ ((id, .cells (l.set off (.d (.sl sz rows)))) :: hs)) : W P N c Q σ ((v, .lst sz rows) :: (id, .cells l) :: hs) := by
  intro κ a w s
  obtain ⟨h1, e⟩ := s.heap.freezec hl hn
  exact wpIn_mono (h κ a w (s.ext e h1)) fun _ _ _ hc => hc.ext e
end
end Go.Proofs.YtldkkoecehdicaaDoorA
