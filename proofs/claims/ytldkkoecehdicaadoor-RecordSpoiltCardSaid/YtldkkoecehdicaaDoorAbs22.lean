/- The capacity of nil; an append of a made slice to nil. -/
import Derived.Test.YtldkkoecehdicaaDoorAbs21
import Derived.Lib.AppendZeros
namespace Go.Proofs.YtldkkoecehdicaaDoorA
open Go
set_option linter.unusedVariables false
set_option linter.unusedSimpArgs false

section
variable {P : Program} {N : Nm} {σ : Env} {hs : Hp} {d : Option Tmp} {ty : TypeId} {pos : String} {af : Array Edge} {g : Option (Nat × Bool)}
theorem Q.cap_nil {t : Nat} {x : Operand} (ht : isSl P t = true) (hx : oev σ x = .nilsl) : Quiet P N σ hs ⟨d, .call ⟨.builtin .cap, #[x], #[t]⟩, ty, pos, af, g⟩ (.d (.int .i64 0)) :=
  .of_run fun κ a w s => by
    have h1 := s.oev x; rw [hx] at h1
    obtain ⟨e, hu⟩ := isSl_spec ht
    refine ⟨.int .i64 0, ?_, .d (.int _ _)⟩
    generalize hv : a.eval x = v at h1
    cases h1
    rw [builtin_run]
    simp [builtin, hv, Builtin.cap_, run_underlying hu, goInt]
theorem app_op2 {d : Tmp} {t t2 : Nat} {x y : Operand} {a : Act} {w w' : World} {v u : Value} (hx : a.eval x = v) (hy : a.eval y = u) {r : Value} (h : (Builtin.append_ #[t, t2] ty #[v, u]).run P w = .ok r w') :
    (execOp a.eval ⟨some d, .call ⟨.builtin .append, #[x, y], #[t, t2]⟩, ty, pos, af, g⟩).run P w = .ok (.value r) w' := by
  rw [builtin_run]
  simp [builtin, hx, hy, h]
/-- append(nil, make(S, n)...) -/
theorem L.app_mk {d : Tmp} {t t2 sz bytes n : Nat} {z : List Value} {zd : List D} {x y : Operand} {kl kn : IntKind} (ht : tApp P t = some (sz, bytes)) (hz : tZrow P t = some z) (hzd : cellsD z = some zd) (ht2 : tInt P t2 = some kn) (hx : oev σ x = .nilsl) (hy : oev σ y = .d (.int kl (n : Int)))
    (h0 : 0 < n) (hb : n * bytes ≤ 140737488355328) (hd : Nat.blt d N.n = true) :
    Loud P N σ hs ⟨some d, .call ⟨.builtin .append, #[x, y], #[t, t2]⟩, ty, pos, af, g⟩ (fun σ' hs' => ∃ id, σ' = (d, .vs id 0 n sz) :: σ ∧ hs' = (id, .lst sz (List.replicate n zd)) :: hs) := by
  intro κ a w s K Q hK
  have hdN : d < N.n := by simpa [Nat.blt_eq] using hd
  obtain ⟨e, inf, zv, hu, hi, hzv, h1, h2, h3, hsz, hbb⟩ := tApp_spec ht
  have hx1 := s.oev x; rw [hx] at hx1
  have hy1 := s.oev y; rw [hy] at hy1
  have hzc : z = zv.cells.toList := by
    unfold tZrow at hz
    rw [hu] at hz
    obtain ⟨i', hi', hz'⟩ := Option.bind_eq_some_iff.1 hz
    rw [hi] at hi'
    obtain rfl := Option.some.inj hi'
    obtain ⟨q, hq, rfl⟩ := Option.map_eq_some_iff.1 hz'
    rw [hzv] at hq
    rw [← Option.some.inj hq]
  have hvx : a.eval x = .slice none 0 0 := by
    generalize hv : a.eval x = v at hx1
    cases hx1; rfl
  have hn48 : n ≤ 140737488355328 := by have := Nat.mul_le_mul_left n hbb; omega
  have hrun := Lib.run_append_nil_zeros (P := P) w t t2 ty e inf zv kl kn hu (tInt_spec ht2) hi hzv n h0 (by omega) (by omega) (by rw [h2]; omega)
  have hzf : Filled w (Own κ hs) zv.cells zd := by
    have := cellsD_rep w (Own κ hs) _ zd hzd
    rw [hzc] at this
    simpa using this
  have hzl := zero_lined hzf h3 hsz n
  have hzlen : zd.length = sz := by rw [← hzf.1]; exact h3
  have hrr : ∀ r ∈ List.replicate n zd, r.length = sz := fun r hr => by rw [List.eq_of_mem_replicate hr]; exact hzlen
  have hoo : ∀ r ∈ List.replicate n zd, ∀ x ∈ r, x.one = true := fun r hr => by rw [List.eq_of_mem_replicate hr]; exact hzf.2.1
  obtain ⟨id', κ', h6, e6, hκ'⟩ := new_lst s.heap (cap := grownCap w n 0 e) (rest := (Builtin.zeroCells zv.cells (grownCap w n 0 e - n)).toList) e hsz hzl hrr hoo (by rw [List.length_replicate]; exact grownCap_ge w n 0 e) (grownCap_le_maxLen w n 0 e (by simp only [maxLen]; omega)) (by rw [Array.length_toList, size_zeroCells, h3, List.length_replicate])
  have hcells : ((Builtin.zeroCells zv.cells n).toList ++ (Builtin.zeroCells zv.cells (grownCap w n 0 e - n)).toList).toArray = Builtin.zeroCells zv.cells n ++ Builtin.zeroCells zv.cells (grownCap w n 0 e - n) := by
    apply Array.ext'; simp
  rw [hcells] at h6 e6
  unfold oWp
  rw [app_op2 hvx hy1.int_inv hrun]
  refine hK κ' _ _ _ _ (s.put e6 h6 hdN ?_) e6 ⟨id', rfl, rfl⟩
  have := RepA.vs (κ := κ') (w := w.drew.alloc (.cells (Builtin.zeroCells zv.cells n ++ Builtin.zeroCells zv.cells (grownCap w n 0 e - n)) e)) (O := Own κ' ((id', HO.lst sz (List.replicate n zd)) :: hs)) (some w.heap.size) (grownCap w n 0 e) (some ⟨w.heap.size, 0, none⟩) id' 0 n sz hκ' (by have := grownCap_ge w n 0 e; omega) (fun _ => by simp)
  simpa using this
end
end Go.Proofs.YtldkkoecehdicaaDoorA
