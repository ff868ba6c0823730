/- Calls whose results lie in memory when they return. -/
import Derived.Test.YtldkkoecehdicaaDoorAbs15
namespace Go.Proofs.YtldkkoecehdicaaDoorA
open Go
set_option linter.unusedVariables false
set_option linter.unusedSimpArgs false

theorem loadn_cells {P : Program} {κ : Kap} {w : World} {hs : Hp} (h : HS κ w hs) {t n id off k : Nat} {l : List AV} {ds : List D} {v : Value} (ht : tAgg P t = some (true, n)) (hx : RepA κ w (Own κ hs) v (.ptr id off))
    (hk : hs[k]? = some (id, .cells l)) (hv : takeD n (l.drop off) = some ds) : ∃ ad u, v = .pointer (some ad) ∧ (loadVar t ad).run P w = .ok u w ∧ RepA κ w (Own κ hs) u (.d (.agg ds)) := by
    obtain ⟨b, cap, hkk, hv1⟩ := hx.ptr_inv
    obtain ⟨y, hy, hok⟩ := h.ok id _ (List.mem_of_getElem? hk)
    rw [hkk] at hy
    obtain rfl := Option.some.inj hy
    obtain ⟨b', cs, hbe, hw, hsz, hone, hr⟩ := hok
    obtain rfl := Option.some.inj hbe
    obtain ⟨hl, hj⟩ := takeD_spec n _ ds hv
    have hat : ∀ (j : Nat) (x : D), ds[j]? = some x → ∃ u, cs[off + j]? = some u ∧ RepD w (Own κ hs) u x ∧ u.oneCell' = true := fun j x hx => by
      have h2 := hj j x hx
      rw [List.getElem?_drop] at h2
      have hlt : off + j < cs.size := by rw [hsz]; exact (List.getElem?_eq_some_iff.1 h2).1
      refine ⟨cs[off + j], Array.getElem?_eq_getElem hlt, ?_, hone _ (by simp [Array.mem_toList_iff])⟩
      have h4 := hr _ _ _ (Array.getElem?_eq_getElem hlt) h2
      exact h4.d_inv
    have hcell : ∀ (j : Nat) (v : Value), ((cs.toList.drop off).take n)[j]? = some v → w.cell? ((⟨b, off, none⟩ : Addr).add j) = some v := fun j v hj => by
      rw [addr_add_lit]
      rw [List.getElem?_take] at hj
      split at hj
      · rw [List.getElem?_drop] at hj
        simp [World.cell?, hw]; simpa using hj
      · cases hj
    have hlen : ((cs.toList.drop off).take n).length = n := by
      by_cases hn0 : n = 0
      · subst hn0; simp
      · obtain ⟨u, hu, _⟩ := hat (n - 1) ds[n - 1] (List.getElem?_eq_getElem (by omega))
        have := (Array.getElem?_eq_some_iff.1 hu).1
        simp; omega
    have hrun := loadn_run (P := P) ht hlen hcell
    simp only [Instr.loadAt, Instr.sureAddr, Sem.run_bind, Sem.run_pure, Result.andThen_ok] at hrun
    refine ⟨_, .agg ((cs.toList.drop off).take n).toArray, hv1, hrun, .d (.agg _ _ (by simpa [hl] using hlen) (fun d hd => ?_) (fun i v d hi hd => ?_))⟩
    · obtain ⟨j, hj⟩ := List.getElem?_of_mem hd
      obtain ⟨u, _, h2, h3⟩ := hat j d hj
      exact h2.one_of h3
    · obtain ⟨u, h2, h3, _⟩ := hat i d hd
      have hi' : ((cs.toList.drop off).take n)[i]? = some v := by simpa using hi
      rw [List.getElem?_take] at hi'
      split at hi'
      · rw [List.getElem?_drop] at hi'
        have : cs[off + i]? = some v := by simpa using hi'
        rw [h2] at this
        obtain rfl := Option.some.inj this
        exact h3
      · cases hi'

theorem load1_cells {P : Program} {κ : Kap} {w : World} {hs : Hp} (h : HS κ w hs) {t id off k : Nat} {l : List AV} {x : AV} {v : Value} (ht : tAgg P t = some (false, 1)) (hx : RepA κ w (Own κ hs) v (.ptr id off))
    (hk : hs[k]? = some (id, .cells l)) (hv : l[off]? = some x) : ∃ ad u, v = .pointer (some ad) ∧ (loadVar t ad).run P w = .ok u w ∧ RepA κ w (Own κ hs) u x := by
    obtain ⟨b, cap, hkk, hv1⟩ := hx.ptr_inv
    obtain ⟨y, hy, hok⟩ := h.ok id _ (List.mem_of_getElem? hk)
    rw [hkk] at hy
    obtain rfl := Option.some.inj hy
    obtain ⟨b', cs, hbe, hw, hsz, hone, hr⟩ := hok
    obtain rfl := Option.some.inj hbe
    have hoff : off < cs.size := by rw [hsz]; exact (List.getElem?_eq_some_iff.1 hv).1
    have hc : w.cell? ⟨b, off, none⟩ = some cs[off] := by simp [World.cell?, hw, hoff]
    have hrun := load1_run (P := P) ht hc
    simp only [Instr.loadAt, Instr.sureAddr, Sem.run_bind, Sem.run_pure, Result.andThen_ok] at hrun
    exact ⟨_, cs[off], hv1, hrun, hr off _ x (Array.getElem?_eq_getElem hoff) hv⟩

/-- What one result reads as. -/
inductive SlotR (P : Program) (σ : Env) (hs : Hp) : ResultVar → AV → Prop
  | tmp (t) : SlotR P σ hs (.tmp t) (eget σ t)
  | cell1 {a t id off l x} (k : Nat) (ht : tAgg P t = some (false, 1)) (hx : eget σ a = .ptr id off) (hk : hs[k]? = some (id, .cells l)) (hv : l[off]? = some x) : SlotR P σ hs (.cell a t) x
  | celln {a t id off n l ds} (k : Nat) (ht : tAgg P t = some (true, n)) (hx : eget σ a = .ptr id off) (hk : hs[k]? = some (id, .cells l)) (hv : takeD n (l.drop off) = some ds) : SlotR P σ hs (.cell a t) (.d (.agg ds))
inductive SlotsR (P : Program) (σ : Env) (hs : Hp) : List ResultVar → List AV → Prop
  | nil : SlotsR P σ hs [] []
  | cons {r rs x xs} (h : SlotR P σ hs r x) (ht : SlotsR P σ hs rs xs) : SlotsR P σ hs (r :: rs) (x :: xs)

theorem SlotR.run {P : Program} {N : Nm} {κ : Kap} {hs : Hp} {w : World} {σ : Env} {a : Act} (s : Sim N κ hs w σ a) {r : ResultVar} {x : AV} (h : SlotR P σ hs r x) :
    ∃ v, (resSem a.tmps r).run P w = .ok v w ∧ RepA κ w (Own κ hs) v x := by
  cases h with
  | tmp t => exact ⟨_, rfl, s.get t⟩
  | cell1 k ht hx hk hv =>
    rename_i a' t id off l
    have h1 := s.get a'
    rw [hx] at h1
    obtain ⟨ad, u, h2, h3, h4⟩ := load1_cells (P := P) s.heap ht h1 hk hv
    refine ⟨u, ?_, h4⟩
    simp only [resSem, h2, asAddr, Sem.run_bind, Sem.run_pure, Result.andThen_ok, h3]
  | celln k ht hx hk hv =>
    rename_i a' t id off n l ds
    have h1 := s.get a'
    rw [hx] at h1
    obtain ⟨ad, u, h2, h3, h4⟩ := loadn_cells (P := P) s.heap ht h1 hk hv
    refine ⟨u, ?_, h4⟩
    simp only [resSem, h2, asAddr, Sem.run_bind, Sem.run_pure, Result.andThen_ok, h3]

theorem SlotsR.run {P : Program} {N : Nm} {κ : Kap} {hs : Hp} {w : World} {σ : Env} {a : Act} (s : Sim N κ hs w σ a) : ∀ {rs : List ResultVar} {xs : List AV}, SlotsR P σ hs rs xs →
    ∃ vs : List Value, (rs.mapM (resSem a.tmps)).run P w = .ok vs w ∧ vs.length = xs.length ∧ ∀ (i : Nat) (v : Value) (x : AV), vs[i]? = some v → xs[i]? = some x → RepA κ w (Own κ hs) v x
  | [], _, .nil => ⟨[], rfl, rfl, by simp⟩
  | r :: rs, _, .cons (x := x) (xs := xs) h ht => by
    obtain ⟨v, h1, h2⟩ := h.run s
    obtain ⟨vs, h3, h4, h5⟩ := SlotsR.run s ht
    refine ⟨v :: vs, ?_, by simp [h4], fun i u y hi hy => ?_⟩
    · rw [List.mapM_cons, Sem.run_bind, h1, Result.andThen_ok, Sem.run_bind, h3]
      rfl
    · cases i with
      | zero => obtain rfl := Option.some.inj hi; obtain rfl := Option.some.inj hy; exact h2
      | succ i => exact h5 i u y (by simpa using hi) (by simpa using hy)

theorem resultsR_run {P : Program} {fn : Func} {N : Nm} {κ : Kap} {hs : Hp} {w : World} {σ : Env} {a : Act} {xs : List AV} (s : Sim N κ hs w σ a) (hx : SlotsR P σ hs fn.results.toList xs) :
    ∃ v, (results fn a.tmps).run P w = .ok v w ∧ RepA κ w (Own κ hs) v (oneOf xs) := by
    obtain ⟨vs, h1, h2, h5⟩ := hx.run s
    have h4 : (fn.results.mapM (resSem a.tmps)).run P w = .ok vs.toArray w := by
      rw [Array.mapM_eq_mapM_toList, Sem.run_map, h1]; rfl
    have tupled : vs.length ≠ 1 → RepA κ w (Own κ hs) (.tuple vs.toArray) (.tup xs) := fun _ =>
      .tup _ _ (by simpa using h2) (fun i v x hi hx => h5 i v x (by simpa using hi) hx)
    rw [results_eq, Sem.run_bind, h4]
    show ∃ v, Result.ok (if h : vs.toArray.size = 1 then vs.toArray[0] else .tuple vs.toArray) w = .ok v w ∧ _
    match xs, vs, h2 with
    | [], [], _ => exact ⟨_, rfl, tupled (by simp)⟩
    | [x], [v], _ => exact ⟨v, rfl, h5 0 v x rfl rfl⟩
    | x :: y :: xs, v :: u :: vs, _ => exact ⟨_, by rw [dif_neg (by simp)], tupled (by simp)⟩

theorem AC.ofc {P : Program} {f : FuncId} {fn : Func} {c : Code} {args : List AV} {hs : Hp} {R : AV → Hp → Prop} (N : Nat) (hf : P.funcs[f]? = some fn) (hb : fn.body = some c) (hN : fn.ntmps = N)
    (hl : Nat.ble args.length N = true)
    (h : ∀ {B}, W P ⟨N, B, none⟩ c (fun ex σ' hs' => match ex with | .exit _ => False | _ => ∃ xs hs'', SlotsR P σ' hs' fn.results.toList xs ∧ HLe hs'' hs' ∧ R (oneOf xs) hs'') (envOf args 0) hs) : AC P f args hs R :=
  AC.body N hf hb hN hl (fun B => h) (fun _ _ _ hq => hq) fun x σ hs' κ w tmps hx hq h1 h2 h3 => by
    have hq' : ∃ xs hs'', SlotsR P σ hs' fn.results.toList xs ∧ HLe hs'' hs' ∧ R (oneOf xs) hs'' := by rcases hx with rfl | rfl <;> exact hq
    obtain ⟨y, hs'', hy, hle, hr⟩ := hq'
    obtain ⟨v, hv, hrep⟩ := resultsR_run (N := ⟨N, 0, none⟩) (P := P) (fn := fn) (a := { tmps := tmps, defers := [] }) ⟨h1, h3, Marks.nil _ _ (Nat.zero_le _), h2⟩ hy
    exact ⟨v, _, hs'', hv, hrep, hle, hr⟩

def inY (Y : Env) : Operand → Bool
  | .tmp t => Y.any (fun p => Nat.beq p.1 t)
  | _ => true
theorem oev_app {Y τ : Env} {x : Operand} (h : inY Y x = true) : oev (Y ++ τ) x = oev Y x := by
  cases x with
  | tmp t =>
    simp only [inY] at h
    simp only [oev]
    induction Y with
    | nil => simp at h
    | cons p Y ih =>
      obtain ⟨k, v⟩ := p
      by_cases hk : k = t
      · subst hk; rw [List.cons_append, eget_same, eget_same]
      · rw [List.cons_append, eget_ne _ _ hk, eget_ne _ _ hk]
        refine ih ?_
        simpa [hk] using h
  | _ => rfl

/-- A change whose outcome is one heap, found as the proof goes. -/
theorem DT.moreS {P : Program} {N : Nm} {ops : Array Oper} {h : Nat} {σ : Env} {R : Env → Hp → Prop} {E : Hp} {p : Nat} {ps did : List Nat} {prev : Option (List Nat)} {vals : List AV} {hs : Hp} (sts : List St) (hc : (stOk ops h did (p :: ps) prev sts && (ps.all (fun q => !freeB ops [p] ops.size q && Nat.blt q h) && Nat.blt p h)) = true)
    (c : PC P N ops hs (fun k => sts.getD k .later) (fun _ h' => h' = E) 0 (ops.toList.take h) vals σ (fun vs _ => ∀ v hs', hs' = E → DT P N ops h σ R ps (predsB ops p ++ p :: did) (some (p :: ps)) (vs.set p v) hs')) : DT P N ops h σ R (p :: ps) did prev vals hs :=
  DT.more (Rp := fun _ h' => h' = E) sts hc c
end Go.Proofs.YtldkkoecehdicaaDoorA
