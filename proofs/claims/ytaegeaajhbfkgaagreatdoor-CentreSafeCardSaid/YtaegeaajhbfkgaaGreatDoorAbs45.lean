/- A region that draws its order and in which some operations change the objects: of those that wait for none of the others any may come next. -/
import Derived.Test.YtaegeaajhbfkgaaGreatDoorFrB
import Derived.Test.YtaegeaajhbfkgaaGreatDoorFrC
namespace Go.Proofs.YtaegeaajhbfkgaaGreatDoorA
open Go
set_option linter.unusedVariables false
set_option linter.unusedSimpArgs false
section drawN
variable {P : Program} {N : Nm} {ops : Array Oper}
def stN (ops : Array Oper) (did L : List Nat) (prev : Option (List Nat)) (k : Nat) : St :=
  if did.contains k then .did
  else if freeB ops L ops.size k then (match prev with | some L' => if freeB ops L' ops.size k then .old else .new | none => .new)
  else if L.contains k && freeB ops (L.erase k) ops.size k then .now else .later
inductive PCn (P : Program) (N : Nm) (ops : Array Oper) (hs : Hp) (st : Nat → St) (Rp : Nat → AV → Hp → Prop) : Nat → List Oper → List AV → Env → (List AV → Env → Prop) → Prop
  | nil {k σ} {R : List AV → Env → Prop} (h : R [] σ) : PCn P N ops hs st Rp k [] [] σ R
  | did {k o l v prev σ} {R : List AV → Env → Prop} (hst : st k = .did) (ht : PCn P N ops hs st Rp (k + 1) l prev (putE o.dst v σ) (fun vs => R (v :: vs))) : PCn P N ops hs st Rp k (o :: l) (v :: prev) σ R
  | later {k o l v prev σ} {R : List AV → Env → Prop} (hst : st k = .later) (ht : PCn P N ops hs st Rp (k + 1) l prev σ (fun vs => R (v :: vs))) : PCn P N ops hs st Rp k (o :: l) (v :: prev) σ R
  | old {k o l v prev σ} {R : List AV → Env → Prop} (hst : st k = .old) (h : GQ P N ops (restr σ (o.looksAt ops)) hs o v) (hd : dstOk N o.dst = true)
      (ht : PCn P N ops hs st Rp (k + 1) l prev (putE o.dst v σ) (fun vs => R (v :: vs))) : PCn P N ops hs st Rp k (o :: l) (v :: prev) σ R
  | new {k o l v' prev σ} {R : List AV → Env → Prop} (v : AV) (hst : st k = .new) (h : GQ P N ops (restr σ (o.looksAt ops)) hs o v) (hd : dstOk N o.dst = true)
      (ht : PCn P N ops hs st Rp (k + 1) l prev (putE o.dst v σ) (fun vs => R (v :: vs))) : PCn P N ops hs st Rp k (o :: l) (v' :: prev) σ R
  | now {k o l v prev σ} {R : List AV → Env → Prop} (Rk : AV → Hp → Prop) (hRk : Rp k = Rk) (hst : st k = .now) (hg : o.guard = none) (hl : ∀ τ, Loud P N (restr σ (o.looksAt ops) ++ τ) hs o (fun σ' hs' => ∃ v, σ' = putE o.dst v (restr σ (o.looksAt ops) ++ τ) ∧ Rk v hs'))
      (ht : PCn P N ops hs st Rp (k + 1) l prev σ (fun vs => R (v :: vs))) : PCn P N ops hs st Rp k (o :: l) (v :: prev) σ R
def stOkN (ops : Array Oper) (h : Nat) (did L : List Nat) (prev : Option (List Nat)) (sts : List St) : Bool := (List.range h).all fun k => decide (stN ops did L prev k = sts.getD k .later)
def nowsN (ops : Array Oper) (L : List Nat) : List (Nat × List Nat) := (L.filter fun p => freeB ops (L.erase p) ops.size p).map fun p => (p, L.erase p)
def rpOf : List (Nat × List Nat) → List (AV → Hp → Prop) → Nat → AV → Hp → Prop
  | (p, _) :: ns, r :: rs, k => bif Nat.beq p k then r else rpOf ns rs k
  | _, _, _ => fun _ _ => False
def AllZ : List (Nat × List Nat) → List (AV → Hp → Prop) → (Nat → List Nat → (AV → Hp → Prop) → Prop) → Prop
  | (p, l) :: ns, r :: rs, f => f p l r ∧ AllZ ns rs f
  | [], _, _ => True
  | _ :: _, [], _ => False
def DTn (P : Program) (N : Nm) (ops : Array Oper) (h : Nat) (σ : Env) (R : Env → Hp → Prop) : Nat → List Nat → List Nat → Option (List Nat) → List AV → Hp → Prop
  | 0, L, did, prev, vals, hs => L = [] ∧ ∃ sts : List St, stOkN ops h did [] prev sts = true ∧ PCn P N ops hs (fun k => sts.getD k .later) (fun _ _ _ => False) 0 (ops.toList.take h) vals σ (fun _ σ' => R σ' hs)
  | n + 1, L, did, prev, vals, hs => ∃ (nows : List (Nat × List Nat)) (rs : List (AV → Hp → Prop)) (sts : List St), (stOkN ops h did L prev sts && (decide (nowsN ops L = nows) && !L.isEmpty)) = true ∧
      PCn P N ops hs (fun k => sts.getD k .later) (rpOf nows rs) 0 (ops.toList.take h) vals σ (fun vs _ => AllZ nows rs fun p L' Rk => ∀ v hs', Rk v hs' → DTn P N ops h σ R n L' (predsB ops p ++ p :: did) (some L) (vs.set p v) hs')
theorem AllZ.nil {f : Nat → List Nat → (AV → Hp → Prop) → Prop} : AllZ [] [] f := trivial
theorem AllZ.cons {p : Nat} {l : List Nat} {r : AV → Hp → Prop} {ns : List (Nat × List Nat)} {rs : List (AV → Hp → Prop)} {f : Nat → List Nat → (AV → Hp → Prop) → Prop} (h : f p l r) (hr : AllZ ns rs f) : AllZ ((p, l) :: ns) (r :: rs) f := ⟨h, hr⟩
abbrev rS (E : Hp) : AV → Hp → Prop := fun _ h => h = E
abbrev rE (F : Nat → AV) (E : Nat → Hp) : AV → Hp → Prop := fun r h => ∃ n, r = F n ∧ h = E n
abbrev rC (F : AV → Hp → Prop) : AV → Hp → Prop := fun r h => ∃ h1, F r h1 ∧ h = h1
theorem DTn.more {h : Nat} {σ : Env} {R : Env → Hp → Prop} {n : Nat} {L did : List Nat} {prev : Option (List Nat)} {vals : List AV} {hs : Hp} (nows : List (Nat × List Nat)) (rs : List (AV → Hp → Prop)) (sts : List St) (hc : (stOkN ops h did L prev sts && (decide (nowsN ops L = nows) && !L.isEmpty)) = true)
    (c : PCn P N ops hs (fun k => sts.getD k .later) (rpOf nows rs) 0 (ops.toList.take h) vals σ (fun vs _ => AllZ nows rs fun p L' Rk => ∀ v hs', Rk v hs' → DTn P N ops h σ R n L' (predsB ops p ++ p :: did) (some L) (vs.set p v) hs')) : DTn P N ops h σ R (n + 1) L did prev vals hs := ⟨nows, rs, sts, hc, c⟩
theorem DTn.last {h : Nat} {σ : Env} {R : Env → Hp → Prop} {did : List Nat} {prev : Option (List Nat)} {vals : List AV} {hs : Hp} (sts : List St) (hc : stOkN ops h did [] prev sts = true)
    (c : PCn P N ops hs (fun k => sts.getD k .later) (fun _ _ _ => False) 0 (ops.toList.take h) vals σ (fun _ σ' => R σ' hs)) : DTn P N ops h σ R 0 [] did prev vals hs := ⟨rfl, sts, hc, c⟩
theorem AllZ.mem {ns : List (Nat × List Nat)} {rs : List (AV → Hp → Prop)} {f : Nat → List Nat → (AV → Hp → Prop) → Prop} (h : AllZ ns rs f) {p : Nat} {l : List Nat} (hp : (p, l) ∈ ns) (hu : ∀ l', (p, l') ∈ ns → l' = l) : f p l (rpOf ns rs p) := by
  induction ns generalizing rs with
  | nil => cases hp
  | cons x ns ih =>
    obtain ⟨q, m⟩ := x
    cases rs with
    | nil => exact h.elim
    | cons r rs =>
      obtain ⟨h1, h2⟩ := h
      unfold rpOf
      by_cases hq : q = p
      · subst hq
        obtain rfl := hu m (by simp)
        rw [show Nat.beq q q = true from Nat.beq_refl q]; exact h1
      · rw [show Nat.beq q p = false from by cases hb : Nat.beq q p with | false => rfl | true => exact absurd (Nat.eq_of_beq_eq_true hb) hq]
        rcases List.mem_cons.1 hp with hp | hp
        · exact absurd (Prod.mk.inj hp).1.symm hq
        · exact ih h2 hp fun l' hl => hu l' (by simp [hl])
theorem PCn.congr {hs : Hp} {st st' : Nat → St} {Rp : Nat → AV → Hp → Prop} {k : Nat} {l : List Oper} {prev : List AV} {σ : Env} {R : List AV → Env → Prop} (c : PCn P N ops hs st Rp k l prev σ R) :
    (∀ j, k ≤ j → j < k + l.length → st' j = st j) → PCn P N ops hs st' Rp k l prev σ R := by
  induction c with
  | nil h => exact fun _ => .nil h
  | did hst _ ih => exact fun e => .did ((e _ (Nat.le_refl _) (by simp)).trans hst) (ih fun j h1 h2 => e j (by omega) (by simp; omega))
  | later hst _ ih => exact fun e => .later ((e _ (Nat.le_refl _) (by simp)).trans hst) (ih fun j h1 h2 => e j (by omega) (by simp; omega))
  | old hst h hd _ ih => exact fun e => .old ((e _ (Nat.le_refl _) (by simp)).trans hst) h hd (ih fun j h1 h2 => e j (by omega) (by simp; omega))
  | new v hst h hd _ ih => exact fun e => .new v ((e _ (Nat.le_refl _) (by simp)).trans hst) h hd (ih fun j h1 h2 => e j (by omega) (by simp; omega))
  | now Rk hRk hst hg hl _ ih => exact fun e => .now Rk hRk ((e _ (Nat.le_refl _) (by simp)).trans hst) hg hl (ih fun j h1 h2 => e j (by omega) (by simp; omega))
theorem stOkN_spec {h : Nat} {did L : List Nat} {prev : Option (List Nat)} {sts : List St} (hk : stOkN ops h did L prev sts = true) {k : Nat} (h1 : k < h) : stN ops did L prev k = sts.getD k .later := by
  simp only [stOkN, List.all_eq_true, List.mem_range, decide_eq_true_eq] at hk
  exact hk k h1
structure PVn (P : Program) (N : Nm) (ops : Array Oper) (hs : Hp) (st : Nat → St) (Rp : Nat → AV → Hp → Prop) (k : Nat) (l : List Oper) (prev : List AV) (σ₀ : Env) (v₀ : Nat → AV) (R : List AV → Env → Prop) (vs : List AV) (vals : Nat → AV) : Prop where
  len : vs.length = l.length
  plen : prev.length = l.length
  same : ∀ j, j < l.length → st (k + j) ≠ .new → at0 vs j = at0 prev j
  low : ∀ i, i < k → vals i = v₀ i
  high : ∀ j, vals (k + j) = at0 vs j
  quiet : ∀ (j : Nat) o, l[j]? = some o → st (k + j) = .new ∨ st (k + j) = .old → GQ P N ops (restr (envL σ₀ ops vals (fun i => presB (st i)) (k + j)) (o.looksAt ops)) hs o (vals (k + j)) ∧ dstOk N o.dst = true
  loud : ∀ (j : Nat) o, l[j]? = some o → st (k + j) = .now → o.guard = none ∧ ∀ τ, Loud P N (restr (envL σ₀ ops vals (fun i => presB (st i)) (k + j)) (o.looksAt ops) ++ τ) hs o (fun σ' hs' => ∃ v, σ' = putE o.dst v (restr (envL σ₀ ops vals (fun i => presB (st i)) (k + j)) (o.looksAt ops) ++ τ) ∧ Rp (k + j) v hs')
  fin : R vs (envL σ₀ ops vals (fun i => presB (st i)) (k + l.length))
theorem PCn.vals {hs : Hp} {st : Nat → St} {Rp : Nat → AV → Hp → Prop} {k : Nat} {l : List Oper} {prev : List AV} {σ : Env} {R : List AV → Env → Prop} (c : PCn P N ops hs st Rp k l prev σ R) :
    ∀ (σ₀ : Env) (v₀ : Nat → AV), (∀ (j : Nat) o, l[j]? = some o → ops[k + j]? = some o) → σ = envL σ₀ ops v₀ (fun i => presB (st i)) k →
    ∃ vs vals, PVn P N ops hs st Rp k l prev σ₀ v₀ R vs vals := by
  have step : ∀ {k : Nat} {o : Oper} {l : List Oper} {v v' : AV} {prev : List AV} {σ σ' : Env} {R : List AV → Env → Prop} (σ₀ : Env) (v₀ : Nat → AV),
      (∀ (j : Nat) o', (o :: l)[j]? = some o' → ops[k + j]? = some o') → σ = envL σ₀ ops v₀ (fun i => presB (st i)) k → (st k ≠ .new → v = v') →
      σ' = (if presB (st k) = true then putE o.dst v σ else σ) →
      (st k = .new ∨ st k = .old → GQ P N ops (restr σ (o.looksAt ops)) hs o v ∧ dstOk N o.dst = true) →
      (st k = .now → o.guard = none ∧ ∀ τ, Loud P N (restr σ (o.looksAt ops) ++ τ) hs o (fun σ' hs' => ∃ v, σ' = putE o.dst v (restr σ (o.looksAt ops) ++ τ) ∧ Rp k v hs')) →
      (∀ (σ₀ : Env) (v₀ : Nat → AV), (∀ (j : Nat) o, l[j]? = some o → ops[k + 1 + j]? = some o) → σ' = envL σ₀ ops v₀ (fun i => presB (st i)) (k + 1) →
        ∃ vs vals, PVn P N ops hs st Rp (k + 1) l prev σ₀ v₀ (fun vs => R (v :: vs)) vs vals) →
      ∃ vs vals, PVn P N ops hs st Rp k (o :: l) (v' :: prev) σ₀ v₀ R vs vals := by
    intro k o l v v' prev σ σ' R σ₀ v₀ hops hσ hv hσ' hG hN ih
    have hk : ops[k]? = some o := hops 0 o rfl
    let v₁ : Nat → AV := fun i => if i = k then v else v₀ i
    have e1 : envL σ₀ ops v₁ (fun i => presB (st i)) k = σ := by rw [hσ]; exact envL_vals _ _ _ _ _ fun i hi => by simp [v₁, Nat.ne_of_lt hi]
    obtain ⟨vs, vals, g⟩ := ih σ₀ v₁ (fun j o' hj => by have := hops (j + 1) o' (by simpa using hj); rwa [show k + 1 + j = k + (j + 1) by omega]) (by
      rw [hσ']
      simp only [envL]
      rw [e1, show dstAt ops k = o.dst from by simp [dstAt, hk]]
      simp [v₁])
    have e2 : envL σ₀ ops vals (fun i => presB (st i)) k = σ := by
      rw [← e1]; exact envL_vals _ _ _ _ _ fun i hi => g.low i (by omega)
    have hvk : vals k = v := by rw [g.low k (by omega)]; simp [v₁]
    have hs1 : ∀ j, k + 1 + j = k + (j + 1) := fun j => by omega
    refine ⟨v :: vs, vals, by simp [g.len], by simp [g.plen], fun j hj hn => ?_, fun i hi => by rw [g.low i (by omega)]; simp [v₁, Nat.ne_of_lt hi], fun j => ?_, fun j o' hj hst => ?_, fun j o' hj hst => ?_, ?_⟩
    · cases j with
      | zero => simp only [at0, List.getD_cons_zero]; exact hv hn
      | succ j =>
        have := g.same j (by simpa using hj) (by rwa [hs1])
        simpa [at0] using this
    · cases j with
      | zero => simpa [at0] using hvk
      | succ j => have := g.high j; rw [hs1] at this; simpa [at0] using this
    · cases j with
      | zero =>
        simp at hj; subst hj
        rw [Nat.add_zero, e2, hvk]
        exact hG hst
      | succ j =>
        have := g.quiet j o' (by simpa using hj) (by rwa [hs1])
        rwa [hs1] at this
    · cases j with
      | zero =>
        simp at hj; subst hj
        rw [Nat.add_zero, e2]
        exact hN hst
      | succ j =>
        have := g.loud j o' (by simpa using hj) (by rwa [hs1])
        rwa [hs1] at this
    · rw [List.length_cons, show k + (l.length + 1) = k + 1 + l.length by omega]; exact g.fin
  induction c with
  | @nil k σ R h =>
    intro σ₀ v₀ _ he
    have : envL σ₀ ops (fun i => if i < k then v₀ i else .any) (fun i => presB (st i)) k = envL σ₀ ops v₀ (fun i => presB (st i)) k := envL_vals _ _ _ _ _ fun i hi => if_pos hi
    refine ⟨[], fun i => if i < k then v₀ i else .any, rfl, rfl, by simp, fun i hi => if_pos hi, fun j => by simp only [at0, List.getD_nil]; exact if_neg (by omega), by simp, by simp, ?_⟩
    simp only [List.length_nil, Nat.add_zero]
    rw [this, ← he]; exact h
  | did hst ht ih => exact fun σ₀ v₀ hops hσ => step σ₀ v₀ hops hσ (fun _ => rfl) (by simp [hst, presB]) (fun h => by rcases h with h | h <;> rw [hst] at h <;> cases h) (fun h => by rw [hst] at h; cases h) ih
  | later hst ht ih => exact fun σ₀ v₀ hops hσ => step σ₀ v₀ hops hσ (fun _ => rfl) (by simp [hst, presB]) (fun h => by rcases h with h | h <;> rw [hst] at h <;> cases h) (fun h => by rw [hst] at h; cases h) ih
  | old hst h hd ht ih => exact fun σ₀ v₀ hops hσ => step σ₀ v₀ hops hσ (fun _ => rfl) (by simp [hst, presB]) (fun _ => ⟨h, hd⟩) (fun h => by rw [hst] at h; cases h) ih
  | new v hst h hd ht ih => exact fun σ₀ v₀ hops hσ => step σ₀ v₀ hops hσ (fun hn => absurd hst hn) (by simp [hst, presB]) (fun _ => ⟨h, hd⟩) (fun h => by rw [hst] at h; cases h) ih
  | now Rk hRk hst hg hl ht ih => subst hRk; exact fun σ₀ v₀ hops hσ => step σ₀ v₀ hops hσ (fun _ => rfl) (by simp [hst, presB]) (fun h => by rcases h with h | h <;> rw [hst] at h <;> cases h) (fun _ => ⟨hg, hl⟩) ih
theorem stN_pres {did L : List Nat} {prev : Option (List Nat)} {i : Nat} (h : freeB ops L ops.size i = true) : presB (stN ops did L prev i) = true := by
  unfold stN
  split
  · rfl
  · cases prev with
    | none => rfl
    | some L' => dsimp only; split <;> rfl
theorem LI.nextN {h fuel p : Nat} {L did : List Nat} {listed : Array Bool} (li : LI ops h L did (fuel + 1) listed) (hph : p < h) (hle : h ≤ ops.size) (hj : p ∈ Region.ready .any ops listed) (hnd : L.Nodup) : LI ops h (L.erase p) (p :: did) fuel (listed.setIfInBounds p true) := by
  have l2 : LI ops h (L.erase p) did (fuel + 1) listed := ⟨li.count, li.size, li.no, li.dep, fun i hi => li.loud i (List.mem_of_mem_erase hi), li.did⟩
  have l3 := l2.set hph hle hj (fun h => (hnd.mem_erase_iff.1 h).1 rfl)
  refine ⟨l3.count, l3.size, l3.no, l3.dep, l3.loud, fun i hi => ?_⟩
  rcases List.mem_cons.1 hi with rfl | hi
  · have : i < listed.size := by rw [li.size]; omega
    simp [this]
  · exact l3.did i hi
theorem phaseN {Q : Exit → Act → World → Prop} {h : Nat} {σ : Env} {hs₀ hs : Hp} {κ₀ : Kap} {w₀ : World} (ok : DrawOk h ops) {L did : List Nat} {prev : Option (List Nat)} {Rp : Nat → AV → Hp → Prop} {pv : List AV} {R' : List AV → Env → Prop} {vs : List AV} {vals v0 : Nat → AV}
    (V : PVn P N ops hs (stN ops did L prev) Rp 0 (ops.toList.take h) pv σ v0 R' vs vals) (hLh : ∀ q ∈ L, q < h) (hnd : L.Nodup)
    (T : L = [] → ∀ κ a w, Sim N κ hs w (envL σ ops vals (fun i => presB (stN ops did L prev i)) h) a → Ext κ₀ hs₀ w₀ κ hs w → wpL P ops Q (ops.toList.drop h) a w)
    (Now : ∀ p, p ∈ L → freeB ops (L.erase p) ops.size p = true → ∀ (fuel : Nat) (listed : Array Bool) (κ' : Kap) (a : Act) (w : World) (v : AV) (hs' : Hp), Rp p v hs' → LI ops h (L.erase p) (p :: did) fuel listed → (∀ i, listed.getD i false = true → i = p ∨ freeB ops L ops.size i = true) →
      Sim N κ' hs' w (envL σ ops (at0 (vs.set p v)) (fun i => listed.getD i false) h) a → Ext κ₀ hs₀ w₀ κ' hs' w → wpAnyO P ops Q fuel listed a w) :
    ∀ (fuel : Nat) (listed : Array Bool) (κ' : Kap) (a : Act) (w : World), LI ops h L did fuel listed →
      Sim N κ' hs w (envL σ ops vals (fun i => listed.getD i false) h) a → Ext κ₀ hs₀ w₀ κ' hs w → wpAnyO P ops Q fuel listed a w := by
  have hle := ok.le
  have hpr : ∀ {fuel listed}, LI ops h L did fuel listed → ∀ i, listed.getD i false = true → presB (stN ops did L prev i) = true := fun li i hi => stN_pres (li.free ok hi)
  have fin : ∀ (fuel : Nat) (listed : Array Bool) (κ' : Kap) (a : Act) (w : World), LI ops h L did fuel listed → (∀ j, j < h → listed.getD j false = true) →
      Sim N κ' hs w (envL σ ops vals (fun i => listed.getD i false) h) a → Ext κ₀ hs₀ w₀ κ' hs w → wpAnyO P ops Q fuel listed a w := by
    intro fuel listed κ' a w li hall s e
    have hL : L = [] := by
      cases L with
      | nil => rfl
      | cons p ps => have h1 := li.loud p (by simp); rw [hall p (hLh p (by simp))] at h1; cases h1
    have se : Sim N κ' hs w (envL σ ops vals (fun i => presB (stN ops did L prev i)) h) a := ⟨s.heap, s.size, s.defers, fun t => by
      rw [envL_low σ vals (fun i => presB (stN ops did L prev i)) (fun i => listed.getD i false) t h fun i hi _ => (hpr li i (hall i hi)).trans (hall i hi).symm]
      exact s.get t⟩
    have hcount : ops.size - h ≤ fuel := by
      have : ops.size - h ≤ (List.range ops.size).countP (fun i => !listed.getD i false) := by
        have h1 : (List.range ops.size).countP (fun i => decide (h ≤ i)) = ops.size - h := by
          have key : ∀ n, (List.range n).countP (fun i => decide (h ≤ i)) = n - h := by
            intro n
            induction n with
            | zero => simp
            | succ n ihn =>
              rw [List.range_succ, List.countP_append, ihn]
              by_cases hn : h ≤ n
              · simp [hn]; omega
              · simp [hn]; omega
          exact key _
        rw [← h1]
        exact List.countP_mono_left fun i _ hi => by simp [li.no i (by simpa using hi)]
      have := li.count
      omega
    exact tail_any ok fuel h listed a w (Nat.le_refl _) hle hcount li.size (fun i hi => ⟨fun hx => Nat.lt_of_not_le (fun hge => by rw [li.no i hge] at hx; cases hx), fun hlt => hall i hlt⟩) (T hL κ' a w se e)
  intro fuel
  induction fuel with
  | zero =>
    intro listed κ' a w li s e
    refine fin 0 listed κ' a w li (fun i hi => ?_) s e
    have := List.countP_eq_zero.1 (Nat.le_zero.1 li.count) i (List.mem_range.2 (by omega))
    simpa using this
  | succ fuel ih =>
    intro listed κ' a w li s e
    by_cases hall : ∀ j, j < h → listed.getD j false = true
    · exact fin _ listed κ' a w li hall s e
    · obtain ⟨j₀, hj₀⟩ := Classical.not_forall.1 hall
      obtain ⟨hj₀h, hj₀u⟩ := Classical.not_imp.1 hj₀
      have hj₀u' : listed.getD j₀ false = false := by simpa using hj₀u
      refine ⟨fun hr => absurd hr (min_unlisted li.size (by omega) hj₀u' ok.back), fun j hj => ?_⟩
      obtain ⟨hu, o, ho, hdeps⟩ := mem_ready.1 hj
      have hjs := (Array.getElem?_eq_some_iff.1 ho).1
      have hlt : j < listed.size := by rw [li.size]; omega
      have hju : listed.getD j false = false := by simpa [hlt] using hu
      have hjh : j < h := Nat.lt_of_not_le fun hge => by
        have := ready_dep hj (ok.tail j₀ j hge hjs (by omega))
        rw [hj₀u'] at this; cases this
      have hoj : (ops.toList.take h)[j]? = some o := by rw [List.getElem?_take, if_pos hjh]; simpa using ho
      have hafter : ∀ i, i < ops.size → depB ops i j = true → listed.getD i false = false := fun i hi hdp => by
        cases hx : listed.getD i false with
        | false => rfl
        | true =>
          have hio : ops[i]? = some ops[i] := Array.getElem?_eq_getElem hi
          simp only [depB, hio, Array.any_eq_true'] at hdp
          obtain ⟨ed, he, hb⟩ := hdp
          have hb2 := Bool.and_eq_true_iff.1 hb
          have hon : ed.on = j := by simpa using hb2.2
          have := li.dep i _ hio hx ed he hb2.1
          rw [hon, hju] at this; cases this
      have hclash : ∀ i t, i < h → i ≠ j → dstAt ops i = some t → (t ∈ o.looksAt ops ∨ o.dst = some t) → (i < j → listed.getD i false = true) ∧ (j < i → listed.getD i false = false) := by
        intro i t hi hne hdi ht
        have hio : ops[i]? = some (ops[i]'(by omega)) := Array.getElem?_eq_getElem (by omega)
        have hdst : (ops[i]'(by omega)).dst = some t := by simpa [dstAt, hio] using hdi
        have hc : clashB ops i j = true := by
          simp only [clashB, hio, ho, hdst]
          rcases ht with ht | ht
          · simp [ht]
          · simp [ht]
        obtain ⟨h1, h2⟩ := ok.head i j hi hjh hne hc
        exact ⟨fun hlt => ready_dep hj (h1 hlt), fun hlt => hafter i (by omega) (h2 hlt)⟩
      have hlook : ∀ t ∈ o.looksAt ops, eget (envL σ ops vals (fun i => listed.getD i false) h) t = eget (envL σ ops vals (fun i => presB (stN ops did L prev i)) j) t := by
        intro t ht
        rw [envL_high σ vals _ t j h (by omega) fun i h1 h2 h3 h4 => by
          by_cases hij : i = j
          · subst hij; rw [hju] at h3; cases h3
          · rw [(hclash i t h2 hij h4 (.inl ht)).2 (by omega)] at h3; cases h3]
        refine envL_low σ vals _ _ t j fun i hi hdi => ?_
        have h5 := (hclash i t (by omega) (by omega) hdi (.inl ht)).1 hi
        exact h5.trans (hpr li i h5).symm
      have hrestr : ∀ (ts : List Tmp) (τ : Env) (t : Nat), t ∉ ts → eget (restr τ ts) t = .any := by
        intro ts τ t
        induction ts with
        | nil => exact fun _ => rfl
        | cons u ts ih2 =>
          intro hn
          simp only [List.mem_cons, not_or] at hn
          unfold restr
          rw [List.map_cons, eget_ne _ _ (Ne.symm hn.1)]
          exact ih2 hn.2
      have hrestr2 : ∀ (ts : List Tmp) (τ τ' : Env) (t : Nat), eget (restr τ ts ++ τ') t = if t ∈ ts then eget τ t else eget τ' t := by
        intro ts τ τ' t
        induction ts with
        | nil => rfl
        | cons u ts ih2 =>
          unfold restr
          rw [List.map_cons, List.cons_append]
          by_cases hut : u = t
          · subst hut; rw [eget_same, if_pos List.mem_cons_self]
          · rw [eget_ne _ _ hut]
            refine Eq.trans ih2 ?_
            simp [Ne.symm hut]
      have sr : Sim N κ' hs w (restr (envL σ ops vals (fun i => presB (stN ops did L prev i)) j) (o.looksAt ops)) a := by
        refine ⟨s.heap, s.size, s.defers, fun t => ?_⟩
        by_cases ht : t ∈ o.looksAt ops
        · have h1 := hrestr2 (o.looksAt ops) (envL σ ops vals (fun i => presB (stN ops did L prev i)) j) [] t
          rw [List.append_nil, if_pos ht] at h1
          rw [h1, ← hlook t ht]; exact s.get t
        · rw [hrestr _ _ t ht]; exact .any _
      -- the environment behind the step
      have after : ∀ (κ₂ : Kap) (hs' : Hp) (a' : Act) (w₂ : World) (v : AV) (vals' : Nat → AV), (∀ i, i < h → listed.getD i false = true → vals' i = vals i) → vals' j = v →
          Sim N κ₂ hs' w₂ (putE o.dst v (envL σ ops vals (fun i => listed.getD i false) h)) a' → Sim N κ₂ hs' w₂ (envL σ ops vals' (fun i => (listed.setIfInBounds j true).getD i false) h) a' := by
        intro κ₂ hs' a' w₂ v vals' h1 h2 sp
        refine ⟨sp.heap, sp.size, sp.defers, fun t => ?_⟩
        have hget := sp.get t
        rw [putE_get, ← envL_vals' σ vals' vals (fun i => listed.getD i false) h h1] at hget
        by_cases hdt : o.dst = some t
        · rw [if_pos hdt] at hget
          have hdj : dstAt ops j = some t := by simp [dstAt, ho, hdt]
          rw [envL_high σ vals' _ t (j + 1) h (by omega) fun i h3 h4 h5 h6 => by
            rw [getD_set_ne false (by omega), (hclash i t h4 (by omega) h6 (.inr hdt)).2 (by omega)] at h5; cases h5]
          rw [envL_step, if_pos ⟨hdj, by simp [hlt]⟩, h2]
          exact hget
        · rw [if_neg hdt] at hget
          have : eget (envL σ ops vals' (fun i => (listed.setIfInBounds j true).getD i false) h) t = eget (envL σ ops vals' (fun i => listed.getD i false) h) t :=
            envL_low σ vals' _ _ t h fun i hi hdi => by
              have hne : j ≠ i := by rintro rfl; simp [dstAt, ho] at hdi; exact hdt hdi
              exact getD_set_ne false hne
          rw [this]; exact hget
      have hst : (stN ops did L prev j = .new ∨ stN ops did L prev j = .old) ∧ j ∉ L ∨ j ∈ L ∧ freeB ops (L.erase j) ops.size j = true ∧ stN ops did L prev j = .now := by
        have hnc : did.contains j = false := by
          cases hc : did.contains j with
          | false => rfl
          | true => have := li.did j (by simpa using hc); rw [hju] at this; cases this
        by_cases hjL : j ∈ L
        · have hfe : freeB ops (L.erase j) ops.size j = true := free_ready ok li.dep (fun q hq => li.loud q (List.mem_of_mem_erase hq)) hjs hj (fun h => (hnd.mem_erase_iff.1 h).1 rfl)
          refine .inr ⟨hjL, hfe, ?_⟩
          have hnf : freeB ops L ops.size j = false := by
            unfold freeB
            rw [freeM_bit]
            simp [hjL]
          unfold stN
          rw [hnc, hnf, hfe]
          simp [hjL]
        · have hf := free_ready ok li.dep li.loud hjs hj hjL
          refine .inl ⟨?_, hjL⟩
          unfold stN
          rw [hnc, hf]
          simp only [Bool.false_eq_true, if_false, if_true]
          cases prev with
          | none => exact .inl rfl
          | some L' =>
            dsimp only
            split
            · exact .inr rfl
            · exact .inl rfl
      have hz : 0 + j = j := Nat.zero_add j
      refine ⟨o, ho, ?_⟩
      rcases hst with ⟨hst, hjL⟩ | ⟨hjL, hfe, hst⟩
      · obtain ⟨hG, hd⟩ := V.quiet j o hoj (by rw [hz]; exact hst)
        rw [hz] at hG
        refine hG κ' a w sr _ Q fun κ₂ w₂ u h1 e2 hu2 => ?_
        refine ih _ κ₂ _ w₂ (li.set hjh hle hj hjL) ?_ (e.trans e2)
        exact after κ₂ hs _ w₂ (vals j) vals (fun _ _ _ => rfl) rfl (s.putO e2 h1 hd hu2)
      · obtain ⟨hg, hl⟩ := V.loud j o hoj (by rw [hz]; exact hst)
        simp only [hz] at hl
        have hw : Region.wanted o (yielded ops a.tmps) = true := by simp [Region.wanted, hg]
        rw [wpO, if_pos hw]
        have sτ : Sim N κ' hs w (restr (envL σ ops vals (fun i => presB (stN ops did L prev i)) j) (o.looksAt ops) ++ envL σ ops vals (fun i => listed.getD i false) h) a := by
          refine ⟨s.heap, s.size, s.defers, fun t => ?_⟩
          rw [hrestr2]
          split
          · rename_i ht; rw [← hlook t ht]; exact s.get t
          · exact s.get t
        refine hl _ κ' a w sτ _ Q fun κ₂ a₂ w₂ σ₂ hs₂ s₂ e2 ⟨v, hσ₂, hR⟩ => ?_
        subst hσ₂
        have hvlen : vs.length = h := by rw [V.len]; simp [hle]
        refine Now j hjL hfe fuel _ κ₂ a₂ w₂ v hs₂ hR ?_ (fun i hi => ?_) ?_ (e.trans e2)
        · exact li.nextN hjh hle hj hnd
        · by_cases hij : i = j
          · exact .inl hij
          · rw [getD_set_ne false (Ne.symm hij)] at hi
            exact .inr (li.free ok hi)
        · refine after κ₂ hs₂ a₂ w₂ v _ (fun i hi hil => ?_) ?_ ⟨s₂.heap, s₂.size, s₂.defers, fun t => ?_⟩
          · have hne : i ≠ j := by rintro rfl; rw [hju] at hil; cases hil
            have := V.high i
            rw [Nat.zero_add] at this
            rw [this]
            simp [at0, Ne.symm hne]
          · simp [at0, hvlen, hjh]
          · have h1 := s₂.get t
            rw [putE_get] at h1 ⊢
            split
            · rename_i ht; rw [if_pos ht] at h1; exact h1
            · rename_i ht
              rw [if_neg ht, hrestr2] at h1
              split at h1
              · rename_i h2; rw [hlook t h2]; exact h1
              · exact h1
theorem stN_old {did L : List Nat} {prev : Option (List Nat)} {i : Nat} (hf : freeB ops L ops.size i = true) (h : i ∈ did ∨ ∃ L', prev = some L' ∧ freeB ops L' ops.size i = true) : stN ops did L prev i ≠ .new := by
  unfold stN
  rcases h with h | ⟨L', rfl, h⟩
  · rw [if_pos (by simpa using h)]; simp
  · split
    · simp
    · dsimp only; rw [if_pos h]; simp
theorem runN {Q : Exit → Act → World → Prop} {h : Nat} {σ : Env} {hs₀ : Hp} {κ₀ : Kap} {w₀ : World} {R : Env → Hp → Prop} (ok : DrawOk h ops)
    (T : ∀ σ' hs κ a w, R σ' hs → Sim N κ hs w σ' a → Ext κ₀ hs₀ w₀ κ hs w → wpL P ops Q (ops.toList.drop h) a w) :
    ∀ (n : Nat) (L did : List Nat) (prev : Option (List Nat)) (pv : List AV) (hs : Hp), DTn P N ops h σ R n L did prev pv hs → L.Nodup → (∀ q ∈ L, q < h) →
      ∀ (fuel : Nat) (listed : Array Bool) (κ' : Kap) (a : Act) (w : World), LI ops h L did fuel listed → (∀ i, listed.getD i false = true → i ∈ did ∨ ∃ L', prev = some L' ∧ freeB ops L' ops.size i = true) →
        Sim N κ' hs w (envL σ ops (at0 pv) (fun i => listed.getD i false) h) a → Ext κ₀ hs₀ w₀ κ' hs w → wpAnyO P ops Q fuel listed a w := by
  have hle := ok.le
  have hlen : (ops.toList.take h).length = h := by simp [hle]
  have hops : ∀ (j : Nat) o, (ops.toList.take h)[j]? = some o → ops[0 + j]? = some o := fun j o hj => by
    rw [List.getElem?_take] at hj
    split at hj
    · simpa using hj
    · cases hj
  intro n
  induction n with
  | zero =>
    intro L did prev pv hs c hnd hLh fuel listed κ' a w li hp s e
    obtain ⟨rfl, sts, hsts, c⟩ := c
    have c := c.congr (st' := stN ops did [] prev) fun j _ hj => stOkN_spec hsts (by rw [hlen] at hj; omega)
    obtain ⟨vs, vals, V⟩ := PCn.vals c σ (fun _ => .any) hops rfl
    refine phaseN (κ₀ := κ₀) (hs₀ := hs₀) (w₀ := w₀) ok V hLh hnd (fun _ κ a w s e => ?_) (fun p h => by cases h) fuel listed κ' a w li ?_ e
    · have hf := V.fin
      rw [hlen, Nat.zero_add] at hf
      exact T _ _ κ a w hf s e
    · rw [envL_vals' σ vals (at0 pv) _ h fun i hi hil => ?_]
      · exact s
      · have h1 := V.high i
        rw [Nat.zero_add] at h1
        rw [h1]
        exact V.same i (by rw [hlen]; exact hi) (by rw [Nat.zero_add]; exact stN_old (li.free ok hil) (hp i hil))
  | succ n ih =>
    intro L did prev pv hs c hnd hLh fuel listed κ' a w li hp s e
    obtain ⟨nows, rs, sts, hchk0, c⟩ := c
    have hsts := (Bool.and_eq_true_iff.1 hchk0).1
    have hnw : nowsN ops L = nows := of_decide_eq_true (Bool.and_eq_true_iff.1 (Bool.and_eq_true_iff.1 hchk0).2).1
    have hLe : L ≠ [] := fun h => by have h2 := (Bool.and_eq_true_iff.1 (Bool.and_eq_true_iff.1 hchk0).2).2; rw [h] at h2; cases h2
    have c := c.congr (st' := stN ops did L prev) fun j _ hj => stOkN_spec hsts (by rw [hlen] at hj; omega)
    obtain ⟨vs, vals, V⟩ := PCn.vals c σ (fun _ => .any) hops rfl
    refine phaseN (κ₀ := κ₀) (hs₀ := hs₀) (w₀ := w₀) ok V hLh hnd (fun h => absurd h hLe) (fun p hpL hpf => ?_) fuel listed κ' a w li ?_ e
    · intro fuel listed κ' a w v hs' hR li2 hp2 s2 e2
      have hpm : (p, L.erase p) ∈ nows := by rw [← hnw]; exact List.mem_map.2 ⟨p, List.mem_filter.2 ⟨hpL, hpf⟩, rfl⟩
      have hk := V.fin.mem hpm fun l' hl => by
        rw [← hnw] at hl
        obtain ⟨q, _, hq⟩ := List.mem_map.1 hl
        obtain ⟨h1, h2⟩ := Prod.mk.inj hq
        rw [← h2, h1]
      refine ih (L.erase p) (predsB ops p ++ p :: did) (some L) _ hs' (hk v hs' hR) (hnd.erase p) (fun q hq => hLh q (List.mem_of_mem_erase hq)) fuel listed κ' a w (li2.more ok (hLh p hpL) (by simp)) (fun i hi => ?_) s2 e2
      rcases hp2 i hi with h3 | h3
      · exact .inl (by simp [h3])
      · exact .inr ⟨_, rfl, h3⟩
    · rw [envL_vals' σ vals (at0 pv) _ h fun i hi hil => ?_]
      · exact s
      · have h1 := V.high i
        rw [Nat.zero_add] at h1
        rw [h1]
        exact V.same i (by rw [hlen]; exact hi) (by rw [Nat.zero_add]; exact stN_old (li.free ok hil) (hp i hil))
theorem W.drawN {Q : Post} {σ : Env} {hs : Hp} {id : Nat} (h : Nat) (Ls : List Nat) (hm : P.follows .mixedOrders = true) (hok : drawOk h ops = true) (hL : Ls.Nodup ∧ ∀ q ∈ Ls, q < h)
    (c : DTn P N ops h σ (fun σ' hs' => XOps P N ops (ops.toList.drop h) σ' hs' (fun σ'' hs'' => Q .normal σ'' hs'')) Ls.length Ls [] none (List.replicate h .any) hs) (hnd : ndOk N.ro ops = true := by rfl) :
    W P N (.region id ops true) Q σ hs := by
  intro κ a w s
  have ok := drawOk_spec hok
  have hd : ∀ i, (Array.replicate ops.size false).getD i false = false := fun i => by by_cases h : i < ops.size <;> simp [h]
  refine wpIn_region_any hm (wpAnyO_in hnd _ _ _ _ ?_)
  obtain ⟨h1, e1⟩ := s.heap.drew (w.drawn + 1) (Nat.le_succ _)
  refine runN (κ₀ := κ) (hs₀ := hs) (w₀ := w) ok (fun σ' hs' κ' a' w' hX s' e' => hX κ' a' w' s' _ fun κ₂ a₂ w₂ σ₂ hs₂ s₂ e₂ hr => ⟨.normal, κ₂, σ₂, hs₂, rfl, s₂, e'.trans e₂, hr⟩)
    Ls.length Ls [] none _ hs c hL.1 hL.2 ops.size _ κ a _ ⟨?_, by simp, fun i _ => hd i, (fun i o ho hx => by rw [hd] at hx; cases hx), fun i _ => hd i, by simp⟩ (fun i hi => by rw [hd] at hi; cases hi) ?_ e1
  · exact Nat.le_trans List.countP_le_length (by simp)
  · have hz : ∀ n, envL σ ops (at0 (List.replicate h .any)) (fun i => (Array.replicate ops.size false).getD i false) n = σ := by
      intro n
      induction n with
      | zero => rfl
      | succ n ih =>
        simp only [envL]
        exact (if_neg (show ¬ (Array.replicate ops.size false).getD n false = true from fun h => by rw [hd] at h; cases h)).trans ih
    rw [hz]
    exact s.ext e1 h1
theorem W.drawNreg {Q : Post} {σ : Env} {hs : Hp} {id : Nat} {y : Code} (h : Nat) (Ls : List Nat) (hm : P.follows .mixedOrders = true) (hok : drawOk h ops = true) (hL : Ls.Nodup ∧ ∀ q ∈ Ls, q < h)
    (c : DTn P N ops h σ (fun σ' hs' => XOps P N ops (ops.toList.drop h) σ' hs' (fun σ'' hs'' => W P N y Q σ'' hs'')) Ls.length Ls [] none (List.replicate h .any) hs) (hnd : ndOk N.ro ops = true := by rfl) :
    W P N (.seq (.region id ops true) y) Q σ hs := W.seq (W.drawN h Ls hm hok hL c hnd)
end drawN
end Go.Proofs.YtaegeaajhbfkgaaGreatDoorA

