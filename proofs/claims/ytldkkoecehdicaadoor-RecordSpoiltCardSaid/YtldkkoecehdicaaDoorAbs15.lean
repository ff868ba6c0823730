/- Arrays whose cells are slices or pointers of one's own. -/
import Derived.Test.YtldkkoecehdicaaDoorAbs14
namespace Go.Proofs.YtldkkoecehdicaaDoorA
open Go
set_option linter.unusedVariables false
set_option linter.unusedSimpArgs false

/-- What a value's cells read as. -/
def acells : AV → Option (List AV)
  | .d (.agg ds) => some (ds.map .d)
  | .aggv l => some l
  | x => match oneA x with | true => some [x] | false => none

def afillA (place : Nat → Option (Nat × Nat)) : List AV → List (Nat × AV) → Option (List AV)
  | l, [] => some l
  | l, (i, x) :: rest => match place i, acells x with
    | some (off, size), some xs => match Nat.beq xs.length size && Nat.ble (off + size) l.length with
      | true => afillA place (l.take off ++ xs ++ l.drop (off + size)) rest
      | false => none
    | _, _ => none

def FilledA (κ : Kap) (w : World) (O : Nat → Prop) (cs : Array Value) (l : List AV) : Prop :=
  cs.size = l.length ∧ (∀ v ∈ cs.toList, v.oneCell' = true) ∧ ∀ (i : Nat) (v : Value) (x : AV), cs[i]? = some v → l[i]? = some x → RepA κ w O v x

theorem acells_rep {κ : Kap} {w : World} {O : Nat → Prop} {v : Value} {x : AV} {xs : List AV} (h : RepA κ w O v x) (hd : acells x = some xs) : FilledA κ w O v.cells xs := by
  unfold acells at hd
  split at hd
  · rename_i ds
    obtain rfl := Option.some.inj hd
    have h1 := h.d_inv
    cases h1 with
    | agg cs _ hs ho hr =>
      refine ⟨by simpa [Value.cells] using hs, fun u hu => ?_, fun i u y hi hy => ?_⟩
      · obtain ⟨i, hi⟩ := List.getElem?_of_mem hu
        have hi' : cs[i]? = some u := by simpa [Value.cells] using hi
        have hlt : i < ds.length := by rw [← hs]; exact (Array.getElem?_eq_some_iff.1 hi').1
        exact (hr i u _ hi' (List.getElem?_eq_getElem hlt)).oneCell (ho _ (List.getElem_mem hlt))
      · rw [List.getElem?_map] at hy
        obtain ⟨z, hz, rfl⟩ := Option.map_eq_some_iff.1 hy
        exact .d (hr i u z (by simpa [Value.cells] using hi) hz)
  · obtain rfl := Option.some.inj hd
    cases h with
    | aggv cs _ hs ho hr => exact ⟨hs, ho, hr⟩
  · split at hd
    · rename_i ho
      obtain rfl := Option.some.inj hd
      have h1 := h.one ho
      have hc := cells_one h1
      refine ⟨by rw [← Array.length_toList, hc]; rfl, fun u hu => ?_, fun i u y hi hy => ?_⟩
      · rw [hc] at hu; simp at hu; subst hu; exact h1
      · have hi' : v.cells.toList[i]? = some u := by simpa using hi
        rw [hc] at hi'
        cases i with
        | zero => simp at hi' hy; subst hi' hy; exact h
        | succ i => simp at hy
    · cases hd

theorem fillA_run {κ : Kap} {w : World} {O : Nat → Prop} {place : Nat → Option (Nat × Nat)} : ∀ (parts : List (Nat × Value)) (xs : List (Nat × AV)) (cs : Array Value) (l l' : List AV),
    parts.length = xs.length → (∀ (i : Nat) p x, parts[i]? = some p → xs[i]? = some x → p.1 = x.1 ∧ RepA κ w O p.2 x.2) → FilledA κ w O cs l → afillA place l xs = some l' →
    ∃ cs', Instr.fill place cs parts = some cs' ∧ FilledA κ w O cs' l'
  | [], [], cs, l, l', _, _, hf, ha => by
    simp [afillA] at ha; subst ha
    exact ⟨cs, rfl, hf⟩
  | [], _ :: _, _, _, _, h, _, _, _ => by simp at h
  | _ :: _, [], _, _, _, h, _, _, _ => by simp at h
  | (i, v) :: parts, (i', x) :: xs, cs, l, l', hlen, hr, hf, ha => by
    obtain ⟨he, hrep⟩ := hr 0 _ _ rfl rfl
    simp only at he hrep
    subst he
    simp only [afillA] at ha
    cases hp : place i with
    | none => simp [hp] at ha
    | some os =>
      obtain ⟨off, size⟩ := os
      cases hd : acells x with
      | none => simp [hp, hd] at ha
      | some ds =>
        simp only [hp, hd] at ha
        cases hb : Nat.beq ds.length size && Nat.ble (off + size) l.length with
        | false => simp [hb] at ha
        | true =>
          simp only [hb] at ha
          have hb2 := Bool.and_eq_true_iff.1 hb
          have hsz : ds.length = size := Nat.eq_of_beq_eq_true hb2.1
          have hle : off + size ≤ l.length := Nat.le_of_ble_eq_true hb2.2
          obtain ⟨g1, g2, g3⟩ := acells_rep hrep hd
          obtain ⟨f1, f2, f3⟩ := hf
          have hput := foldPut v.cells.toList off 0 cs
          simp only [Nat.add_zero] at hput
          have hvl : v.cells.toList.length = size := by rw [Array.length_toList, g1, hsz]
          have hnew : FilledA κ w O ((v.cells.toList.zipIdx 0).foldl (fun (cs : Array Value) (x : Value × Nat) => cs.setIfInBounds (off + x.2) x.1) cs) (l.take off ++ ds ++ l.drop (off + size)) := by
            refine ⟨by rw [hput.1, f1]; simp; omega, fun y hy => ?_, fun q u y hu hy => ?_⟩
            · obtain ⟨q, hq⟩ := List.getElem?_of_mem hy
              rw [Array.getElem?_toList, hput.2 q] at hq
              split at hq
              · exact g2 y (List.mem_of_getElem? hq)
              · exact f2 y (by rw [← Array.getElem?_toList] at hq; exact List.mem_of_getElem? hq)
            · rw [hput.2 q] at hu
              rw [List.append_assoc, List.getElem?_append] at hy
              have hto : (l.take off).length = off := by simp; omega
              rw [hto] at hy
              split at hy
              · rename_i hq
                rw [if_neg (by omega)] at hu
                rw [List.getElem?_take, if_pos hq] at hy
                exact f3 q u y hu hy
              · rename_i hq
                rw [List.getElem?_append] at hy
                split at hy
                · rename_i hq2
                  rw [if_pos (by omega)] at hu
                  exact g3 _ u y (by simpa using hu) hy
                · rename_i hq2
                  rw [if_neg (by omega)] at hu
                  rw [List.getElem?_drop] at hy
                  have : off + size + (q - off - ds.length) = q := by omega
                  rw [this] at hy
                  exact f3 q u y hu hy
          obtain ⟨cs', h1, h2⟩ := fillA_run parts xs _ _ l' (by simpa using hlen) (fun k p y hk hy => hr (k + 1) p y (by simpa using hk) (by simpa using hy)) hnew ha
          refine ⟨cs', ?_, h2⟩
          simp only [Instr.fill, hp]
          have hcs : v.cells.size = size := by rw [g1, hsz]
          rw [if_neg (by simp [hcs]; omega)]
          rw [← h1]
          congr 1
          rw [← Array.foldl_toList]
          simp [Array.toList_zipIdx]

section
variable {P : Program} {N : Nm} {σ : Env} {hs : Hp} {d : Option Tmp} {ty : TypeId} {pos : String} {af : Array Edge} {g : Option (Nat × Bool)}
theorem Q.buildv {t n n' : Nat} {z : List Value} {l : List AV} {parts : Array (Nat × Operand)} (ht : tArr P t = some (n, n')) (hz : tZero P t = some z) (hz1 : z.all (·.oneCell') = true)
    (hf : afillA (fun i => some (i * n', n')) (z.map cellA) (parts.toList.map fun p => (p.1, oev σ p.2)) = some l) : Quiet P N σ hs ⟨d, .build t parts, ty, pos, af, g⟩ (.aggv l) :=
  .of_run fun κ a w s => by
    obtain ⟨inf, hi, hz⟩ := Option.bind_eq_some_iff.1 hz
    obtain ⟨zv, hzv, rfl⟩ := Option.map_eq_some_iff.1 hz
    obtain ⟨e, ei, hu, hei, hsz⟩ := tArr_spec ht
    obtain ⟨h1, h2⟩ := parts_rep s parts
    have h0 : FilledA κ w (Own κ hs) zv.cells (zv.cells.toList.map cellA) := by
      refine ⟨by simp, fun v hv => List.all_eq_true.1 hz1 v hv, fun i v x hv hx => ?_⟩
      rw [List.getElem?_map] at hx
      obtain ⟨u, hu, rfl⟩ := Option.map_eq_some_iff.1 hx
      have : u = v := by rw [Array.getElem?_toList, hv] at hu; exact (Option.some.inj hu).symm
      subst this
      exact cellA_rep _ _ _ _
    obtain ⟨cs', h3, f1, f2, f3⟩ := fillA_run _ _ _ _ l h1 h2 h0 hf
    refine ⟨.agg cs', ?_, .aggv _ _ f1 f2 f3⟩
    have hzr : (zeroValue t).run P w = .ok zv w := by simp [zeroValue, typeInfo, hi, hzv]
    rw [show execOp a.eval ⟨d, .build t parts, ty, pos, af, g⟩ = (do pure (.value (← Instr.build t (parts.map fun (i, x) => (i, a.eval x))))) from rfl, Sem.run_bind]
    have hb : (Instr.build t (parts.map fun (i, x) => (i, a.eval x))).run P w = .ok (.agg cs') w := by
      simp only [Instr.build, Sem.run_bind, hzr, Result.andThen_ok, run_underlying hu, size_run hei, hsz]
      simp only [Array.toArray_toList] at h3
      rw [h3]
      rfl
    rw [hb]; rfl

theorem Q.move_aggv {x : Operand} {c : List AV} (hx : oev σ x = .aggv c) : Quiet P N σ hs ⟨d, .move x, ty, pos, af, g⟩ (.aggv c) := Q.move hx
theorem Q.assign_aggv {x : Operand} {c : List AV} (hx : oev σ x = .aggv c) : Quiet P N σ hs ⟨d, .assign x, ty, pos, af, g⟩ (.aggv c) := Q.assign hx
theorem Q.idx_aggv {t n : Nat} {cs : List AV} {y : AV} {x ix : Operand} {k : IntKind} {i : Int} (ht : tArr P t = some (n, 1)) (he : tEl P t = some (false, 1)) (hx : oev σ x = .aggv cs) (hi : oev σ ix = .d (.int k i)) (h0 : 0 ≤ i) (h1 : i < n)
    (hy : cs[i.toNat]? = some y) : Quiet P N σ hs ⟨d, .index t x ix, ty, pos, af, g⟩ y :=
  .of_run fun κ a w s => by
    have h2 := s.oev x; rw [hx] at h2
    have h3 := s.oev ix; rw [hi] at h3
    obtain ⟨e, inf, hu, hin, hsz, hag⟩ := tArr_part ht he w
    generalize hv : a.eval x = v at h2
    cases h2 with
    | aggv vs _ hl ho hr =>
      have hlt : i.toNat < vs.size := by rw [hl]; exact (List.getElem?_eq_some_iff.1 hy).1
      have hc : vs[i.toNat]? = some vs[i.toNat] := Array.getElem?_eq_getElem hlt
      refine ⟨vs[i.toNat], ?_, hr _ _ _ hc hy⟩
      simp [execOp, hv, h3.int_inv, Instr.index, asIntOf, run_underlying hu, h0, h1, part, hag, size_run hin, hsz, hlt]
end
end Go.Proofs.YtldkkoecehdicaaDoorA
