/- The kit's sort, on an own list. -/
import Derived.Test.YtlfapbkaknikpaaDoorFrC
import Derived.Shelf.GgSortFunc.InsertionK
namespace Go.Proofs.YtlfapbkaknikpaaDoorA
open Go Go.Sort
set_option linter.unusedVariables false
set_option linter.unusedSimpArgs false

/-- Data whose value says all. -/
def dvl : D → Value
  | .int k n => .int k n
  | .bool b => .bool b
  | .str s => .string s
  | _ => undef
def D.plain : D → Bool
  | .int .. | .bool _ | .str _ => true
  | _ => false
theorem RepD.plain {w : World} {O : Nat → Prop} {v : Value} {d : D} (h : RepD w O v d) (hp : d.plain = true) : v = dvl d := by
  cases h <;> first | rfl | (simp [D.plain] at hp)
theorem plain_rep (w : World) (O : Nat → Prop) {d : D} (hp : d.plain = true) : RepD w O (dvl d) d := by
  cases d <;> first | (simp [D.plain] at hp; done) | exact .int _ _ | exact .bool _ | exact .str _
theorem plain_one {d : D} (hp : d.plain = true) : d.one = true := by
  cases d <;> first | (simp [D.plain] at hp; done) | rfl

section
variable {α : Type} [Inhabited α]
theorem flat_at (enc : α → List Value) (k : Nat) (hk : ∀ x, (enc x).length = k) (d : Array α) {i j : Nat} (hi : i < d.size) (hj : j < k) : (flatK enc k d)[i * k + j]! = (enc d[i]!)[j]! := by
  have hlt : i * k + j < d.size * k := by
    have := Nat.mul_le_mul_right k (show i + 1 ≤ d.size by omega)
    rw [Nat.succ_mul] at this
    omega
  rw [get_flatK _ _ _ _ hlt]
  have h1 : (i * k + j) / k = i := by
    rw [Nat.mul_comm, Nat.mul_add_div (by omega), Nat.div_eq_of_lt hj]; rfl
  have h2 : (i * k + j) % k = j := by
    rw [Nat.mul_comm, Nat.mul_add_mod, Nat.mod_eq_of_lt hj]
  rw [h1, h2]

/-- Behind the sort: the list holds the new rows. -/
theorem sort_back {κ : Kap} {w : World} {hs : Hp} {id sz b cap : Nat} {encD : α → List D} (hlen : ∀ x, (encD x).length = sz) (hpl : ∀ x, ∀ d ∈ encD x, d.plain = true) {l l' : List α} (hll : l'.length = l.length)
    (h : HS κ w ((id, .lst sz (l.map encD)) :: hs)) (hκ : κ id = some (some b, cap)) (n : Nat) (os : Array Obj) :
    HS κ (sortWorldK (fun x => (encD x).map dvl) sz w b 0 n l'.toArray os) ((id, .lst sz (l'.map encD)) :: hs) ∧
      Ext κ ((id, .lst sz (l.map encD)) :: hs) w κ ((id, .lst sz (l'.map encD)) :: hs) (sortWorldK (fun x => (encD x).map dvl) sz w b 0 n l'.toArray os) := by
  obtain ⟨h1, e1⟩ := h.drew (w.drawn + n) (Nat.le_add_right _ _)
  obtain ⟨y, hy, hok⟩ := h1.ok id _ (List.mem_cons_self ..)
  rw [hκ] at hy
  obtain rfl := Option.some.inj hy
  obtain ⟨g0, g0', g1, g2, g3, g4, g5⟩ := hok
  obtain ⟨cs, T, hw, hcs, hr⟩ := g5 b rfl
  rw [List.length_map] at g0
  have hblt : b < w.heap.size := (Array.getElem?_eq_some_iff.1 hw).1
  obtain ⟨h2, e2⟩ := h1.write (k := 0) (id := id) (o' := .lst sz (l'.map encD)) (w' := putRowK (fun x => (encD x).map dvl) sz (Sort.ahead w n) b 0 l'.toArray) rfl hκ (by unfold putRowK; rw [size_putRow]; rfl) rfl rfl rfl rfl
    (fun i hi => by
      unfold putRowK putRow mapBlock
      show (Array.modify _ b _)[i]? = _
      rw [Array.getElem?_modify, if_neg (Ne.symm hi)]; rfl)
    (fun hA hD => by
      refine ⟨by rw [List.length_map, hll]; exact g0, g0', g1, fun r hr => ?_, fun r hr x hx => ?_, g4, fun b' hb' => ?_⟩
      · obtain ⟨x, _, rfl⟩ := List.mem_map.1 hr; exact hlen x
      · obtain ⟨z, _, rfl⟩ := List.mem_map.1 hr; exact plain_one (hpl z x hx)
      · obtain rfl := Option.some.inj hb'
        refine ⟨putCells (fun v : Value => v) 0 (flatK (fun x => (encD x).map dvl) sz l'.toArray) cs, T, ?_, by simp [putCells, hcs], fun i j r d hi hj => ?_⟩
        · unfold putRowK putRow mapBlock
          show (Array.modify _ b _)[b]? = _
          rw [Array.getElem?_modify, if_pos rfl]
          show Option.map _ (w.heap[b]?) = _
          rw [show w.heap[b]? = _ from hw]; rfl
        · rw [List.getElem?_map] at hi
          obtain ⟨x, hx, rfl⟩ := Option.map_eq_some_iff.1 hi
          have hil := (List.getElem?_eq_some_iff.1 hx).1
          have hjl := (List.getElem?_eq_some_iff.1 hj).1
          rw [hlen] at hjl
          have hcap : i * sz + j < cap * sz := by
            have := Nat.mul_le_mul_right sz (show i + 1 ≤ cap by omega)
            rw [Nat.succ_mul] at this
            omega
          have hfl : i * sz + j < (flatK (fun x => (encD x).map dvl) sz l'.toArray).size := by
            rw [size_flatK]
            have := Nat.mul_le_mul_right sz (show i + 1 ≤ l'.toArray.size by simp; omega)
            rw [Nat.succ_mul] at this
            omega
          have hv : (flatK (fun x => (encD x).map dvl) sz l'.toArray)[i * sz + j]! = dvl d := by
            rw [flat_at _ sz (fun x => by rw [List.length_map]; exact hlen x) _ (by simpa using hil) hjl]
            have hxi : l'.toArray[i]! = x := by
              rw [getElem!_pos l'.toArray i (by simpa using hil)]
              have := (List.getElem?_eq_some_iff.1 hx).2
              simpa using this
            rw [hxi]
            have hj2 : ((encD x).map dvl)[j]? = some (dvl d) := by rw [List.getElem?_map, hj]; rfl
            rw [List.getElem!_eq_getElem?_getD, hj2]; rfl
          refine ⟨dvl d, ?_, plain_rep _ _ (hpl x d (List.mem_of_getElem? hj))⟩
          unfold putCells
          rw [Array.getElem?_mapIdx, Array.getElem?_eq_getElem (by rw [hcs]; exact hcap)]
          show some (if _ then _ else _) = _
          rw [if_pos ⟨Nat.zero_le _, by rw [Nat.zero_add]; exact hfl⟩, Nat.sub_zero, hv])
    (fun cs0 T0 f0 h0 => by
      unfold putRowK putRow mapBlock
      refine ⟨putCells (fun v : Value => v) 0 (flatK (fun x => (encD x).map dvl) sz l'.toArray) cs0, f0, ?_⟩
      show (Array.modify _ b _)[b]? = _
      rw [Array.getElem?_modify, if_pos rfl]
      show Option.map _ (w.heap[b]?) = _
      rw [show w.heap[b]? = _ from h0]; rfl)
  obtain ⟨h3, e3⟩ := h2.oneMore (w' := sortWorldK (fun x => (encD x).map dvl) sz w b 0 n l'.toArray os) (by show _ ≤ (_ ++ os).size; rw [Array.size_append]; exact Nat.le_add_right _ _) (fun _ => Nat.le_refl _) rfl rfl rfl
    (fun i hi => by
      show (_ ++ os)[i]? = _
      rw [Array.getElem?_append_left hi])
  exact ⟨h3, (e1.trans e2).trans e3⟩
end
end Go.Proofs.YtlfapbkaknikpaaDoorA
