/- What approach.Check and approach.times compute, on lists. -/
import Derived.Test.YtiibdlifdneagaaAbs22
import Derived.Test.YtiibdlifdneagaaAbs9
namespace Go.Proofs.YtiibdlifdneagaaA
open Go
set_option linter.unusedVariables false

structure Item where
  call : ByteArray
  wake : Int
  ready : Int
  slot : Int

def Item.enc (x : Item) : List D := [.str x.call, .int .i64 x.wake, .int .i64 x.ready, .int .i64 x.slot]
def slI (l : List Item) : D := .sl 4 (l.map Item.enc)

/-- Sixteen gaps, in a row. -/
def gD (gv : Nat → Int) : List D := [.int .i64 (gv 0), .int .i64 (gv 1), .int .i64 (gv 2), .int .i64 (gv 3), .int .i64 (gv 4), .int .i64 (gv 5), .int .i64 (gv 6), .int .i64 (gv 7),
  .int .i64 (gv 8), .int .i64 (gv 9), .int .i64 (gv 10), .int .i64 (gv 11), .int .i64 (gv 12), .int .i64 (gv 13), .int .i64 (gv 14), .int .i64 (gv 15)]

theorem lt4 {k : Nat} (h : k < 4) : k = 0 ∨ k = 1 ∨ k = 2 ∨ k = 3 := by omega

theorem gD_row (gv : Nat → Int) {k : Nat} (h : k < 4) : ((gD gv).drop (((k : Nat) : Int).toNat * 4)).take 4 = [.int .i64 (gv (4 * k)), .int .i64 (gv (4 * k + 1)), .int .i64 (gv (4 * k + 2)), .int .i64 (gv (4 * k + 3))] := by
  rcases lt4 h with rfl | rfl | rfl | rfl <;> rfl
theorem row_at (gv : Nat → Int) {k j : Nat} (h : j < 4) : ([.int .i64 (gv (4 * k)), .int .i64 (gv (4 * k + 1)), .int .i64 (gv (4 * k + 2)), .int .i64 (gv (4 * k + 3))] : List D)[((j : Nat) : Int).toNat]? = some (.int .i64 (gv (4 * k + j))) := by
  rcases lt4 h with rfl | rfl | rfl | rfl <;> rfl
theorem gD_at (gv : Nat → Int) {a b : Int} (h0 : 0 ≤ a) (h1 : a < 4) (h2 : 0 ≤ b) (h3 : b < 4) : ((gD gv).map AV.d)[0 + a.toNat * 4 + b.toNat * 1]? = some (.d (.int .i64 (gv (4 * a.toNat + b.toNat)))) := by
  obtain ⟨m, rfl⟩ := Int.eq_ofNat_of_zero_le h0
  obtain ⟨n, rfl⟩ := Int.eq_ofNat_of_zero_le h2
  simp only [Int.toNat_natCast]
  rcases lt4 (show m < 4 by omega) with rfl | rfl | rfl | rfl <;> rcases lt4 (show n < 4 by omega) with rfl | rfl | rfl | rfl <;> rfl

def itemOk (x : Item) : Prop := 0 ≤ x.wake ∧ x.wake ≤ 3 ∧ 0 ≤ x.ready ∧ x.ready ≤ 200000 ∧ 0 ≤ x.slot ∧ x.slot ≤ 200000
def gapsOk (gv : Nat → Int) : Prop := ∀ i, i < 16 → 0 ≤ gv i ∧ gv i ≤ 1000
open Classical in
/-- approach.Check -/
noncomputable def checkA (l : List Item) (gv : Nat → Int) : Int := if 32 < l.length then 2 else if gapsOk gv ∧ ∀ x ∈ l, itemOk x then 0 else 4

def d0 : Item := ⟨⟨#[]⟩, 0, 0, 0⟩
/-- approach.times, the inner loop: the arrival i behind the first j. -/
def tin (l : List Item) (gv : Nat → Int) (out : List Int) (i : Nat) : Nat → Int
  | 0 => (l.getD i d0).ready
  | j + 1 => max (tin l gv out i j) (out.getD j 0 + gv (4 * (l.getD j d0).wake.toNat + (l.getD i d0).wake.toNat))
def tlist (l : List Item) (gv : Nat → Int) : Nat → List Int
  | 0 => []
  | i + 1 => tlist l gv i ++ [tin l gv (tlist l gv i) i i]
def timesS (l : List Item) (gv : Nat → Int) : List Int := tlist l gv l.length

theorem tlist_length (l : List Item) (gv : Nat → Int) : ∀ i, (tlist l gv i).length = i
  | 0 => rfl
  | i + 1 => by simp [tlist, tlist_length l gv i]

theorem tin_bound {l : List Item} {gv : Nat → Int} (hg : gapsOk gv) (hl : ∀ x ∈ l, itemOk x) {out : List Int} {i : Nat} (hi : i < l.length) {B : Int} (hB : 200000 ≤ B) (ho : ∀ n ∈ out, 0 ≤ n ∧ n ≤ B) :
    ∀ j, j ≤ i → j ≤ out.length → 0 ≤ tin l gv out i j ∧ tin l gv out i j ≤ B + 1000
  | 0, _, _ => by
    have := hl _ (List.getElem_mem hi)
    unfold itemOk at this
    simp only [tin, List.getD_eq_getElem?_getD, List.getElem?_eq_getElem hi, Option.getD_some]
    omega
  | j + 1, h1, h2 => by
    have ih := tin_bound hg hl hi hB ho j (by omega) (by omega)
    have h3 := hl _ (List.getElem_mem hi)
    have h4 := hl _ (List.getElem_mem (show j < l.length by omega))
    unfold itemOk at h3 h4
    have h5 := ho _ (List.getElem_mem (show j < out.length by omega))
    simp only [tin, List.getD_eq_getElem?_getD, List.getElem?_eq_getElem hi, List.getElem?_eq_getElem (show j < l.length by omega), List.getElem?_eq_getElem (show j < out.length by omega), Option.getD_some]
    have h6 := hg (4 * l[j].wake.toNat + l[i].wake.toNat) (by omega)
    omega

theorem tlist_bound {l : List Item} {gv : Nat → Int} (hg : gapsOk gv) (hl : ∀ x ∈ l, itemOk x) : ∀ i, i ≤ l.length → ∀ n ∈ tlist l gv i, 0 ≤ n ∧ n ≤ 200000 + 1000 * i
  | 0, _, n, hn => by simp [tlist] at hn
  | i + 1, hi, n, hn => by
    have ih := tlist_bound hg hl i (by omega)
    simp only [tlist, List.mem_append, List.mem_singleton] at hn
    rcases hn with hn | rfl
    · have := ih n hn; omega
    · have := tin_bound hg hl (show i < l.length by omega) (B := 200000 + 1000 * i) (by omega) ih i (Nat.le_refl _) (by rw [tlist_length]; exact Nat.le_refl _)
      omega

theorem checkA_zero {l : List Item} {gv : Nat → Int} (h : checkA l gv = 0) : gapsOk gv ∧ (∀ x ∈ l, itemOk x) ∧ l.length ≤ 32 := by
  unfold checkA at h
  split at h
  · cases h
  · split at h
    · rename_i h1 h2; exact ⟨h2.1, h2.2, by omega⟩
    · cases h

open Classical in
/-- approach.Times -/
noncomputable def timesT (l : List Item) (gv : Nat → Int) : List Int := if checkA l gv = 0 then timesS l gv else []
theorem timesT_ok {l : List Item} {gv : Nat → Int} (h : checkA l gv = 0) : timesT l gv = timesS l gv := by unfold timesT; rw [if_pos h]
theorem timesT_bad {l : List Item} {gv : Nat → Int} (h : ¬ checkA l gv = 0) : timesT l gv = [] := by unfold timesT; rw [if_neg h]
theorem timesS_length (l : List Item) (gv : Nat → Int) : (timesS l gv).length = l.length := tlist_length _ _ _

theorem tlist_get (l : List Item) (gv : Nat → Int) : ∀ n i j, j < i → i ≤ n → (tlist l gv n)[j]? = (tlist l gv i)[j]?
  | 0, i, j, h, h' => by omega
  | n + 1, i, j, h, h' => by
    by_cases he : i = n + 1
    · rw [he]
    · rw [tlist, List.getElem?_append_left (by rw [tlist_length]; omega)]
      exact tlist_get l gv n i j h (by omega)

theorem times_at {l : List Item} {gv : Nat → Int} {i : Nat} {t : Int} (h : (timesS l gv)[i]? = some t) : t = tin l gv (tlist l gv i) i i := by
  have hi := (List.getElem?_eq_some_iff.1 h).1
  rw [timesS_length] at hi
  unfold timesS at h
  rw [tlist_get l gv _ (i + 1) i (by omega) (by omega), tlist, List.getElem?_append_right (by rw [tlist_length]; omega), tlist_length, Nat.sub_self] at h
  simpa using h.symm

theorem times_before {l : List Item} {gv : Nat → Int} {i j : Nat} {t : Int} (h : (timesS l gv)[j]? = some t) (hij : j < i) (hi : i ≤ l.length) : (tlist l gv i).getD j 0 = t := by
  unfold timesS at h
  rw [tlist_get l gv _ i j hij hi] at h
  rw [List.getD_eq_getElem?_getD, h]
  rfl

theorem tin_mono (l : List Item) (gv : Nat → Int) (out : List Int) (i : Nat) : ∀ n j, j ≤ n → tin l gv out i j ≤ tin l gv out i n
  | 0, j, h => by obtain rfl : j = 0 := by omega
                  exact Int.le_refl _
  | n + 1, j, h => by
    by_cases he : j = n + 1
    · rw [he]; exact Int.le_refl _
    · have := tin_mono l gv out i n j (by omega)
      simp only [tin]
      omega

/-- The fixed example. -/
def factL : List Item := [⟨⟨#[]⟩, 0, 100, 150⟩, ⟨⟨#[]⟩, 0, 120, 200⟩]
def factG : Nat → Int
  | 0 => 90
  | _ => 0
theorem fact_check : checkA factL factG = 0 := by
  unfold checkA
  rw [if_neg (by simp [factL]), if_pos]
  refine ⟨fun i hi => ?_, fun x hx => ?_⟩
  · match i with
    | 0 => exact ⟨by decide, by decide⟩
    | n + 1 => exact ⟨Int.le_refl 0, show (0 : Int) ≤ 1000 by decide⟩
  · simp only [factL, List.mem_cons, List.not_mem_nil, or_false] at hx
    rcases hx with rfl | rfl <;> exact ⟨by decide, by decide, by decide, by decide, by decide, by decide⟩
theorem fact_times : timesT factL factG = [100, 190] := by rw [timesT_ok fact_check]; rfl

/-! ### the arguments -/
def i64 : Sh := .int .i64
def shItem : Sh := .cons .str (.cons i64 (.cons i64 (.cons i64 .unit)))
def itemWf (x : Item) : Prop := (-9223372036854775808 ≤ x.wake ∧ x.wake ≤ 9223372036854775807) ∧ (-9223372036854775808 ≤ x.ready ∧ x.ready ≤ 9223372036854775807) ∧ (-9223372036854775808 ≤ x.slot ∧ x.slot ≤ 9223372036854775807)
theorem item_of {r : List D} (h : Ty shItem r) : ∃ x : Item, r = x.enc ∧ itemWf x := by
  obtain ⟨_, _, rfl, ⟨s, rfl, _⟩, _, _, rfl, ⟨a, rfl, ha⟩, _, _, rfl, ⟨b, rfl, hb⟩, _, _, rfl, ⟨c, rfl, hc⟩, rfl⟩ := h
  exact ⟨⟨s, a, b, c⟩, rfl, wf64 ha, wf64 hb, wf64 hc⟩
def sh4 : Sh := .cons i64 (.cons i64 (.cons i64 (.cons i64 .unit)))
def shGaps : Sh := .cons sh4 (.cons sh4 (.cons sh4 (.cons sh4 .unit)))
theorem four_of {r : List D} (h : Ty sh4 r) : ∃ a b c d : Int, r = [.int .i64 a, .int .i64 b, .int .i64 c, .int .i64 d] := by
  obtain ⟨_, _, rfl, ⟨a, rfl, _⟩, _, _, rfl, ⟨b, rfl, _⟩, _, _, rfl, ⟨c, rfl, _⟩, _, _, rfl, ⟨d, rfl, _⟩, rfl⟩ := h
  exact ⟨a, b, c, d, rfl⟩
theorem gaps_of {r : List D} (h : Ty shGaps r) : ∃ gv, r = gD gv := by
  obtain ⟨_, _, rfl, h1, _, _, rfl, h2, _, _, rfl, h3, _, _, rfl, h4, rfl⟩ := h
  obtain ⟨a0, a1, a2, a3, rfl⟩ := four_of h1
  obtain ⟨b0, b1, b2, b3, rfl⟩ := four_of h2
  obtain ⟨c0, c1, c2, c3, rfl⟩ := four_of h3
  obtain ⟨d0, d1, d2, d3, rfl⟩ := four_of h4
  exact ⟨fun i => [a0, a1, a2, a3, b0, b1, b2, b3, c0, c1, c2, c3, d0, d1, d2, d3].getD i 0, rfl⟩

/-! ### everything later by d -/
def Item.late (d : Int) (x : Item) : Item := ⟨x.call, x.wake, x.ready + d, x.slot + d⟩

theorem late_check {l : List Item} {gv : Nat → Int} {d : Int} (h : checkA l gv = 0) (hd : 0 ≤ d) (hb : ∀ x ∈ l, x.ready ≤ 200000 - d ∧ x.slot ≤ 200000 - d) : checkA (l.map (Item.late d)) gv = 0 := by
  obtain ⟨h1, h2, h3⟩ := checkA_zero h
  unfold checkA
  rw [if_neg (by simp; omega), if_pos]
  refine ⟨h1, fun x hx => ?_⟩
  obtain ⟨y, hy, rfl⟩ := List.mem_map.1 hx
  have := h2 y hy
  have := hb y hy
  unfold itemOk Item.late at *
  dsimp only
  omega

theorem late_tin {l : List Item} {gv : Nat → Int} {d : Int} {out : List Int} {i : Nat} (hi : i < l.length) : ∀ j, j ≤ l.length → j ≤ out.length →
    tin (l.map (Item.late d)) gv (out.map (· + d)) i j = tin l gv out i j + d
  | 0, _, _ => by simp [tin, hi, Item.late]
  | j + 1, h1, h2 => by
    have ih := late_tin (gv := gv) (d := d) (out := out) hi j (by omega) (by omega)
    have h3 : j < l.length := by omega
    have h4 : j < out.length := by omega
    simp only [tin, ih, List.getD_eq_getElem?_getD, List.getElem?_map, List.getElem?_eq_getElem hi, List.getElem?_eq_getElem h3, List.getElem?_eq_getElem h4, Option.map_some, Option.getD_some, Item.late]
    omega

theorem late_tlist {l : List Item} {gv : Nat → Int} {d : Int} : ∀ i, i ≤ l.length → tlist (l.map (Item.late d)) gv i = (tlist l gv i).map (· + d)
  | 0, _ => rfl
  | i + 1, h => by
    have hl := tlist_length l gv i
    rw [tlist, tlist, late_tlist i (by omega), late_tin (show i < l.length by omega) i (by omega) (by omega)]
    simp

theorem late_times {l : List Item} {gv : Nat → Int} {d : Int} : timesS (l.map (Item.late d)) gv = (timesS l gv).map (· + d) := by
  unfold timesS
  rw [List.length_map, late_tlist _ (Nat.le_refl _)]

/-! ### without one of the arrivals -/
def wo {α : Type} (a : Nat) (l : List α) : List α := l.take a ++ l.drop (a + 1)
def skip (a j : Nat) : Nat := if j < a then j else j + 1
theorem wo_length {α : Type} {a : Nat} {l : List α} (h : a < l.length) : (wo a l).length = l.length - 1 := by
  simp only [wo, List.length_append, List.length_take, List.length_drop]; omega
theorem wo_at {α : Type} {a j : Nat} {l : List α} (h : a < l.length) : (wo a l)[j]? = l[skip a j]? := by
  unfold wo skip
  split
  · rename_i hj
    rw [List.getElem?_append_left (by simp; omega), List.getElem?_take, if_pos hj]
  · rename_i hj
    rw [List.getElem?_append_right (by simp; omega), List.getElem?_drop]
    congr 1
    simp; omega
theorem wo_mem {α : Type} {a : Nat} {l : List α} {x : α} (h : x ∈ wo a l) : x ∈ l := by
  unfold wo at h
  rcases List.mem_append.1 h with h | h
  · exact List.mem_of_mem_take h
  · exact List.mem_of_mem_drop h
theorem wo_map {α β : Type} (f : α → β) (a : Nat) (l : List α) : wo a (l.map f) = (wo a l).map f := by simp [wo]

theorem wo_check {l : List Item} {gv : Nat → Int} {a : Nat} (h : checkA l gv = 0) (ha : a < l.length) : checkA (wo a l) gv = 0 := by
  obtain ⟨h1, h2, h3⟩ := checkA_zero h
  unfold checkA
  rw [if_neg (by rw [wo_length ha]; omega), if_pos ⟨h1, fun x hx => h2 x (wo_mem hx)⟩]

theorem times_getD {l : List Item} {gv : Nat → Int} {i : Nat} (h : i < l.length) : (timesS l gv).getD i 0 = tin l gv (tlist l gv i) i i := by
  have h2 : i < (timesS l gv).length := by rw [timesS_length]; exact h
  rw [List.getD_eq_getElem?_getD, List.getElem?_eq_getElem h2]
  exact times_at (List.getElem?_eq_getElem h2)

theorem tlist_getD {l : List Item} {gv : Nat → Int} {i j : Nat} (hj : j < i) (hi : i ≤ l.length) : (tlist l gv i).getD j 0 = (timesS l gv).getD j 0 := by
  unfold timesS
  rw [List.getD_eq_getElem?_getD, List.getD_eq_getElem?_getD, tlist_get l gv _ i j hj hi]

theorem skip_lt {a j k : Nat} (h : j < k) : skip a j < skip a k := by unfold skip; split <;> split <;> omega

theorem wo_tin {l : List Item} {gv : Nat → Int} {a : Nat} (ha : a < l.length) {out' out : List Int} {k : Nat} (hk : k < l.length - 1) (ho : ∀ j, j < k → out'.getD j 0 ≤ out.getD (skip a j) 0) :
    ∀ j, j ≤ k → tin (wo a l) gv out' k j ≤ tin l gv out (skip a k) (skip a j)
  | 0, _ => by
    have h1 := tin_mono l gv out (skip a k) (skip a 0) 0 (Nat.zero_le _)
    refine Int.le_trans ?_ h1
    simp only [tin, List.getD_eq_getElem?_getD, wo_at ha]
    exact Int.le_refl _
  | j + 1, h => by
    have ih := wo_tin (gv := gv) ha hk ho j (by omega)
    have h1 := ho j (by omega)
    have h2 := tin_mono l gv out (skip a k) (skip a (j + 1)) (skip a j + 1) (skip_lt (by omega))
    refine Int.le_trans ?_ h2
    simp only [tin, List.getD_eq_getElem?_getD, wo_at ha] at ih h1 ⊢
    omega

theorem wo_times {l : List Item} {gv : Nat → Int} {a : Nat} (ha : a < l.length) : ∀ k, k < l.length - 1 → (timesS (wo a l) gv).getD k 0 ≤ (timesS l gv).getD (skip a k) 0 := by
  intro k
  induction k using Nat.strongRecOn with
  | _ k ih =>
    intro hk
    have hs : skip a k < l.length := by unfold skip; split <;> omega
    rw [times_getD (by rw [wo_length ha]; exact hk), times_getD hs]
    refine wo_tin ha hk (fun j hj => ?_) k (Nat.le_refl _)
    rw [tlist_getD hj (by rw [wo_length ha]; omega), tlist_getD (skip_lt hj) (by omega)]
    exact ih j hj (by omega)

/-! ### the order in which nobody is late -/
def nEn (n : Nat) : List D := [.int .i64 n]
def pick (l : List Item) (o : List Nat) : List Item := o.map fun j => l.getD j d0
def lnd (l : List Item) (gv : Nat → Int) (o : List Nat) (at' : List Int) (i : Nat) : Nat → Int
  | 0 => (l.getD i d0).ready
  | k + 1 => max (lnd l gv o at' i k) (at'.getD k 0 + gv (4 * (l.getD (o.getD k 0) d0).wake.toNat + (l.getD i d0).wake.toNat))
open Classical in
noncomputable def stepS (l : List Item) (gv : Nat → Int) (sub : List Nat → List Int → Option (List Nat)) (o : List Nat) (at' : List Int) (i : Nat) : Option (List Nat) :=
  if i ∈ o ∨ (l.getD i d0).slot < lnd l gv o at' i o.length then none else sub (o ++ [i]) (at' ++ [lnd l gv o at' i o.length])
noncomputable def srch (l : List Item) (gv : Nat → Int) : Nat → List Nat → List Int → Option (List Nat)
  | 0, o, _ => some o
  | n + 1, o, at' => (List.range l.length).findSome? (stepS l gv (srch l gv n) o at')

/-- What holds of an order that is under way. -/
structure Way (l : List Item) (gv : Nat → Int) (o : List Nat) (at' : List Int) : Prop where
  lt : ∀ j ∈ o, j < l.length
  nodup : o.Nodup
  at_eq : at' = timesS (pick l o) gv
  ok : ∀ (k j : Nat) (t : Int), o[k]? = some j → at'[k]? = some t → t ≤ (l.getD j d0).slot

theorem pick_length (l : List Item) (o : List Nat) : (pick l o).length = o.length := by simp [pick]
theorem pick_getD (l : List Item) (o : List Nat) {k : Nat} (h : k < o.length) : (pick l o).getD k d0 = l.getD (o.getD k 0) d0 := by
  simp [pick, List.getD_eq_getElem?_getD, List.getElem?_map, List.getElem?_eq_getElem h]

theorem lnd_tin (l : List Item) (gv : Nat → Int) (o : List Nat) (at' : List Int) (i : Nat) : ∀ k, k ≤ o.length → lnd l gv o at' i k = tin (pick l (o ++ [i])) gv at' o.length k
  | 0, _ => by
    simp only [lnd, tin, pick, List.map_append, List.map_cons, List.map_nil, List.getD_eq_getElem?_getD]
    rw [List.getElem?_append_right (by simp)]
    simp
  | k + 1, h => by
    have h1 : (pick l (o ++ [i])).getD k d0 = l.getD (o.getD k 0) d0 := by
      rw [pick_getD l _ (by simp; omega)]
      congr 1
      simp [List.getD_eq_getElem?_getD, List.getElem?_append_left (show k < o.length by omega)]
    have h2 : (pick l (o ++ [i])).getD o.length d0 = l.getD i d0 := by
      rw [pick_getD l _ (by simp)]
      simp [List.getD_eq_getElem?_getD]
    simp only [lnd, tin, lnd_tin l gv o at' i k (by omega), h1, h2]

theorem tlist_append (l m : List Item) (gv : Nat → Int) : ∀ i, i ≤ l.length → tlist (l ++ m) gv i = tlist l gv i
  | 0, _ => rfl
  | i + 1, h => by
    have key : ∀ (out : List Int) j, j ≤ i → tin (l ++ m) gv out i j = tin l gv out i j := by
      intro out j
      induction j with
      | zero => intro _; simp only [tin, List.getD_eq_getElem?_getD]; rw [List.getElem?_append_left (by omega)]
      | succ j ih =>
        intro hj
        simp only [tin, ih (by omega), List.getD_eq_getElem?_getD]
        rw [List.getElem?_append_left (by omega), List.getElem?_append_left (by omega)]
    simp only [tlist, tlist_append l m gv i (by omega), key _ i (Nat.le_refl _)]

theorem Way.step {l : List Item} {gv : Nat → Int} {o : List Nat} {at' : List Int} (h : Way l gv o at') {i : Nat} (hi : i < l.length) (hn : i ∉ o) (hs : lnd l gv o at' i o.length ≤ (l.getD i d0).slot) :
    Way l gv (o ++ [i]) (at' ++ [lnd l gv o at' i o.length]) := by
  have hal : at'.length = o.length := by rw [h.at_eq, timesS_length, pick_length]
  refine ⟨fun j hj => ?_, ?_, ?_, fun k j t hk ht => ?_⟩
  · rcases List.mem_append.1 hj with hj | hj
    · exact h.lt j hj
    · simp at hj; exact hj ▸ hi
  · rw [List.nodup_append]
    exact ⟨h.nodup, by simp, fun a ha b hb => by simp at hb; subst hb; exact fun he => hn (he ▸ ha)⟩
  · have hp : pick l (o ++ [i]) = pick l o ++ [l.getD i d0] := by simp [pick]
    unfold timesS
    rw [pick_length, List.length_append, List.length_singleton, tlist, hp, tlist_append _ _ _ _ (by rw [pick_length]; exact Nat.le_refl _), ← hp]
    have h1 : tlist (pick l o) gv o.length = at' := by rw [h.at_eq]; unfold timesS; rw [pick_length]
    rw [h1, lnd_tin l gv o at' i o.length (Nat.le_refl _)]
  · rw [List.getElem?_append] at hk ht
    by_cases hlt : k < o.length
    · rw [if_pos hlt] at hk; rw [if_pos (by omega)] at ht
      exact h.ok k j t hk ht
    · rw [if_neg hlt] at hk; rw [if_neg (by omega)] at ht
      have hk0 : k - o.length = 0 := by
        have := (List.getElem?_eq_some_iff.1 hk).1
        simp at this; omega
      rw [hk0] at hk
      rw [hal, hk0] at ht
      simp at hk ht
      subst hk; subst ht
      exact hs

theorem srch_spec {l : List Item} {gv : Nat → Int} : ∀ (n : Nat) (o : List Nat) (at' : List Int), Way l gv o at' → o.length + n = l.length → ∀ r, srch l gv n o at' = some r → ∃ t, Way l gv r t ∧ r.length = l.length
  | 0, o, at', h, hl, r, hr => by
    simp only [srch, Option.some.injEq] at hr
    subst hr
    exact ⟨at', h, by omega⟩
  | n + 1, o, at', h, hl, r, hr => by
    simp only [srch] at hr
    obtain ⟨i, hi, hri⟩ := List.exists_of_findSome?_eq_some hr
    have hlt : i < l.length := by simpa using hi
    unfold stepS at hri
    split at hri
    · cases hri
    · rename_i hc
      rw [not_or] at hc
      exact srch_spec n _ _ (h.step hlt hc.1 (by omega)) (by simp; omega) r hri

theorem nodup_le : ∀ (n : Nat) (o : List Nat), o.Nodup → (∀ j ∈ o, j < n) → o.length ≤ n
  | 0, o, _, h => by
    cases o with
    | nil => exact Nat.le_refl _
    | cons a o => have := h a (by simp); omega
  | n + 1, o, hnd, h => by
    by_cases hn : n ∈ o
    · have h1 := nodup_le n (o.erase n) (hnd.erase n) (fun j hj => by
        have h2 := (hnd.mem_erase_iff).1 hj
        have := h j h2.2
        omega)
      rw [List.length_erase_of_mem hn] at h1
      omega
    · have h1 := nodup_le n o hnd (fun j hj => by
        have := h j hj
        have : j ≠ n := fun he => hn (he ▸ hj)
        omega)
      omega

/-- Distinct numbers below n, n of them: each of them. -/
theorem all_below (n : Nat) (o : List Nat) (hnd : o.Nodup) (hlt : ∀ j ∈ o, j < n) (hlen : o.length = n) (i : Nat) (hi : i < n) : i ∈ o :=
  Classical.byContradiction fun hn => by
    have := nodup_le n (i :: o) (List.nodup_cons.2 ⟨hn, hnd⟩) (fun j hj => by
      rcases List.mem_cons.1 hj with rfl | hj
      · exact hi
      · exact hlt j hj)
    simp at this
    omega

theorem srch_good {l : List Item} {gv : Nat → Int} {r : List Nat} (h : srch l gv l.length [] [] = some r) :
    (∀ j ∈ r, j < l.length) ∧ r.length = l.length ∧ (∀ (k j : Nat) (t : Int), r[k]? = some j → (timesS (pick l r) gv)[k]? = some t → t ≤ (l.getD j d0).slot) ∧ ∀ x ∈ l, x.ready ≤ x.slot := by
  obtain ⟨t, hw, hl⟩ := srch_spec l.length [] [] ⟨by simp, by simp, rfl, by simp⟩ (by simp) r h
  refine ⟨hw.lt, hl, fun k j t hk ht => hw.ok k j t hk (by rw [hw.at_eq]; exact ht), fun x hx => ?_⟩
  obtain ⟨i, hi⟩ := List.getElem?_of_mem hx
  have hil := (List.getElem?_eq_some_iff.1 hi).1
  obtain ⟨k, hk⟩ := List.getElem?_of_mem (all_below l.length r hw.nodup hw.lt hl i hil)
  have hkl := (List.getElem?_eq_some_iff.1 hk).1
  have hkt : k < (timesS (pick l r) gv).length := by rw [timesS_length, pick_length]; exact hkl
  have h1 := hw.ok k i _ hk (by rw [hw.at_eq]; exact List.getElem?_eq_getElem hkt)
  have h2 := times_at (List.getElem?_eq_getElem hkt)
  have h3 := tin_mono (pick l r) gv (tlist (pick l r) gv k) k k 0 (Nat.zero_le _)
  rw [← h2] at h3
  simp only [tin] at h3
  rw [pick_getD l r hkl] at h3
  have h4 : r.getD k 0 = i := by simp [List.getD_eq_getElem?_getD, hk]
  have h5 : l.getD i d0 = x := by simp [List.getD_eq_getElem?_getD, hi]
  rw [h4, h5] at h3
  rw [h5] at h1
  omega

open Classical in
noncomputable def ordS (l : List Item) (gv : Nat → Int) : List Nat × Int :=
  if ¬ checkA l gv = 0 then ([], checkA l gv) else if 6 < l.length then ([], 2) else if l.length = 0 then ([], 0) else match srch l gv l.length [] [] with | none => ([], 8) | some o => (o, 0)
def lateS (l : List Item) (t : List Int) (k : Nat) : List Nat := (List.range k).filter fun i => decide ((l.getD i d0).slot < t.getD i 0)

theorem lnd_bound {l : List Item} {gv : Nat → Int} (hg : gapsOk gv) (hl : ∀ x ∈ l, itemOk x) {o : List Nat} {at' : List Int} {i : Nat} (hi : i < l.length) (ho : ∀ j ∈ o, j < l.length) (hal : at'.length = o.length) {B : Int} (hB : 200000 ≤ B) (hab : ∀ t ∈ at', 0 ≤ t ∧ t ≤ B) :
    ∀ k, k ≤ o.length → 0 ≤ lnd l gv o at' i k ∧ lnd l gv o at' i k ≤ B + 1000
  | 0, _ => by
    have := hl _ (List.getElem_mem hi)
    unfold itemOk at this
    simp only [lnd, List.getD_eq_getElem?_getD, List.getElem?_eq_getElem hi, Option.getD_some]
    omega
  | k + 1, h => by
    have ih := lnd_bound hg hl hi ho hal hB hab k (by omega)
    have hk : k < o.length := by omega
    have hj := ho _ (List.getElem_mem hk)
    have h3 := hl _ (List.getElem_mem hi)
    have h4 := hl _ (List.getElem_mem hj)
    unfold itemOk at h3 h4
    have h5 := hab _ (List.getElem_mem (show k < at'.length by omega))
    simp only [lnd, List.getD_eq_getElem?_getD, List.getElem?_eq_getElem hk, List.getElem?_eq_getElem hi, List.getElem?_eq_getElem (show k < at'.length by omega), Option.getD_some, List.getElem?_eq_getElem hj]
    have h6 := hg (4 * l[o[k]].wake.toNat + l[i].wake.toNat) (by omega)
    omega

theorem srch_len {l : List Item} {gv : Nat → Int} : ∀ (n : Nat) (o : List Nat) (at' : List Int) (r : List Nat), srch l gv n o at' = some r → o.length ≤ r.length
  | 0, o, at', r, hr => by
    simp only [srch, Option.some.injEq] at hr
    subst hr; exact Nat.le_refl _
  | n + 1, o, at', r, hr => by
    simp only [srch] at hr
    obtain ⟨i, hi, hri⟩ := List.exists_of_findSome?_eq_some hr
    unfold stepS at hri
    split at hri
    · cases hri
    · have := srch_len n _ _ r hri
      simp at this
      omega

theorem first_some {α : Type} {f : Nat → Option α} : ∀ (n i : Nat) (r : α), i < n → (∀ j, j < i → f j = none) → f i = some r → (List.range n).findSome? f = some r
  | 0, i, r, h, _, _ => by omega
  | n + 1, i, r, h, h1, h2 => by
    rw [List.range_succ, List.findSome?_append]
    by_cases hi : i < n
    · rw [first_some n i r hi h1 h2]; rfl
    · obtain rfl : i = n := by omega
      have : (List.range i).findSome? f = none := by
        rw [List.findSome?_eq_none_iff]
        exact fun j hj => h1 j (List.mem_range.1 hj)
      rw [this]
      simp [h2]

theorem lateS_succ (l : List Item) (t : List Int) (k : Nat) : lateS l t (k + 1) = if (l.getD k d0).slot < t.getD k 0 then lateS l t k ++ [k] else lateS l t k := by
  unfold lateS
  rw [List.range_succ, List.filter_append]
  split
  · rename_i h
    rw [List.filter_cons_of_pos (p := fun i => decide ((l.getD i d0).slot < t.getD i 0)) (a := k) (l := []) (decide_eq_true h)]
    rfl
  · rename_i h
    rw [List.filter_cons_of_neg (p := fun i => decide ((l.getD i d0).slot < t.getD i 0)) (a := k) (l := []) (by rw [decide_eq_true_eq]; exact h), List.filter_nil, List.append_nil]

theorem ordS_ok {l : List Item} {gv : Nat → Int} (h : (ordS l gv).2 = 0) : checkA l gv = 0 ∧ (∀ j ∈ (ordS l gv).1, j < l.length) ∧ (ordS l gv).1.length = l.length ∧ checkA (pick l (ordS l gv).1) gv = 0 ∧
    lateS (pick l (ordS l gv).1) (timesS (pick l (ordS l gv).1) gv) l.length = [] ∧ ∀ x ∈ l, x.ready ≤ x.slot := by
  unfold ordS at h ⊢
  split at h
  · rename_i h0; exact absurd h h0
  · rename_i h0
    have h0' : checkA l gv = 0 := Classical.not_not.1 h0
    split at h
    · cases h
    · split at h
      · rename_i h1 h2
        have hl : l = [] := List.length_eq_zero_iff.1 h2
        subst hl
        rw [if_neg h0, if_neg (by simp), if_pos (show ([] : List Item).length = 0 from rfl)]
        exact ⟨h0', by simp, rfl, h0', rfl, by simp⟩
      · rename_i h1 h2
        rw [if_neg h0, if_neg h1, if_neg h2]
        revert h
        cases hs : srch l gv l.length [] [] with
        | none => intro h; cases h
        | some o =>
          intro _
          obtain ⟨g1, g2, g3, g4⟩ := srch_good hs
          obtain ⟨c1, c2, c3⟩ := checkA_zero h0'
          have hc : checkA (pick l o) gv = 0 := by
            unfold checkA
            rw [if_neg (by rw [pick_length, g2]; omega), if_pos]
            refine ⟨c1, fun x hx => ?_⟩
            obtain ⟨j, hj, rfl⟩ := List.mem_map.1 hx
            have := g1 j hj
            rw [show l.getD j d0 = l[j] from by simp [List.getD_eq_getElem?_getD, List.getElem?_eq_getElem this]]
            exact c2 _ (List.getElem_mem _)
          refine ⟨h0', g1, g2, hc, ?_, g4⟩
          unfold lateS
          rw [List.filter_eq_nil_iff]
          intro k hk
          have hk' : k < o.length := by rw [g2]; exact List.mem_range.1 hk
          have hkt : k < (timesS (pick l o) gv).length := by rw [timesS_length, pick_length]; exact hk'
          have := g3 k o[k] _ (List.getElem?_eq_getElem hk') (List.getElem?_eq_getElem hkt)
          show ¬ decide (((pick l o).getD k d0).slot < (timesS (pick l o) gv).getD k 0) = true
          rw [pick_getD l o hk', List.getD_eq_getElem?_getD (l := timesS (pick l o) gv), List.getElem?_eq_getElem hkt]
          simp only [List.getD_eq_getElem?_getD, List.getElem?_eq_getElem hk', Option.getD_some, decide_eq_true_eq] at this ⊢
          omega

theorem ordS_bad {l : List Item} {gv : Nat → Int} (h : ¬ (ordS l gv).2 = 0) : (ordS l gv).1 = [] := by
  unfold ordS at h ⊢
  split
  · rfl
  · split
    · rfl
    · split
      · rfl
      · rename_i h1 h2 h3
        rw [if_neg h1, if_neg h2, if_neg h3] at h
        revert h
        cases srch l gv l.length [] [] with
        | none => intro _; rfl
        | some o => intro h; exact absurd rfl h

theorem take6 (l : List Item) : (l.take (min (((l.map Item.enc).length : Nat) : Int) 6).toNat) = l.take 6 := by
  rw [List.length_map]
  rcases Nat.lt_or_ge l.length 6 with h | h
  · rw [List.take_of_length_le (by omega), List.take_of_length_le (by omega)]
  · congr 1; omega
end Go.Proofs.YtiibdlifdneagaaA
