/- The order of strings; shifts of counts; a search by halves on plain lists. -/
import Derived.Test.YtldkkoecehdicaaDoorAbs31
namespace Go.Proofs.YtldkkoecehdicaaDoorA
open Go
set_option linter.unusedVariables false
set_option linter.unusedSimpArgs false

theorem u8_not {x y : UInt8} (h : ¬ x < y) : y.toNat ≤ x.toNat := Nat.le_of_not_lt fun h2 => h (UInt8.lt_iff_toNat_lt.2 h2)
theorem cmpL_zero : ∀ a b : List UInt8, Lib.compareBytes a b = 0 ↔ a = b
  | [], [] => by simp [Lib.compareBytes]
  | [], _ :: _ => by simp [Lib.compareBytes]
  | _ :: _, [] => by simp [Lib.compareBytes]
  | x :: a, y :: b => by
    unfold Lib.compareBytes
    by_cases h : x < y
    · rw [if_pos h]
      refine ⟨fun h => by omega, fun he => ?_⟩
      obtain ⟨rfl, _⟩ := List.cons.inj he
      exact absurd h (by simp)
    · rw [if_neg h]
      by_cases h2 : y < x
      · rw [if_pos h2]
        refine ⟨fun h => by omega, fun he => ?_⟩
        obtain ⟨rfl, _⟩ := List.cons.inj he
        exact absurd h2 (by simp)
      · rw [if_neg h2, cmpL_zero a b]
        have hxy : x = y := by
          have h3 := u8_not h
          have h4 := u8_not h2
          exact UInt8.toNat_inj.1 (by omega)
        rw [hxy]; simp
theorem cmpL_anti : ∀ a b : List UInt8, Lib.compareBytes b a = - Lib.compareBytes a b
  | [], [] => rfl
  | [], _ :: _ => rfl
  | _ :: _, [] => rfl
  | x :: a, y :: b => by
    unfold Lib.compareBytes
    by_cases h : x < y
    · rw [if_pos h, if_neg (by intro h2; exact absurd h (by have := UInt8.lt_iff_toNat_lt.1 h2; intro h3; have := UInt8.lt_iff_toNat_lt.1 h3; omega)), if_pos h]; rfl
    · rw [if_neg h]
      by_cases h2 : y < x
      · simp [h, h2]
      · simp [h, h2, cmpL_anti a b]
theorem cmpL_trans : ∀ a b c : List UInt8, Lib.compareBytes a b < 0 → Lib.compareBytes b c < 0 → Lib.compareBytes a c < 0
  | [], [], _, h, _ => by simp [Lib.compareBytes] at h
  | [], _ :: _, [], _, h => by simp [Lib.compareBytes] at h
  | [], _ :: _, _ :: _, _, _ => by simp [Lib.compareBytes]
  | _ :: _, [], _, h, _ => by simp [Lib.compareBytes] at h
  | _ :: _, _ :: _, [], _, h => by simp [Lib.compareBytes] at h
  | x :: a, y :: b, z :: c, h, k => by
    unfold Lib.compareBytes at h k ⊢
    by_cases h1 : x < y
    · have e1 := UInt8.lt_iff_toNat_lt.1 h1
      by_cases h2 : y < z
      · have e2 := UInt8.lt_iff_toNat_lt.1 h2
        rw [if_pos (UInt8.lt_iff_toNat_lt.2 (by omega))]; omega
      · rw [if_neg h2] at k
        by_cases h3 : z < y
        · rw [if_pos h3] at k; omega
        · have e2 := u8_not h2
          have e3 := u8_not h3
          rw [if_pos (UInt8.lt_iff_toNat_lt.2 (by omega))]; omega
    · rw [if_neg h1] at h
      by_cases h3 : y < x
      · rw [if_pos h3] at h; omega
      · rw [if_neg h3] at h
        have e1 := u8_not h1
        have e3 := u8_not h3
        obtain rfl : x = y := UInt8.toNat_inj.1 (by omega)
        by_cases h2 : x < z
        · rw [if_pos h2]; omega
        · rw [if_neg h2] at k ⊢
          by_cases h4 : z < x
          · rw [if_pos h4] at k; omega
          · rw [if_neg h4] at k ⊢
            exact cmpL_trans a b c h k
theorem cmpB_zero (a b : ByteArray) : cmpB a b = 0 ↔ a = b := by
  unfold cmpB
  rw [cmpL_zero]
  refine ⟨fun h => ?_, fun h => by rw [h]⟩
  exact toList_inj (by rw [ByteArray.toList_eq, ByteArray.toList_eq, h])
theorem cmpB_anti (a b : ByteArray) : cmpB b a = - cmpB a b := cmpL_anti _ _
theorem cmpB_trans {a b c : ByteArray} (h : cmpB a b < 0) (k : cmpB b c < 0) : cmpB a c < 0 := cmpL_trans _ _ _ h k
theorem cmpB_self (a : ByteArray) : cmpB a a = 0 := (cmpB_zero a a).2 rfl
theorem less_cmpL : ∀ a b : List UInt8, Op.bytesLess a b = decide (Lib.compareBytes a b < 0)
  | [], [] => by simp [Op.bytesLess, Lib.compareBytes]
  | [], _ :: _ => by simp [Op.bytesLess, Lib.compareBytes]
  | _ :: _, [] => by simp [Op.bytesLess, Lib.compareBytes]
  | x :: a, y :: b => by
    unfold Op.bytesLess Lib.compareBytes
    by_cases h : x < y
    · simp [h]
    · by_cases h2 : y < x
      · have hne : x ≠ y := by rintro rfl; exact absurd h2 (by simp)
        simp [h, h2, hne]
      · have e1 := u8_not h
        have e2 := u8_not h2
        obtain rfl : x = y := UInt8.toNat_inj.1 (by omega)
        simp [h, less_cmpL a b]
theorem less_cmpB (a b : ByteArray) : Op.bytesLess a.toList b.toList = decide (cmpB a b < 0) := by
  rw [ByteArray.toList_eq, ByteArray.toList_eq]; exact less_cmpL _ _
theorem leq_cmpB (a b : ByteArray) : (Op.bytesLess a.toList b.toList || a.toList == b.toList) = decide (cmpB a b ≤ 0) := by
  rw [less_cmpB, show (a.toList == b.toList) = seq a b from rfl]
  by_cases h : a = b
  · subst h; rw [seq_refl, cmpB_self]; simp
  · have h1 : seq a b = false := by
      cases hs : seq a b with
      | false => rfl
      | true => exact absurd ((seq_iff a b).1 hs) h
    have h2 : cmpB a b ≠ 0 := fun h0 => h ((cmpB_zero a b).1 h0)
    rw [h1, Bool.or_false, decide_eq_decide]
    omega

section
variable {P : Program} {N : Nm} {σ : Env} {hs : Hp} {d : Option Tmp} {ty : TypeId} {pos : String} {af : Array Edge} {g : Option (Nat × Bool)}
/-- n >> 1 of a count. -/
theorem Q.shr1 {t t' : TypeId} {x y : Operand} {k : IntKind} {n : Nat} (hx : oev σ x = .d (.int .u64 (n : Nat))) (hy : oev σ y = .d (.int k 1)) : Quiet P N σ hs ⟨d, .binOp .shr t x y t', ty, pos, af, g⟩ (.d (.int .u64 ((n / 2 : Nat) : Nat))) :=
  .of_run fun κ a w s => ⟨.int .u64 ((n / 2 : Nat) : Nat), by
    rw [bin_run s hx hy]
    have h2 : (n : Int).fdiv (2 ^ (min (1 : Int).toNat IntKind.u64.bits)) = ((n / 2 : Nat) : Int) := by
      rw [show min (1 : Int).toNat IntKind.u64.bits = 1 from rfl, Int.fdiv_eq_ediv_of_nonneg _ (by decide)]; rfl
    show Result.andThen (Sem.run P (Op.shift .shr .u64 n k 1) w) _ = _
    unfold Op.shift
    rw [if_neg (by decide)]
    dsimp only
    rw [h2]; rfl, .d (.int _ _)⟩
/-- A count, as another kind of integer. -/
theorem Q.conv_cnt {t t' : TypeId} {x : Operand} {k k' : IntKind} {n : Int} (ht : tInt P t' = some k') (hx : oev σ x = .d (.int k n)) (hs0 : ∃ u, P.underlying t = some u) (h0 : 0 ≤ n) (h1 : n ≤ 9223372036854775807) (hk : k' = .u64 ∨ k' = .i64) :
    Quiet P N σ hs ⟨d, .convert t t' x, ty, pos, af, g⟩ (.d (.int k' n)) := Q.conv_int ht hx hs0 (by
  rcases hk with rfl | rfl
  · show n % 18446744073709551616 = n
    omega
  · exact wi64 (by omega) h1)
end

/-! ### a search by halves -/
section
variable {α : Type} (c : α → Int)
/-- The number of those in front that are lesser. -/
def bsK (l : List α) : Nat := (l.takeWhile fun x => decide (c x < 0)).length
def bsF (l : List α) : Bool := match l[bsK c l]? with | some x => decide (c x = 0) | none => false
theorem bsK_le (l : List α) : bsK c l ≤ l.length := by
  unfold bsK
  exact (List.takeWhile_sublist _).length_le
theorem bsK_lt {l : List α} {i : Nat} {x : α} (h : i < bsK c l) (hx : l[i]? = some x) : c x < 0 := by
  have h1 : (l.takeWhile fun x => decide (c x < 0))[i]? = some x := by
    obtain ⟨r, hr⟩ := List.takeWhile_prefix (l := l) (fun x => decide (c x < 0))
    rw [← hr, List.getElem?_append_left h] at hx
    exact hx
  have key : ∀ (l : List α) (x : α), x ∈ l.takeWhile (fun x => decide (c x < 0)) → c x < 0 := fun l => by
    induction l with
    | nil => intro x hx; simp at hx
    | cons y l ih =>
      intro x hx
      rw [List.takeWhile_cons] at hx
      split at hx
      · rename_i hy
        rcases List.mem_cons.1 hx with rfl | hx
        · simpa using hy
        · exact ih x hx
      · cases hx
  exact key l x (List.mem_of_getElem? h1)
theorem bsK_at {l : List α} {x : α} (hx : l[bsK c l]? = some x) : ¬ c x < 0 := by
  unfold bsK at hx
  induction l with
  | nil => simp at hx
  | cons y l ih =>
    rw [List.takeWhile_cons] at hx
    split at hx
    · exact ih (by simpa using hx)
    · rename_i h
      simp at hx
      subst hx
      simpa using h
theorem bsK_eq {l : List α} {k : Nat} (h1 : ∀ (i : Nat) x, i < k → l[i]? = some x → c x < 0) (h2 : ∀ x, l[k]? = some x → ¬ c x < 0) (hk : k ≤ l.length) : bsK c l = k := by
  rcases Nat.lt_trichotomy (bsK c l) k with h | h | h
  · obtain ⟨x, hx⟩ : ∃ x, l[bsK c l]? = some x := ⟨_, List.getElem?_eq_getElem (by omega)⟩
    exact absurd (h1 _ x h hx) (bsK_at c hx)
  · exact h
  · obtain ⟨x, hx⟩ : ∃ x, l[k]? = some x := ⟨_, List.getElem?_eq_getElem (by have := bsK_le c l; omega)⟩
    exact absurd (bsK_lt c h hx) (h2 x hx)
end
end Go.Proofs.YtldkkoecehdicaaDoorA
