/- Decimal numbers; a number before a byte. -/
import Derived.Test.YtdddebheolmldaaDoorStr2
namespace Go.Proofs.YtdddebheolmldaaDoorA
open Go
set_option linter.unusedVariables false
set_option linter.unusedSimpArgs false
set_option linter.unnecessarySimpa false

def digD (n : Nat) : UInt8 := (48 + n).toUInt8
theorem digD_nat {n : Nat} (h : n < 10) : (digD n).toNat = 48 + n := by
  have key : ∀ n : Fin 10, (digD n.1).toNat = 48 + n.1 := by decide
  exact key ⟨n, h⟩
/-- Digits, the last first. -/
def decR (n : Nat) : List UInt8 := if h : n < 10 then [digD n] else digD (n % 10) :: decR (n / 10)
termination_by n
decreasing_by omega
def decL (n : Nat) : List UInt8 := (decR n).reverse
theorem decR_small {n : Nat} (h : n < 10) : decR n = [digD n] := by rw [decR, dif_pos h]
theorem decR_step {n : Nat} (h : 10 ≤ n) : decR n = digD (n % 10) :: decR (n / 10) := by rw [decR, dif_neg (by omega)]
theorem decL_small {n : Nat} (h : n < 10) : decL n = [digD n] := by rw [decL, decR_small h]; rfl
theorem decL_step {n : Nat} (h : 10 ≤ n) : decL n = decL (n / 10) ++ [digD (n % 10)] := by rw [decL, decR_step h, List.reverse_cons]; rfl
theorem decL_push {n d : Nat} (hn : 0 < n) (hd : d < 10) : decL (10 * n + d) = decL n ++ [digD d] := by
  rw [decL_step (by omega), show (10 * n + d) / 10 = n by omega, show (10 * n + d) % 10 = d by omega]
theorem decL_ne (n : Nat) : decL n ≠ [] := by
  rcases Nat.lt_or_ge n 10 with h | h
  · rw [decL_small h]; simp
  · rw [decL_step h]; simp
theorem decL_len (n : Nat) : ∀ k, n < 10 ^ (k + 1) → (decL n).length ≤ k + 1 := by
  intro k
  induction k generalizing n with
  | zero => intro h; rw [decL_small (by simpa using h)]; simp
  | succ k ih =>
    intro h
    rcases Nat.lt_or_ge n 10 with h2 | h2
    · rw [decL_small h2]; simp
    · have := ih (n / 10) (by rw [Nat.pow_succ] at h; omega)
      rw [decL_step h2]; simp; omega
theorem decL_head (n : Nat) (h : n ≠ 0) : (decL n).getD 0 0 ≠ 48 := by
  induction n using Nat.strongRecOn with
  | _ n ih =>
    rcases Nat.lt_or_ge n 10 with h2 | h2
    · rw [decL_small h2]
      have key : ∀ n : Fin 10, n.1 ≠ 0 → ([digD n.1].getD 0 0) ≠ 48 := by decide
      exact key ⟨n, h2⟩ h
    · rw [decL_step h2]
      have h3 := ih (n / 10) (by omega) (by omega)
      cases h4 : decL (n / 10) with
      | nil => exact absurd h4 (decL_ne _)
      | cons c l => rw [h4] at h3; simpa using h3
def isD (c : UInt8) : Bool := decide (48 ≤ c.toNat ∧ c.toNat ≤ 57)
theorem decL_dig : ∀ (n : Nat), ∀ c ∈ decL n, isD c = true := by
  intro n
  induction n using Nat.strongRecOn with
  | _ n ih =>
    have key : ∀ m : Nat, m < 10 → isD (digD m) = true := fun m hm => by
      unfold isD; rw [digD_nat hm]; exact decide_eq_true (by omega)
    rcases Nat.lt_or_ge n 10 with h2 | h2
    · rw [decL_small h2]; intro c hc; simp at hc; subst hc; exact key n h2
    · rw [decL_step h2]; intro c hc
      rcases List.mem_append.1 hc with hc | hc
      · exact ih _ (by omega) c hc
      · simp at hc; subst hc; exact key _ (by omega)

/-- The number that digits say. -/
def valD : List UInt8 → Nat → Option Nat
  | [], n => some n
  | c :: l, n => if isD c = true then valD l (10 * n + (c.toNat - 48)) else none
theorem valD_app : ∀ (l : List UInt8) (c : UInt8) (n : Nat), valD (l ++ [c]) n = (valD l n).bind fun m => if isD c = true then some (10 * m + (c.toNat - 48)) else none
  | [], c, n => by simp [valD]
  | d :: l, c, n => by
    rw [List.cons_append, valD, valD]
    split
    · exact valD_app l c _
    · rfl
theorem valD_dec (n : Nat) : valD (decL n) 0 = some n := by
  induction n using Nat.strongRecOn with
  | _ n ih =>
    have key : ∀ m : Nat, m < 10 → isD (digD m) = true := fun m hm => by
      unfold isD; rw [digD_nat hm]; exact decide_eq_true (by omega)
    rcases Nat.lt_or_ge n 10 with h2 | h2
    · rw [decL_small h2, valD, if_pos (key n h2), valD, digD_nat h2]; simp
    · rw [decL_step h2, valD_app, ih _ (by omega), Option.bind_some, if_pos (key _ (by omega)), digD_nat (by omega)]
      congr 1; omega
theorem digD_of {c : UInt8} (h : isD c = true) : c = digD (c.toNat - 48) := by
  have h2 : 48 ≤ c.toNat ∧ c.toNat ≤ 57 := of_decide_eq_true h
  refine UInt8.toNat_inj.1 ?_
  rw [digD_nat (by omega)]; omega
theorem valD_can : ∀ (k : Nat) (l : List UInt8) (n : Nat), l.length = k → l ≠ [] → (1 < l.length → l.getD 0 0 ≠ 48) → valD l 0 = some n → l = decL n
  | 0, l, n, hk, hne, _, _ => absurd (List.eq_nil_of_length_eq_zero hk) hne
  | k + 1, l, n, hk, hne, hz, hv => by
    rcases List.eq_nil_or_concat l with rfl | ⟨l', c, rfl⟩
    · exact absurd rfl hne
    · rw [List.concat_eq_append] at *
      rw [valD_app] at hv
      obtain ⟨m, hm, hv2⟩ := Option.bind_eq_some_iff.1 hv
      split at hv2
      · rename_i hc
        obtain rfl := Option.some.inj hv2
        have hd : c.toNat - 48 < 10 := by have : 48 ≤ c.toNat ∧ c.toNat ≤ 57 := of_decide_eq_true hc; omega
        cases l' with
        | nil =>
          obtain rfl := Option.some.inj hm
          rw [decL_small (by omega)]
          simp only [Nat.mul_zero, Nat.zero_add, List.nil_append]
          rw [← digD_of hc]
        | cons d l' =>
          have h1 := valD_can k (d :: l') m (by simpa using hk) (by simp) (fun _ => by have := hz (by simp); simpa using this) hm
          have hm0 : m ≠ 0 := by
            rintro rfl
            rw [decL_small (by omega)] at h1
            have := hz (by simp)
            rw [h1] at this
            exact this rfl
          rw [decL_push (by omega) hd, ← h1, ← digD_of hc]
      · cases hv2
theorem valD_lt : ∀ (l : List UInt8) (m n : Nat), valD l m = some n → n < (m + 1) * 10 ^ l.length
  | [], m, n, h => by obtain rfl := Option.some.inj h; simp
  | c :: l, m, n, h => by
    unfold valD at h
    split at h
    · rename_i hc
      have h2 : 48 ≤ c.toNat ∧ c.toNat ≤ 57 := of_decide_eq_true hc
      have h3 := valD_lt l _ _ h
      refine Nat.lt_of_lt_of_le h3 ?_
      rw [List.length_cons, Nat.pow_succ, Nat.mul_comm (10 ^ l.length) 10, ← Nat.mul_assoc]
      exact Nat.mul_le_mul_right _ (by omega)
    · cases h

/-- A number before the byte c: it, and what follows. -/
def numV (s : ByteArray) (c : UInt8) : Option (Nat × ByteArray) :=
  if Lib.indexByte (bl s) c < 1 ∨ 6 < Lib.indexByte (bl s) c ∨ 1 < Lib.indexByte (bl s) c ∧ (bl s).getD 0 0 = 48 then none
  else (valD ((bl s).take (Lib.indexByte (bl s) c).toNat) 0).map fun n => (n, s.extract ((Lib.indexByte (bl s) c).toNat + 1) s.size)
theorem num_fwd {n : Nat} {c : UInt8} (r : ByteArray) {s : ByteArray} (hn : n < 1000000) (hc : isD c = false) (hs : bl s = decL n ++ c :: bl r) : numV s c = some (n, r) := by
  have hno : c ∉ decL n := fun h => by rw [decL_dig n c h] at hc; cases hc
  have hi : Lib.indexByte (bl s) c = ((decL n).length : Nat) := by rw [hs]; exact idx_of hno
  have h1 := decL_len n 5 hn
  have h2 := List.length_pos_iff.2 (decL_ne n)
  have hsz : s.size = (decL n).length + 1 + r.size := by rw [← bl_len, hs]; simp [bl_len]; omega
  unfold numV
  rw [if_neg, hi, Int.toNat_natCast, hs, List.take_left' rfl, valD_dec]
  · show some (n, _) = _
    congr 2
    refine bl_inj ?_
    rw [bl_extract, List.take_of_length_le (by rw [bl_len]; omega), hs, show decL n ++ c :: bl r = (decL n ++ [c]) ++ bl r by simp, List.drop_left' (by simp)]
  · rw [hi]
    rintro (h | h | ⟨h, h3⟩)
    · omega
    · omega
    · by_cases h0 : n = 0
      · subst h0; rw [decL_small (by omega)] at h; simp at h
      · refine decL_head n h0 ?_
        rw [hs] at h3
        cases h4 : decL n with
        | nil => exact absurd h4 (decL_ne _)
        | cons d l => rw [h4] at h3; simpa using h3
theorem num_back {n : Nat} {c : UInt8} {r s : ByteArray} (h : numV s c = some (n, r)) : bl s = decL n ++ c :: bl r ∧ n < 1000000 := by
  unfold numV at h
  split at h
  · cases h
  · rename_i hk
    obtain ⟨m, hm, he⟩ := Option.map_eq_some_iff.1 h
    obtain ⟨rfl, rfl⟩ := Prod.mk.inj he
    obtain ⟨k, hi⟩ : ∃ k : Nat, Lib.indexByte (bl s) c = k := ⟨(Lib.indexByte (bl s) c).toNat, by omega⟩
    obtain ⟨h1, h2, h3⟩ := idx_parts hi
    rw [hi, Int.toNat_natCast] at hm ⊢
    have h4 : (bl s).take k = bl (s.extract 0 k) := by rw [bl_extract, List.drop_zero]
    have hl : ((bl s).take k).length = k := by rw [List.length_take, bl_len]; omega
    have h5 := valD_can k _ m hl (by intro e; rw [e] at hl; simp at hl; omega) (fun h6 h7 => hk (.inr (.inr ⟨by omega, by
      rw [List.getD_eq_getElem?_getD, List.getElem?_take_of_lt (by omega), ← List.getD_eq_getElem?_getD] at h7; exact h7⟩))) hm
    have h6 := valD_lt _ _ _ hm
    rw [hl] at h6
    refine ⟨by rw [← h5, h4]; exact h2, ?_⟩
    have h7 : 10 ^ k ≤ 10 ^ 6 := Nat.pow_le_pow_right (by omega) (by omega)
    omega
end Go.Proofs.YtdddebheolmldaaDoorA
