/- Texts of states: sizes, digests. -/
import Derived.Test.YtodbcbojkfndiaaGreatDoorSpec
namespace Go.Proofs.YtodbcbojkfndiaaGreatDoorA
open Go
set_option linter.unusedVariables false
set_option linter.unusedSimpArgs false
set_option linter.unnecessarySimpa false

theorem keyed_size {s : ByteArray} (h : keyedS s = true) : s.size ≤ 12 ∧ s.size ≠ 0 ∧ ∀ b ∈ bl s, keyB b = true := by
  unfold keyedS at h
  simp only [Bool.and_eq_true, Bool.not_eq_true', decide_eq_true_eq] at h
  refine ⟨by omega, fun h0 => ?_, allB_iff.1 h.1⟩
  have : s = ⟨#[]⟩ := bl_inj (List.eq_nil_of_length_eq_zero (by rw [bl_len]; exact h0))
  have h2 := h.2.1
  rw [this, seq_refl] at h2
  cases h2
theorem valued_size {s : ByteArray} (h : valuedS s = true) : s.size ≤ 40 ∧ ∀ b ∈ bl s, valB b = true := by
  unfold valuedS at h
  simp only [Bool.and_eq_true, decide_eq_true_eq] at h
  exact ⟨by omega, allB_iff.1 h.1⟩
theorem lineB_len (x : SR) : (lineB x).length = x.key.size + x.val.size + 2 := by simp [lineB, bl_len]; omega
theorem linesB_succ {l : List SR} {k : Nat} {x : SR} (h : l[k]? = some x) : linesB (l.take (k + 1)) = linesB (l.take k) ++ lineB x := by
  unfold linesB
  rw [List.take_add_one, h]
  simp
theorem linesB_len {l : List SR} (h : okS l) (k : Nat) : (linesB (l.take k)).length ≤ 54 * k := by
  induction k with
  | zero => simp [linesB]
  | succ k ih =>
    cases hx : l[k]? with
    | none =>
      have hk := List.getElem?_eq_none_iff.1 hx
      rw [List.take_of_length_le (by omega)]
      rw [List.take_of_length_le hk] at ih
      omega
    | some x =>
      rw [linesB_succ hx, List.length_append, lineB_len]
      have h2 := h.form x (List.mem_of_getElem? hx)
      have h3 := (keyed_size h2.1).1
      have h4 := (valued_size h2.2).1
      omega
theorem lineB_str (x : SR) : bl (x.key ++ ⟨#[61]⟩ ++ x.val ++ ⟨#[10]⟩) = lineB x := by
  rw [bl_app, bl_app, bl_app]
  simp [lineB]
  rfl
theorem linesB_ne {l : List SR} {k : Nat} {x : SR} (h : l[k]? = some x) : linesB (l.take (k + 1)) ≠ [] := by
  rw [linesB_succ h]
  simp [lineB]
theorem fnvF_lt (h : Nat) (c : UInt8) : fnvF h c < 18446744073709551616 := by unfold fnvF; omega
theorem fnv_lt (l : List UInt8) : fnvL l < 18446744073709551616 := by
  have key : ∀ (l : List UInt8) (h : Nat), h < 18446744073709551616 → l.foldl fnvF h < 18446744073709551616 := by
    intro l
    induction l with
    | nil => exact fun h hh => hh
    | cons c l ih => exact fun h _ => ih _ (fnvF_lt h c)
  exact key l _ (by omega)
theorem fnv_step {l : List UInt8} {k : Nat} {c : UInt8} (h : l[k]? = some c) : fnvL (l.take (k + 1)) = fnvF (fnvL (l.take k)) c := by
  unfold fnvL
  rw [List.take_add_one, h, Option.toList_some, List.foldl_append, List.foldl_cons, List.foldl_nil]
theorem fnv_mul (h : Nat) (c : UInt8) : IntKind.u64.wrap (((h ^^^ c.toNat : Nat) : Int) * 1099511628211) = ((fnvF h c : Nat) : Int) := by
  show (((h ^^^ c.toNat : Nat) : Int) * 1099511628211) % 18446744073709551616 = _
  unfold fnvF
  omega
theorem hexS_len {n : Nat} (h : n < 18446744073709551616) : (hexS n).size ≤ 16 := by
  show (bs (hexR n).reverse).size ≤ 16
  rw [bs_size, List.length_reverse]
  exact hexR_len n 15 (by show n < 18446744073709551616; exact h)
theorem setE_fact : setE [] ⟨#[97]⟩ ⟨#[120]⟩ = 0 := by decide +kernel
theorem setL_fact : setL [] ⟨#[97]⟩ ⟨#[120]⟩ = [⟨⟨#[97]⟩, ⟨#[120]⟩⟩] := by decide +kernel
theorem text_fact : textV [] = ⟨#[99, 98, 102, 50, 57, 99, 101, 52, 56, 52, 50, 50, 50, 51, 50, 53, 10]⟩ := by
  have h : hexR 14695981039346656037 = [53, 50, 51, 50, 50, 50, 52, 56, 52, 101, 99, 57, 50, 102, 98, 99] := by
    have e : ∀ n, 16 ≤ n → hexR n = digB (n % 16) :: hexR (n / 16) := fun n hn => hexR_step hn
    rw [e _ (by decide), e _ (by decide), e _ (by decide), e _ (by decide), e _ (by decide), e _ (by decide), e _ (by decide), e _ (by decide), e _ (by decide), e _ (by decide), e _ (by decide), e _ (by decide), e _ (by decide), e _ (by decide), e _ (by decide), hexR_last (by decide)]
    decide
  have h2 : fnvL (linesB []) = 14695981039346656037 := by unfold fnvL linesB; rw [List.map_nil, List.flatten_nil, List.foldl_nil]
  unfold textV
  rw [if_neg (by decide), h2]
  unfold hexS
  rw [h]
  rfl
theorem digE_zero : checkL [] = 0 := rfl
end Go.Proofs.YtodbcbojkfndiaaGreatDoorA
