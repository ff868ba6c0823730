/- Decimal numbers; a number before a byte. -/
import Derived.Test.YtaegeaajhbfkgaaGreatDoorStr2
namespace Go.Proofs.YtaegeaajhbfkgaaGreatDoorA
open Go
set_option linter.unusedVariables false
set_option linter.unusedSimpArgs false
set_option linter.unnecessarySimpa false
def digD (n : Nat) : UInt8 := (48 + n).toUInt8
def decR (n : Nat) : List UInt8 := if h : n < 10 then [digD n] else digD (n % 10) :: decR (n / 10)
termination_by n
decreasing_by omega
def decL (n : Nat) : List UInt8 := (decR n).reverse
theorem decR_small {n : Nat} (h : n < 10) : decR n = [digD n] := by rw [decR, dif_pos h]
theorem decR_step {n : Nat} (h : 10 ≤ n) : decR n = digD (n % 10) :: decR (n / 10) := by rw [decR, dif_neg (by omega)]
theorem decL_small {n : Nat} (h : n < 10) : decL n = [digD n] := by rw [decL, decR_small h]; rfl
theorem decL_step {n : Nat} (h : 10 ≤ n) : decL n = decL (n / 10) ++ [digD (n % 10)] := by rw [decL, decR_step h, List.reverse_cons]; rfl
theorem decL_len (n : Nat) : ∀ k, n < 10 ^ (k + 1) → (decL n).length ≤ k + 1 := by
  intro k
  induction k generalizing n with
  | zero => intro h; rw [decL_small (by simpa using h)]; simp
  | succ k ih =>
    intro h
    rcases Nat.lt_or_ge n 10 with h2 | h2
    · rw [decL_small h2]; simp
    · have := ih (n / 10) (by rw [Nat.pow_succ] at h; omega)
      rw [decL_step h2]; simp; omega
end Go.Proofs.YtaegeaajhbfkgaaGreatDoorA

