/- R.Itoa's texts. -/
import Derived.Test.YtodbcbojkfndiaaGreatDoorRec1
import Derived.Test.YtodbcbojkfndiaaGreatDoorFrC
namespace Go.Proofs.YtodbcbojkfndiaaGreatDoorA
open Go
set_option linter.unusedVariables false
def digs : ByteArray := ⟨#[48, 49, 50, 51, 52, 53, 54, 55, 56, 57]⟩
def itoaR : Nat → Nat → ByteArray → ByteArray
  | 0, _, s => s
  | f + 1, n, s => if n = 0 ∧ seq s ⟨#[]⟩ = false then s else itoaR f (n / 10) (digs.extract (n % 10) (n % 10 + 1) ++ s)
def itoaS (n : Nat) : ByteArray := itoaR (n + 1) n ⟨#[]⟩
theorem itoaR_stop (f : Nat) {n : Nat} {s : ByteArray} (h : n = 0 ∧ seq s ⟨#[]⟩ = false) : itoaR f n s = s := by
  cases f with
  | zero => rfl
  | succ f => rw [itoaR, if_pos h]
theorem dig_ne (n : Nat) (s : ByteArray) : seq (digs.extract (n % 10) (n % 10 + 1) ++ s) ⟨#[]⟩ = false := by
  cases h : seq (digs.extract (n % 10) (n % 10 + 1) ++ s) ⟨#[]⟩ with
  | false => rfl
  | true =>
    have h1 := (seq_iff _ _).1 h
    have h2 := congrArg ByteArray.size h1
    rw [ByteArray.size_append, ByteArray.size_extract] at h2
    have h3 : digs.size = 10 := rfl
    rw [h3] at h2
    have h4 : (⟨#[]⟩ : ByteArray).size = 0 := rfl
    omega
theorem itoaR_size : ∀ (f n : Nat) (s : ByteArray), s.size ≤ (itoaR f n s).size
  | 0, _, _ => Nat.le_refl _
  | f + 1, n, s => by
    rw [itoaR]
    split
    · exact Nat.le_refl _
    · refine Nat.le_trans ?_ (itoaR_size f _ _)
      rw [ByteArray.size_append]; omega
end Go.Proofs.YtodbcbojkfndiaaGreatDoorA
