/- The inputs that a centre accepts. -/
import Derived.Test.YtaegeaajhbfkgaaGreatDoorCen8
namespace Go.Proofs.YtaegeaajhbfkgaaGreatDoorA
open Go
set_option linter.unusedVariables false
set_option linter.unusedSimpArgs false
set_option linter.unnecessarySimpa false
def accS (su : Su) : Stt → List CI → List CI
  | _, [] => []
  | s, x :: xs => if stepE su s x = 0 then x :: accS su (stepS su s x) xs else accS su s xs
theorem accS_app (su : Su) : ∀ (xs : List CI) (s : Stt) (x : CI), accS su s (xs ++ [x]) = accS su s xs ++ (if stepE su (runS su s xs) x = 0 then [x] else [])
  | [], s, x => by by_cases h : stepE su s x = 0 <;> simp [accS, runS, h]
  | y :: ys, s, x => by
    rw [List.cons_append, accS, accS]
    split
    · rw [accS_app su ys, List.cons_append]; rfl
    · rename_i h
      rw [accS_app su ys]
      show _ = _ ++ (if stepE su (runS su (stepS su s y) ys) x = 0 then [x] else [])
      rw [stepS_no h]
theorem accS_len (su : Su) : ∀ (xs : List CI) (s : Stt), (accS su s xs).length ≤ xs.length
  | [], s => Nat.le_refl _
  | y :: ys, s => by
    rw [accS]
    split
    · have := accS_len su ys (stepS su s y); simp; exact this
    · have := accS_len su ys s; simp; omega
theorem accS_mem (su : Su) {x : CI} : ∀ (xs : List CI) (s : Stt), x ∈ accS su s xs → x ∈ xs
  | [], s, h => h
  | y :: ys, s, h => by
    rw [accS] at h
    split at h
    · rcases List.mem_cons.1 h with rfl | h
      · simp
      · exact List.mem_cons_of_mem _ (accS_mem su ys _ h)
    · exact List.mem_cons_of_mem _ (accS_mem su ys _ h)
theorem accS_run (su : Su) : ∀ (xs : List CI) (s : Stt), runS su s (accS su s xs) = runS su s xs
  | [], s => rfl
  | y :: ys, s => by
    rw [accS]
    split
    · show runS su (stepS su s y) (accS su (stepS su s y) ys) = runS su (stepS su s y) ys
      exact accS_run su ys _
    · rename_i h
      rw [accS_run su ys s]
      show _ = runS su (stepS su s y) ys
      rw [stepS_no h]
theorem accS_ok (su : Su) : ∀ (xs : List CI) (s : Stt) (k : Nat) (x : CI), (accS su s xs)[k]? = some x → stepE su (runS su s ((accS su s xs).take k)) x = 0
  | [], s, k, x, h => by simp [accS] at h
  | y :: ys, s, k, x, h => by
    rw [accS] at h ⊢
    split at h
    · rename_i h1
      rw [if_pos h1]
      cases k with
      | zero => simp at h; subst h; exact h1
      | succ k =>
        rw [List.take_succ_cons]
        show stepE su (runS su (stepS su s y) ((accS su (stepS su s y) ys).take k)) x = 0
        exact accS_ok su ys _ k x (by simpa using h)
    · rename_i h1
      rw [if_neg h1]
      exact accS_ok su ys s k x h
def accK (su : Su) (xs : List CI) (k : Nat) : List CI := accS su Stt.zero (xs.take k)
theorem accK_succ (su : Su) {xs : List CI} {k : Nat} {x : CI} (h : xs[k]? = some x) : accK su xs (k + 1) = accK su xs k ++ (if stepE su (atS su xs k) x = 0 then [x] else []) := by
  obtain ⟨h1, rfl⟩ := List.getElem?_eq_some_iff.1 h
  unfold accK
  rw [List.take_succ_eq_append_getElem h1, accS_app]; rfl
theorem accK_len (su : Su) (xs : List CI) (k : Nat) : (accK su xs k).length ≤ k := by
  have := accS_len su (xs.take k) Stt.zero
  unfold accK
  simp at this; omega
end Go.Proofs.YtaegeaajhbfkgaaGreatDoorA

