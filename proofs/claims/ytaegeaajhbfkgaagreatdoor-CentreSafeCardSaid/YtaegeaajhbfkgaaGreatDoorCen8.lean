/- Runs of a centre. -/
import Derived.Test.YtaegeaajhbfkgaaGreatDoorCen7
namespace Go.Proofs.YtaegeaajhbfkgaaGreatDoorA
open Go
set_option linter.unusedVariables false
set_option linter.unusedSimpArgs false
set_option linter.unnecessarySimpa false
def runS (su : Su) (s : Stt) (xs : List CI) : Stt := xs.foldl (stepS su) s
def atS (su : Su) (xs : List CI) (k : Nat) : Stt := runS su Stt.zero (xs.take k)
theorem atS_zero (su : Su) (xs : List CI) : atS su xs 0 = Stt.zero := by unfold atS; rw [List.take_zero]; rfl
theorem atS_succ (su : Su) {xs : List CI} {k : Nat} {x : CI} (h : xs[k]? = some x) : atS su xs (k + 1) = stepS su (atS su xs k) x := by
  obtain ⟨h1, rfl⟩ := List.getElem?_eq_some_iff.1 h
  unfold atS runS
  rw [List.take_succ_eq_append_getElem h1, List.foldl_append]; rfl
theorem runS_ok {su : Su} : ∀ (xs : List CI) {s : Stt}, StOk su s → StOk su (runS su s xs)
  | [], s, h => h
  | x :: xs, s, h => runS_ok xs (step_keep h)
theorem atS_ok {su : Su} (h : suC su = 0) (xs : List CI) (k : Nat) : StOk su (atS su xs k) := runS_ok _ (StOk.zero (suC_zero h).2)
structure CiS (x : CI) : Prop where
  call : x.call.size ≤ 140737488351232
  by_ : x.by_.size ≤ 140737488351232
  to_ : x.to_.size ≤ 140737488351232
  tube : x.tube.length * 48 ≤ 140737488351232
def su0 : Su := ⟨100, 100, fun _ => 0⟩
def xA : CI := ⟨0, 0, ⟨#[65]⟩, ⟨#[69, 65, 83, 84]⟩, emB, [⟨0, 0, 0, 0, 1, 0⟩, ⟨9, 0, 0, 0, 1, 0⟩], 0, 0, false⟩
def xB : CI := ⟨0, 0, ⟨#[66]⟩, ⟨#[69, 65, 83, 84]⟩, emB, [⟨5, 50, 0, 0, 1, 0⟩, ⟨20, 50, 0, 0, 1, 0⟩], 0, 0, false⟩
theorem su0_ok : suC su0 = 0 := by decide +kernel
theorem fact1 : stepE su0 Stt.zero xA = 0 := by decide +kernel
theorem fact2 : stepE su0 (stepS su0 Stt.zero xA) xB = 15 := by decide +kernel
theorem fact3 : (stepS su0 (stepS su0 Stt.zero xA) xB).fl = [newL su0 [] xA] := by
  rw [stepS_no (by rw [fact2]; omega), stepS_yes (StOk.zero (suC_zero su0_ok).2) fact1]
  have e : opF su0 Stt.zero xA = fileF su0 [] [] xA := if_pos rfl
  show opF su0 Stt.zero xA = _
  rw [e, (file_yes (show fileE su0 [] [] xA = 0 by decide +kernel)).1]
  rfl
end Go.Proofs.YtaegeaajhbfkgaaGreatDoorA

