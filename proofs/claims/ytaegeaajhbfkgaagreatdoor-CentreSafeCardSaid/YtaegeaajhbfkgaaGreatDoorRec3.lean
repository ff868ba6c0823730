/- Logs: adding, and recovering from bytes. -/
import Derived.Test.YtaegeaajhbfkgaaGreatDoorRec2
namespace Go.Proofs.YtaegeaajhbfkgaaGreatDoorA
open Go
set_option linter.unusedVariables false
set_option linter.unusedSimpArgs false
set_option linter.unnecessarySimpa false
def bytesL (l : List EN) : List UInt8 := (l.map encB).flatten
theorem bytesL_app (a b : List EN) : bytesL (a ++ b) = bytesL a ++ bytesL b := by simp [bytesL]
theorem bytesL_cons (e : EN) (l : List EN) : bytesL (e :: l) = encB e ++ bytesL l := by simp [bytesL]
theorem bytesL_one (e : EN) : bytesL [e] = encB e := by simp [bytesL]
def lateP (p : Option Int) (t : Int) : Prop := ∀ q, p = some q → q ≤ t
def lastT (l : List EN) : Option Int := l.getLast?.map EN.tm
structure Okl (l : List EN) : Prop where
  ok : ∀ e ∈ l, OkN e
  num : ∀ (k : Nat) (e : EN), l[k]? = some e → e.num = k + 1
  tm : ∀ (k : Nat) (e f : EN), l[k]? = some e → l[k + 1]? = some f → e.tm ≤ f.tm
theorem Okl.nil : Okl [] := ⟨by simp, by simp, by simp⟩
theorem lastT_app (l : List EN) (e : EN) : lastT (l ++ [e]) = some e.tm := by simp [lastT]
theorem last_at {l : List EN} {e : EN} {k : Nat} (h : l[k]? = some e) (hk : k + 1 = l.length) : lastT l = some e.tm := by
  unfold lastT
  rw [List.getLast?_eq_getElem?, show l.length - 1 = k by omega, h]; rfl
theorem Okl.push {l : List EN} (h : Okl l) {e : EN} (ok : OkN e) (hn : e.num = l.length + 1) (ht : lateP (lastT l) e.tm) : Okl (l ++ [e]) := by
  refine ⟨fun x hx => ?_, fun k x hx => ?_, fun k x y hx hy => ?_⟩
  · rcases List.mem_append.1 hx with hx | hx
    · exact h.ok x hx
    · simp at hx; subst hx; exact ok
  · rcases Nat.lt_trichotomy k l.length with h1 | h1 | h1
    · rw [List.getElem?_append_left h1] at hx; exact h.num k x hx
    · subst h1; simp at hx; subst hx; exact hn
    · rw [List.getElem?_eq_none (by simp; omega)] at hx; cases hx
  · rcases Nat.lt_trichotomy (k + 1) l.length with h1 | h1 | h1
    · rw [List.getElem?_append_left (by omega)] at hx
      rw [List.getElem?_append_left h1] at hy
      exact h.tm k x y hx hy
    · rw [List.getElem?_append_left (by omega)] at hx
      rw [h1, List.getElem?_append_right (Nat.le_refl _)] at hy
      simp at hy; subst hy
      exact ht _ (last_at hx h1)
    · rw [List.getElem?_eq_none (by simp; omega)] at hy; cases hy
theorem Okl.take {l : List EN} (h : Okl l) (n : Nat) : Okl (l.take n) := by
  refine ⟨fun x hx => h.ok x (List.mem_of_mem_take hx), fun k x hx => ?_, fun k x y hx hy => ?_⟩
  · rw [List.getElem?_take] at hx; split at hx
    · exact h.num k x hx
    · cases hx
  · rw [List.getElem?_take] at hx hy
    split at hy
    · split at hx
      · exact h.tm k x y hx hy
      · cases hx
    · cases hy
theorem Okl.len {l : List EN} (h : Okl l) : l.length ≤ 500 := by
  rcases Nat.eq_zero_or_pos l.length with h0 | h0
  · omega
  · have h1 := h.num (l.length - 1) l[l.length - 1] (List.getElem?_eq_getElem (by omega))
    have h2 := (h.ok _ (List.getElem_mem (show l.length - 1 < l.length by omega))).num
    omega
theorem bytesL_len {l : List EN} (h : ∀ e ∈ l, OkN e) : (bytesL l).length ≤ 153 * l.length := by
  induction l with
  | nil => simp [bytesL]
  | cons e l ih =>
    have h1 := (enc_len (h e (by simp))).1
    have h2 := ih fun x hx => h x (by simp [hx])
    rw [bytesL_cons, List.length_append, List.length_cons]; omega
def newE (l : List EN) (tm : Int) (kind text : ByteArray) : EN := ⟨l.length + 1, tm, kind, text⟩
def lateB (l : List EN) (tm : Int) : Bool := match lastT l with | some t => decide (tm < t) | none => false
theorem lateB_iff {l : List EN} {tm : Int} : lateB l tm = false ↔ lateP (lastT l) tm := by
  unfold lateB lateP
  cases lastT l with
  | none => simp
  | some t => simp
def addE (l : List EN) (tm : Int) (kind text : ByteArray) : Int :=
  if l.length = 500 then 9 else if checkN (newE l tm kind text) ≠ 0 then checkN (newE l tm kind text) else if lateB l tm = true then 12 else 0
def addL (l : List EN) (tm : Int) (kind text : ByteArray) : List EN := if addE l tm kind text ≠ 0 then l else l ++ [newE l tm kind text]
theorem add_ok {l : List EN} (h : Okl l) (tm : Int) (kind text : ByteArray) : Okl (addL l tm kind text) ∧ (addL l tm kind text).length ≤ l.length + 1 := by
  unfold addL
  split
  · exact ⟨h, by omega⟩
  · rename_i h1
    have h2 : addE l tm kind text = 0 := Classical.byContradiction h1
    unfold addE at h2
    split at h2
    · omega
    · split at h2
      · omega
      · rename_i h3 h4
        split at h2
        · omega
        · rename_i h5
          exact ⟨h.push (checkN_zero.1 (by omega)) rfl (lateB_iff.1 (show lateB l tm = false from by simpa using h5)), by simp⟩
end Go.Proofs.YtaegeaajhbfkgaaGreatDoorA

