/- StripBays, in plain words. -/
import Derived.Test.YtlfapbkaknikpaaDoorSt4
namespace Go.Proofs.YtlfapbkaknikpaaDoorA
open Go
set_option linter.unusedVariables false
set_option linter.unusedSimpArgs false
set_option linter.unnecessarySimpa false

def IsAll (l : List ST) : Nat → List ByteArray → Prop
  | 0, A => A = []
  | q + 1, A => ∃ A0 out, IsAll l q A0 ∧ IsBay l q out ∧ A = A0 ++ out.map ST.call
theorem below_succ (l : List ST) (h : ∀ x ∈ l, 0 ≤ x.bay) (q : Nat) :
    (l.filter fun s => decide (s.bay < ((q + 1 : Nat) : Int))).Perm ((l.filter fun s => decide (s.bay < (q : Int))) ++ l.filter fun s => decide (s.bay = (q : Int))) := by
  induction l with
  | nil => exact List.Perm.refl _
  | cons x l ih =>
    have ih := ih fun y hy => h y (by simp [hy])
    rcases Int.lt_trichotomy x.bay q with h1 | h1 | h1
    · rw [List.filter_cons_of_pos (by simp; omega), List.filter_cons_of_pos (by simpa using h1), List.filter_cons_of_neg (by simp; omega), List.cons_append]
      exact ih.cons x
    · rw [List.filter_cons_of_pos (by simp; omega), List.filter_cons_of_neg (by simp; omega), List.filter_cons_of_pos (by simpa using h1)]
      exact (ih.cons x).trans List.perm_middle.symm
    · rw [List.filter_cons_of_neg (by simp; omega), List.filter_cons_of_neg (by simp; omega), List.filter_cons_of_neg (by simp; omega)]
      exact ih
theorem all_perm {l : List ST} (h : ∀ x ∈ l, 0 ≤ x.bay) : ∀ (q : Nat) {A : List ByteArray}, IsAll l q A → A.Perm ((l.filter fun s => decide (s.bay < (q : Int))).map ST.call)
  | 0, A, hA => by
    rw [show A = [] from hA]
    have : (l.filter fun s => decide (s.bay < ((0 : Nat) : Int))) = [] := List.filter_eq_nil_iff.2 fun x hx => by have := h x hx; simp; omega
    rw [this]; exact List.Perm.refl _
  | q + 1, A, ⟨A0, out, h0, hb, e⟩ => by
    rw [e]
    refine List.Perm.trans ?_ ((below_succ l h q).map ST.call).symm
    rw [List.map_append]
    exact (all_perm h q h0).append (hb.1.map ST.call)
theorem all_four {l : List ST} (h : ∀ x ∈ l, checkS x = 0) {A : List ByteArray} (hA : IsAll l 4 A) : A.Perm (l.map ST.call) := by
  have h1 := all_perm (fun x hx => (checkS_zero (h x hx)).2.2.2.2.2.2.1) 4 hA
  have : (l.filter fun s => decide (s.bay < ((4 : Nat) : Int))) = l := List.filter_eq_self.2 fun x hx => by have := (checkS_zero (h x hx)).2.2.2.2.2.2.2; simp; omega
  rwa [this] at h1
theorem text_nl {l : List ST} (h : ∀ x ∈ l, checkS x = 0) : ∀ (q : Nat) {T : List UInt8}, IsText l q T → T.count 10 = (l.filter fun s => decide (s.bay < (q : Int))).length
  | 0, T, hT => by
    rw [show T = [] from hT]
    have : (l.filter fun s => decide (s.bay < ((0 : Nat) : Int))) = [] := List.filter_eq_nil_iff.2 fun x hx => by have := (checkS_zero (h x hx)).2.2.2.2.2.2.1; simp; omega
    rw [this]; rfl
  | q + 1, T, ⟨T0, out, h0, hb, e⟩ => by
    rw [e, List.count_append, text_nl h q h0, lines_nl out fun x hx => h x (bay_mem hb hx).1, (below_succ l (fun x hx => (checkS_zero (h x hx)).2.2.2.2.2.2.1) q).length_eq, List.length_append, hb.1.length_eq]
theorem text_four {l : List ST} (h : ∀ x ∈ l, checkS x = 0) {T : List UInt8} (hT : IsText l 4 T) : T.count 10 = l.length := by
  rw [text_nl h 4 hT]
  have : (l.filter fun s => decide (s.bay < ((4 : Nat) : Int))) = l := List.filter_eq_self.2 fun x hx => by have := (checkS_zero (h x hx)).2.2.2.2.2.2.2; simp; omega
  rw [this]
/-- Neighbours of a bay. -/
theorem bay_next {l out : List ST} {q : Nat} (u : Uni l) (hb : IsBay l q out) {k : Nat} {x y : ST} (hk : 0 < k) (hy : out[k - 1]? = some y) (hx : out[k]? = some x) : ¬ (x.tm < y.tm ∨ x.tm = y.tm ∧ cmpB x.call y.call ≤ 0) := by
  have h1 := hb.2 (k - 1) k y x (by omega) hy hx
  rw [cfS_lt] at h1
  have hnd : (out.map ST.call).Nodup := ((hb.1.map ST.call).nodup_iff).2 (((uni_calls.1 u).sublist ((List.filter_sublist).map ST.call)))
  rintro (h | ⟨h, h2⟩)
  · exact h1 (.inl h)
  · rcases Int.lt_or_eq_of_le h2 with h3 | h3
    · exact h1 (.inr ⟨h, h3⟩)
    · have := (uni_calls.2 hnd) k (k - 1) x y hx hy ((cmpB_zero _ _).1 h3)
      omega
end Go.Proofs.YtlfapbkaknikpaaDoorA
