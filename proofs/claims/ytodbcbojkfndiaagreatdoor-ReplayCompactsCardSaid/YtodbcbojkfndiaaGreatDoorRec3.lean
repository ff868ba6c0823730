/- Logs: adding, and recovering from bytes. -/
import Derived.Test.YtodbcbojkfndiaaGreatDoorRec2
namespace Go.Proofs.YtodbcbojkfndiaaGreatDoorA
open Go
set_option linter.unusedVariables false
set_option linter.unusedSimpArgs false
set_option linter.unnecessarySimpa false

def bytesL (l : List EN) : List UInt8 := (l.map encB).flatten
theorem bytesL_app (a b : List EN) : bytesL (a ++ b) = bytesL a ++ bytesL b := by simp [bytesL]
theorem bytesL_cons (e : EN) (l : List EN) : bytesL (e :: l) = encB e ++ bytesL l := by simp [bytesL]
theorem bytesL_one (e : EN) : bytesL [e] = encB e := by simp [bytesL]
/-- A log: numbers from n + 1 on, times that do not decrease. -/
def lateP (p : Option Int) (t : Int) : Prop := ∀ q, p = some q → q ≤ t
def lastT (l : List EN) : Option Int := l.getLast?.map EN.tm
structure Okl (l : List EN) : Prop where
  ok : ∀ e ∈ l, OkN e
  num : ∀ (k : Nat) (e : EN), l[k]? = some e → e.num = k + 1
  tm : ∀ (k : Nat) (e f : EN), l[k]? = some e → l[k + 1]? = some f → e.tm ≤ f.tm
theorem Okl.nil : Okl [] := ⟨by simp, by simp, by simp⟩
theorem lastT_app (l : List EN) (e : EN) : lastT (l ++ [e]) = some e.tm := by simp [lastT]
theorem last_at {l : List EN} {e : EN} {k : Nat} (h : l[k]? = some e) (hk : k + 1 = l.length) : lastT l = some e.tm := by
  unfold lastT
  rw [List.getLast?_eq_getElem?, show l.length - 1 = k by omega, h]; rfl
theorem Okl.push {l : List EN} (h : Okl l) {e : EN} (ok : OkN e) (hn : e.num = l.length + 1) (ht : lateP (lastT l) e.tm) : Okl (l ++ [e]) := by
  refine ⟨fun x hx => ?_, fun k x hx => ?_, fun k x y hx hy => ?_⟩
  · rcases List.mem_append.1 hx with hx | hx
    · exact h.ok x hx
    · simp at hx; subst hx; exact ok
  · rcases Nat.lt_trichotomy k l.length with h1 | h1 | h1
    · rw [List.getElem?_append_left h1] at hx; exact h.num k x hx
    · subst h1; simp at hx; subst hx; exact hn
    · rw [List.getElem?_eq_none (by simp; omega)] at hx; cases hx
  · rcases Nat.lt_trichotomy (k + 1) l.length with h1 | h1 | h1
    · rw [List.getElem?_append_left (by omega)] at hx
      rw [List.getElem?_append_left h1] at hy
      exact h.tm k x y hx hy
    · rw [List.getElem?_append_left (by omega)] at hx
      rw [h1, List.getElem?_append_right (Nat.le_refl _)] at hy
      simp at hy; subst hy
      exact ht _ (last_at hx h1)
    · rw [List.getElem?_eq_none (by simp; omega)] at hy; cases hy
theorem Okl.take {l : List EN} (h : Okl l) (n : Nat) : Okl (l.take n) := by
  refine ⟨fun x hx => h.ok x (List.mem_of_mem_take hx), fun k x hx => ?_, fun k x y hx hy => ?_⟩
  · rw [List.getElem?_take] at hx; split at hx
    · exact h.num k x hx
    · cases hx
  · rw [List.getElem?_take] at hx hy
    split at hy
    · split at hx
      · exact h.tm k x y hx hy
      · cases hx
    · cases hy
theorem Okl.len {l : List EN} (h : Okl l) : l.length ≤ 500 := by
  rcases Nat.eq_zero_or_pos l.length with h0 | h0
  · omega
  · have h1 := h.num (l.length - 1) l[l.length - 1] (List.getElem?_eq_getElem (by omega))
    have h2 := (h.ok _ (List.getElem_mem (show l.length - 1 < l.length by omega))).num
    omega
theorem bytesL_len {l : List EN} (h : ∀ e ∈ l, OkN e) : (bytesL l).length ≤ 153 * l.length := by
  induction l with
  | nil => simp [bytesL]
  | cons e l ih =>
    have h1 := (enc_len (h e (by simp))).1
    have h2 := ih fun x hx => h x (by simp [hx])
    rw [bytesL_cons, List.length_append, List.length_cons]; omega

/-! ### adding -/
def newE (l : List EN) (tm : Int) (kind text : ByteArray) : EN := ⟨l.length + 1, tm, kind, text⟩
def lateB (l : List EN) (tm : Int) : Bool := match lastT l with | some t => decide (tm < t) | none => false
theorem lateB_iff {l : List EN} {tm : Int} : lateB l tm = false ↔ lateP (lastT l) tm := by
  unfold lateB lateP
  cases lastT l with
  | none => simp
  | some t => simp
def addE (l : List EN) (tm : Int) (kind text : ByteArray) : Int :=
  if l.length = 500 then 9 else if checkN (newE l tm kind text) ≠ 0 then checkN (newE l tm kind text) else if lateB l tm = true then 12 else 0
def addL (l : List EN) (tm : Int) (kind text : ByteArray) : List EN := if addE l tm kind text ≠ 0 then l else l ++ [newE l tm kind text]
theorem add_ok {l : List EN} (h : Okl l) (tm : Int) (kind text : ByteArray) : Okl (addL l tm kind text) ∧ (addL l tm kind text).length ≤ l.length + 1 := by
  unfold addL
  split
  · exact ⟨h, by omega⟩
  · rename_i h1
    have h2 : addE l tm kind text = 0 := Classical.byContradiction h1
    unfold addE at h2
    split at h2
    · omega
    · split at h2
      · omega
      · rename_i h3 h4
        split at h2
        · omega
        · rename_i h5
          exact ⟨h.push (checkN_zero.1 (by omega)) rfl (lateB_iff.1 (show lateB l tm = false from by simpa using h5)), by simp⟩

/-! ### recovering -/
def stopR (l : List EN) (s : ByteArray) : Bool := decide (decE s ≠ 0) || decide ((decX s).num ≠ l.length + 1) || lateB l (decX s).tm
theorem dropB_lt {s : ByteArray} (h : decE s = 0) : 0 < decN s ∧ decN s ≤ s.size := by
  obtain ⟨ok, h1, t, h2⟩ := dec_ok h
  have h3 := (enc_len ok).2
  have h4 : s.size = (encB (decX s)).length + t.size := by rw [← bl_len, h2]; simp [bl_len]
  omega
/-- What is recovered behind a log: the fuel is the number of bytes. -/
def recF : Nat → List EN → ByteArray → List EN
  | 0, l, _ => l
  | n + 1, l, s => if stopR l s = true then l else recF n (l ++ [decX s]) (s.extract (decN s) s.size)
def recL (s : ByteArray) : List EN := recF (s.size + 1) [] s
theorem stop_false {l : List EN} {s : ByteArray} (h : stopR l s = false) : decE s = 0 ∧ (decX s).num = l.length + 1 ∧ lateP (lastT l) (decX s).tm := by
  unfold stopR at h
  simp only [Bool.or_eq_false_iff, decide_eq_false_iff_not, Classical.not_not] at h
  exact ⟨h.1.1, h.1.2, lateB_iff.1 h.2⟩
theorem stop_of {l : List EN} {s : ByteArray} (h1 : decE s = 0) (h2 : (decX s).num = l.length + 1) (h3 : lateP (lastT l) (decX s).tm) : stopR l s = false := by
  unfold stopR
  rw [decide_eq_false (by simpa using h1), decide_eq_false (by simpa using h2), lateB_iff.2 h3]; rfl
theorem ext_len (s : ByteArray) {n : Nat} (h : n ≤ s.size) : (s.extract n s.size).size = s.size - n := (ext_split s h).2.2
/-- More fuel changes nothing. -/
theorem recF_fuel : ∀ (n m : Nat) (l : List EN) (s : ByteArray), s.size < n → s.size < m → recF n l s = recF m l s
  | 0, _, _, _, h, _ => by omega
  | _, 0, _, _, _, h => by omega
  | n + 1, m + 1, l, s, h1, h2 => by
    unfold recF
    cases hs : stopR l s with
    | true => rfl
    | false =>
      obtain ⟨h3, _⟩ := stop_false hs
      have h4 := dropB_lt h3
      rw [if_neg (by simp), if_neg (by simp)]
      exact recF_fuel n m _ _ (by rw [ext_len s h4.2]; omega) (by rw [ext_len s h4.2]; omega)
theorem rec_stop {l : List EN} {s : ByteArray} (n : Nat) (h : stopR l s = true) : recF n l s = l := by
  cases n with
  | zero => rfl
  | succ n => rw [recF, if_pos h]
/-- Whole entries at the front are recovered, one after the other. -/
theorem rec_front : ∀ (b a : List EN) (s t : ByteArray) (n : Nat), Okl (a ++ b) → s.size < n → bl s = bytesL b ++ bl t → recF n a s = recF n (a ++ b) t ∧ t.size ≤ s.size
  | [], a, s, t, n, _, hn, h => by
    have : s = t := bl_inj (by simpa [bytesL] using h)
    subst this; simp
  | e :: b, a, s, t, n, ho, hn, h => by
    have oke : OkN e := ho.ok e (by simp)
    have h1 : bl s = encB e ++ bl (bs (bytesL b ++ bl t)) := by rw [h, bytesL_cons, bl_bs]; simp
    obtain ⟨h2, h3, h4⟩ := dec_enc oke h1
    have hst : stopR a s = false := stop_of h2 (by rw [h3]; exact_mod_cast ho.num a.length e (by simp)) (by
      rw [h3]
      intro q hq
      rcases List.eq_nil_or_concat a with rfl | ⟨a', x, rfl⟩
      · simp [lastT] at hq
      · rw [List.concat_eq_append, lastT_app] at hq
        obtain rfl := Option.some.inj hq
        exact ho.tm a'.length x e (by simp) (by simp))
    have h5 := (enc_len oke).2
    have hsz : s.size = (encB e).length + (bytesL b ++ bl t).length := by rw [← bl_len, h1, List.length_append, bl_bs]
    have hx : s.extract (decN s) s.size = bs (bytesL b ++ bl t) := by
      rw [h4]
      have := (ext_of (s := s) (a := bs (encB e)) (b := bs (bytesL b ++ bl t)) (by rw [bl_bs]; exact h1)).2
      rwa [bs_size] at this
    cases n with
    | zero => omega
    | succ n =>
      have h6 := rec_front b (a ++ [e]) (bs (bytesL b ++ bl t)) t n (by simpa using ho) (by rw [bs_size]; omega) (by rw [bl_bs])
      rw [recF, if_neg (by simp [hst]), hx, h3, h6.1]
      refine ⟨?_, by have := h6.2; rw [bs_size] at this; omega⟩
      rw [show a ++ [e] ++ b = a ++ e :: b by simp]
      exact recF_fuel _ _ _ _ (by have := h6.2; rw [bs_size] at this; omega) (by have := h6.2; rw [bs_size] at this; omega)
theorem rec_keeps : ∀ (n : Nat) (l : List EN) (s : ByteArray), ∃ r, recF n l s = l ++ r
  | 0, l, s => ⟨[], by simp [recF]⟩
  | n + 1, l, s => by
    unfold recF
    split
    · exact ⟨[], by simp⟩
    · obtain ⟨r, hr⟩ := rec_keeps n (l ++ [decX s]) (s.extract (decN s) s.size)
      exact ⟨decX s :: r, by rw [hr]; simp⟩
theorem rec_ok : ∀ (n : Nat) (l : List EN) (s : ByteArray), Okl l → Okl (recF n l s)
  | 0, l, s, h => h
  | n + 1, l, s, h => by
    unfold recF
    cases hs : stopR l s with
    | true => exact h
    | false =>
      obtain ⟨h1, h2, h3⟩ := stop_false hs
      exact rec_ok n _ _ (h.push (dec_ok h1).1 h2 h3)
/-- The bytes of what is recovered lie at the front. -/
theorem rec_bytes : ∀ (n : Nat) (l : List EN) (s : ByteArray), ∃ t, bytesL l ++ bl s = bytesL (recF n l s) ++ t
  | 0, l, s => ⟨bl s, rfl⟩
  | n + 1, l, s => by
    unfold recF
    cases hs : stopR l s with
    | true => exact ⟨bl s, rfl⟩
    | false =>
      obtain ⟨h1, _⟩ := stop_false hs
      obtain ⟨ok, h2, t, h3⟩ := dec_ok h1
      have hx : s.extract (decN s) s.size = t := by
        have := (ext_of (s := s) (a := bs (encB (decX s))) (b := t) (by rw [bl_bs]; exact h3)).2
        rwa [bs_size, ← h2] at this
      obtain ⟨u, hu⟩ := rec_bytes n (l ++ [decX s]) (s.extract (decN s) s.size)
      refine ⟨u, ?_⟩
      rw [if_neg (by simp), ← hu, hx, bytesL_app, bytesL_one, h3]; simp
end Go.Proofs.YtodbcbojkfndiaaGreatDoorA
