/- Holding stacks, on plain lists. -/
import Derived.Test.YtpdeopgmgeaglaaAbs19
import Derived.Test.YtpdeopgmgeaglaaAbs9
namespace Go.Proofs.YtpdeopgmgeaglaaA
open Go
set_option linter.unusedVariables false

structure Lv where
  call : ByteArray
  h : Int
  f : Int
def Lv.enc (x : Lv) : List D := [.str x.call, .int .i64 x.h, .int .i64 x.f]
structure HSt where
  low : Int
  high : Int
  step : Int
  l : List Lv
  last : Int
def HSt.cells (s : HSt) (id : Nat) : List AV := [.d (.int .i64 s.low), .d (.int .i64 s.high), .d (.int .i64 s.step), .vs id 0 s.l.length 3, .d (.int .i64 s.last)]
def stH (b : Nat) (s : HSt) (id : Nat) (hs : Hp) : Hp := (b, .cells (s.cells id)) :: (id, .lst 3 (s.l.map Lv.enc)) :: hs

def okB (k : Nat) (c : UInt8) : Bool := (decide (65 ≤ c.toNat) && decide (c.toNat ≤ 90)) || (decide (0 < k) && decide (48 ≤ c.toNat) && decide (c.toNat ≤ 57))
def byteAt (s : ByteArray) (k : Nat) : UInt8 := s.data.toList.getD k 0
def namedS (s : ByteArray) : Bool := ((List.range s.size).all fun k => okB k (byteAt s k)) && (!seq s ⟨#[]⟩ && decide ((s.size : Int) ≤ 8))
theorem okB_iff (k : Nat) (c : UInt8) : okB k c = true ↔ (65 ≤ c.toNat ∧ c.toNat ≤ 90) ∨ (0 < k ∧ 48 ≤ c.toNat ∧ c.toNat ≤ 57) := by
  unfold okB; simp only [Bool.or_eq_true, Bool.and_eq_true, decide_eq_true_eq]; omega
theorem named_bad {s : ByteArray} {k : Nat} (hk : k < s.size) (h : okB k (byteAt s k) = false) : namedS s = false := by
  unfold namedS
  have : ((List.range s.size).all fun k => okB k (byteAt s k)) = false := List.all_eq_false.2 ⟨k, by simpa using hk, by simp [h]⟩
  rw [this]; rfl
theorem named_ok {s : ByteArray} (h : ∀ k, k < s.size → okB k (byteAt s k) = true) : namedS s = (!seq s ⟨#[]⟩ && decide ((s.size : Int) ≤ 8)) := by
  unfold namedS
  have : ((List.range s.size).all fun k => okB k (byteAt s k)) = true := List.all_eq_true.2 fun k hk => h k (by simpa using hk)
  rw [this]; rfl

def isC (c : ByteArray) (x : Lv) : Bool := seq x.call c
def findS (l : List Lv) (c : ByteArray) : Int := idxP (isC c) l
def HSt.atS (s : HSt) (t : Int) : Bool := decide (s.last ≤ t) && decide (t ≤ 200000)
def HSt.next (s : HSt) : Int := match s.l.getLast? with | some x => x.h + s.step | none => s.low
def HSt.enterE (s : HSt) (c : ByteArray) (t : Int) : Int :=
  if namedS c = false then 6 else if 0 ≤ findS s.l c then 7 else if s.atS t = false then 12 else if s.high < s.next then 9 else 0
def HSt.enterH (s : HSt) (c : ByteArray) (t : Int) : Int := if s.enterE c t = 0 then s.next else 0
def HSt.enter (s : HSt) (c : ByteArray) (t : Int) : HSt := if s.enterE c t = 0 then ⟨s.low, s.high, s.step, s.l ++ [⟨c, s.next, t⟩], t⟩ else s
def HSt.leaveE (s : HSt) (c : ByteArray) (t : Int) : Int :=
  if findS s.l c < 0 then 8 else if s.atS t = false then 12 else if 0 < findS s.l c then 11 else 0
def HSt.leaveV (s : HSt) (c : ByteArray) (t : Int) : Int := if s.leaveE c t = 0 then t - (s.l.headD ⟨⟨#[]⟩, 0, 0⟩).f else 0
def HSt.leave (s : HSt) (c : ByteArray) (t : Int) : HSt := if s.leaveE c t = 0 then ⟨s.low, s.high, s.step, s.l.drop 1, t⟩ else s
structure HSt.ok (s : HSt) : Prop where
  low : 0 ≤ s.low ∧ s.low ≤ 60000
  high : s.low ≤ s.high ∧ s.high ≤ 60000
  step : 100 ≤ s.step ∧ s.step ≤ 10000
  last : 0 ≤ s.last ∧ s.last ≤ 200000
  len : s.l.length ≤ 1000
  lv : ∀ x ∈ s.l, 0 ≤ x.h ∧ x.h ≤ 60000 ∧ 0 ≤ x.f ∧ x.f ≤ 200000
theorem HSt.next_ok {s : HSt} (h : s.ok) : 0 ≤ s.next ∧ s.next ≤ 70000 := by
  unfold HSt.next
  have h1 := h.low; have h2 := h.step
  split
  · rename_i x hx
    have := h.lv x (List.mem_of_getLast? hx)
    omega
  · omega
theorem last_at {l : List Lv} (h : l.length ≠ 0) : ∃ x, l[l.length - 1]? = some x ∧ l.getLast? = some x := by
  refine ⟨l[l.length - 1]'(by omega), List.getElem?_eq_getElem (by omega), ?_⟩
  rw [List.getLast?_eq_getElem?, List.getElem?_eq_getElem (by omega)]
theorem next_last {s : HSt} {x : Lv} (h : s.l.getLast? = some x) : s.next = x.h + s.step := by unfold HSt.next; rw [h]
theorem next_nil {s : HSt} (h : s.l.length = 0) : s.next = s.low := by
  unfold HSt.next; rw [List.eq_nil_of_length_eq_zero h]; rfl
theorem find_zero {l : List Lv} {c : ByteArray} (h : findS l c = 0) : ∃ x r, l = x :: r := by
  obtain ⟨x, hx, _⟩ := idxP_at (i := 0) h
  cases l with
  | nil => simp at hx
  | cons y r => exact ⟨y, r, rfl⟩

/-- Down, after k flights: the list, the floor, how many. -/
def dnStep (step : Int) (st : List Lv × Int × Int) (k : Nat) : List Lv × Int × Int :=
  let x := st.1.getD k ⟨⟨#[]⟩, 0, 0⟩
  if st.2.1 < x.h then (st.1.set k ⟨x.call, x.h - step, x.f⟩, x.h - step + step, st.2.2 + 1) else (st.1, x.h + step, st.2.2)
def dnK (s : HSt) : Nat → List Lv × Int × Int
  | 0 => (s.l, s.low, 0)
  | k + 1 => dnStep s.step (dnK s k) k
theorem dnK_len (s : HSt) : ∀ k, (dnK s k).1.length = s.l.length
  | 0 => rfl
  | k + 1 => by rw [dnK]; unfold dnStep; dsimp only; split <;> simp [dnK_len s k]
theorem dnK_at (s : HSt) : ∀ k j, k ≤ j → (dnK s k).1[j]? = s.l[j]?
  | 0, j, _ => rfl
  | k + 1, j, h => by
    have ih := dnK_at s k j (by omega)
    rw [dnK]; unfold dnStep; dsimp only
    split
    · rw [List.getElem?_set_ne (by omega)]; exact ih
    · exact ih
theorem dnK_bound {s : HSt} (h : s.ok) : ∀ k, k ≤ s.l.length → -20000 ≤ (dnK s k).2.1 ∧ (dnK s k).2.1 ≤ 80000 ∧ 0 ≤ (dnK s k).2.2 ∧ (dnK s k).2.2 ≤ k
  | 0, _ => by have := h.low; exact ⟨by simp only [dnK]; omega, by simp only [dnK]; omega, Int.le_refl _, Int.le_refl _⟩
  | k + 1, hk => by
    have ih := dnK_bound h k (by omega)
    have hx : (dnK s k).1[k]? = some s.l[k] := by rw [dnK_at s k k (Nat.le_refl _)]; exact List.getElem?_eq_getElem (by omega)
    have hl := h.lv s.l[k] (List.getElem_mem _)
    have hst := h.step
    rw [dnK]; unfold dnStep
    simp only [List.getD_eq_getElem?_getD, hx, Option.getD_some]
    split <;> dsimp only <;> omega
def HSt.downE (s : HSt) (t : Int) : Int := if s.atS t = false then 12 else 0
def HSt.downN (s : HSt) (t : Int) : Int := if s.atS t = false then 0 else (dnK s s.l.length).2.2
def HSt.down (s : HSt) (t : Int) : HSt := if s.atS t = false then s else ⟨s.low, s.high, s.step, (dnK s s.l.length).1, t⟩

/-! ### R.Itoa -/
def digs : ByteArray := ⟨#[48, 49, 50, 51, 52, 53, 54, 55, 56, 57]⟩
def itoaR : Nat → Nat → ByteArray → ByteArray
  | 0, _, s => s
  | f + 1, n, s => if n = 0 ∧ seq s ⟨#[]⟩ = false then s else itoaR f (n / 10) (digs.extract (n % 10) (n % 10 + 1) ++ s)
def itoaS (n : Nat) : ByteArray := itoaR (n + 1) n ⟨#[]⟩
theorem itoaR_stop (f : Nat) {n : Nat} {s : ByteArray} (h : n = 0 ∧ seq s ⟨#[]⟩ = false) : itoaR f n s = s := by
  cases f with
  | zero => rfl
  | succ f => rw [itoaR, if_pos h]
theorem dig_ne (n : Nat) (s : ByteArray) : seq (digs.extract (n % 10) (n % 10 + 1) ++ s) ⟨#[]⟩ = false := by
  cases h : seq (digs.extract (n % 10) (n % 10 + 1) ++ s) ⟨#[]⟩ with
  | false => rfl
  | true =>
    have h1 := (seq_iff _ _).1 h
    have h2 := congrArg ByteArray.size h1
    rw [ByteArray.size_append, ByteArray.size_extract] at h2
    have h3 : digs.size = 10 := rfl
    rw [h3] at h2
    have h4 : (⟨#[]⟩ : ByteArray).size = 0 := rfl
    omega
theorem itoaR_size : ∀ (f n : Nat) (s : ByteArray), s.size ≤ (itoaR f n s).size
  | 0, _, _ => Nat.le_refl _
  | f + 1, n, s => by
    rw [itoaR]
    split
    · exact Nat.le_refl _
    · refine Nat.le_trans ?_ (itoaR_size f _ _)
      rw [ByteArray.size_append]; omega
theorem itoaS_small : ∀ n, n < 30 → (itoaS n).size ≤ 8 := by decide +kernel
def fName (t : Nat) : ByteArray := ⟨#[70]⟩ ++ itoaS t

/-! ### stack -/
abbrev SK := HSt × List ByteArray × List ByteArray
def skStep (st : SK) (t : Nat) (n : Int) : SK :=
  if n < 6 then (st.1.enter (fName t) t, (if st.1.enterE (fName t) t = 0 then st.2.1 ++ [fName t] else st.2.1), st.2.2)
  else if n = 6 then (st.1.down t, st.2.1, st.2.2)
  else match st.1.l with
    | [] => st
    | x :: _ => (st.1.leave x.call t, st.2.1, if st.1.leaveE x.call t = 0 then st.2.2 ++ [x.call] else st.2.2)
def sk0 : SK := (⟨3000, 7000, 1000, [], 0⟩, [], [])
def stK (l : List Int) : Nat → SK
  | 0 => sk0
  | k + 1 => skStep (stK l k) k (cutI (l.getD k 0) 0 7)

/-- Heights: levels, from fl upwards, with gaps. -/
def chainL : Int → List Lv → Prop
  | _, [] => True
  | fl, x :: r => fl ≤ x.h ∧ x.h ≤ 7000 ∧ x.h % 1000 = 0 ∧ (0 ≤ x.f ∧ x.f ≤ 200000) ∧ chainL (x.h + 1000) r
theorem chain_mono : ∀ {l : List Lv} {a b : Int}, a ≤ b → chainL b l → chainL a l
  | [], _, _, _, _ => trivial
  | x :: r, a, b, h, ⟨h1, h2⟩ => ⟨by omega, h2⟩
theorem chain_len : ∀ {l : List Lv} {fl : Int}, chainL fl l → fl + 1000 * l.length ≤ 8000 ∨ l = []
  | [], _, _ => .inr rfl
  | x :: r, fl, ⟨h1, h2, h3, h4, h5⟩ => by
    left
    rcases chain_len h5 with h | h
    · simp only [List.length_cons]; omega
    · subst h; simp only [List.length_cons, List.length_nil]; omega
theorem chain_mem : ∀ {l : List Lv} {fl : Int}, chainL fl l → ∀ x ∈ l, fl ≤ x.h ∧ x.h ≤ 7000 ∧ x.h % 1000 = 0 ∧ 0 ≤ x.f ∧ x.f ≤ 200000
  | y :: r, fl, ⟨h1, h2, h3, h4, h5⟩, x, hx => by
    rcases List.mem_cons.1 hx with rfl | hx
    · exact ⟨h1, h2, h3, h4⟩
    · have := chain_mem h5 x hx; omega
theorem chain_append : ∀ {l : List Lv} {fl : Int} {y : Lv}, chainL fl l → (∀ x, l.getLast? = some x → x.h + 1000 ≤ y.h) → (l = [] → fl ≤ y.h) → y.h ≤ 7000 → y.h % 1000 = 0 → (0 ≤ y.f ∧ y.f ≤ 200000) → chainL fl (l ++ [y])
  | [], fl, y, _, _, h1, h2, h3, h4 => ⟨h1 rfl, h2, h3, h4, trivial⟩
  | x :: r, fl, y, ⟨a, b, c, d, e⟩, h0, _, h2, h3, h4 => by
    refine ⟨a, b, c, d, chain_append e (fun z hz => h0 z ?_) (fun hr => ?_) h2 h3 h4⟩
    · cases r with
      | nil => simp at hz
      | cons u r => rw [List.getLast?_cons_cons]; exact hz
    · subst hr; exact h0 x rfl

structure SKok (st : SK) (k : Nat) : Prop where
  par : st.1.low = 3000 ∧ st.1.high = 7000 ∧ st.1.step = 1000
  last : 0 ≤ st.1.last ∧ st.1.last ≤ k
  ch : chainL 3000 st.1.l
  ord : st.2.1 = st.2.2 ++ st.1.l.map (·.call)
  inl : st.2.1.length ≤ k
  outl : st.2.2.length ≤ k
theorem SKok.ok {st : SK} {k : Nat} (h : SKok st k) (hk : k ≤ 2000) : st.1.ok := by
  obtain ⟨⟨p1, p2, p3⟩, hl, hc, _, _, _⟩ := h
  have hn := chain_len hc
  refine ⟨by omega, by omega, by omega, by omega, ?_, fun x hx => ?_⟩
  · rcases hn with h | h
    · omega
    · rw [h]; simp
  · have := chain_mem hc x hx; omega

/-- Down, from below. -/
def dnR (step : Int) : Int → List Lv → List Lv × Int
  | _, [] => ([], 0)
  | fl, x :: r => if fl < x.h then (⟨x.call, x.h - step, x.f⟩ :: (dnR step (x.h - step + step) r).1, 1 + (dnR step (x.h - step + step) r).2) else (x :: (dnR step (x.h + step) r).1, (dnR step (x.h + step) r).2)
def goK (step : Int) (st : List Lv × Int × Int) (k : Nat) : Nat → List Lv × Int × Int
  | 0 => st
  | m + 1 => goK step (dnStep step st k) (k + 1) m
theorem goK_dnK (s : HSt) : ∀ m k, goK s.step (dnK s k) k m = dnK s (k + m)
  | 0, k => rfl
  | m + 1, k => by
    rw [goK, show dnStep s.step (dnK s k) k = dnK s (k + 1) from rfl, goK_dnK s m (k + 1)]
    congr 1; omega
theorem goK_dnR (step : Int) : ∀ (rest done : List Lv) (fl n : Int), (goK step (done ++ rest, fl, n) done.length rest.length).1 = done ++ (dnR step fl rest).1 ∧ (goK step (done ++ rest, fl, n) done.length rest.length).2.2 = n + (dnR step fl rest).2
  | [], done, fl, n => by simp [goK, dnR]
  | x :: r, done, fl, n => by
    have hx : (done ++ x :: r).getD done.length ⟨⟨#[]⟩, 0, 0⟩ = x := by simp [List.getD_eq_getElem?_getD]
    rw [List.length_cons, goK]
    unfold dnStep
    simp only [hx]
    rw [dnR]
    split
    · have hs : (done ++ x :: r).set done.length ⟨x.call, x.h - step, x.f⟩ = (done ++ [⟨x.call, x.h - step, x.f⟩]) ++ r := by simp
      have ih := goK_dnR step r (done ++ [⟨x.call, x.h - step, x.f⟩]) (x.h - step + step) (n + 1)
      rw [List.length_append, List.length_singleton] at ih
      rw [hs, ih.1, ih.2]
      exact ⟨by simp, by dsimp only; omega⟩
    · have hs : done ++ x :: r = (done ++ [x]) ++ r := by simp
      have ih := goK_dnR step r (done ++ [x]) (x.h + step) n
      rw [List.length_append, List.length_singleton] at ih
      rw [hs, ih.1, ih.2]
      exact ⟨by simp, rfl⟩
theorem dn_eq (s : HSt) : (dnK s s.l.length).1 = (dnR s.step s.low s.l).1 ∧ (dnK s s.l.length).2.2 = (dnR s.step s.low s.l).2 := by
  have h := goK_dnK s s.l.length 0
  have h2 := goK_dnR s.step s.l [] s.low 0
  rw [Nat.zero_add] at h
  rw [← h]
  simpa [dnK] using h2
theorem dnR_chain : ∀ {l : List Lv} {fl : Int}, fl % 1000 = 0 → chainL fl l → chainL fl (dnR 1000 fl l).1
  | [], _, _, _ => trivial
  | x :: r, fl, hf, ⟨h1, h2, h3, h4, h5⟩ => by
    rw [dnR]
    split
    · refine ⟨?_, ?_, ?_, h4, ?_⟩
      · dsimp only; omega
      · dsimp only; omega
      · dsimp only; omega
      · dsimp only; exact dnR_chain (by omega) (chain_mono (by omega) h5)
    · exact ⟨h1, h2, h3, h4, dnR_chain (by omega) h5⟩
theorem dnR_calls : ∀ (step : Int) (l : List Lv) (fl : Int), (dnR step fl l).1.map (·.call) = l.map (·.call)
  | _, [], _ => rfl
  | step, x :: r, fl => by
    rw [dnR]; split <;> simp [dnR_calls step r]
theorem find_head (x : Lv) (r : List Lv) : findS (x :: r) x.call = 0 := by
  have : idxP (isC x.call) (x :: r) = ((0 : Nat) : Int) := idxP_some (x := x) rfl (seq_refl _) (fun i y hi => by omega)
  exact this
theorem skStep_ok {st : SK} {k : Nat} (h : SKok st k) (hk : k ≤ 1000) (n : Int) : SKok (skStep st k n) (k + 1) := by
  obtain ⟨s, i, o⟩ := st
  have hok := h.ok (by omega)
  obtain ⟨⟨p1, p2, p3⟩, ⟨hl0, hl1⟩, hc, hord, hin, hout⟩ := h
  simp only at p1 p2 p3 hl0 hl1 hc hord hin hout hok
  unfold skStep
  dsimp only
  split
  · -- Enter
    unfold HSt.enter
    by_cases hE : s.enterE (fName k) k = 0
    · rw [if_pos hE, if_pos hE]
      have hnx : s.next ≤ 7000 ∧ s.last ≤ k := by
        have h0 := hE
        unfold HSt.enterE at h0
        split at h0
        · omega
        · split at h0
          · omega
          · split at h0
            · omega
            · rename_i ha
              have ha2 := eq_true_of_ne_false ha
              unfold HSt.atS at ha2
              simp only [Bool.and_eq_true, decide_eq_true_eq] at ha2
              split at h0
              · omega
              · omega
      have hmod : s.next % 1000 = 0 ∧ 3000 ≤ s.next := by
        unfold HSt.next
        split
        · rename_i x hx
          have := chain_mem hc x (List.mem_of_getLast? hx)
          omega
        · omega
      refine ⟨⟨p1, p2, p3⟩, by dsimp only; omega, ?_, ?_, by simp; omega, by dsimp only; omega⟩
      · refine chain_append hc (fun x hx => ?_) (fun _ => hmod.2) hnx.1 hmod.1 (by dsimp only; omega)
        rw [next_last hx]; dsimp only; omega
      · dsimp only; rw [hord]; simp
    · rw [if_neg hE, if_neg hE]
      exact ⟨⟨p1, p2, p3⟩, by dsimp only; omega, hc, hord, by dsimp only; omega, by dsimp only; omega⟩
  · split
    · -- Down
      unfold HSt.down
      split
      · exact ⟨⟨p1, p2, p3⟩, by dsimp only; omega, hc, hord, by dsimp only; omega, by dsimp only; omega⟩
      · rename_i ha
        have ha2 := eq_true_of_ne_false ha
        unfold HSt.atS at ha2
        simp only [Bool.and_eq_true, decide_eq_true_eq] at ha2
        refine ⟨⟨p1, p2, p3⟩, by dsimp only; omega, ?_, ?_, by dsimp only; omega, by dsimp only; omega⟩
        · dsimp only; rw [(dn_eq s).1, p3, p1]; exact dnR_chain (by decide) hc
        · dsimp only; rw [(dn_eq s).1, dnR_calls]; exact hord
    · split
      · exact ⟨⟨p1, p2, p3⟩, by dsimp only; omega, hc, hord, by dsimp only; omega, by dsimp only; omega⟩
      · -- Leave
        rename_i x r hxr
        unfold HSt.leave
        by_cases hE : s.leaveE x.call k = 0
        · rw [if_pos hE, if_pos hE]
          rw [hxr] at hc hord
          refine ⟨⟨p1, p2, p3⟩, by dsimp only; omega, ?_, ?_, by dsimp only; omega, ?_⟩
          · dsimp only; rw [hxr]; exact chain_mono (by have := hc.1; omega) hc.2.2.2.2
          · dsimp only; rw [hord, hxr]; simp
          · simp; omega
        · rw [if_neg hE, if_neg hE]
          exact ⟨⟨p1, p2, p3⟩, by dsimp only; omega, by dsimp only; exact hc, by dsimp only; exact hord, by dsimp only; omega, by dsimp only; omega⟩
theorem stK_ok (l : List Int) : ∀ k, k ≤ 1000 → SKok (stK l k) k
  | 0, _ => ⟨⟨rfl, rfl, rfl⟩, ⟨Int.le_refl _, Int.le_refl _⟩, trivial, rfl, Nat.le_refl _, Nat.le_refl _⟩
  | k + 1, h => skStep_ok (stK_ok l k (by omega)) (by omega) _
theorem cutI_le (n : Int) {lo hi : Int} (h : lo ≤ hi) : cutI n lo hi ≤ hi := (cutI_bounds n h).2
def nmA : ByteArray := ⟨#[65]⟩
def nmB : ByteArray := ⟨#[66]⟩
theorem waits (a t d : Int) (h1 : 0 ≤ a ∧ a ≤ 9000) (h2 : 0 ≤ t ∧ t ≤ 1000) (h3 : 0 ≤ d ∧ d ≤ 1000) :
    (⟨a, a + 1000, 500, [], 0⟩ : HSt).enterE nmA t = 0 ∧ (⟨a, a + 1000, 500, [], 0⟩ : HSt).enterH nmA t = a ∧
    (⟨a, a + 1000, 500, [⟨nmA, a, t⟩], t⟩ : HSt).enterE nmB t = 0 ∧ (⟨a, a + 1000, 500, [⟨nmA, a, t⟩], t⟩ : HSt).enterH nmB t = a + 500 ∧
    (⟨a, a + 1000, 500, [⟨nmA, a, t⟩, ⟨nmB, a + 500, t⟩], t⟩ : HSt).leaveE nmA (t + d) = 0 ∧ (⟨a, a + 1000, 500, [⟨nmA, a, t⟩, ⟨nmB, a + 500, t⟩], t⟩ : HSt).leaveV nmA (t + d) = t + d - t := by
  have nA : namedS nmA = true := by decide +kernel
  have nB : namedS nmB = true := by decide +kernel
  have sAB : seq nmA nmB = false := by decide +kernel
  have f0 : findS [] nmA = -1 := rfl
  have f1 : findS [⟨nmA, a, t⟩] nmB = -1 := idxP_none fun i y hy => by
    obtain ⟨hi, rfl⟩ := List.getElem?_eq_some_iff.1 hy
    have : i = 0 := by simpa using hi
    subst this
    exact sAB
  have f2 : findS [⟨nmA, a, t⟩, ⟨nmB, a + 500, t⟩] nmA = 0 := find_head ⟨nmA, a, t⟩ _
  have e1 : (⟨a, a + 1000, 500, [], 0⟩ : HSt).enterE nmA t = 0 := by
    unfold HSt.enterE
    rw [if_neg (by rw [nA]; decide), if_neg (by dsimp only; rw [f0]; decide), if_neg (by unfold HSt.atS; simp; omega), if_neg (by unfold HSt.next; dsimp only [List.getLast?_nil]; omega)]
  have e2 : (⟨a, a + 1000, 500, [⟨nmA, a, t⟩], t⟩ : HSt).enterE nmB t = 0 := by
    unfold HSt.enterE
    rw [if_neg (by rw [nB]; decide), if_neg (by dsimp only; rw [f1]; decide), if_neg (by unfold HSt.atS; simp; omega), if_neg (by unfold HSt.next; dsimp only [List.getLast?_singleton]; omega)]
  have e3 : (⟨a, a + 1000, 500, [⟨nmA, a, t⟩, ⟨nmB, a + 500, t⟩], t⟩ : HSt).leaveE nmA (t + d) = 0 := by
    unfold HSt.leaveE
    rw [if_neg (by dsimp only; rw [f2]; decide), if_neg (by unfold HSt.atS; simp; omega), if_neg (by dsimp only; rw [f2]; decide)]
  refine ⟨e1, ?_, e2, ?_, e3, ?_⟩
  · unfold HSt.enterH; rw [if_pos e1]; rfl
  · unfold HSt.enterH; rw [if_pos e2]; rfl
  · unfold HSt.leaveV; rw [if_pos e3]; rfl

/-- Heights are at most G above the lowest levels. -/
def bndL (G : Int) : Int → List Lv → Prop
  | _, [] => True
  | p, x :: r => x.h ≤ p + G ∧ bndL G (p + 1000) r
theorem bnd_start : ∀ {l : List Lv} {fl p : Int}, chainL fl l → 3000 ≤ p → bndL 4000 p l
  | [], _, _, _, _ => trivial
  | x :: r, fl, p, ⟨h1, h2, h3, h4, h5⟩, hp => ⟨by omega, bnd_start h5 (by omega)⟩
theorem bnd_down {G : Int} (hG : 0 ≤ G) (hm : G % 1000 = 0) : ∀ {l : List Lv} {fl p : Int}, fl % 1000 = 0 → p % 1000 = 0 → chainL p l → bndL G p l → fl ≤ p + max (G - 1000) 0 → bndL (max (G - 1000) 0) p (dnR 1000 fl l).1
  | [], _, _, _, _, _, _, _ => trivial
  | x :: r, fl, p, hf, hp, ⟨h1, h2, h3, h4, h5⟩, ⟨b1, b2⟩, hle => by
    rw [dnR]
    split
    · exact ⟨by dsimp only; omega, bnd_down hG hm (by omega) (by omega) (chain_mono (by omega) h5) b2 (by omega)⟩
    · exact ⟨by omega, bnd_down hG hm (by omega) (by omega) (chain_mono (by omega) h5) b2 (by omega)⟩
theorem bnd_zero : ∀ {l : List Lv} {p : Int}, chainL p l → bndL 0 p l → (∀ (k : Nat) x, l[k]? = some x → x.h = p + 1000 * k) ∧ (dnR 1000 p l).2 = 0
  | [], _, _, _ => ⟨fun k x h => by simp at h, rfl⟩
  | y :: r, p, ⟨h1, h2, h3, h4, h5⟩, ⟨b1, b2⟩ => by
    have hy : y.h = p := by omega
    have ih := bnd_zero (l := r) (p := p + 1000) (by rw [hy] at h5; exact h5) b2
    refine ⟨fun k x h => ?_, ?_⟩
    · cases k with
      | zero => obtain rfl := Option.some.inj h; omega
      | succ k => have := ih.1 k x (by simpa using h); omega
    · rw [dnR, if_neg (by omega)]
      dsimp only
      rw [show y.h + 1000 = p + 1000 by omega]; exact ih.2
def dwn (s : HSt) : Nat → HSt
  | 0 => s
  | j + 1 => (dwn s j).down 1000
structure DWok (s : HSt) (G : Int) : Prop where
  par : s.low = 3000 ∧ s.high = 7000 ∧ s.step = 1000
  last : 0 ≤ s.last ∧ s.last ≤ 1000
  ch : chainL 3000 s.l
  bnd : bndL G 3000 s.l
theorem DWok.ok {s : HSt} {G : Int} (h : DWok s G) : s.ok := by
  obtain ⟨⟨p1, p2, p3⟩, hl, hc, _⟩ := h
  have hn := chain_len hc
  refine ⟨by omega, by omega, by omega, by omega, ?_, fun x hx => ?_⟩
  · rcases hn with h | h
    · omega
    · rw [h]; simp
  · have := chain_mem hc x hx; omega
theorem DWok.at {s : HSt} {G : Int} (h : DWok s G) : ¬ s.atS 1000 = false := by
  have := h.last
  unfold HSt.atS
  simp; omega
theorem DWok.down {s : HSt} {G : Int} (h : DWok s G) (hG : 0 ≤ G) (hm : G % 1000 = 0) : DWok (s.down 1000) (max (G - 1000) 0) := by
  unfold HSt.down
  rw [if_neg h.at]
  obtain ⟨p1, p2, p3⟩ := h.par
  refine ⟨⟨p1, p2, p3⟩, ⟨by dsimp only; omega, by dsimp only; omega⟩, ?_, ?_⟩
  · dsimp only; rw [(dn_eq s).1, p3, p1]; exact dnR_chain (by decide) h.ch
  · dsimp only; rw [(dn_eq s).1, p3, p1]; exact bnd_down hG hm (by decide) (by decide) h.ch h.bnd (by omega)
def gJ (j : Nat) : Int := max (4000 - 1000 * j) 0
theorem dwn_ok {st : SK} {k : Nat} (h : SKok st k) (hk : k ≤ 1000) : ∀ j, DWok (dwn st.1 j) (gJ j)
  | 0 => ⟨h.par, by have := h.last; rw [dwn]; omega, h.ch, bnd_start h.ch (by decide)⟩
  | j + 1 => by
    have ih := dwn_ok h hk j
    have := ih.down (by unfold gJ; omega) (by unfold gJ; omega)
    rw [show gJ (j + 1) = max (gJ j - 1000) 0 by unfold gJ; omega]
    exact this
theorem dwn_end {st : SK} {k : Nat} (h : SKok st k) (hk : k ≤ 1000) : (∀ (i : Nat) x, (dwn st.1 6).l[i]? = some x → x.h = 3000 + 1000 * i) ∧ (dwn st.1 6).downN 1000 = 0 ∧ (dwn st.1 6).downE 1000 = 0 := by
  have h6 := dwn_ok h hk 6
  obtain ⟨p1, p2, p3⟩ := h6.par
  have h0 := bnd_zero h6.ch (show bndL 0 3000 _ from h6.bnd)
  refine ⟨h0.1, ?_, ?_⟩
  · unfold HSt.downN; rw [if_neg h6.at, (dn_eq _).2, p3, p1]; exact h0.2
  · unfold HSt.downE; rw [if_neg h6.at]
theorem st_fact : (stK [0] 1).1.l = [⟨fName 0, 3000, 0⟩] := by
  have h : (stK [0] 1).1.l.length = 1 ∧ ((stK [0] 1).1.l.headD ⟨⟨#[]⟩, 0, 0⟩).h = 3000 ∧ ((stK [0] 1).1.l.headD ⟨⟨#[]⟩, 0, 0⟩).f = 0 ∧ ((stK [0] 1).1.l.headD ⟨⟨#[]⟩, 0, 0⟩).call.data = (fName 0).data := by decide +kernel
  obtain ⟨h1, h2, h3, h4⟩ := h
  cases hl : (stK [0] 1).1.l with
  | nil => rw [hl] at h1; simp at h1
  | cons x r =>
    rw [hl] at h1 h2 h3 h4
    have : r = [] := List.eq_nil_of_length_eq_zero (by simpa using h1)
    subst this
    obtain ⟨c, a, f⟩ := x
    simp only [List.headD_cons] at h2 h3 h4
    rw [h2, h3, ByteArray.ext h4]
end Go.Proofs.YtpdeopgmgeaglaaA
