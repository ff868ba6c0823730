/- Numbers, points and tubes, in plain words. -/
import Derived.Test.YtaegeaajhbfkgaaGreatDoorFlt
import Derived.Test.YtaegeaajhbfkgaaGreatDoorStr2
import Derived.Test.YtaegeaajhbfkgaaGreatDoorFrC
namespace Go.Proofs.YtaegeaajhbfkgaaGreatDoorA
open Go
set_option linter.unusedVariables false
set_option linter.unusedSimpArgs false
set_option linter.unnecessarySimpa false
def divD (a b : Int) : Int := a / b
def divU (a b : Int) : Int := if a % b = 0 then a / b else a / b + 1
theorem tmod_zero {a b : Int} : a.tmod b = 0 ↔ a % b = 0 := by
  constructor
  · intro h; exact Int.emod_eq_zero_of_dvd (Int.dvd_of_tmod_eq_zero h)
  · intro h; exact Int.tmod_eq_zero_of_dvd (Int.dvd_of_emod_eq_zero h)
theorem divD_tr {a b : Int} (hb : 0 < b) : (a.tmod b ≠ 0 ∧ a < 0 → divD a b = a.tdiv b - 1) ∧ (¬ (a.tmod b ≠ 0 ∧ a < 0) → divD a b = a.tdiv b) := by
  have h := Int.tdiv_eq_ediv (a := a) (b := b)
  have hs : b.sign = 1 := Int.sign_eq_one_of_pos hb
  unfold divD
  constructor
  · rintro ⟨h1, h2⟩
    rw [if_neg, hs] at h
    · omega
    · rintro (h3 | h3)
      · omega
      · exact h1 (Int.tmod_eq_zero_of_dvd h3)
  · intro h1
    rw [if_pos] at h
    · omega
    · by_cases h2 : 0 ≤ a
      · exact .inl h2
      · refine .inr (Int.dvd_of_tmod_eq_zero ?_)
        exact Classical.byContradiction fun h3 => h1 ⟨h3, by omega⟩
theorem divD_mag {a b : Int} (hb : 0 < b) : (0 ≤ a → 0 ≤ divD a b ∧ divD a b ≤ a) ∧ (a < 0 → a ≤ divD a b ∧ divD a b < 0) := by
  unfold divD
  refine ⟨fun h => ⟨Int.ediv_nonneg h (by omega), Int.ediv_le_self b h⟩, fun h => ⟨(Int.le_ediv_iff_mul_le hb).2 ?_, Int.ediv_neg_of_neg_of_pos h hb⟩⟩
  have := Int.mul_le_mul_of_nonpos_left (show a ≤ 0 by omega) (show 1 ≤ b by omega)
  omega
theorem div_wr {a b : Int} (hb : 0 < b) (h0 : -9223372036854775807 ≤ a) (h1 : a ≤ 9223372036854775807) :
    IntKind.i64.wrap (a.tdiv b) = a.tdiv b ∧ (a.tmod b ≠ 0 ∧ a < 0 → IntKind.i64.wrap (a.tdiv b - 1) = a.tdiv b - 1) := by
  obtain ⟨t1, t2⟩ := divD_tr (a := a) hb
  obtain ⟨m1, m2⟩ := divD_mag (a := a) hb
  by_cases h : a.tmod b ≠ 0 ∧ a < 0
  · have e := t1 h
    have m := m2 h.2
    exact ⟨wi64 (by omega) (by omega), fun _ => wi64 (by omega) (by omega)⟩
  · have e := t2 h
    refine ⟨?_, fun hh => absurd hh h⟩
    rcases (show 0 ≤ a ∨ a < 0 by omega) with h2 | h2
    · have := m1 h2; exact wi64 (by omega) (by omega)
    · have := m2 h2; exact wi64 (by omega) (by omega)
def isq (n : Nat) : Nat := Ieee.Datum.rootFrom n (n.log2 / 2 + 1) 0
theorem isq_spec (n : Nat) : isq n * isq n ≤ n ∧ n < (isq n + 1) * (isq n + 1) := by
  refine rootFrom_spec n _ 0 (by omega) ?_
  rw [Nat.zero_add, ← Nat.pow_add]
  by_cases h : n = 0
  · subst h; exact Nat.two_pow_pos _
  · exact Nat.lt_of_lt_of_le (log2_bd h).2 (Nat.pow_le_pow_right (by omega) (by omega))
theorem isq_uniq {n r : Nat} (h1 : r * r ≤ n) (h2 : n < (r + 1) * (r + 1)) : isq n = r := by
  obtain ⟨s1, s2⟩ := isq_spec n
  have a := sq_lt (Nat.lt_of_le_of_lt h1 s2)
  have b := sq_lt (Nat.lt_of_le_of_lt s1 h2)
  omega
def rootI (n : Int) : Int := (isq n.toNat : Nat)
theorem rootI_spec {n : Int} (h : 0 ≤ n) : 0 ≤ rootI n ∧ rootI n * rootI n ≤ n ∧ n < (rootI n + 1) * (rootI n + 1) := by
  obtain ⟨m, rfl⟩ : ∃ m : Nat, n = m := ⟨n.toNat, by omega⟩
  obtain ⟨s1, s2⟩ := isq_spec m
  unfold rootI
  rw [Int.toNat_natCast]
  exact ⟨by omega, by exact_mod_cast s1, by exact_mod_cast s2⟩
theorem rootI_uniq {n r : Int} (h0 : 0 ≤ r) (h1 : r * r ≤ n) (h2 : n < (r + 1) * (r + 1)) : rootI n = r := by
  obtain ⟨m, rfl⟩ : ∃ m : Nat, r = m := ⟨r.toNat, by omega⟩
  have hn : 0 ≤ n := Int.le_trans (Int.mul_nonneg h0 h0) h1
  obtain ⟨k, rfl⟩ : ∃ k : Nat, n = k := ⟨n.toNat, by omega⟩
  unfold rootI
  rw [Int.toNat_natCast, isq_uniq (r := m) (by exact_mod_cast h1) (by exact_mod_cast h2)]
structure Nd where
  t : Int
  x : Int
  y : Int
  h : Int
  r : Int
  b : Int
instance : Inhabited Nd := ⟨⟨0, 0, 0, 0, 0, 0⟩⟩
def Nd.zero : Nd := ⟨0, 0, 0, 0, 0, 0⟩
def Nd.enc (n : Nd) : List D := [.int .i64 n.t, .int .i64 n.x, .int .i64 n.y, .int .i64 n.h, .int .i64 n.r, .int .i64 n.b]
theorem Nd.ext2 {m n : Nd} (h1 : m.t = n.t) (h2 : m.x = n.x) (h3 : m.y = n.y) (h4 : m.h = n.h) (h5 : m.r = n.r) (h6 : m.b = n.b) : m = n := by
  cases m; cases n; cases h1; cases h2; cases h3; cases h4; cases h5; cases h6; rfl
instance : DecidableEq Nd := fun m n => if h : m.t = n.t ∧ m.x = n.x ∧ m.y = n.y ∧ m.h = n.h ∧ m.r = n.r ∧ m.b = n.b then .isTrue (Nd.ext2 h.1 h.2.1 h.2.2.1 h.2.2.2.1 h.2.2.2.2.1 h.2.2.2.2.2) else .isFalse fun e => h (by subst e; exact ⟨rfl, rfl, rfl, rfl, rfl, rfl⟩)
def tuD (l : List Nd) : D := .sl 6 (l.map Nd.enc)
def planeC (x y : Int) : Int := if x < -1000000 ∨ 1000000 < x ∨ y < -1000000 ∨ 1000000 < y then 4 else 0
def badT (p : Option Int) (n : Nd) : Prop := n.t < 0 ∨ 200000 < n.t ∨ ∃ q, p = some q ∧ n.t ≤ q
def badR (n : Nd) : Prop := n.h < 0 ∨ 60000 < n.h ∨ n.r < 0 ∨ 1000000 < n.r ∨ n.b < 0 ∨ 60000 < n.b
instance (p : Option Int) (n : Nd) : Decidable (badT p n) := by
  unfold badT
  cases p with
  | none => exact decidable_of_iff (n.t < 0 ∨ 200000 < n.t) ⟨fun h => h.elim .inl fun h => .inr (.inl h), fun h => h.elim .inl fun h => h.elim .inr fun ⟨q, h, _⟩ => by cases h⟩
  | some q => exact decidable_of_iff (n.t < 0 ∨ 200000 < n.t ∨ n.t ≤ q) ⟨fun h => h.elim .inl fun h => h.elim (fun h => .inr (.inl h)) fun h => .inr (.inr ⟨q, rfl, h⟩), fun h => h.elim .inl fun h => h.elim (fun h => .inr (.inl h)) fun ⟨q, h, h2⟩ => by cases h; exact .inr (.inr h2)⟩
instance (n : Nd) : Decidable (badR n) := by unfold badR; exact inferInstance
def ndC (p : Option Int) (n : Nd) : Int := if badT p n then 12 else if planeC n.x n.y ≠ 0 then planeC n.x n.y else if badR n then 4 else 0
def tcF : Option Int → List Nd → Int
  | _, [] => 0
  | p, n :: l => if ndC p n ≠ 0 then ndC p n else tcF (some n.t) l
def tubeC (l : List Nd) : Int := if 64 < l.length then 2 else if l.length = 0 then 3 else tcF none l
structure NdOk (n : Nd) : Prop where
  t0 : 0 ≤ n.t
  t1 : n.t ≤ 200000
  x0 : -1000000 ≤ n.x
  x1 : n.x ≤ 1000000
  y0 : -1000000 ≤ n.y
  y1 : n.y ≤ 1000000
  h0 : 0 ≤ n.h
  h1 : n.h ≤ 60000
  r0 : 0 ≤ n.r
  r1 : n.r ≤ 1000000
  b0 : 0 ≤ n.b
  b1 : n.b ≤ 60000
theorem planeC_zero {x y : Int} : planeC x y = 0 ↔ (-1000000 ≤ x ∧ x ≤ 1000000) ∧ -1000000 ≤ y ∧ y ≤ 1000000 := by unfold planeC; split <;> omega
theorem ndC_zero {p : Option Int} {n : Nd} : ndC p n = 0 ↔ NdOk n ∧ ∀ q, p = some q → q < n.t := by
  unfold ndC
  constructor
  · intro h
    split at h
    · omega
    · rename_i h1
      split at h
      · exact absurd h (by assumption)
      · rename_i h2
        have h2' := planeC_zero.1 (Classical.not_not.1 h2)
        split at h
        · omega
        · rename_i h3
          unfold badT at h1
          unfold badR at h3
          exact ⟨⟨by omega, by omega, h2'.1.1, h2'.1.2, h2'.2.1, h2'.2.2, by omega, by omega, by omega, by omega, by omega, by omega⟩, fun q hq => by
            have : ¬ n.t ≤ q := fun hh => h1 (.inr (.inr ⟨q, hq, hh⟩))
            omega⟩
  · rintro ⟨o, hq⟩
    rw [if_neg, if_neg (Classical.not_not.2 (planeC_zero.2 ⟨⟨o.x0, o.x1⟩, o.y0, o.y1⟩)), if_neg]
    · unfold badR; have := o.h0; have := o.h1; have := o.r0; have := o.r1; have := o.b0; have := o.b1; omega
    · unfold badT
      rintro (h | h | ⟨q, hq1, h⟩)
      · have := o.t0; omega
      · have := o.t1; omega
      · have := hq q hq1; omega
inductive IncF : Option Int → List Nd → Prop
  | nil (p) : IncF p []
  | cons {p n l} (o : NdOk n) (hq : ∀ q, p = some q → q < n.t) (h : IncF (some n.t) l) : IncF p (n :: l)
theorem tcF_zero : ∀ {p : Option Int} {l : List Nd}, tcF p l = 0 ↔ IncF p l
  | p, [] => ⟨fun _ => .nil p, fun _ => rfl⟩
  | p, n :: l => by
    unfold tcF
    constructor
    · intro h
      split at h
      · exact absurd h (by assumption)
      · rename_i h1
        obtain ⟨a, b⟩ := ndC_zero.1 (Classical.not_not.1 h1)
        exact .cons a b (tcF_zero.1 h)
    · intro h
      cases h with
      | cons o hq h => rw [if_neg (Classical.not_not.2 (ndC_zero.2 ⟨o, hq⟩))]; exact tcF_zero.2 h
structure TuOk (l : List Nd) : Prop where
  len : l.length ≤ 64
  ne : l ≠ []
  inc : IncF none l
theorem tubeC_zero {l : List Nd} : tubeC l = 0 ↔ TuOk l := by
  unfold tubeC
  constructor
  · intro h
    split at h
    · omega
    · split at h
      · omega
      · exact ⟨by omega, by rintro rfl; simp at *, tcF_zero.1 h⟩
  · rintro ⟨h1, h2, h3⟩
    rw [if_neg (by omega), if_neg (by intro h; exact h2 (List.eq_nil_of_length_eq_zero h))]
    exact tcF_zero.2 h3
theorem IncF.mem {p : Option Int} {l : List Nd} (h : IncF p l) : ∀ n ∈ l, NdOk n ∧ ∀ q, p = some q → q < n.t := by
  induction h with
  | nil => simp
  | @cons p n l o hq h ih =>
    intro m hm
    rcases List.mem_cons.1 hm with rfl | hm
    · exact ⟨o, hq⟩
    · obtain ⟨a, b⟩ := ih m hm
      exact ⟨a, fun q hp => Int.lt_trans (hq q hp) (b n.t rfl)⟩
theorem IncF.lt {p : Option Int} {l : List Nd} (h : IncF p l) : ∀ (i j : Nat) (m n : Nd), i < j → l[i]? = some m → l[j]? = some n → m.t < n.t := by
  induction h with
  | nil => intro i j m n _ hi; simp at hi
  | @cons p a l o hq h ih =>
    intro i j m n hij hi hj
    cases j with
    | zero => omega
    | succ j =>
      simp only [List.getElem?_cons_succ] at hj
      cases i with
      | zero =>
        simp only [List.getElem?_cons_zero, Option.some.injEq] at hi
        subst hi
        exact (h.mem n (List.mem_of_getElem? hj)).2 _ rfl
      | succ i => exact ih i j m n (by omega) (by simpa using hi) hj
theorem TuOk.mem {l : List Nd} (h : TuOk l) {n : Nd} (hn : n ∈ l) : NdOk n := (h.inc.mem n hn).1
def hdT (l : List Nd) : Int := (l.headD Nd.zero).t
def laT (l : List Nd) : Int := (l.getLastD Nd.zero).t
def mid (a b : Nd) (t : Int) : Nd :=
  ⟨t, a.x + divD ((b.x - a.x) * (t - a.t)) (b.t - a.t), a.y + divD ((b.y - a.y) * (t - a.t)) (b.t - a.t), a.h + divD ((b.h - a.h) * (t - a.t)) (b.t - a.t),
   a.r + divU ((b.r - a.r) * (t - a.t)) (b.t - a.t), a.b + divU ((b.b - a.b) * (t - a.t)) (b.t - a.t)⟩
def seg : List Nd → Int → Nd
  | [], _ => Nd.zero
  | [a], _ => a
  | a :: b :: l, t => if b.t ≤ t then seg (b :: l) t else if a.t = t then a else mid a b t
def atE (l : List Nd) (t : Int) : Int := if t < hdT l ∨ laT l < t then 12 else 0
def atN (l : List Nd) (t : Int) : Nd := if atE l t ≠ 0 then Nd.zero else seg l t
def AtE (l : List Nd) (t : Int) : Int := if tubeC l ≠ 0 then tubeC l else atE l t
def AtN (l : List Nd) (t : Int) : Nd := if AtE l t ≠ 0 then Nd.zero else seg l t
theorem divD_bd {c n d : Int} (h0 : 0 ≤ n) (h1 : n ≤ d) (hd : 0 < d) {lo hi : Int} (hlo : lo ≤ 0) (hhi : 0 ≤ hi) (c0 : lo ≤ c) (c1 : c ≤ hi) : lo ≤ divD (c * n) d ∧ divD (c * n) d ≤ hi := by
  unfold divD
  have e1 : lo * d ≤ c * n := by
    rcases Int.le_total 0 c with h | h
    · exact Int.le_trans (Int.mul_nonpos_of_nonpos_of_nonneg hlo (by omega)) (Int.mul_nonneg h h0)
    · have a := Int.mul_le_mul_of_nonneg_right c0 (show 0 ≤ d by omega)
      have b := Int.mul_le_mul_of_nonpos_left h h1
      omega
  have e2 : c * n ≤ hi * d := by
    rcases Int.le_total 0 c with h | h
    · exact Int.le_trans (Int.mul_le_mul_of_nonneg_left h1 h) (Int.mul_le_mul_of_nonneg_right c1 (by omega))
    · exact Int.le_trans (Int.mul_nonpos_of_nonpos_of_nonneg h h0) (Int.mul_nonneg hhi (by omega))
  exact ⟨(Int.le_ediv_iff_mul_le hd).2 e1, Int.ediv_le_of_le_mul hd e2⟩
end Go.Proofs.YtaegeaajhbfkgaaGreatDoorA

