/- The nodes of a tube: within bounds, at their times; tubes inside others; parts; moved tubes. -/
import Derived.Test.YtaegeaajhbfkgaaGreatDoorCen2
namespace Go.Proofs.YtaegeaajhbfkgaaGreatDoorA
open Go
set_option linter.unusedVariables false
set_option linter.unusedSimpArgs false
set_option linter.unnecessarySimpa false
theorem divU_bd {c n d : Int} (h0 : 0 ≤ n) (h1 : n ≤ d) (hd : 0 < d) {lo hi : Int} (hlo : lo ≤ 0) (hhi : 0 ≤ hi) (c0 : lo ≤ c) (c1 : c ≤ hi) : lo ≤ divU (c * n) d ∧ divU (c * n) d ≤ hi := by
  obtain ⟨a, b⟩ := divD_bd h0 h1 hd hlo hhi c0 c1
  unfold divU
  unfold divD at a b
  split
  · exact ⟨a, b⟩
  · rename_i h2
    refine ⟨by omega, ?_⟩
    rcases (show c * n / d < hi ∨ c * n / d = hi by omega) with h | h
    · omega
    · exfalso
      have e := Int.mul_ediv_add_emod (c * n) d
      have e2 := Int.emod_nonneg (c * n) (show d ≠ 0 by omega)
      have e3 : c * n ≤ hi * d := by
        rcases Int.le_total 0 c with h3 | h3
        · exact Int.le_trans (Int.mul_le_mul_of_nonneg_left h1 h3) (Int.mul_le_mul_of_nonneg_right c1 (by omega))
        · exact Int.le_trans (Int.mul_nonpos_of_nonpos_of_nonneg h3 h0) (Int.mul_nonneg hhi (by omega))
      rw [h, Int.mul_comm d hi] at e
      omega
theorem between_bd {a b n d m M : Int} (a0 : m ≤ a) (a1 : a ≤ M) (b0 : m ≤ b) (b1 : b ≤ M) (h0 : 0 ≤ n) (h1 : n ≤ d) (hd : 0 < d) :
    (m ≤ a + divD ((b - a) * n) d ∧ a + divD ((b - a) * n) d ≤ M) ∧ m ≤ a + divU ((b - a) * n) d ∧ a + divU ((b - a) * n) d ≤ M := by
  have u := divD_bd (c := b - a) h0 h1 hd (lo := m - a) (hi := M - a) (by omega) (by omega) (by omega) (by omega)
  have v := divU_bd (c := b - a) h0 h1 hd (lo := m - a) (hi := M - a) (by omega) (by omega) (by omega) (by omega)
  omega
theorem mid_ok {a b : Nd} {t : Int} (ha : NdOk a) (hb : NdOk b) (h0 : a.t ≤ t) (h1 : t ≤ b.t) (h2 : a.t < b.t) : NdOk (mid a b t) := by
  have n0 : 0 ≤ t - a.t := by omega
  have n1 : t - a.t ≤ b.t - a.t := by omega
  have d0 : 0 < b.t - a.t := by omega
  have ex := between_bd ha.x0 ha.x1 hb.x0 hb.x1 n0 n1 d0
  have ey := between_bd ha.y0 ha.y1 hb.y0 hb.y1 n0 n1 d0
  have eh := between_bd ha.h0 ha.h1 hb.h0 hb.h1 n0 n1 d0
  have er := between_bd ha.r0 ha.r1 hb.r0 hb.r1 n0 n1 d0
  have eb := between_bd ha.b0 ha.b1 hb.b0 hb.b1 n0 n1 d0
  exact ⟨by have := ha.t0; show 0 ≤ t; omega, by have := hb.t1; show t ≤ 200000; omega, ex.1.1, ex.1.2, ey.1.1, ey.1.2, eh.1.1, eh.1.2, er.2.1, er.2.2, eb.2.1, eb.2.2⟩
theorem seg_ok : ∀ {p : Option Int} {l : List Nd} {t : Int}, IncF p l → l ≠ [] → hdT l ≤ t → t ≤ laT l → NdOk (seg l t) ∧ (seg l t).t = t
  | p, [], t, _, h, _, _ => absurd rfl h
  | p, [a], t, h, _, h0, h1 => by
    cases h with
    | cons o _ _ => exact ⟨o, Int.le_antisymm h0 h1⟩
  | p, a :: b :: l, t, h, _, h0, h1 => by
    cases h with
    | cons o _ h =>
      have h' := h
      cases h' with
      | cons ob hq _ =>
        have hlt := hq _ rfl
        rw [seg]
        split
        · rename_i h2
          exact seg_ok h (by simp) h2 (by simpa [laT] using h1)
        · split
          · rename_i h3; exact ⟨o, h3⟩
          · exact ⟨mid_ok o ob h0 (by omega) hlt, rfl⟩
theorem atE_zero {l : List Nd} {t : Int} : atE l t = 0 ↔ hdT l ≤ t ∧ t ≤ laT l := by unfold atE; split <;> omega
theorem atN_ok {l : List Nd} {t : Int} (ok : TuOk l) (h : atE l t = 0) : NdOk (atN l t) ∧ (atN l t).t = t := by
  obtain ⟨a, b⟩ := atE_zero.1 h
  have := seg_ok ok.inc ok.ne a b
  unfold atN
  rw [if_neg (by omega)]; exact this
theorem AtN_eq {l : List Nd} (ok : TuOk l) (t : Int) : AtN l t = atN l t ∧ AtE l t = atE l t := by
  have h0 := tubeC_zero.2 ok
  have hE : AtE l t = atE l t := if_neg (by omega)
  exact ⟨by unfold AtN atN; rw [hE], hE⟩
theorem hd_le_la {l : List Nd} (ok : TuOk l) : hdT l ≤ laT l := by
  have h1 := hd_get ok.ne
  have h2 := la_get ok.ne
  rcases Nat.lt_or_ge 0 (l.length - 1) with h | h
  · exact Int.le_of_lt (ok.inc.lt 0 _ _ _ h h1 h2)
  · rw [show l.length - 1 = 0 by omega] at h2
    rw [h1] at h2
    have := Option.some.inj h2
    unfold hdT laT
    rw [this]; exact Int.le_refl _
theorem hd_bd {l : List Nd} (ok : TuOk l) : (0 ≤ hdT l ∧ hdT l ≤ 200000) ∧ 0 ≤ laT l ∧ laT l ≤ 200000 := by
  have a := ok.mem (List.mem_of_getElem? (hd_get ok.ne))
  have b := ok.mem (List.mem_of_getElem? (la_get ok.ne))
  exact ⟨⟨a.t0, a.t1⟩, b.t0, b.t1⟩
def cntT (l : List Nd) : Nat := (laT l - hdT l + 1).toNat
def HO.retd : HO → HO
  | .loopr σ n ps a b _ _ => .loopr σ n ps a b .done (some .ret)
  | x => x
def insD (n m : Nd) : Prop := upI (sqI n.x n.y m.x m.y) + n.r ≤ m.r ∧ max (n.h - m.h) (m.h - n.h) + n.b ≤ m.b
instance (n m : Nd) : Decidable (insD n m) := by unfold insD; exact inferInstance
def insK (a b : List Nd) (k : Nat) : Bool := decide (insD (atN a (hdT a + k)) (atN b (hdT a + k)))
def InE (a b : List Nd) : Int := if tubeC a ≠ 0 then tubeC a else tubeC b
def InB (a b : List Nd) : Bool := decide (InE a b = 0) && decide (hdT b ≤ hdT a ∧ laT a ≤ laT b) && (List.range (cntT a)).all (insK a b)
theorem InB_no {a b : List Nd} {k : Nat} (hk : k < cntT a) (h : insK a b k = false) : InB a b = false := by
  unfold InB
  have : (List.range (cntT a)).all (insK a b) = false := List.all_eq_false.2 ⟨k, by simpa using hk, by simp [h]⟩
  rw [this, Bool.and_false]
theorem InB_yes {a b : List Nd} (h0 : InE a b = 0) (h1 : hdT b ≤ hdT a ∧ laT a ≤ laT b) (h : ∀ k, k < cntT a → insK a b k = true) : InB a b = true := by
  unfold InB
  have : (List.range (cntT a)).all (insK a b) = true := List.all_eq_true.2 fun k hk => h k (by simpa using hk)
  rw [this, decide_eq_true h0, decide_eq_true h1]; rfl
def inTs (f u : Int) (n : Nd) : Bool := decide (f < n.t) && decide (n.t < u)
def CutE (l : List Nd) (f u : Int) : Int := if tubeC l ≠ 0 then tubeC l else if atE l f ≠ 0 ∨ atE l u ≠ 0 ∨ u < f then 12 else 0
def CutV (l : List Nd) (f u : Int) : List Nd := if CutE l f u ≠ 0 then [] else [atN l f] ++ l.filter (inTs f u) ++ (if f < u then [atN l u] else [])
theorem filt_take {α : Type} {l : List α} {k : Nat} {x : α} (p : α → Bool) (h : l[k]? = some x) : (l.take (k + 1)).filter p = (l.take k).filter p ++ (if p x = true then [x] else []) := by
  obtain ⟨q1, q2⟩ := List.getElem?_eq_some_iff.1 h
  rw [List.take_succ_eq_append_getElem q1, q2, List.filter_append]
  congr 1
  by_cases hp : p x = true
  · rw [if_pos hp, List.filter_cons_of_pos hp, List.filter_nil]
  · rw [if_neg hp, List.filter_cons_of_neg hp, List.filter_nil]
end Go.Proofs.YtaegeaajhbfkgaaGreatDoorA

