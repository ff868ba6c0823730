/- Lamport's numbers and the order, on plain lists. -/
import Derived.Test.YtjmadiegikbjpaaSpec
import Derived.Test.YtjmadiegikbjpaaAbs33
namespace Go.Proofs.YtjmadiegikbjpaaA
open Go
set_option linter.unusedVariables false

structure LmI (l : List Ev) (nowV : Nat → Int) (outV : List (Nat → Int)) (nowL : Nat → Int) (outL : List Int) : Prop where
  a : ∀ t : Nat, t < 8 → ∀ (i : Nat) (w : Nat → Int) (x : Ev) (n : Int), outV[i]? = some w → l[i]? = some x → outL[i]? = some n → w x.site.toNat ≤ nowV (t * 8 + x.site.toNat) → n ≤ nowL t
  b : ∀ (j : Nat) (u : Nat → Int) (m : Int), outV[j]? = some u → outL[j]? = some m → ∀ (i : Nat) (w : Nat → Int) (x : Ev) (n : Int), outV[i]? = some w → l[i]? = some x → outL[i]? = some n → w x.site.toNat ≤ u x.site.toNat → i = j ∨ n < m
theorem LmI.zero (l : List Ev) : LmI l (fun _ => 0) [] (fun _ => 0) [] := ⟨fun t _ i w x n h => by simp at h, fun j u m h => by simp at h⟩
theorem app_at {α : Type} {out : List α} {v w : α} {k j : Nat} (hlen : out.length = k) (hj : (out ++ [v])[j]? = some w) : (out[j]? = some w ∧ j < k) ∨ (j = k ∧ w = v) := by
  rw [List.getElem?_append] at hj
  split at hj
  · rename_i hlt; exact .inl ⟨hj, by omega⟩
  · rename_i hge
    have hlt := (List.getElem?_eq_some_iff.1 hj).1
    simp only [List.length_singleton] at hlt
    have hjk : j = k := by omega
    refine .inr ⟨hjk, ?_⟩
    rw [show j - out.length = 0 by omega] at hj
    exact (Option.some.inj hj).symm
theorem LmI.step {l : List Ev} {k : Nat} {x : Ev} {nowV : Nat → Int} {outV : List (Nat → Int)} {nowL : Nat → Int} {outL : List Int} (hw : WF l) (hx : l[k]? = some x) (hlV : outV.length = k) (hlL : outL.length = k) (h : VI l k nowV outV) (g : LmI l nowV outV nowL outL) :
    LmI l (updR nowV x.site.toNat (vnew nowV outV l k x)) (outV ++ [vnew nowV outV l k x]) (updF nowL x.site.toNat (lval nowL outL l k x + 1)) (outL ++ [lval nowL outL l k x + 1]) := by
  have hsb := hw.site k x hx
  have hs8 : x.site.toNat < 8 := by omega
  have hms := (h.mrg hw hx hlV).2
  have hv : ∀ s, s ≠ x.site.toNat → vnew nowV outV l k x s = vmrg nowV outV l k x s := fun s hs => updF_ne _ _ hs
  have hvs : vnew nowV outV l k x x.site.toNat = cnt l k x.site.toNat + 1 := by unfold vnew; rw [updF_same, hms]
  have hlv : nowL x.site.toNat ≤ lval nowL outL l k x := by unfold lval; split <;> omega
  have hnew : ∀ (i : Nat) (w : Nat → Int) (y : Ev) (n : Int), outV[i]? = some w → i < k → l[i]? = some y → outL[i]? = some n → w y.site.toNat ≤ vnew nowV outV l k x y.site.toNat → n ≤ lval nowL outL l k x := fun i w y n hi hik hy hn hle => by
    have hyb := hw.site i y hy
    have hy8 : y.site.toNat < 8 := by omega
    by_cases he : y.site.toNat = x.site.toNat
    · have h1 : w y.site.toNat ≤ nowV (x.site.toNat * 8 + y.site.toNat) := by
        have h2 := (h.ob i w hi y.site.toNat hy8).2
        rw [he] at h2 ⊢
        rw [h.own _ hs8]; exact h2
      exact Int.le_trans (g.a _ hs8 i w y n hi hy hn h1) hlv
    · rw [hv _ he] at hle
      by_cases h2 : x.kind = 2
      · obtain ⟨q, hq, hsq⟩ := vsrc_spec hw hx h2 hlV
        have e1 : vmrg nowV outV l k x y.site.toNat = max (vbase nowV x y.site.toNat) (vsrc outV l k x y.site.toNat) := by unfold vmrg; rw [if_pos h2]
        rw [e1] at hle
        have hqk : q < k := by have := (List.getElem?_eq_some_iff.1 hq).1; omega
        obtain ⟨m, hm⟩ : ∃ m, outL[q]? = some m := ⟨_, List.getElem?_eq_getElem (by omega)⟩
        have e2 : lval nowL outL l k x = max (nowL x.site.toNat) m := by unfold lval; rw [if_pos h2, hsq, getD_at hm]
        rcases Int.le_total (vsrc outV l k x y.site.toNat) (vbase nowV x y.site.toNat) with h3 | h3
        · have h4 : w y.site.toNat ≤ nowV (x.site.toNat * 8 + y.site.toNat) := by
            show _ ≤ vbase nowV x y.site.toNat
            omega
          exact Int.le_trans (g.a _ hs8 i w y n hi hy hn h4) hlv
        · rcases g.b q _ m hq hm i w y n hi hy hn (by omega) with h5 | h5
          · subst h5
            rw [hn] at hm; obtain rfl := Option.some.inj hm
            omega
          · omega
      · have e1 : vmrg nowV outV l k x y.site.toNat = vbase nowV x y.site.toNat := by unfold vmrg; rw [if_neg h2]
        rw [e1] at hle
        exact Int.le_trans (g.a _ hs8 i w y n hi hy hn hle) hlv
  refine ⟨fun t ht i w y n hi hy hn hle => ?_, fun j u m hj hm i w y n hi hy hn hle => ?_⟩
  · have hyb := hw.site i y hy
    have hy8 : y.site.toNat < 8 := by omega
    by_cases he : t = x.site.toNat
    · subst he
      rw [updR_in _ _ _ hy8] at hle
      rw [updF_same]
      rcases app_at hlL hn with ⟨h1, h2⟩ | ⟨h1, h2⟩
      · rcases app_at hlV hi with ⟨h3, _⟩ | ⟨h3, _⟩
        · have := hnew i w y n h3 h2 hy h1 hle; omega
        · omega
      · omega
    · rw [updR_out _ _ hy8 he] at hle
      rw [updF_ne _ _ he]
      rcases app_at hlL hn with ⟨h1, h2⟩ | ⟨h1, h2⟩
      · rcases app_at hlV hi with ⟨h3, _⟩ | ⟨h3, _⟩
        · exact g.a t ht i w y n h3 hy h1 hle
        · omega
      · rcases app_at hlV hi with ⟨h3, _⟩ | ⟨_, h3⟩
        · omega
        · subst h1
          rw [hx] at hy; obtain rfl := Option.some.inj hy
          rw [h3, hvs] at hle
          have h5 := (h.nb t x.site.toNat ht hs8).2
          omega
  · have hyb := hw.site i y hy
    have hy8 : y.site.toNat < 8 := by omega
    rcases app_at hlV hj with ⟨g1, g2⟩ | ⟨g1, g2⟩
    · rcases app_at hlL hm with ⟨g3, _⟩ | ⟨g3, _⟩
      · rcases app_at hlV hi with ⟨h1, h2⟩ | ⟨h1, h2⟩
        · rcases app_at hlL hn with ⟨h3, _⟩ | ⟨h3, _⟩
          · exact g.b j u m g1 g3 i w y n h1 hy h3 hle
          · omega
        · subst h1
          rw [hx] at hy; obtain rfl := Option.some.inj hy
          rw [h2, hvs] at hle
          have h5 := (h.ob j u g1 x.site.toNat hs8).2
          omega
      · omega
    · rcases app_at hlV hi with ⟨h1, h2⟩ | ⟨h1, h2⟩
      · right
        rcases app_at hlL hn with ⟨h3, _⟩ | ⟨h3, _⟩
        · rcases app_at hlL hm with ⟨g3, g4⟩ | ⟨_, g4⟩
          · omega
          · rw [g2] at hle
            have := hnew i w y n h1 h2 hy h3 hle
            omega
        · omega
      · left; omega
theorem LmI.all {l : List Ev} (hw : WF l) : ∀ k, k ≤ l.length → LmI l (vst l k).1 (vst l k).2 (lst l k).1 (lst l k).2
  | 0, _ => LmI.zero l
  | k + 1, h => by
    obtain ⟨x, hx⟩ : ∃ x, l[k]? = some x := ⟨_, List.getElem?_eq_getElem (by omega)⟩
    rw [vst, lst, getD_at hx]
    exact (LmI.all hw k (by omega)).step hw hx (vst_len l k) (lst_len l k) (VI.all hw k (by omega))
theorem bef_lam {l : List Ev} (hw : WF l) {i k : Nat} (hi : i < l.length) (hk : k < l.length) (h : befS l i k = true) : (lamS l).getD i 0 < (lamS l).getD k 0 := by
  obtain ⟨x, hx⟩ : ∃ x, l[i]? = some x := ⟨_, List.getElem?_eq_getElem hi⟩
  obtain ⟨w, hwi⟩ : ∃ w, (vecS l)[i]? = some w := ⟨_, List.getElem?_eq_getElem (by rw [vecS_len]; exact hi)⟩
  obtain ⟨u, hu⟩ : ∃ w, (vecS l)[k]? = some w := ⟨_, List.getElem?_eq_getElem (by rw [vecS_len]; exact hk)⟩
  obtain ⟨n, hn⟩ : ∃ w, (lamS l)[i]? = some w := ⟨_, List.getElem?_eq_getElem (by rw [lamS_len]; exact hi)⟩
  obtain ⟨m, hm⟩ : ∃ w, (lamS l)[k]? = some w := ⟨_, List.getElem?_eq_getElem (by rw [lamS_len]; exact hk)⟩
  unfold befS at h
  rw [getD_at hx, getD_at hwi, getD_at hu] at h
  rw [getD_at hn, getD_at hm]
  obtain ⟨h1, h2⟩ := Bool.and_eq_true_iff.1 h
  have h3 := of_decide_eq_true h2
  rcases (LmI.all hw l.length (Nat.le_refl _)).b k u m hu hm i w x n hwi hx hn h3 with h4 | h4
  · subst h4; simp at h1
  · exact h4

/-! ### the order -/
def cmpI (a b : Int) : Int := if a < b then -1 else if b < a then 1 else 0
def orI (a b : Int) : Int := if a ≠ 0 then a else b
def siteAt (l : List Ev) (i : Nat) : Int := (l.getD i e0).site
def cmpO (l : List Ev) (i j : Nat) : Int := orI (cmpI ((lamS l).getD i 0) ((lamS l).getD j 0)) (cmpI (siteAt l i) (siteAt l j))
theorem cmpO_lt (l : List Ev) (i j : Nat) : cmpO l i j < 0 ↔ (lamS l).getD i 0 < (lamS l).getD j 0 ∨ (lamS l).getD i 0 = (lamS l).getD j 0 ∧ siteAt l i < siteAt l j := by
  unfold cmpO orI cmpI
  generalize (lamS l).getD i 0 = a
  generalize (lamS l).getD j 0 = b
  generalize siteAt l i = c
  generalize siteAt l j = d
  by_cases h1 : a < b
  · simp [h1]
  · by_cases h2 : b < a
    · simp [h1, h2]; omega
    · by_cases h3 : c < d
      · simp [h1, h2, h3]; omega
      · by_cases h4 : d < c
        · simp [h1, h2, h3, h4]
        · simp [h1, h2, h3, h4]
/-- What Order hands back. -/
def ordOk (l : List Ev) (o : List Int) : Prop := ∃ p : List Nat, p.Perm (List.range l.length) ∧ o = p.map (fun n : Nat => (n : Int)) ∧ ∀ (i j : Nat) x y, i < j → p[i]? = some x → p[j]? = some y → ¬ cmpO l y x < 0
theorem range_pw (n : Nat) : ((List.range n).map (fun n : Nat => (n : Int))).Pairwise (· ≤ ·) := by
  rw [List.pairwise_map]
  have : (List.range n).Pairwise (· < ·) := List.pairwise_lt_range
  exact this.imp (fun h => by omega)
theorem ord_sorted {l : List Ev} {o : List Int} (h : ordOk l o) : (o.mergeSort fun x y => decide (x ≤ y)) = (List.range l.length).map (fun n : Nat => (n : Int)) := by
  obtain ⟨p, hp, rfl, _⟩ := h
  refine List.Perm.eq_of_pairwise (le := (· ≤ ·)) (fun a b _ _ h1 h2 => Int.le_antisymm h1 h2) ?_ (range_pw _) ((List.mergeSort_perm _ _).trans (hp.map _))
  have := List.pairwise_mergeSort (le := fun x y : Int => decide (x ≤ y)) (fun a b c h1 h2 => by simp at *; omega) (fun a b => by simp; omega) (p.map fun n : Nat => (n : Int))
  exact this.imp (fun h => by simpa using h)
theorem ord_len {l : List Ev} {o : List Int} (h : ordOk l o) : o.length = l.length := by
  obtain ⟨p, hp, rfl, _⟩ := h
  rw [List.length_map, hp.length_eq, List.length_range]
theorem ord_at {l : List Ev} {o : List Int} (h : ordOk l o) {k : Nat} (hk : k < l.length) : ∃ a : Nat, o[k]? = some (a : Int) ∧ a < l.length := by
  obtain ⟨p, hp, rfl, _⟩ := h
  have hl := hp.length_eq
  rw [List.length_range] at hl
  obtain ⟨x, hx⟩ : ∃ x, p[k]? = some x := ⟨_, List.getElem?_eq_getElem (by omega)⟩
  exact ⟨x, by rw [List.getElem?_map, hx]; rfl, List.mem_range.1 (hp.mem_iff.1 (List.mem_of_getElem? hx))⟩
theorem ord_bef {l : List Ev} {o : List Int} (h : ordOk l o) (hw : WF l) {i j a b : Nat} (hij : j < i) (hi : o[i]? = some (a : Int)) (hj : o[j]? = some (b : Int)) : befS l a b = false := by
  obtain ⟨p, hp, rfl, hs⟩ := h
  rw [List.getElem?_map] at hi hj
  obtain ⟨a', ha, hae⟩ := Option.map_eq_some_iff.1 hi
  obtain ⟨b', hb, hbe⟩ := Option.map_eq_some_iff.1 hj
  obtain rfl : a' = a := by omega
  obtain rfl : b' = b := by omega
  have hal : a' < l.length := List.mem_range.1 (hp.mem_iff.1 (List.mem_of_getElem? ha))
  have hbl : b' < l.length := List.mem_range.1 (hp.mem_iff.1 (List.mem_of_getElem? hb))
  cases h2 : befS l a' b' with
  | false => rfl
  | true =>
    have h3 := bef_lam hw hal hbl h2
    exact absurd ((cmpO_lt l a' b').2 (.inl h3)) (hs j i b' a' hij hb ha)
end Go.Proofs.YtjmadiegikbjpaaA
