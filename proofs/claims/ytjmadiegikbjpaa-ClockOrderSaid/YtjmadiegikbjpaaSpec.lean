/- Events of several sites, on plain lists. -/
import Derived.Test.YtjmadiegikbjpaaAbs21
import Derived.Test.YtjmadiegikbjpaaAbs9
namespace Go.Proofs.YtjmadiegikbjpaaA
open Go
set_option linter.unusedVariables false

structure Ev where
  site : Int
  kind : Int
  msg : Int
def Ev.enc (x : Ev) : List D := [.int .i64 x.site, .int .i64 x.kind, .int .i64 x.msg]
def sndP (m : Int) (x : Ev) : Bool := decide (x.kind = 1) && decide (x.msg = m)
def senderS (l : List Ev) (m : Int) : Int := idxP (sndP m) l
def e0 : Ev := ⟨0, 0, 0⟩
def checkAt (l : List Ev) (k : Nat) (x : Ev) : Int :=
  if x.site < 0 ∨ 8 ≤ x.site ∨ x.kind < 0 ∨ 2 < x.kind then 4 else if x.kind = 0 ∧ x.msg ≠ 0 then 3
  else if x.kind = 1 ∧ 0 ≤ senderS (l.take k) x.msg then 7 else if x.kind = 2 ∧ senderS (l.take k) x.msg < 0 then 21 else 0
def checkR (l : List Ev) : Nat → Int
  | 0 => 0
  | k + 1 => if checkR l k = 0 then checkAt l k (l.getD k e0) else checkR l k
def checkS (l : List Ev) : Int := if 200 < l.length then 2 else checkR l l.length
theorem checkR_stay (l : List Ev) {k : Nat} (h : checkR l k ≠ 0) : ∀ j, checkR l (k + j) = checkR l k
  | 0 => rfl
  | j + 1 => by
    rw [← Nat.add_assoc, checkR, checkR_stay l h j, if_neg h]
theorem checkS_err {l : List Ev} {k : Nat} {x : Ev} {e : Int} (hl : l.length ≤ 200) (h0 : checkR l k = 0) (hx : l[k]? = some x) (he : checkAt l k x = e) (hne : e ≠ 0) : checkS l = e := by
  have hlt := (List.getElem?_eq_some_iff.1 hx).1
  have h1 : checkR l (k + 1) = e := by rw [checkR, if_pos h0, List.getD_eq_getElem?_getD, hx]; exact he
  unfold checkS
  rw [if_neg (by omega), show l.length = k + 1 + (l.length - (k + 1)) by omega, checkR_stay l (by rw [h1]; exact hne), h1]
theorem checkR_step {l : List Ev} {k : Nat} {x : Ev} (h0 : checkR l k = 0) (hx : l[k]? = some x) (he : checkAt l k x = 0) : checkR l (k + 1) = 0 := by
  rw [checkR, if_pos h0, List.getD_eq_getElem?_getD, hx]; exact he
theorem checkR_le {l : List Ev} : ∀ {n k : Nat}, checkR l n = 0 → k ≤ n → checkR l k = 0
  | n, k, h, hk => by
    refine Classical.byContradiction fun hne => ?_
    have := checkR_stay l hne (n - k)
    rw [show k + (n - k) = n by omega, h] at this
    exact hne this.symm
theorem checkR_at {l : List Ev} {k : Nat} {x : Ev} (h : checkR l (k + 1) = 0) (hx : l[k]? = some x) : checkAt l k x = 0 := by
  have h0 := checkR_le h (Nat.le_succ k)
  rw [checkR, if_pos h0, List.getD_eq_getElem?_getD, hx] at h
  exact h
/-- What a valid list is. -/
structure WF (l : List Ev) : Prop where
  len : l.length ≤ 200
  site : ∀ (k : Nat) (x : Ev), l[k]? = some x → 0 ≤ x.site ∧ x.site < 8
  src : ∀ (k : Nat) (x : Ev), l[k]? = some x → x.kind = 2 → ∃ i : Nat, senderS (l.take k) x.msg = i ∧ i < k
theorem senderS_lt {l : List Ev} {m : Int} {k : Nat} (h : 0 ≤ senderS (l.take k) m) : ∃ i : Nat, senderS (l.take k) m = i ∧ i < k := by
  obtain ⟨i, hi⟩ : ∃ i : Nat, senderS (l.take k) m = i := ⟨(senderS (l.take k) m).toNat, by omega⟩
  obtain ⟨x, hx, _⟩ := idxP_at hi
  have := (List.getElem?_eq_some_iff.1 hx).1
  rw [List.length_take] at this
  exact ⟨i, hi, by omega⟩
theorem WF.of {l : List Ev} (h : checkS l = 0) : WF l := by
  have hl : l.length ≤ 200 := by
    refine Classical.byContradiction fun hn => ?_
    unfold checkS at h; rw [if_pos (by omega)] at h; omega
  have hr : checkR l l.length = 0 := by unfold checkS at h; rw [if_neg (by omega)] at h; exact h
  have hat : ∀ (k : Nat) (x : Ev), l[k]? = some x → checkAt l k x = 0 := fun k x hx =>
    checkR_at (checkR_le hr (by have := (List.getElem?_eq_some_iff.1 hx).1; omega)) hx
  refine ⟨hl, fun k x hx => ?_, fun k x hx h2 => ?_⟩
  · have := hat k x hx
    unfold checkAt at this
    split at this
    · omega
    · omega
  · have := hat k x hx
    unfold checkAt at this
    repeat (split at this <;> try omega)
    exact senderS_lt (by omega)
theorem take_take' {l : List Ev} {n k : Nat} (h : k ≤ n) : (l.take n).take k = l.take k := by rw [List.take_take, Nat.min_eq_left h]
theorem take_at {l : List Ev} {n k : Nat} (h : k < n) : (l.take n)[k]? = l[k]? := by rw [List.getElem?_take, if_pos h]
theorem take_getD {l : List Ev} {n k : Nat} (h : k < n) : (l.take n).getD k e0 = l.getD k e0 := by
  rw [List.getD_eq_getElem?_getD, List.getD_eq_getElem?_getD, take_at h]
theorem checkR_take (l : List Ev) (n : Nat) : ∀ k, k ≤ n → checkR (l.take n) k = checkR l k
  | 0, _ => rfl
  | k + 1, h => by
    rw [checkR, checkR, checkR_take l n k (by omega), take_getD (by omega)]
    unfold checkAt
    rw [take_take' (by omega)]
theorem checkS_take {l : List Ev} (h : checkS l = 0) (n : Nat) (hn : n ≤ l.length) : checkS (l.take n) = 0 := by
  have hw := WF.of h
  have hr : checkR l l.length = 0 := by unfold checkS at h; rw [if_neg (by have := hw.len; omega)] at h; exact h
  unfold checkS
  rw [List.length_take, Nat.min_eq_left hn, if_neg (by have := hw.len; omega), checkR_take l n n (Nat.le_refl _)]
  exact checkR_le hr hn

/-! ### vectors -/
def srcI (l : List Ev) (k : Nat) (x : Ev) : Nat := (senderS (l.take k) x.msg).toNat
def z8 : Nat → Int := fun _ => 0
def vbase (now : Nat → Int) (x : Ev) : Nat → Int := fun j => now (x.site.toNat * 8 + j)
def vsrc (out : List (Nat → Int)) (l : List Ev) (k : Nat) (x : Ev) : Nat → Int := out.getD (srcI l k x) z8
def vmrg (now : Nat → Int) (out : List (Nat → Int)) (l : List Ev) (k : Nat) (x : Ev) : Nat → Int := fun j =>
  if x.kind = 2 then max (vbase now x j) (vsrc out l k x j) else vbase now x j
def vnew (now : Nat → Int) (out : List (Nat → Int)) (l : List Ev) (k : Nat) (x : Ev) : Nat → Int :=
  updF (vmrg now out l k x) x.site.toNat (vmrg now out l k x x.site.toNat + 1)
def vst (l : List Ev) : Nat → (Nat → Int) × List (Nat → Int)
  | 0 => (fun _ => 0, [])
  | k + 1 => (updR (vst l k).1 (l.getD k e0).site.toNat (vnew (vst l k).1 (vst l k).2 l k (l.getD k e0)), (vst l k).2 ++ [vnew (vst l k).1 (vst l k).2 l k (l.getD k e0)])
def vecS (l : List Ev) : List (Nat → Int) := (vst l l.length).2
theorem vst_len (l : List Ev) : ∀ k, (vst l k).2.length = k
  | 0 => rfl
  | k + 1 => by rw [vst, List.length_append, vst_len l k]; rfl
theorem vecS_len (l : List Ev) : (vecS l).length = l.length := vst_len l _
theorem vst_take (l : List Ev) (n : Nat) : ∀ k, k ≤ n → vst (l.take n) k = vst l k
  | 0, _ => rfl
  | k + 1, h => by
    rw [vst, vst, vst_take l n k (by omega), take_getD (by omega)]
    unfold vnew vmrg vsrc srcI
    rw [take_take' (by omega)]
theorem vst_pre (l : List Ev) (k : Nat) : ∀ j, (vst l (k + j)).2.take k = (vst l k).2
  | 0 => by rw [Nat.add_zero, List.take_of_length_le (by rw [vst_len]; omega)]
  | j + 1 => by
    rw [← Nat.add_assoc, vst]
    dsimp only
    rw [List.take_append_of_le_length (by rw [vst_len]; omega), vst_pre l k j]
theorem vecS_take (l : List Ev) (n : Nat) (hn : n ≤ l.length) : vecS (l.take n) = (vecS l).take n := by
  unfold vecS
  rw [List.length_take, Nat.min_eq_left hn, vst_take l n n (Nat.le_refl _)]
  have := vst_pre l n (l.length - n)
  rw [show n + (l.length - n) = l.length by omega] at this
  exact this.symm
def cnt (l : List Ev) (k : Nat) (s : Nat) : Int := (((l.take k).countP fun x => decide (x.site = (s : Int)) : Nat) : Int)
theorem cnt_zero (l : List Ev) (s : Nat) : cnt l 0 s = 0 := rfl
theorem cnt_succ {l : List Ev} {k : Nat} {x : Ev} (hx : l[k]? = some x) (s : Nat) : cnt l (k + 1) s = cnt l k s + if x.site = s then 1 else 0 := by
  unfold cnt
  rw [List.take_add_one, hx, List.countP_append]
  simp only [Option.toList_some, List.countP_cons, List.countP_nil]
  by_cases h : x.site = (s : Int)
  · simp [h]
  · simp [h]
theorem cnt_le {l : List Ev} {j k : Nat} (h : j ≤ k) (s : Nat) : cnt l j s ≤ cnt l k s := by
  unfold cnt
  have : (l.take j).Sublist (l.take k) := by
    rw [← take_take' h]; exact List.take_sublist _ _
  exact Int.ofNat_le.2 this.countP_le
theorem cnt_bound (l : List Ev) (k s : Nat) : 0 ≤ cnt l k s ∧ cnt l k s ≤ k := by
  unfold cnt
  have h1 := List.countP_le_length (p := fun x : Ev => decide (x.site = (s : Int))) (l := l.take k)
  rw [List.length_take] at h1
  omega
structure VI (l : List Ev) (k : Nat) (now : Nat → Int) (out : List (Nat → Int)) : Prop where
  own : ∀ s : Nat, s < 8 → now (s * 8 + s) = cnt l k s
  nb : ∀ t s : Nat, t < 8 → s < 8 → 0 ≤ now (t * 8 + s) ∧ now (t * 8 + s) ≤ cnt l k s
  ob : ∀ (j : Nat) (w : Nat → Int), out[j]? = some w → ∀ s, s < 8 → 0 ≤ w s ∧ w s ≤ cnt l k s
  oown : ∀ (i : Nat) (w : Nat → Int) (x : Ev), out[i]? = some w → l[i]? = some x → w x.site.toNat = cnt l i x.site.toNat + 1
  nk : ∀ t : Nat, t < 8 → ∀ (i : Nat) (w : Nat → Int) (x : Ev), out[i]? = some w → l[i]? = some x → w x.site.toNat ≤ now (t * 8 + x.site.toNat) → ∀ s, s < 8 → w s ≤ now (t * 8 + s)
  ok : ∀ (j : Nat) (u : Nat → Int), out[j]? = some u → ∀ (i : Nat) (w : Nat → Int) (x : Ev), out[i]? = some w → l[i]? = some x → w x.site.toNat ≤ u x.site.toNat → ∀ s, s < 8 → w s ≤ u s
theorem VI.zero (l : List Ev) : VI l 0 (fun _ => 0) [] :=
  ⟨fun s _ => rfl, fun t s _ _ => ⟨Int.le_refl _, by rw [cnt_zero]; exact Int.le_refl _⟩, fun j w h => by simp at h, fun i w x h => by simp at h, fun t _ i w x h => by simp at h, fun j u h => by simp at h⟩
theorem getD_at {α : Type} {l : List α} {i : Nat} {x d : α} (h : l[i]? = some x) : l.getD i d = x := by rw [List.getD_eq_getElem?_getD, h]; rfl
/-- What is known of an event's source. -/
theorem vsrc_spec {l : List Ev} {k : Nat} {x : Ev} {out : List (Nat → Int)} (hw : WF l) (hx : l[k]? = some x) (h2 : x.kind = 2) (hlen : out.length = k) : ∃ i, out[i]? = some (vsrc out l k x) ∧ srcI l k x = i := by
  obtain ⟨i, hi, hik⟩ := hw.src k x hx h2
  have hs : srcI l k x = i := by unfold srcI; omega
  refine ⟨i, ?_, hs⟩
  have : out[i]? = some out[i] := List.getElem?_eq_getElem (by omega)
  unfold vsrc
  rw [hs, getD_at this]
  exact this
theorem VI.mrg {l : List Ev} {k : Nat} {x : Ev} {now : Nat → Int} {out : List (Nat → Int)} (hw : WF l) (hx : l[k]? = some x) (hlen : out.length = k) (h : VI l k now out) :
    (∀ s, s < 8 → 0 ≤ vmrg now out l k x s ∧ vmrg now out l k x s ≤ cnt l k s ∧ vbase now x s ≤ vmrg now out l k x s) ∧ vmrg now out l k x x.site.toNat = cnt l k x.site.toNat := by
  have hsb := hw.site k x hx
  have hs8 : x.site.toNat < 8 := by omega
  have key : ∀ s, s < 8 → 0 ≤ vmrg now out l k x s ∧ vmrg now out l k x s ≤ cnt l k s ∧ vbase now x s ≤ vmrg now out l k x s := fun s hs => by
    have h1 := h.nb x.site.toNat s hs8 hs
    unfold vmrg
    split
    · rename_i h2
      obtain ⟨i, hi, _⟩ := vsrc_spec hw hx h2 hlen
      have h3 := h.ob i _ hi s hs
      unfold vbase
      omega
    · unfold vbase; omega
  refine ⟨key, ?_⟩
  have h1 := key x.site.toNat hs8
  have h2 := h.own x.site.toNat hs8
  have h3 : vbase now x x.site.toNat = now (x.site.toNat * 8 + x.site.toNat) := rfl
  omega
theorem VI.step {l : List Ev} {k : Nat} {x : Ev} {now : Nat → Int} {out : List (Nat → Int)} (hw : WF l) (hx : l[k]? = some x) (hlen : out.length = k) (h : VI l k now out) :
    VI l (k + 1) (updR now x.site.toNat (vnew now out l k x)) (out ++ [vnew now out l k x]) := by
  have hsb := hw.site k x hx
  have hs8 : x.site.toNat < 8 := by omega
  have hsc : ((x.site.toNat : Nat) : Int) = x.site := by omega
  obtain ⟨hm, hms⟩ := h.mrg hw hx hlen
  have hcs := cnt_succ hx
  have hcl : ∀ s, cnt l k s ≤ cnt l (k + 1) s := fun s => cnt_le (Nat.le_succ k) s
  have hv : ∀ s, s ≠ x.site.toNat → vnew now out l k x s = vmrg now out l k x s := fun s hs => updF_ne _ _ hs
  have hvs : vnew now out l k x x.site.toNat = cnt l k x.site.toNat + 1 := by unfold vnew; rw [updF_same, hms]
  have hcx : cnt l (k + 1) x.site.toNat = cnt l k x.site.toNat + 1 := by rw [hcs, hsc, if_pos rfl]
  have hvb : ∀ s, s < 8 → 0 ≤ vnew now out l k x s ∧ vnew now out l k x s ≤ cnt l (k + 1) s ∧ vmrg now out l k x s ≤ vnew now out l k x s := fun s hs => by
    have h1 := hm s hs
    have h2 := hcl s
    by_cases he : s = x.site.toNat
    · subst he; rw [hvs, hcx, hms]; have := cnt_bound l k x.site.toNat; omega
    · rw [hv s he]; omega
  have hat : ∀ (j : Nat) (w : Nat → Int), (out ++ [vnew now out l k x])[j]? = some w → (out[j]? = some w ∧ j < k) ∨ (j = k ∧ w = vnew now out l k x) := fun j w hj => by
    rw [List.getElem?_append] at hj
    split at hj
    · rename_i hlt; exact .inl ⟨hj, by omega⟩
    · rename_i hge
      have hlt := (List.getElem?_eq_some_iff.1 hj).1
      simp only [List.length_singleton] at hlt
      have hjk : j = k := by omega
      refine .inr ⟨hjk, ?_⟩
      rw [show j - out.length = 0 by omega] at hj
      exact (Option.some.inj hj).symm
  -- what an old event's knowledge says of the new vector
  have hnew : ∀ (i : Nat) (w : Nat → Int) (y : Ev), out[i]? = some w → i < k → l[i]? = some y → w y.site.toNat ≤ vnew now out l k x y.site.toNat → ∀ s, s < 8 → w s ≤ vnew now out l k x s := fun i w y hi hik hy hle s hs => by
    have hyb := hw.site i y hy
    have hy8 : y.site.toNat < 8 := by omega
    refine Int.le_trans ?_ (hvb s hs).2.2
    by_cases he : y.site.toNat = x.site.toNat
    · have h1 : w y.site.toNat ≤ now (x.site.toNat * 8 + y.site.toNat) := by
        rw [h.oown i w y hi hy, he, h.own _ hs8]
        have h2 := cnt_succ hy x.site.toNat
        rw [if_pos (by omega)] at h2
        have h3 := cnt_le (l := l) (show i + 1 ≤ k by omega) x.site.toNat
        omega
      exact Int.le_trans (h.nk _ hs8 i w y hi hy h1 s hs) (hm s hs).2.2
    · rw [hv _ he] at hle
      by_cases h2 : x.kind = 2
      · obtain ⟨q, hq, _⟩ := vsrc_spec hw hx h2 hlen
        have e1 : ∀ s, vmrg now out l k x s = max (vbase now x s) (vsrc out l k x s) := fun s => by unfold vmrg; rw [if_pos h2]
        rw [e1] at hle
        rw [e1]
        rcases Int.le_total (vsrc out l k x y.site.toNat) (vbase now x y.site.toNat) with h3 | h3
        · have h4 : w y.site.toNat ≤ now (x.site.toNat * 8 + y.site.toNat) := by
            show _ ≤ vbase now x y.site.toNat
            omega
          have h5 := h.nk _ hs8 i w y hi hy h4 s hs
          have h6 : vbase now x s = now (x.site.toNat * 8 + s) := rfl
          omega
        · have h5 := h.ok q _ hq i w y hi hy (by omega) s hs
          omega
      · have e1 : ∀ s, vmrg now out l k x s = vbase now x s := fun s => by unfold vmrg; rw [if_neg h2]
        rw [e1] at hle
        rw [e1]
        exact h.nk _ hs8 i w y hi hy hle s hs
  have hown : ∀ (i : Nat) (w : Nat → Int) (y : Ev), (out ++ [vnew now out l k x])[i]? = some w → l[i]? = some y → w y.site.toNat = cnt l i y.site.toNat + 1 := fun i w y hi hy => by
    rcases hat i w hi with ⟨h1, _⟩ | ⟨h1, h2⟩
    · exact h.oown i w y h1 hy
    · subst h1; rw [hx] at hy; obtain rfl := Option.some.inj hy; rw [h2, hvs]
  refine ⟨fun s hs => ?_, fun t s ht hs => ?_, fun j w hj s hs => ?_, hown, fun t ht i w y hi hy hle s hs => ?_, fun j u hj i w y hi hy hle s hs => ?_⟩
  · by_cases he : s = x.site.toNat
    · subst he; rw [updR_in _ _ _ hs, hvs, hcx]
    · rw [updR_out _ _ hs he, h.own s hs, hcs, if_neg (by omega)]; omega
  · by_cases he : t = x.site.toNat
    · subst he; rw [updR_in _ _ _ hs]; have := hvb s hs; omega
    · rw [updR_out _ _ hs he]; have := h.nb t s ht hs; have := hcl s; omega
  · rcases hat j w hj with ⟨h1, _⟩ | ⟨_, h2⟩
    · have := h.ob j w h1 s hs; have := hcl s; omega
    · subst h2; have := hvb s hs; omega
  · have hyb := hw.site i y hy
    have hy8 : y.site.toNat < 8 := by omega
    have hwo := hown i w y hi hy
    by_cases he : t = x.site.toNat
    · subst he
      rw [updR_in _ _ _ hy8] at hle
      rw [updR_in _ _ _ hs]
      rcases hat i w hi with ⟨h1, h2⟩ | ⟨_, h2⟩
      · exact hnew i w y h1 h2 hy hle s hs
      · subst h2; exact Int.le_refl _
    · rw [updR_out _ _ hy8 he] at hle
      rw [updR_out _ _ hs he]
      rcases hat i w hi with ⟨h1, h2⟩ | ⟨h1, h2⟩
      · exact h.nk t ht i w y h1 hy hle s hs
      · have h3 := (h.nb t y.site.toNat ht hy8).2
        subst h1
        omega
  · have hyb := hw.site i y hy
    have hy8 : y.site.toNat < 8 := by omega
    have hwo := hown i w y hi hy
    rcases hat j u hj with ⟨g1, g2⟩ | ⟨g1, g2⟩
    · rcases hat i w hi with ⟨h1, h2⟩ | ⟨h1, h2⟩
      · exact h.ok j u g1 i w y h1 hy hle s hs
      · have h3 := (h.ob j u g1 y.site.toNat hy8).2
        subst h1
        omega
    · subst g2
      rcases hat i w hi with ⟨h1, h2⟩ | ⟨h1, h2⟩
      · exact hnew i w y h1 h2 hy hle s hs
      · subst h2; exact Int.le_refl _
theorem VI.all {l : List Ev} (hw : WF l) : ∀ k, k ≤ l.length → VI l k (vst l k).1 (vst l k).2
  | 0, _ => VI.zero l
  | k + 1, h => by
    obtain ⟨x, hx⟩ : ∃ x, l[k]? = some x := ⟨_, List.getElem?_eq_getElem (by omega)⟩
    rw [vst, getD_at hx]
    exact (VI.all hw k (by omega)).step hw hx (vst_len l k)
/-- An event's vector says all: what it knows of another event's own site, it knows of that event. -/
theorem vec_knows {l : List Ev} (hw : WF l) {i k : Nat} {w u : Nat → Int} {x : Ev} (hi : (vecS l)[i]? = some w) (hk : (vecS l)[k]? = some u) (hx : l[i]? = some x) (hle : w x.site.toNat ≤ u x.site.toNat) : ∀ s, s < 8 → w s ≤ u s :=
  (VI.all hw l.length (Nat.le_refl _)).ok k u hk i w x hi hx hle
theorem vec_bound {l : List Ev} (hw : WF l) {i : Nat} {w : Nat → Int} (hi : (vecS l)[i]? = some w) {s : Nat} (hs : s < 8) : 0 ≤ w s ∧ w s ≤ 200 := by
  have h1 := (VI.all hw l.length (Nat.le_refl _)).ob i w hi s hs
  have h2 := cnt_bound l l.length s
  have h3 := hw.len
  omega
theorem vec_own {l : List Ev} (hw : WF l) {i : Nat} {w : Nat → Int} {x : Ev} (hi : (vecS l)[i]? = some w) (hx : l[i]? = some x) : w x.site.toNat = cnt l i x.site.toNat + 1 :=
  (VI.all hw l.length (Nat.le_refl _)).oown i w x hi hx
def befS (l : List Ev) (i k : Nat) : Bool := !decide ((i : Int) = k) && decide ((vecS l).getD i z8 (l.getD i e0).site.toNat ≤ (vecS l).getD k z8 (l.getD i e0).site.toNat)
def allLe (w u : Nat → Int) (n : Nat) : Bool := (List.range n).all fun s => decide (w s ≤ u s)
theorem allLe_succ (w u : Nat → Int) (n : Nat) : allLe w u (n + 1) = (allLe w u n && decide (w n ≤ u n)) := by
  unfold allLe; rw [List.range_succ, List.all_append]; simp
theorem bef_vec {l : List Ev} (hw : WF l) {i k : Nat} (hi : i < l.length) (hk : k < l.length) : befS l i k = (!decide ((i : Int) = k) && allLe ((vecS l).getD i z8) ((vecS l).getD k z8) 8) := by
  obtain ⟨x, hx⟩ : ∃ x, l[i]? = some x := ⟨_, List.getElem?_eq_getElem hi⟩
  obtain ⟨w, hwi⟩ : ∃ w, (vecS l)[i]? = some w := ⟨_, List.getElem?_eq_getElem (by rw [vecS_len]; exact hi)⟩
  obtain ⟨u, hu⟩ : ∃ w, (vecS l)[k]? = some w := ⟨_, List.getElem?_eq_getElem (by rw [vecS_len]; exact hk)⟩
  unfold befS
  congr 1
  rw [getD_at hx, getD_at hwi, getD_at hu, Bool.eq_iff_iff, decide_eq_true_eq]
  unfold allLe
  rw [List.all_eq_true]
  have hb := hw.site i x hx
  constructor
  · intro h s hs
    exact decide_eq_true (vec_knows hw hwi hu hx h s (List.mem_range.1 hs))
  · intro h
    exact of_decide_eq_true (h x.site.toNat (List.mem_range.2 (by omega)))

/-! ### a cut -/
def consAt (cut : Nat → Int) (w : Nat → Int) (x : Ev) : Prop := w x.site.toNat ≤ cut x.site.toNat → ∀ s, s < 8 → w s ≤ max 0 (cut s)
open Classical in
noncomputable def consS (l : List Ev) (cut : Nat → Int) : Bool := decide (∀ (i : Nat) (w : Nat → Int) (x : Ev), (vecS l)[i]? = some w → l[i]? = some x → consAt cut w x)
theorem cons_vec {l : List Ev} (hw : WF l) {k : Nat} {u : Nat → Int} (hk : (vecS l)[k]? = some u) : consS l u = true := by
  classical
  refine decide_eq_true fun i w x hi hx hle s hs => ?_
  have := vec_knows hw hi hk hx hle s hs
  omega
theorem cons_max {l : List Ev} (hw : WF l) {i k : Nat} {u v : Nat → Int} (hi : (vecS l)[i]? = some u) (hk : (vecS l)[k]? = some v) : consS l (fun s => max (u s) (v s)) = true := by
  classical
  refine decide_eq_true fun j w x hj hx hle s hs => ?_
  dsimp only at hle ⊢
  rcases Int.le_total (u x.site.toNat) (v x.site.toNat) with h | h
  · have := vec_knows hw hj hk hx (by omega) s hs
    omega
  · have := vec_knows hw hj hi hx (by omega) s hs
    omega

/-! ### Lamport's numbers -/
def lval (now : Nat → Int) (out : List Int) (l : List Ev) (k : Nat) (x : Ev) : Int :=
  if x.kind = 2 then max (now x.site.toNat) (out.getD (srcI l k x) 0) else now x.site.toNat
def lst (l : List Ev) : Nat → (Nat → Int) × List Int
  | 0 => (fun _ => 0, [])
  | k + 1 => (updF (lst l k).1 (l.getD k e0).site.toNat (lval (lst l k).1 (lst l k).2 l k (l.getD k e0) + 1), (lst l k).2 ++ [lval (lst l k).1 (lst l k).2 l k (l.getD k e0) + 1])
def lamS (l : List Ev) : List Int := (lst l l.length).2
theorem lst_len (l : List Ev) : ∀ k, (lst l k).2.length = k
  | 0 => rfl
  | k + 1 => by rw [lst, List.length_append, lst_len l k]; rfl
theorem lamS_len (l : List Ev) : (lamS l).length = l.length := lst_len l _
theorem lst_take (l : List Ev) (n : Nat) : ∀ k, k ≤ n → lst (l.take n) k = lst l k
  | 0, _ => rfl
  | k + 1, h => by
    rw [lst, lst, lst_take l n k (by omega), take_getD (by omega)]
    unfold lval srcI
    rw [take_take' (by omega)]
theorem lst_pre (l : List Ev) (k : Nat) : ∀ j, (lst l (k + j)).2.take k = (lst l k).2
  | 0 => by rw [Nat.add_zero, List.take_of_length_le (by rw [lst_len]; omega)]
  | j + 1 => by
    rw [← Nat.add_assoc, lst]
    dsimp only
    rw [List.take_append_of_le_length (by rw [lst_len]; omega), lst_pre l k j]
theorem lamS_take (l : List Ev) (n : Nat) (hn : n ≤ l.length) : lamS (l.take n) = (lamS l).take n := by
  unfold lamS
  rw [List.length_take, Nat.min_eq_left hn, lst_take l n n (Nat.le_refl _)]
  have := lst_pre l n (l.length - n)
  rw [show n + (l.length - n) = l.length by omega] at this
  exact this.symm
theorem lst_bound {l : List Ev} (hw : WF l) : ∀ k, k ≤ l.length → (∀ s : Nat, s < 8 → 0 ≤ (lst l k).1 s ∧ (lst l k).1 s ≤ k) ∧ ∀ (i : Nat) n, (lst l k).2[i]? = some n → 0 ≤ n ∧ n ≤ k
  | 0, _ => ⟨fun s _ => ⟨Int.le_refl _, Int.le_refl _⟩, fun i n h => by simp [lst] at h⟩
  | k + 1, h => by
    obtain ⟨h1, h2⟩ := lst_bound hw k (by omega)
    obtain ⟨x, hx⟩ : ∃ x, l[k]? = some x := ⟨_, List.getElem?_eq_getElem (by omega)⟩
    have hsb := hw.site k x hx
    have hv : 0 ≤ lval (lst l k).1 (lst l k).2 l k x ∧ lval (lst l k).1 (lst l k).2 l k x ≤ k := by
      have h3 := h1 x.site.toNat (by omega)
      unfold lval
      split
      · rename_i hk2
        obtain ⟨i, hi, hik⟩ := hw.src k x hx hk2
        have hs : srcI l k x = i := by unfold srcI; omega
        obtain ⟨q, h4⟩ : ∃ q, (lst l k).2[i]? = some q := ⟨_, List.getElem?_eq_getElem (by rw [lst_len]; exact hik)⟩
        rw [hs, getD_at h4]
        have := h2 i _ h4
        omega
      · exact h3
    rw [lst, getD_at hx]
    refine ⟨fun s hs => ?_, fun i n hi => ?_⟩
    · dsimp only
      by_cases he : s = x.site.toNat
      · subst he; rw [updF_same]; omega
      · rw [updF_ne _ _ he]; have := h1 s hs; omega
    · dsimp only at hi
      rw [List.getElem?_append] at hi
      split at hi
      · have := h2 i n hi; omega
      · have hlt := (List.getElem?_eq_some_iff.1 hi).1
        simp only [List.length_singleton] at hlt
        rw [show i - (lst l k).2.length = 0 by omega] at hi
        have := Option.some.inj hi
        omega

/-! ### events without messages -/
def locL (c : List Int) : List Ev := c.map fun s => ⟨cutI s 0 7, 0, 0⟩
theorem locL_at {c : List Int} {k : Nat} {x : Ev} (h : (locL c)[k]? = some x) : 0 ≤ x.site ∧ x.site < 8 ∧ x.kind = 0 ∧ x.msg = 0 := by
  unfold locL at h
  rw [List.getElem?_map] at h
  obtain ⟨s, _, rfl⟩ := Option.map_eq_some_iff.1 h
  have := cutI_bounds s (show (0 : Int) ≤ 7 by decide)
  exact ⟨by dsimp only; omega, by dsimp only; omega, rfl, rfl⟩
theorem locL_check {c : List Int} (h : c.length ≤ 200) : checkS (locL c) = 0 := by
  have hl : (locL c).length = c.length := by simp [locL]
  have hr : ∀ k : Nat, k ≤ (locL c).length → checkR (locL c) k = 0 := fun k => by
    induction k with
    | zero => exact fun _ => rfl
    | succ k ih =>
      intro hk
      obtain ⟨x, hx⟩ : ∃ x, (locL c)[k]? = some x := ⟨_, List.getElem?_eq_getElem (by omega)⟩
      refine checkR_step (ih (by omega)) hx ?_
      obtain ⟨h1, h2, h3, h4⟩ := locL_at hx
      unfold checkAt
      rw [if_neg (by omega), if_neg (by omega), if_neg (by omega), if_neg (by omega)]
  unfold checkS
  rw [if_neg (by omega)]
  exact hr _ (Nat.le_refl _)
theorem loc_zero (c : List Int) : ∀ k, k ≤ (locL c).length → (∀ t s : Nat, t < 8 → s < 8 → s ≠ t → (vst (locL c) k).1 (t * 8 + s) = 0) ∧ ∀ (i : Nat) (w : Nat → Int) (x : Ev), (vst (locL c) k).2[i]? = some w → (locL c)[i]? = some x → ∀ s, s < 8 → s ≠ x.site.toNat → w s = 0
  | 0, _ => ⟨fun _ _ _ _ _ => rfl, fun i w x h => by simp [vst] at h⟩
  | k + 1, h => by
    obtain ⟨h1, h2⟩ := loc_zero c k (by omega)
    obtain ⟨x, hx⟩ : ∃ x, (locL c)[k]? = some x := ⟨_, List.getElem?_eq_getElem (by omega)⟩
    obtain ⟨g1, g2, g3, g4⟩ := locL_at hx
    have hv : ∀ s, s < 8 → s ≠ x.site.toNat → vnew (vst (locL c) k).1 (vst (locL c) k).2 (locL c) k x s = 0 := fun s hs hne => by
      unfold vnew
      rw [updF_ne _ _ hne]
      unfold vmrg
      rw [if_neg (by omega)]
      exact h1 _ s (by omega) hs hne
    rw [vst, getD_at hx]
    refine ⟨fun t s ht hs hne => ?_, fun i w y hi hy s hs hne => ?_⟩
    · dsimp only
      by_cases he : t = x.site.toNat
      · subst he; rw [updR_in _ _ _ hs]; exact hv s hs hne
      · rw [updR_out _ _ hs he]; exact h1 t s ht hs hne
    · dsimp only at hi
      rw [List.getElem?_append] at hi
      split at hi
      · exact h2 i w y hi hy s hs hne
      · rename_i hge
        have hlt := (List.getElem?_eq_some_iff.1 hi).1
        simp only [List.length_singleton] at hlt
        rw [vst_len] at hlt hge
        rw [vst_len, show i - k = 0 by omega] at hi
        have hik : i = k := by omega
        subst hik
        rw [hx] at hy
        obtain rfl := Option.some.inj hy
        rw [← Option.some.inj hi]
        exact hv s hs hne
theorem loc_before {c : List Int} (hc : c.length ≤ 200) {i k : Nat} {x y : Ev} (hi : (locL c)[i]? = some x) (hk : (locL c)[k]? = some y) : befS (locL c) i k = (decide ((i : Int) < k) && decide (x.site = y.site)) := by
  have hw := WF.of (locL_check hc)
  have hil := (List.getElem?_eq_some_iff.1 hi).1
  have hkl := (List.getElem?_eq_some_iff.1 hk).1
  obtain ⟨w, hwi⟩ : ∃ w, (vecS (locL c))[i]? = some w := ⟨_, List.getElem?_eq_getElem (by rw [vecS_len]; exact hil)⟩
  obtain ⟨u, hu⟩ : ∃ w, (vecS (locL c))[k]? = some w := ⟨_, List.getElem?_eq_getElem (by rw [vecS_len]; exact hkl)⟩
  have hxb := hw.site i x hi
  have hyb := hw.site k y hk
  have h1 := vec_own hw hwi hi
  have h2 := vec_own hw hu hk
  have hz := (loc_zero c _ (Nat.le_refl _)).2 k u y hu hk
  have hc1 := cnt_bound (locL c) i x.site.toNat
  unfold befS
  rw [getD_at hi, getD_at hwi, getD_at hu, h1, Bool.eq_iff_iff]
  simp only [Bool.and_eq_true, decide_eq_true_eq, Bool.not_eq_true', decide_eq_false_iff_not]
  by_cases he : x.site = y.site
  · rw [he] at h1 hc1 ⊢
    rw [h2]
    rcases Nat.lt_trichotomy i k with h | h | h
    · have h3 := cnt_le (l := locL c) (show i ≤ k by omega) y.site.toNat
      constructor
      · intro _; exact ⟨by omega, rfl⟩
      · intro _; exact ⟨by omega, by omega⟩
    · subst h; constructor
      · intro h; omega
      · intro h; omega
    · have h3 := cnt_le (l := locL c) (show k + 1 ≤ i by omega) y.site.toNat
      have h4 := cnt_succ hk y.site.toNat
      rw [if_pos (by omega)] at h4
      constructor
      · intro h; omega
      · intro h; omega
  · rw [hz x.site.toNat (by omega) (by omega)]
    constructor
    · intro h; omega
    · intro h; omega
def shEv : Sh := .cons (.int .i64) (.cons (.int .i64) (.cons (.int .i64) .unit))
theorem ev_of {l : List D} (h : Ty shEv l) : ∃ b : Ev, l = b.enc := by
  obtain ⟨_, _, rfl, ⟨x, rfl, hx⟩, _, _, rfl, ⟨y, rfl, hy⟩, _, _, rfl, ⟨w, rfl, hw⟩, rfl⟩ := h
  exact ⟨⟨x, y, w⟩, rfl⟩
end Go.Proofs.YtjmadiegikbjpaaA
