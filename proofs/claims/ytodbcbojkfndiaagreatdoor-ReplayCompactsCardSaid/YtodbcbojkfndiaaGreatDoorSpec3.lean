/- What Set and Cut do, as sets of rows. -/
import Derived.Test.YtodbcbojkfndiaaGreatDoorSpec2
namespace Go.Proofs.YtodbcbojkfndiaaGreatDoorA
open Go
set_option linter.unusedVariables false
set_option linter.unusedSimpArgs false
set_option linter.unnecessarySimpa false

theorem cmpB_irr (c : ByteArray) : ¬ cmpB c c < 0 := by rw [cmpB_self]; omega
theorem ltS_ne {x y : SR} (h : ltS x y) : x.key ≠ y.key := fun e => by unfold ltS at h; rw [e] at h; exact cmpB_irr _ h
theorem okS.keys {l : List SR} (h : okS l) {x y : SR} (hx : x ∈ l) (hy : y ∈ l) (he : x.key = y.key) : x = y := by
  obtain ⟨i, hi⟩ := List.getElem?_of_mem hx
  obtain ⟨j, hj⟩ := List.getElem?_of_mem hy
  obtain ⟨hi1, rfl⟩ := List.getElem?_eq_some_iff.1 hi
  obtain ⟨hj1, rfl⟩ := List.getElem?_eq_some_iff.1 hj
  rcases Nat.lt_trichotomy i j with h1 | h1 | h1
  · exact absurd he (ltS_ne (List.pairwise_iff_getElem.1 h.srt i j hi1 hj1 h1))
  · subst h1; rfl
  · exact absurd he.symm (ltS_ne (List.pairwise_iff_getElem.1 h.srt j i hj1 hi1 h1))
theorem isS_iff {l : List SR} (h : okS l) (c : ByteArray) : isS l c = true ↔ ∃ x ∈ l, x.key = c := by
  constructor
  · intro hi
    obtain ⟨x, hx, hk⟩ := isS_at hi
    exact ⟨x, List.mem_of_getElem? hx, hk⟩
  · rintro ⟨x, hx, rfl⟩
    cases hi : isS l x.key with
    | true => rfl
    | false =>
      obtain ⟨i, hxi⟩ := List.getElem?_of_mem hx
      exfalso
      rcases Nat.lt_or_ge i (atS l x.key) with h1 | h1
      · exact cmpB_irr _ (befS_at h1 hxi)
      · have hl := (List.getElem?_eq_some_iff.1 hxi).1
        obtain ⟨y, hy⟩ : ∃ y, l[atS l x.key]? = some y := ⟨_, List.getElem?_eq_getElem (by omega)⟩
        have hy2 := notS_at hi hy
        rcases Nat.lt_or_ge (atS l x.key) i with h2 | h2
        · obtain ⟨a1, rfl⟩ := List.getElem?_eq_some_iff.1 hy
          obtain ⟨a2, rfl⟩ := List.getElem?_eq_some_iff.1 hxi
          have := List.pairwise_iff_getElem.1 h.srt _ _ a1 a2 h2
          unfold ltS at this; omega
        · obtain rfl : i = atS l x.key := by omega
          rw [hxi] at hy; obtain rfl := Option.some.inj hy
          rw [cmpB_self] at hy2; omega
theorem notS_all {l : List SR} (h : okS l) {c : ByteArray} (hi : isS l c = false) : ∀ x ∈ l, x.key ≠ c := fun x hx he => by
  have := (isS_iff h c).2 ⟨x, hx, he⟩
  rw [hi] at this; cases this
theorem isS_mem {l : List SR} (h : okS l) {c : ByteArray} (hi : isS l c = true) : ∃ v, l[atS l c]? = some ⟨c, v⟩ := by
  obtain ⟨x, hx, rfl⟩ := isS_at hi
  exact ⟨x.val, hx⟩
theorem getO_iff {l : List SR} (h : okS l) (c v : ByteArray) : getO l c = some v ↔ (⟨c, v⟩ : SR) ∈ l := by
  unfold getO
  constructor
  · intro hg
    split at hg
    · rename_i hi
      obtain ⟨x, hx, rfl⟩ := isS_at hi
      rw [hx] at hg
      obtain rfl := Option.some.inj hg
      exact List.mem_of_getElem? hx
    · cases hg
  · intro hm
    have hi := (isS_iff h c).2 ⟨_, hm, rfl⟩
    rw [if_pos hi]
    obtain ⟨x, hx, hk⟩ := isS_at hi
    have := h.keys (List.mem_of_getElem? hx) hm hk
    rw [hx, this]; rfl
theorem getO_none {l : List SR} (h : okS l) (c : ByteArray) : getO l c = none ↔ isS l c = false := by
  unfold getO
  constructor
  · intro hg
    cases hi : isS l c with
    | false => rfl
    | true =>
      obtain ⟨x, hx, _⟩ := isS_at hi
      rw [if_pos hi, hx] at hg; cases hg
  · intro hi; rw [hi]; rfl

/-- Two sorted states with the same rows. -/
theorem srt_ext : ∀ {a b : List SR}, a.Pairwise ltS → b.Pairwise ltS → (∀ x, x ∈ a ↔ x ∈ b) → a = b
  | [], [], _, _, _ => rfl
  | [], y :: b, _, _, h => by have := (h y).2 (by simp); simp at this
  | x :: a, [], _, _, h => by have := (h x).1 (by simp); simp at this
  | x :: a, y :: b, ha, hb, h => by
    obtain ⟨ha1, ha2⟩ := List.pairwise_cons.1 ha
    obtain ⟨hb1, hb2⟩ := List.pairwise_cons.1 hb
    have hxy : x = y := by
      rcases List.mem_cons.1 ((h x).1 (by simp)) with e | hx
      · exact e
      · rcases List.mem_cons.1 ((h y).2 (by simp)) with e | hy
        · exact e.symm
        · exact absurd (cmpB_trans (hb1 x hx) (ha1 y hy)) (cmpB_irr _)
    subst hxy
    have hno : ∀ z, z ∈ a → z ∈ b := fun z hz => by
      rcases List.mem_cons.1 ((h z).1 (List.mem_cons_of_mem _ hz)) with e | hz2
      · subst e; exact absurd rfl (ltS_ne (ha1 z hz))
      · exact hz2
    have hno2 : ∀ z, z ∈ b → z ∈ a := fun z hz => by
      rcases List.mem_cons.1 ((h z).2 (List.mem_cons_of_mem _ hz)) with e | hz2
      · subst e; exact absurd rfl (ltS_ne (hb1 z hz))
      · exact hz2
    rw [srt_ext ha2 hb2 fun z => ⟨hno z, hno2 z⟩]

/-- A list cut at a key. -/
theorem split_at {l : List SR} (k : Nat) : l = l.take k ++ l.drop k := (List.take_append_drop k l).symm
theorem put_in {l : List SR} {c v : ByteArray} (hi : isS l c = true) (h : okS l) : ∃ a b w, l = a ++ ⟨c, w⟩ :: b ∧ putS l c v = a ++ ⟨c, v⟩ :: b ∧ delS l c = a ++ b := by
  obtain ⟨w, hx⟩ := isS_mem h hi
  obtain ⟨hk, hx2⟩ := List.getElem?_eq_some_iff.1 hx
  refine ⟨l.take (atS l c), l.drop (atS l c + 1), w, ?_, ?_, rfl⟩
  · rw [← hx2, ← List.drop_eq_getElem_cons hk, List.take_append_drop]
  · unfold putS
    rw [if_pos hi, List.set_eq_take_append_cons_drop, if_pos hk]
theorem put_new {l : List SR} {c v : ByteArray} (hi : isS l c = false) (h : okS l) : ∃ a b, l = a ++ b ∧ putS l c v = a ++ ⟨c, v⟩ :: b ∧ (∀ x ∈ a, cmpB x.key c < 0) ∧ ∀ x ∈ b, cmpB c x.key < 0 := by
  refine ⟨l.take (atS l c), l.drop (atS l c), (List.take_append_drop _ _).symm, by unfold putS insS; rw [if_neg (by simp [hi])], fun x hx => ?_, fun x hx => ?_⟩
  · obtain ⟨i, hxi⟩ := List.getElem?_of_mem hx
    rw [List.getElem?_take] at hxi
    split at hxi
    · rename_i hlt; exact befS_at hlt hxi
    · cases hxi
  · obtain ⟨i, hxi⟩ := List.getElem?_of_mem hx
    rw [List.getElem?_drop] at hxi
    have hl := (List.getElem?_eq_some_iff.1 hxi).1
    obtain ⟨y, hy⟩ : ∃ y, l[atS l c]? = some y := ⟨_, List.getElem?_eq_getElem (by omega)⟩
    have hy2 : cmpB c y.key < 0 := by have := notS_at hi hy; rw [cmpB_anti]; omega
    rcases Nat.eq_zero_or_pos i with h0 | h0
    · subst h0; rw [Nat.add_zero, hy] at hxi; obtain rfl := Option.some.inj hxi; exact hy2
    · obtain ⟨a1, rfl⟩ := List.getElem?_eq_some_iff.1 hy
      obtain ⟨a2, rfl⟩ := List.getElem?_eq_some_iff.1 hxi
      exact cmpB_trans hy2 (List.pairwise_iff_getElem.1 h.srt _ _ a1 a2 (by omega))

theorem put_ok {l : List SR} {c v : ByteArray} (h : okS l) (hc : keyedS c = true) (hv : valuedS v = true) : okS (putS l c v) := by
  cases hi : isS l c with
  | true =>
    obtain ⟨a, b, w, e1, e2, _⟩ := put_in (v := v) hi h
    rw [e2]
    have hs := h.srt
    rw [e1] at hs
    obtain ⟨p1, p2, p3⟩ := List.pairwise_append.1 hs
    obtain ⟨p4, p5⟩ := List.pairwise_cons.1 p2
    refine ⟨List.pairwise_append.2 ⟨p1, List.pairwise_cons.2 ⟨fun y hy => p4 y hy, p5⟩, fun x hx y hy => ?_⟩, fun x hx => ?_⟩
    · rcases List.mem_cons.1 hy with rfl | hy
      · exact p3 x hx ⟨c, w⟩ (by simp)
      · exact p3 x hx y (by simp [hy])
    · rcases List.mem_append.1 hx with hx | hx
      · exact h.form x (by rw [e1]; simp [hx])
      · rcases List.mem_cons.1 hx with rfl | hx
        · exact ⟨hc, hv⟩
        · exact h.form x (by rw [e1]; simp [hx])
  | false =>
    obtain ⟨a, b, e1, e2, g1, g2⟩ := put_new (v := v) hi h
    rw [e2]
    have hs := h.srt
    rw [e1] at hs
    obtain ⟨p1, p2, p3⟩ := List.pairwise_append.1 hs
    refine ⟨List.pairwise_append.2 ⟨p1, List.pairwise_cons.2 ⟨fun y hy => g2 y hy, p2⟩, fun x hx y hy => ?_⟩, fun x hx => ?_⟩
    · rcases List.mem_cons.1 hy with rfl | hy
      · exact g1 x hx
      · exact p3 x hx y hy
    · rcases List.mem_append.1 hx with hx | hx
      · exact h.form x (by rw [e1]; simp [hx])
      · rcases List.mem_cons.1 hx with rfl | hx
        · exact ⟨hc, hv⟩
        · exact h.form x (by rw [e1]; simp [hx])
theorem mem_put {l : List SR} {c v : ByteArray} (h : okS l) (x : SR) : x ∈ putS l c v ↔ x = ⟨c, v⟩ ∨ x ∈ l ∧ x.key ≠ c := by
  cases hi : isS l c with
  | true =>
    obtain ⟨a, b, w, e1, e2, _⟩ := put_in (v := v) hi h
    rw [e2]
    have hw : (⟨c, w⟩ : SR) ∈ l := by rw [e1]; simp
    have hs := h.srt
    rw [e1] at hs
    obtain ⟨p1, p2, p3⟩ := List.pairwise_append.1 hs
    obtain ⟨p4, p5⟩ := List.pairwise_cons.1 p2
    constructor
    · intro hx
      rcases List.mem_append.1 hx with hx | hx
      · exact .inr ⟨by rw [e1]; simp [hx], ltS_ne (p3 x hx _ (by simp : (⟨c, w⟩ : SR) ∈ ⟨c, w⟩ :: b))⟩
      · rcases List.mem_cons.1 hx with rfl | hx
        · exact .inl rfl
        · exact .inr ⟨by rw [e1]; simp [hx], (ltS_ne (p4 x hx)).symm⟩
    · rintro (rfl | ⟨hx, hn⟩)
      · simp
      · rw [e1] at hx
        rcases List.mem_append.1 hx with hx | hx
        · simp [hx]
        · rcases List.mem_cons.1 hx with rfl | hx
          · exact absurd rfl hn
          · simp [hx]
  | false =>
    obtain ⟨a, b, e1, e2, g1, g2⟩ := put_new (v := v) hi h
    rw [e2]
    have hn := notS_all h hi
    constructor
    · intro hx
      rcases List.mem_append.1 hx with hx | hx
      · exact .inr ⟨by rw [e1]; simp [hx], hn x (by rw [e1]; simp [hx])⟩
      · rcases List.mem_cons.1 hx with rfl | hx
        · exact .inl rfl
        · exact .inr ⟨by rw [e1]; simp [hx], hn x (by rw [e1]; simp [hx])⟩
    · rintro (rfl | ⟨hx, _⟩)
      · simp
      · rw [e1] at hx; rcases List.mem_append.1 hx with hx | hx <;> simp [hx]
theorem len_put {l : List SR} {c v : ByteArray} (h : okS l) : (putS l c v).length = l.length + (if isS l c = true then 0 else 1) := by
  cases hi : isS l c with
  | true => obtain ⟨a, b, w, e1, e2, _⟩ := put_in (v := v) hi h; rw [e2, if_pos rfl]; rw [e1]; simp
  | false => obtain ⟨a, b, e1, e2, _, _⟩ := put_new (v := v) hi h; rw [e2, if_neg (by simp)]; rw [e1]; simp; omega
theorem del_ok {l : List SR} {c : ByteArray} (h : okS l) (hi : isS l c = true) : okS (delS l c) ∧ (∀ x, x ∈ delS l c ↔ x ∈ l ∧ x.key ≠ c) ∧ (delS l c).length + 1 = l.length := by
  obtain ⟨a, b, w, e1, _, e2⟩ := put_in (v := c) hi h
  rw [e2]
  have hs := h.srt
  rw [e1] at hs
  obtain ⟨p1, p2, p3⟩ := List.pairwise_append.1 hs
  obtain ⟨p4, p5⟩ := List.pairwise_cons.1 p2
  refine ⟨⟨List.pairwise_append.2 ⟨p1, p5, fun x hx y hy => p3 x hx y (by simp [hy])⟩, fun x hx => h.form x (by rw [e1]; rcases List.mem_append.1 hx with hx | hx <;> simp [hx])⟩, fun x => ?_, by rw [e1]; simp; omega⟩
  constructor
  · intro hx
    rcases List.mem_append.1 hx with hx | hx
    · exact ⟨by rw [e1]; simp [hx], ltS_ne (p3 x hx _ (by simp : (⟨c, w⟩ : SR) ∈ ⟨c, w⟩ :: b))⟩
    · exact ⟨by rw [e1]; simp [hx], (ltS_ne (p4 x hx)).symm⟩
  · rintro ⟨hx, hn⟩
    rw [e1] at hx
    rcases List.mem_append.1 hx with hx | hx
    · simp [hx]
    · rcases List.mem_cons.1 hx with rfl | hx
      · exact absurd rfl hn
      · simp [hx]
theorem isS_put {l : List SR} {c v k : ByteArray} (h : okS l) (hc : keyedS c = true) (hv : valuedS v = true) : isS (putS l c v) k = (decide (k = c) || isS l k) := by
  have h2 := put_ok h hc hv
  rw [Bool.eq_iff_iff, isS_iff h2, Bool.or_eq_true, decide_eq_true_eq, isS_iff h]
  constructor
  · rintro ⟨x, hx, rfl⟩
    rcases (mem_put h x).1 hx with rfl | ⟨hx, _⟩
    · exact .inl rfl
    · exact .inr ⟨x, hx, rfl⟩
  · rintro (rfl | ⟨x, hx, rfl⟩)
    · exact ⟨⟨k, v⟩, (mem_put h _).2 (.inl rfl), rfl⟩
    · by_cases he : x.key = c
      · exact ⟨⟨c, v⟩, (mem_put h _).2 (.inl rfl), he.symm⟩
      · exact ⟨x, (mem_put h x).2 (.inr ⟨hx, he⟩), rfl⟩

/-! ### what the laws say -/
theorem setE_zero {l : List SR} {c v : ByteArray} (h : setE l c v = 0) : okS l ∧ l.length ≤ 64 ∧ keyedS c = true ∧ valuedS v = true ∧ ¬ (isS l c = false ∧ l.length = 64) ∧ setL l c v = putS l c v := by
  have h0 := h
  unfold setE at h
  split at h
  · omega
  · rename_i h1
    have h1 : checkL l = 0 := by omega
    split at h
    · omega
    · rename_i h2
      split at h
      · omega
      · rename_i h3
        obtain ⟨g1, g2⟩ := checkL_zero.1 h1
        refine ⟨g1, g2, ?_, ?_, h3, by unfold setL; rw [if_neg (by omega)]⟩
        · cases hk : keyedS c with
          | true => rfl
          | false => exact absurd (.inl hk) h2
        · cases hk : valuedS v with
          | true => rfl
          | false => exact absurd (.inr hk) h2
theorem setE_eq {l : List SR} {c v : ByteArray} (h : okS l) (hn : l.length ≤ 64) (hc : keyedS c = true) (hv : valuedS v = true) : setE l c v = if isS l c = false ∧ l.length = 64 then 9 else 0 := by
  unfold setE
  rw [if_neg (by rw [checkL_zero.2 ⟨h, hn⟩]; simp), if_neg (by simp [hc, hv])]
/-- SnapshotOrders. -/
theorem orders {l : List SR} {a b v w : ByteArray} (hab : a ≠ b) (e : setE l a v = 0) (f : setE l b w = 0) :
    setE (setL l a v) b w = setE (setL l b w) a v ∧ setL (setL l a v) b w = setL (setL l b w) a v := by
  obtain ⟨h, hn, ka, va, na, ea⟩ := setE_zero e
  obtain ⟨_, _, kb, vb, nb, eb⟩ := setE_zero f
  rw [ea, eb]
  have oa := put_ok h ka va
  have ob := put_ok h kb vb
  have la := len_put (v := v) (c := a) h
  have lb := len_put (v := w) (c := b) h
  have ia : isS (putS l a v) b = isS l b := by rw [isS_put h ka va, decide_eq_false (fun e => hab e.symm)]; rfl
  have ib : isS (putS l b w) a = isS l a := by rw [isS_put h kb vb, decide_eq_false hab]; rfl
  have hla : (putS l a v).length ≤ 64 := by
    rw [la]; cases hi : isS l a with
    | true => simp; omega
    | false => simp; rcases Nat.lt_or_ge l.length 64 with h2 | h2; omega; exact absurd ⟨hi, by omega⟩ na
  have hlb : (putS l b w).length ≤ 64 := by
    rw [lb]; cases hi : isS l b with
    | true => simp; omega
    | false => simp; rcases Nat.lt_or_ge l.length 64 with h2 | h2; omega; exact absurd ⟨hi, by omega⟩ nb
  have he : setE (putS l a v) b w = setE (putS l b w) a v := by
    rw [setE_eq oa hla kb vb, setE_eq ob hlb ka va, ia, ib]
    cases hi : isS l a <;> cases hj : isS l b
    · rw [hi] at la; rw [hj] at lb; simp at la lb; rw [la, lb]
    · rw [hi] at la; rw [hj] at lb; simp at la lb
      rw [if_neg (by simp), if_neg (by rw [lb]; exact fun h2 => na ⟨hi, h2.2⟩)]
    · rw [hi] at la; rw [hj] at lb; simp at la lb
      rw [if_neg (by rw [la]; exact fun h2 => nb ⟨hj, h2.2⟩), if_neg (by simp)]
    · rw [if_neg (by simp), if_neg (by simp)]
  refine ⟨he, ?_⟩
  unfold setL
  rw [he]
  split
  · rfl
  · refine srt_ext (put_ok oa kb vb).srt (put_ok ob ka va).srt fun x => ?_
    rw [mem_put oa, mem_put h, mem_put ob, mem_put h]
    constructor
    · rintro (rfl | ⟨rfl | ⟨hx, h1⟩, h2⟩)
      · exact .inr ⟨.inl rfl, fun e => hab e.symm⟩
      · exact .inl rfl
      · exact .inr ⟨.inr ⟨hx, h2⟩, h1⟩
    · rintro (rfl | ⟨rfl | ⟨hx, h1⟩, h2⟩)
      · exact .inr ⟨.inl rfl, hab⟩
      · exact .inl rfl
      · exact .inr ⟨.inr ⟨hx, h2⟩, h1⟩
theorem getE_ok {l : List SR} (h : okS l) (hn : l.length ≤ 64) (c : ByteArray) : getE l c = (if isS l c = false then 8 else 0) ∧ getV l c = (getO l c).getD ⟨#[]⟩ := by
  have h0 := checkL_zero.2 ⟨h, hn⟩
  exact ⟨by unfold getE; rw [if_neg (by omega)], by unfold getV; rw [if_neg (by omega)]⟩
theorem setL_len {l : List SR} {c v : ByteArray} (e : setE l c v = 0) : (putS l c v).length ≤ 64 := by
  obtain ⟨h, hn, ka, va, na, ea⟩ := setE_zero e
  rw [len_put h]
  cases hi : isS l c with
  | true => simp; omega
  | false => simp; rcases Nat.lt_or_ge l.length 64 with h2 | h2; omega; exact absurd ⟨hi, by omega⟩ na
theorem getO_congr {a b : List SR} {k : ByteArray} (ha : okS a) (hb : okS b) (h : ∀ v, (⟨k, v⟩ : SR) ∈ a ↔ (⟨k, v⟩ : SR) ∈ b) : getO a k = getO b k ∧ isS a k = isS b k := by
  have e : getO a k = getO b k := by
    cases hg : getO a k with
    | some v => exact ((getO_iff hb k v).2 ((h v).1 ((getO_iff ha k v).1 hg))).symm
    | none =>
      cases hg2 : getO b k with
      | none => rfl
      | some v => rw [(getO_iff ha k v).2 ((h v).2 ((getO_iff hb k v).1 hg2))] at hg; cases hg
  refine ⟨e, ?_⟩
  cases hi : isS a k with
  | false => rw [← getO_none ha, e, getO_none hb] at hi; exact hi.symm
  | true =>
    cases hj : isS b k with
    | true => rfl
    | false => rw [← getO_none hb, ← e, getO_none ha] at hj; rw [hj] at hi; cases hi
/-- SnapshotGets. -/
theorem gets {l : List SR} {c v o : ByteArray} (e : setE l c v = 0) :
    getE (setL l c v) c = 0 ∧ getV (setL l c v) c = v ∧ cutE (setL l c v) c = 0 ∧ getE (cutLs (setL l c v) c) c = 8 ∧
    (o = c ∨ getV l o = getV (setL l c v) o ∧ getE l o = getE (setL l c v) o ∧ getV l o = getV (cutLs (setL l c v) c) o ∧ getE l o = getE (cutLs (setL l c v) c) o) := by
  obtain ⟨h, hn, ka, va, na, ea⟩ := setE_zero e
  rw [ea]
  have oa := put_ok h ka va
  have hl := setL_len e
  have ia : isS (putS l c v) c = true := by rw [isS_put h ka va]; simp
  have hm : (⟨c, v⟩ : SR) ∈ putS l c v := (mem_put h _).2 (.inl rfl)
  obtain ⟨g1, g2⟩ := getE_ok oa hl c
  have hc : cutE (putS l c v) c = 0 := by unfold cutE; rw [g1, ia]; rfl
  have hcl : cutLs (putS l c v) c = delS (putS l c v) c := by unfold cutLs; rw [if_neg (by omega)]
  obtain ⟨d1, d2, d3⟩ := del_ok oa ia
  have hdl : (delS (putS l c v) c).length ≤ 64 := by omega
  rw [hcl]
  obtain ⟨q1, q2⟩ := getE_ok d1 hdl c
  have hin : isS (delS (putS l c v) c) c = false := by
    cases hi : isS (delS (putS l c v) c) c with
    | false => rfl
    | true =>
      obtain ⟨x, hx, hk⟩ := (isS_iff d1 c).1 hi
      exact absurd hk ((d2 x).1 hx).2
  refine ⟨by rw [g1, ia]; rfl, by rw [g2, (getO_iff oa c v).2 hm]; rfl, hc, by rw [q1, hin]; rfl, ?_⟩
  by_cases ho : o = c
  · exact .inl ho
  · refine .inr ?_
    obtain ⟨r1, r2⟩ := getE_ok h hn o
    obtain ⟨s1, s2⟩ := getE_ok oa hl o
    obtain ⟨t1, t2⟩ := getE_ok d1 hdl o
    obtain ⟨u1, u2⟩ := getO_congr (k := o) h oa (fun z => by
      rw [mem_put h]
      exact ⟨fun hx => .inr ⟨hx, ho⟩, fun hx => hx.elim (fun he => absurd (congrArg SR.key he) ho) (·.1)⟩)
    obtain ⟨w1, w2⟩ := getO_congr (k := o) h d1 (fun z => by
      rw [d2, mem_put h]
      exact ⟨fun hx => ⟨.inr ⟨hx, ho⟩, ho⟩, fun hx => hx.1.elim (fun he => absurd (congrArg SR.key he) ho) (·.1)⟩)
    rw [r1, r2, s1, s2, t1, t2, u1, u2, w1.symm, w2.symm, u1, u2]
    exact ⟨rfl, rfl, rfl, rfl⟩
end Go.Proofs.YtodbcbojkfndiaaGreatDoorA
