/- What changes do; the changes between two states. -/
import Derived.Test.YtodbcbojkfndiaaGreatDoorSpec3
namespace Go.Proofs.YtodbcbojkfndiaaGreatDoorA
open Go
set_option linter.unusedVariables false
set_option linter.unusedSimpArgs false
set_option linter.unnecessarySimpa false

theorem valAt_mem {l : List SR} (h : okS l) {c : ByteArray} (hi : isS l c = true) : (⟨c, valAt l (atS l c)⟩ : SR) ∈ l := by
  obtain ⟨x, hx, rfl⟩ := isS_at hi
  unfold valAt
  rw [hx]
  exact List.mem_of_getElem? hx
theorem oneE_fit {l : List SR} (h : okS l) (c : SC) : oneE l c = 0 ↔ isS l c.key = c.had ∧ (c.had = true → (⟨c.key, c.old⟩ : SR) ∈ l) ∧ (c.has = true → keyedS c.key = true ∧ valuedS c.new = true) := by
  unfold oneE
  constructor
  · intro h0
    split at h0
    · omega
    · rename_i h1
      split at h0
      · omega
      · rename_i h2
        have e1 : isS l c.key = c.had := Classical.byContradiction fun hn => h1 (.inl hn)
        refine ⟨e1, fun hh => ?_, fun hh => ?_⟩
        · rw [hh] at e1
          have e2 : valAt l (atS l c.key) = c.old := Classical.byContradiction fun hn => h1 (.inr ⟨e1, hn⟩)
          have := valAt_mem h e1
          rwa [e2] at this
        · constructor
          · cases hk : keyedS c.key with
            | true => rfl
            | false => exact absurd ⟨hh, .inl hk⟩ h2
          · cases hk : valuedS c.new with
            | true => rfl
            | false => exact absurd ⟨hh, .inr hk⟩ h2
  · rintro ⟨e1, e2, e3⟩
    rw [if_neg, if_neg]
    · rintro ⟨h1, h2 | h2⟩
      · rw [(e3 h1).1] at h2; cases h2
      · rw [(e3 h1).2] at h2; cases h2
    · rintro (h1 | ⟨h1, h2⟩)
      · exact h1 e1
      · have e4 := e2 (e1 ▸ h1)
        have := h.keys (valAt_mem h h1) e4 rfl
        exact h2 (congrArg SR.val this)
theorem one_ok {l : List SR} (h : okS l) {c : SC} (h0 : oneE l c = 0) : okS (oneL l c) ∧ (∀ x, x ∈ oneL l c ↔ (c.has = true ∧ x = ⟨c.key, c.new⟩) ∨ x ∈ l ∧ x.key ≠ c.key) ∧ (oneL l c).length ≤ l.length + 1 := by
  obtain ⟨e1, e2, e3⟩ := (oneE_fit h c).1 h0
  unfold oneL
  rw [if_neg (by omega)]
  by_cases hh : c.has = true
  · rw [if_pos hh]
    obtain ⟨k1, k2⟩ := e3 hh
    refine ⟨put_ok h k1 k2, fun x => ?_, by rw [len_put h]; split <;> omega⟩
    rw [mem_put h]
    exact ⟨fun hx => hx.imp (fun e => ⟨hh, e⟩) id, fun hx => hx.imp (fun e => e.2) id⟩
  · rw [if_neg hh]
    by_cases hi : isS l c.key = true
    · rw [if_pos hi]
      obtain ⟨d1, d2, d3⟩ := del_ok h hi
      refine ⟨d1, fun x => ?_, by omega⟩
      rw [d2]
      exact ⟨.inr, fun hx => hx.resolve_left fun e => hh e.1⟩
    · rw [if_neg hi]
      have hn := notS_all h (c := c.key) (by simpa using hi)
      exact ⟨h, fun x => ⟨fun hx => .inr ⟨hx, hn x hx⟩, fun hx => (hx.resolve_left fun e => hh e.1).1⟩, by omega⟩

/-- A change that fits a state. -/
structure Fit (l : List SR) (c : SC) : Prop where
  had : isS l c.key = c.had
  old : c.had = true → (⟨c.key, c.old⟩ : SR) ∈ l
  new : c.has = true → keyedS c.key = true ∧ valuedS c.new = true
theorem Fit.zero {l : List SR} (h : okS l) {c : SC} (f : Fit l c) : oneE l c = 0 := (oneE_fit h c).2 ⟨f.had, f.old, f.new⟩

theorem isS_cong {a b : List SR} (ha : okS a) (hb : okS b) {k : ByteArray} (h : ∀ x : SR, x.key = k → (x ∈ a ↔ x ∈ b)) : isS a k = isS b k := by
  rw [Bool.eq_iff_iff, isS_iff ha, isS_iff hb]
  exact ⟨fun ⟨x, hx, hk⟩ => ⟨x, (h x hk).1 hx, hk⟩, fun ⟨x, hx, hk⟩ => ⟨x, (h x hk).2 hx, hk⟩⟩

theorem appF_ok : ∀ {cs : List SC} {l : List SR}, okS l → (∀ c ∈ cs, Fit l c) → cs.Pairwise (fun c d => c.key ≠ d.key) →
    (appF l cs).1 = 0 ∧ okS (appF l cs).2 ∧ ∀ x, x ∈ (appF l cs).2 ↔ (∃ c ∈ cs, c.has = true ∧ x = ⟨c.key, c.new⟩) ∨ x ∈ l ∧ ∀ c ∈ cs, c.key ≠ x.key
  | [], l, h, _, _ => ⟨rfl, h, fun x => by simp [appF]⟩
  | c :: cs, l, h, hf, hd => by
    have h0 := (hf c (by simp)).zero h
    obtain ⟨o1, o2, _⟩ := one_ok h h0
    obtain ⟨d1, d2⟩ := List.pairwise_cons.1 hd
    have hf2 : ∀ e ∈ cs, Fit (oneL l c) e := fun e he => by
      have g := hf e (by simp [he])
      have hne := d1 e he
      have hm : ∀ x : SR, x.key = e.key → (x ∈ oneL l c ↔ x ∈ l) := fun x hx => by
        rw [o2]
        constructor
        · rintro (⟨_, rfl⟩ | ⟨h1, _⟩)
          · exact absurd hx hne
          · exact h1
        · exact fun h1 => .inr ⟨h1, fun e2 => hne (e2.symm.trans hx)⟩
      exact ⟨(isS_cong o1 h hm).trans g.had, fun hh => (hm _ rfl).2 (g.old hh), g.new⟩
    obtain ⟨r1, r2, r3⟩ := appF_ok o1 hf2 d2
    have e : appF l (c :: cs) = appF (oneL l c) cs := by rw [appF, if_neg (by omega)]
    rw [e]
    refine ⟨r1, r2, fun x => ?_⟩
    rw [r3, o2]
    constructor
    · rintro (⟨e, he, h1, rfl⟩ | ⟨⟨h1, rfl⟩ | ⟨h1, h2⟩, h3⟩)
      · exact .inl ⟨e, by simp [he], h1, rfl⟩
      · exact .inl ⟨c, by simp, h1, rfl⟩
      · exact .inr ⟨h1, fun e he => by
          rcases List.mem_cons.1 he with rfl | he
          · exact fun e2 => h2 e2.symm
          · exact h3 e he⟩
    · rintro (⟨e, he, h1, rfl⟩ | ⟨h1, h2⟩)
      · rcases List.mem_cons.1 he with rfl | he
        · exact .inr ⟨.inl ⟨h1, rfl⟩, fun f hf' => (d1 f hf').symm⟩
        · exact .inl ⟨e, he, h1, rfl⟩
      · exact .inr ⟨.inr ⟨h1, (h2 c (by simp)).symm⟩, fun e he => h2 e (by simp [he])⟩
theorem appF_app : ∀ (d f : List SC) (l : List SR), (appF l d).1 = 0 → appF l (d ++ f) = appF (appF l d).2 f
  | [], f, l, _ => rfl
  | c :: d, f, l, h => by
    rw [List.cons_append, appF]
    rw [appF] at h
    rw [appF]
    split
    · rename_i h1; rw [if_pos h1] at h; exact absurd h h1
    · rename_i h1; rw [if_neg h1] at h; exact appF_app d f _ h

/-! ### changes between states -/
structure Dif (a b : List SR) (d : List SC) : Prop where
  srt : d.Pairwise (fun c e => cmpB c.key e.key < 0)
  had : ∀ c ∈ d, isS a c.key = c.had
  has : ∀ c ∈ d, isS b c.key = c.has
  old : ∀ c ∈ d, c.had = true → (⟨c.key, c.old⟩ : SR) ∈ a
  new : ∀ c ∈ d, c.has = true → (⟨c.key, c.new⟩ : SR) ∈ b
  fa : ∀ x ∈ a, x ∈ b ∨ ∃ c ∈ d, c.key = x.key
  fb : ∀ x ∈ b, x ∈ a ∨ ∃ c ∈ d, c.key = x.key
  mem : ∀ c ∈ d, c.had = true ∨ c.has = true
theorem okS.tail {x : SR} {l : List SR} (h : okS (x :: l)) : okS l := ⟨(List.pairwise_cons.1 h.srt).2, fun y hy => h.form y (by simp [hy])⟩
theorem okS.hd {x : SR} {l : List SR} (h : okS (x :: l)) : ∀ y ∈ l, cmpB x.key y.key < 0 := (List.pairwise_cons.1 h.srt).1
theorem isS_cons {x : SR} {l : List SR} (h : okS (x :: l)) (k : ByteArray) : isS (x :: l) k = (decide (x.key = k) || isS l k) := by
  rw [Bool.eq_iff_iff, isS_iff h, Bool.or_eq_true, decide_eq_true_eq, isS_iff h.tail]
  constructor
  · rintro ⟨y, hy, rfl⟩
    rcases List.mem_cons.1 hy with rfl | hy
    · exact .inl rfl
    · exact .inr ⟨y, hy, rfl⟩
  · rintro (rfl | ⟨y, hy, rfl⟩)
    · exact ⟨x, by simp, rfl⟩
    · exact ⟨y, by simp [hy], rfl⟩
theorem isS_nil (k : ByteArray) : isS [] k = false := rfl
/-- All keys of a state are greater than k. -/
def Gt (k : ByteArray) (l : List SR) : Prop := ∀ y ∈ l, cmpB k y.key < 0
theorem Gt.no {k : ByteArray} {l : List SR} (h : okS l) (g : Gt k l) : isS l k = false := by
  cases hi : isS l k with
  | false => rfl
  | true =>
    obtain ⟨y, hy, hk⟩ := (isS_iff h k).1 hi
    have := g y hy
    rw [hk] at this
    exact absurd this (cmpB_irr _)
theorem Dif.gt {a b : List SR} {d : List SC} (h : Dif a b d) (ha : okS a) (hb : okS b) {k : ByteArray} (ga : Gt k a) (gb : Gt k b) : ∀ c ∈ d, cmpB k c.key < 0 := fun c hc => by
  rcases h.mem c hc with h1 | h1
  · exact ga _ (h.old c hc h1)
  · exact gb _ (h.new c hc h1)
/-- A key that stands in the first state alone. -/
theorem Dif.del {x : SR} {a b : List SR} {d : List SC} (ha : okS (x :: a)) (hb : okS b) (gb : Gt x.key b) (h : Dif a b d) : Dif (x :: a) b (⟨x.key, true, false, x.val, ⟨#[]⟩⟩ :: d) := by
  have g := h.gt ha.tail hb ha.hd gb
  have hne : ∀ c ∈ d, x.key ≠ c.key := fun c hc e => by have := g c hc; rw [e] at this; exact cmpB_irr _ this
  refine ⟨List.pairwise_cons.2 ⟨g, h.srt⟩, fun c hc => ?_, fun c hc => ?_, fun c hc hh => ?_, fun c hc hh => ?_, fun y hy => ?_, fun y hy => ?_, fun c hc => ?_⟩
  · rcases List.mem_cons.1 hc with rfl | hc
    · rw [isS_cons ha]; simp
    · rw [isS_cons ha, decide_eq_false (hne c hc), h.had c hc]; rfl
  · rcases List.mem_cons.1 hc with rfl | hc
    · exact gb.no hb
    · exact h.has c hc
  · rcases List.mem_cons.1 hc with rfl | hc
    · simp
    · exact List.mem_cons_of_mem _ (h.old c hc hh)
  · rcases List.mem_cons.1 hc with rfl | hc
    · cases hh
    · exact h.new c hc hh
  · rcases List.mem_cons.1 hy with rfl | hy
    · exact .inr ⟨_, List.mem_cons_self .., rfl⟩
    · exact (h.fa y hy).imp id fun ⟨c, hc, e⟩ => ⟨c, by simp [hc], e⟩
  · exact (h.fb y hy).imp (fun h1 => by simp [h1]) fun ⟨c, hc, e⟩ => ⟨c, by simp [hc], e⟩
  · rcases List.mem_cons.1 hc with rfl | hc
    · exact .inl rfl
    · exact h.mem c hc
theorem Dif.add {y : SR} {a b : List SR} {d : List SC} (ha : okS a) (hb : okS (y :: b)) (ga : Gt y.key a) (h : Dif a b d) : Dif a (y :: b) (⟨y.key, false, true, ⟨#[]⟩, y.val⟩ :: d) := by
  have g := h.gt ha hb.tail ga hb.hd
  have hne : ∀ c ∈ d, y.key ≠ c.key := fun c hc e => by have := g c hc; rw [e] at this; exact cmpB_irr _ this
  refine ⟨List.pairwise_cons.2 ⟨g, h.srt⟩, fun c hc => ?_, fun c hc => ?_, fun c hc hh => ?_, fun c hc hh => ?_, fun x hx => ?_, fun x hx => ?_, fun c hc => ?_⟩
  · rcases List.mem_cons.1 hc with rfl | hc
    · exact ga.no ha
    · exact h.had c hc
  · rcases List.mem_cons.1 hc with rfl | hc
    · rw [isS_cons hb]; simp
    · rw [isS_cons hb, decide_eq_false (hne c hc), h.has c hc]; rfl
  · rcases List.mem_cons.1 hc with rfl | hc
    · cases hh
    · exact h.old c hc hh
  · rcases List.mem_cons.1 hc with rfl | hc
    · simp
    · exact List.mem_cons_of_mem _ (h.new c hc hh)
  · exact (h.fa x hx).imp (fun h1 => by simp [h1]) fun ⟨c, hc, e⟩ => ⟨c, by simp [hc], e⟩
  · rcases List.mem_cons.1 hx with rfl | hx
    · exact .inr ⟨_, List.mem_cons_self .., rfl⟩
    · exact (h.fb x hx).imp id fun ⟨c, hc, e⟩ => ⟨c, by simp [hc], e⟩
  · rcases List.mem_cons.1 hc with rfl | hc
    · exact .inr rfl
    · exact h.mem c hc
theorem Dif.chg {x y : SR} {a b : List SR} {d : List SC} (ha : okS (x :: a)) (hb : okS (y :: b)) (hk : x.key = y.key) (h : Dif a b d) : Dif (x :: a) (y :: b) (⟨x.key, true, true, x.val, y.val⟩ :: d) := by
  have g := h.gt ha.tail hb.tail ha.hd (hk ▸ hb.hd)
  have hne : ∀ c ∈ d, x.key ≠ c.key := fun c hc e => by have := g c hc; rw [e] at this; exact cmpB_irr _ this
  refine ⟨List.pairwise_cons.2 ⟨g, h.srt⟩, fun c hc => ?_, fun c hc => ?_, fun c hc hh => ?_, fun c hc hh => ?_, fun z hz => ?_, fun z hz => ?_, fun c hc => ?_⟩
  · rcases List.mem_cons.1 hc with rfl | hc
    · rw [isS_cons ha]; simp
    · rw [isS_cons ha, decide_eq_false (hne c hc), h.had c hc]; rfl
  · rcases List.mem_cons.1 hc with rfl | hc
    · rw [isS_cons hb]; simp [hk]
    · rw [isS_cons hb, decide_eq_false (hk ▸ hne c hc), h.has c hc]; rfl
  · rcases List.mem_cons.1 hc with rfl | hc
    · simp
    · exact List.mem_cons_of_mem _ (h.old c hc hh)
  · rcases List.mem_cons.1 hc with rfl | hc
    · show (⟨x.key, y.val⟩ : SR) ∈ y :: b
      rw [hk]; simp
    · exact List.mem_cons_of_mem _ (h.new c hc hh)
  · rcases List.mem_cons.1 hz with rfl | hz
    · exact .inr ⟨_, List.mem_cons_self .., rfl⟩
    · exact (h.fa z hz).imp (fun h1 => by simp [h1]) fun ⟨c, hc, e⟩ => ⟨c, by simp [hc], e⟩
  · rcases List.mem_cons.1 hz with rfl | hz
    · exact .inr ⟨_, List.mem_cons_self .., hk⟩
    · exact (h.fb z hz).imp (fun h1 => by simp [h1]) fun ⟨c, hc, e⟩ => ⟨c, by simp [hc], e⟩
  · rcases List.mem_cons.1 hc with rfl | hc
    · exact .inl rfl
    · exact h.mem c hc
theorem Dif.same {x y : SR} {a b : List SR} {d : List SC} (ha : okS (x :: a)) (hb : okS (y :: b)) (hk : x = y) (h : Dif a b d) : Dif (x :: a) (y :: b) d := by
  subst hk
  have g := h.gt ha.tail hb.tail ha.hd hb.hd
  have hne : ∀ c ∈ d, x.key ≠ c.key := fun c hc e => by have := g c hc; rw [e] at this; exact cmpB_irr _ this
  refine ⟨h.srt, fun c hc => ?_, fun c hc => ?_, fun c hc hh => List.mem_cons_of_mem _ (h.old c hc hh), fun c hc hh => List.mem_cons_of_mem _ (h.new c hc hh), fun z hz => ?_, fun z hz => ?_, h.mem⟩
  · rw [isS_cons ha, decide_eq_false (hne c hc), h.had c hc]; rfl
  · rw [isS_cons hb, decide_eq_false (hne c hc), h.has c hc]; rfl
  · rcases List.mem_cons.1 hz with rfl | hz
    · exact .inl (by simp)
    · exact (h.fa z hz).imp (fun h1 => by simp [h1]) id
  · rcases List.mem_cons.1 hz with rfl | hz
    · exact .inl (by simp)
    · exact (h.fb z hz).imp (fun h1 => by simp [h1]) id
theorem okS_nil : okS [] := ⟨List.Pairwise.nil, by simp⟩
theorem diff_dif : ∀ (n : Nat) (a b : List SR), a.length + b.length = n → okS a → okS b → Dif a b (diffR a b) := by
  intro n
  induction n using Nat.strongRecOn with
  | _ n ih =>
    intro a b hn ha hb
    match a, b with
    | [], [] => rw [diffR]; exact ⟨List.Pairwise.nil, by simp, by simp, by simp, by simp, by simp, by simp, by simp⟩
    | x :: a, [] => rw [diffR]; exact Dif.del ha hb (by intro y hy; cases hy) (ih (a.length + 0) (by simp at hn; omega) a [] rfl ha.tail hb)
    | [], y :: b => rw [diffR]; exact Dif.add ha hb (by intro y hy; cases hy) (ih (0 + b.length) (by simp at hn; omega) [] b rfl ha hb.tail)
    | x :: a, y :: b =>
      rw [diffR]
      split
      · rename_i h1
        exact Dif.del ha hb (fun z hz => by
          rcases List.mem_cons.1 hz with rfl | hz
          · exact h1
          · exact cmpB_trans h1 (hb.hd z hz)) (ih (a.length + (y :: b).length) (by simp at hn ⊢; omega) a (y :: b) rfl ha.tail hb)
      · rename_i h1
        split
        · rename_i h2
          exact Dif.add ha hb (fun z hz => by
            rcases List.mem_cons.1 hz with rfl | hz
            · exact h2
            · exact cmpB_trans h2 (ha.hd z hz)) (ih ((x :: a).length + b.length) (by simp at hn ⊢; omega) (x :: a) b rfl ha hb.tail)
        · rename_i h2
          have hk : x.key = y.key := (cmpB_zero _ _).1 (by rw [cmpB_anti] at h2; omega)
          have hd := ih (a.length + b.length) (by simp at hn; omega) a b rfl ha.tail hb.tail
          split
          · exact Dif.chg ha hb hk hd
          · rename_i h3
            exact Dif.same ha hb (SR.ext2 hk ((seq_iff _ _).1 (by simpa using h3))) hd
theorem diff_len : ∀ (n : Nat) (a b : List SR), a.length + b.length = n → (diffR a b).length ≤ n := by
  intro n
  induction n using Nat.strongRecOn with
  | _ n ih =>
    intro a b hn
    match a, b with
    | [], [] => rw [diffR]; simp
    | x :: a, [] => rw [diffR]; have := ih (a.length + 0) (by simp at hn; omega) a [] rfl; simp at hn ⊢; omega
    | [], y :: b => rw [diffR]; have := ih (0 + b.length) (by simp at hn; omega) [] b rfl; simp at hn ⊢; omega
    | x :: a, y :: b =>
      rw [diffR]
      have h1 := ih (a.length + (y :: b).length) (by simp at hn ⊢; omega) a (y :: b) rfl
      have h2 := ih ((x :: a).length + b.length) (by simp at hn ⊢; omega) (x :: a) b rfl
      have h3 := ih (a.length + b.length) (by simp at hn ⊢; omega) a b rfl
      simp at hn h1 h2 h3
      split
      · simp; omega
      · split
        · simp; omega
        · split
          · simp; omega
          · omega
theorem diff_self : ∀ a : List SR, diffR a a = []
  | [] => by rw [diffR]
  | x :: a => by
    rw [diffR, if_neg (cmpB_irr _), if_neg (cmpB_irr _), if_neg (by rw [seq_refl]; simp), diff_self a]

theorem Dif.fits {a b : List SR} {d : List SC} (h : Dif a b d) (hb : okS b) : ∀ c ∈ d, Fit a c := fun c hc =>
  ⟨h.had c hc, h.old c hc, fun hh => hb.form _ (h.new c hc hh)⟩
theorem Dif.keys {a b : List SR} {d : List SC} (h : Dif a b d) : d.Pairwise fun c e => c.key ≠ e.key := h.srt.imp fun h e => by rw [e] at h; exact cmpB_irr _ h
theorem Dif.key1 {a b : List SR} {d : List SC} (h : Dif a b d) {c e : SC} (hc : c ∈ d) (he : e ∈ d) (hk : c.key = e.key) : c = e := by
  obtain ⟨i, hi⟩ := List.getElem?_of_mem hc
  obtain ⟨j, hj⟩ := List.getElem?_of_mem he
  obtain ⟨hi1, rfl⟩ := List.getElem?_eq_some_iff.1 hi
  obtain ⟨hj1, rfl⟩ := List.getElem?_eq_some_iff.1 hj
  rcases Nat.lt_trichotomy i j with h1 | h1 | h1
  · exact absurd hk (List.pairwise_iff_getElem.1 h.keys i j hi1 hj1 h1)
  · subst h1; rfl
  · exact absurd hk.symm (List.pairwise_iff_getElem.1 h.keys j i hj1 hi1 h1)
/-- The changes, applied. -/
theorem Dif.app {a b : List SR} {d : List SC} (h : Dif a b d) (ha : okS a) (hb : okS b) : (appF a d).1 = 0 ∧ (appF a d).2 = b := by
  obtain ⟨r1, r2, r3⟩ := appF_ok ha (h.fits hb) h.keys
  refine ⟨r1, srt_ext r2.srt hb.srt fun x => ?_⟩
  rw [r3]
  constructor
  · rintro (⟨c, hc, hh, rfl⟩ | ⟨hx, hn⟩)
    · exact h.new c hc hh
    · exact (h.fa x hx).resolve_right fun ⟨c, hc, e⟩ => hn c hc e
  · intro hx
    by_cases he : ∃ c ∈ d, c.key = x.key
    · obtain ⟨c, hc, e⟩ := he
      have hh : c.has = true := by rw [← h.has c hc]; exact (isS_iff hb _).2 ⟨x, hx, e.symm⟩
      refine .inl ⟨c, hc, hh, ?_⟩
      exact hb.keys hx (h.new c hc hh) e.symm
    · exact .inr ⟨(h.fb x hx).resolve_right he, fun c hc e => he ⟨c, hc, e⟩⟩
def turn (c : SC) : SC := ⟨c.key, c.has, c.had, c.new, c.old⟩
/-- .. and turned round. -/
theorem Dif.back {a b : List SR} {d : List SC} (h : Dif a b d) (ha : okS a) (hb : okS b) : (appF b (d.map turn).reverse).1 = 0 ∧ (appF b (d.map turn).reverse).2 = a := by
  have hmem : ∀ c, c ∈ (d.map turn).reverse ↔ ∃ e ∈ d, c = turn e := fun c => by
    rw [List.mem_reverse, List.mem_map]
    exact ⟨fun ⟨e, he, h⟩ => ⟨e, he, h.symm⟩, fun ⟨e, he, h⟩ => ⟨e, he, h.symm⟩⟩
  have hd : (d.map turn).reverse.Pairwise fun c e => c.key ≠ e.key := by
    rw [List.pairwise_reverse, List.pairwise_map]
    exact h.keys.imp fun h e => h e.symm
  obtain ⟨r1, r2, r3⟩ := appF_ok hb (fun c hc => by
    obtain ⟨e, he, rfl⟩ := (hmem c).1 hc
    exact ⟨h.has e he, h.new e he, fun hh => ha.form _ (h.old e he hh)⟩) hd
  refine ⟨r1, srt_ext r2.srt ha.srt fun x => ?_⟩
  rw [r3]
  constructor
  · rintro (⟨c, hc, hh, rfl⟩ | ⟨hx, hn⟩)
    · obtain ⟨e, he, rfl⟩ := (hmem c).1 hc
      exact h.old e he hh
    · exact (h.fb x hx).resolve_right fun ⟨c, hc, e⟩ => hn (turn c) ((hmem _).2 ⟨c, hc, rfl⟩) e
  · intro hx
    by_cases he : ∃ c ∈ d, c.key = x.key
    · obtain ⟨c, hc, e⟩ := he
      have hh : c.had = true := by rw [← h.had c hc]; exact (isS_iff ha _).2 ⟨x, hx, e.symm⟩
      refine .inl ⟨turn c, (hmem _).2 ⟨c, hc, rfl⟩, hh, ?_⟩
      exact ha.keys hx (h.old c hc hh) e.symm
    · exact .inr ⟨(h.fa x hx).resolve_right he, fun c hc e => by
        obtain ⟨f, hf, rfl⟩ := (hmem c).1 hc
        exact he ⟨f, hf, e⟩⟩
theorem Dif.nil {a b : List SR} (h : Dif a b []) (ha : okS a) (hb : okS b) : a = b := by
  refine srt_ext ha.srt hb.srt fun x => ⟨fun hx => (h.fa x hx).resolve_right (by simp), fun hx => (h.fb x hx).resolve_right (by simp)⟩

theorem diffE_zero {a b : List SR} (h : diffE a b = 0) : okS a ∧ a.length ≤ 64 ∧ okS b ∧ b.length ≤ 64 ∧ diffL a b = diffR a b := by
  have h0 := h
  unfold diffE at h
  split at h
  · omega
  · rename_i h1
    obtain ⟨g1, g2⟩ := checkL_zero.1 (show checkL a = 0 by omega)
    obtain ⟨g3, g4⟩ := checkL_zero.1 h
    exact ⟨g1, g2, g3, g4, by unfold diffL; rw [if_neg (by omega)]⟩
theorem app_zero {l : List SR} {cs : List SC} (h : okS l) (hn : l.length ≤ 64) (hc : cs.length ≤ 256) (h1 : (appF l cs).1 = 0) (h2 : (appF l cs).2.length ≤ 64) : appE l cs = 0 ∧ appL l cs = (appF l cs).2 := by
  have : appE l cs = 0 := by
    unfold appE
    rw [if_neg (by rw [checkL_zero.2 ⟨h, hn⟩]; simp), if_neg (by omega), if_neg (by omega), if_neg (by omega)]
  exact ⟨this, by unfold appL; rw [if_neg (by omega)]⟩
/-- SnapshotDiffs. -/
theorem diffs {a b : List SR} (h : diffE a b = 0) : appE a (diffL a b) = 0 ∧ appL a (diffL a b) = b ∧ (decide (((diffL a b).length : Int) = 0) = decide (a = b)) ∧
    appE b ((diffL a b).map turn).reverse = 0 ∧ appL b ((diffL a b).map turn).reverse = a := by
  obtain ⟨ha, na, hb, nb, e⟩ := diffE_zero h
  rw [e]
  have hd := diff_dif _ a b rfl ha hb
  have hl := diff_len _ a b rfl
  obtain ⟨r1, r2⟩ := hd.app ha hb
  obtain ⟨s1, s2⟩ := hd.back ha hb
  obtain ⟨t1, t2⟩ := app_zero ha na (by omega) r1 (by rw [r2]; exact nb)
  obtain ⟨u1, u2⟩ := app_zero hb nb (by simp; omega) s1 (by rw [s2]; exact na)
  refine ⟨t1, t2.trans r2, ?_, u1, u2.trans s2⟩
  by_cases hab : a = b
  · subst hab; rw [diff_self]; simp
  · rw [decide_eq_false hab, decide_eq_false]
    intro h0
    have h1 : diffR a b = [] := List.eq_nil_of_length_eq_zero (by omega)
    rw [h1] at hd
    exact hab (hd.nil ha hb)
/-- SnapshotThrough. -/
theorem through {a b c : List SR} (h1 : diffE a b = 0) (h2 : diffE b c = 0) (h3 : diffE a c = 0) :
    appE a (diffL a b ++ diffL b c) = 0 ∧ appE a (diffL a c) = 0 ∧ appL a (diffL a b ++ diffL b c) = c ∧ appL a (diffL a c) = c := by
  obtain ⟨ha, na, hb, nb, e1⟩ := diffE_zero h1
  obtain ⟨_, _, hc, nc, e2⟩ := diffE_zero h2
  obtain ⟨_, _, _, _, e3⟩ := diffE_zero h3
  obtain ⟨q1, q2, _⟩ := diffs h3
  rw [e1, e2]
  obtain ⟨r1, r2⟩ := (diff_dif _ a b rfl ha hb).app ha hb
  obtain ⟨s1, s2⟩ := (diff_dif _ b c rfl hb hc).app hb hc
  have l1 := diff_len _ a b rfl
  have l2 := diff_len _ b c rfl
  have e := appF_app (diffR a b) (diffR b c) a r1
  rw [r2] at e
  obtain ⟨t1, t2⟩ := app_zero (cs := diffR a b ++ diffR b c) ha na (by simp; omega) (by rw [e]; exact s1) (by rw [e, s2]; exact nc)
  exact ⟨t1, q1, by rw [t2, e]; exact s2, q2⟩
end Go.Proofs.YtodbcbojkfndiaaGreatDoorA
