/- The laws of package replay, in plain words. -/
import Derived.Test.YtodbcbojkfndiaaGreatDoorRep2
import Derived.Test.YtodbcbojkfndiaaGreatDoorItoa
namespace Go.Proofs.YtodbcbojkfndiaaGreatDoorA
open Go
set_option linter.unusedVariables false
set_option linter.unusedSimpArgs false
set_option linter.unnecessarySimpa false

theorem keyed_no {K : ByteArray} (h : keyedS K = true) : (32 : UInt8) ∉ bl K := fun hm => by
  have := (keyed_size h).2.2 32 hm
  revert this; decide
theorem put_put {l : List SR} (o : okS l) {c v w : ByteArray} (hw : (⟨c, w⟩ : SR) ∈ l) (hv : valuedS v = true) : putS (putS l c v) c w = l := by
  obtain ⟨kc, kw⟩ := o.form _ hw
  have o1 := put_ok o kc hv
  have o2 := put_ok o1 kc kw
  refine srt_ext o2.srt o.srt fun x => ?_
  rw [mem_put o1, mem_put o]
  constructor
  · rintro (rfl | ⟨rfl | ⟨h1, h2⟩, h3⟩)
    · exact hw
    · exact absurd rfl h3
    · exact h1
  · intro hx
    by_cases hk : x.key = c
    · exact .inl (o.keys hx hw hk)
    · exact .inr ⟨.inr ⟨hx, hk⟩, hk⟩
theorem put_del {l : List SR} (o : okS l) {c v : ByteArray} (hc : keyedS c = true) (hv : valuedS v = true) (hi : isS l c = false) : isS (putS l c v) c = true ∧ delS (putS l c v) c = l := by
  have o1 := put_ok o hc hv
  have h1 : isS (putS l c v) c = true := by rw [isS_put o hc hv]; simp
  obtain ⟨d1, d2, d3⟩ := del_ok o1 h1
  refine ⟨h1, srt_ext d1.srt o.srt fun x => ?_⟩
  rw [d2, mem_put o]
  constructor
  · rintro ⟨rfl | ⟨h2, _⟩, h3⟩
    · exact absurd rfl h3
    · exact h2
  · exact fun hx => ⟨.inr ⟨hx, notS_all o hi x hx⟩, notS_all o hi x hx⟩
theorem get_in {l : List SR} (h : checkL l = 0) {K w : ByteArray} (hw : (⟨K, w⟩ : SR) ∈ l) : getE l K = 0 ∧ getV l K = w ∧ isS l K = true := by
  obtain ⟨o, hn⟩ := checkL_zero.1 h
  have hi : isS l K = true := (isS_iff o K).2 ⟨_, hw, rfl⟩
  obtain ⟨g1, g2⟩ := getE_ok o hn K
  rw [(getO_iff o K w).2 hw] at g2
  exact ⟨by rw [g1, hi]; rfl, g2, hi⟩
theorem set_in {l : List SR} (h : checkL l = 0) {K w v : ByteArray} (hw : (⟨K, w⟩ : SR) ∈ l) (hv : valuedS v = true) : setE l K v = 0 ∧ setL l K v = putS l K v := by
  obtain ⟨o, hn⟩ := checkL_zero.1 h
  obtain ⟨kc, kw⟩ := o.form _ hw
  have hi := (get_in h hw).2.2
  have e : setE l K v = 0 := by rw [setE_eq o hn kc hv, if_neg (by simp [hi])]
  exact ⟨e, if_neg (by omega)⟩
/-- An entry that lets a counter grow. -/
theorem step_grow {l : List SR} (h : checkL l = 0) {K w d : ByteArray} (hw : (⟨K, w⟩ : SR) ∈ l) {x : EN} (hx : checkN x = 0) (hk : x.kind = growK) (ht : bl x.text = bl K ++ 32 :: bl d) : stepE l x = growE l K d ∧ (growE l K d = 0 → stepL l x = growL l K d) := by
  obtain ⟨o, hn⟩ := checkL_zero.1 h
  obtain ⟨kc, kw⟩ := o.form _ hw
  obtain ⟨c1, c2, c3⟩ := cutp_of (p := x.text) (c := 32) (a := K) (b := d) ht (keyed_no kc)
  have n1 : ¬ (seq x.kind setK = true ∧ cutB 32 x.text = true) := by rw [hk]; rintro ⟨a, _⟩; revert a; decide +kernel
  have n2 : ¬ (seq x.kind cutK = true ∧ cutB 32 x.text = false) := by rw [hk]; rintro ⟨a, _⟩; revert a; decide +kernel
  have c4 : seq x.kind growK = true ∧ cutB 32 x.text = true := ⟨by rw [hk]; exact seq_refl _, c1⟩
  have e : stepE l x = growE l K d := by
    unfold stepE
    rw [if_neg (by omega), if_neg (by omega), if_neg n1, if_neg n2, if_pos c4, c2, c3]
  refine ⟨e, fun h0 => ?_⟩
  unfold stepL
  rw [if_neg (by omega), if_neg n1, if_neg n2, if_pos c4, c2, c3]
theorem grow_in {l : List SR} (h : checkL l = 0) {K w d : ByteArray} (hw : (⟨K, w⟩ : SR) ∈ l) (cw : cntB w = true) (cd : cntB d = true) (h1 : -1000000000 ≤ atoN w + atoN d) (h2 : atoN w + atoN d ≤ 1000000000) :
    growE l K d = 0 ∧ growL l K d = putS l K (bs (Lib.itoa (atoN w + atoN d))) := by
  obtain ⟨g1, g2, g3⟩ := get_in h hw
  have hv := itoa_valued (n := atoN w + atoN d) (by omega) (by omega)
  obtain ⟨s1, s2⟩ := set_in h hw hv
  have e : growE l K d = 0 := by
    unfold growE sumN
    rw [if_neg (by simp [cd]), if_neg (by omega), g2, if_neg (by simp [cw]), if_neg (by omega)]
    exact s1
  refine ⟨e, ?_⟩
  unfold growL sumN
  rw [if_neg (by omega), g2, s2]
theorem put_one (K w v : ByteArray) (o : okS [⟨K, w⟩]) : putS [⟨K, w⟩] K v = [⟨K, v⟩] := by
  have hi : isS [(⟨K, w⟩ : SR)] K = true := (isS_iff o K).2 ⟨⟨K, w⟩, by simp, rfl⟩
  obtain ⟨a, b, w', e1, e2, _⟩ := put_in (v := v) hi o
  cases a with
  | nil => rw [e2]; injection e1 with _ h; rw [← h]; rfl
  | cons y a => injection e1 with _ h; simp at h
theorem ok_one {K w : ByteArray} (hK : keyedS K = true) (hw : valuedS w = true) : checkL [⟨K, w⟩] = 0 := checkL_zero.2 ⟨⟨List.pairwise_singleton _ _, fun x hx => by simp at hx; subst hx; exact ⟨hK, hw⟩⟩, by simp⟩
/-- Growing a state of one counter. -/
theorem grow_one {K : ByteArray} (hK : keyedS K = true) {a b : Int} (ha : -1000000 ≤ a ∧ a ≤ 1000000) (hb : -1000000 ≤ b ∧ b ≤ 1000000) {x : EN} (hx : checkN x = 0) (hk : x.kind = growK) (ht : bl x.text = bl K ++ 32 :: bl (bs (Lib.itoa b))) :
    stepE [⟨K, bs (Lib.itoa a)⟩] x = 0 ∧ stepL [⟨K, bs (Lib.itoa a)⟩] x = [⟨K, bs (Lib.itoa (a + b))⟩] := by
  have hv := itoa_valued (n := a) (by omega) (by omega)
  have h := ok_one hK hv
  have a1 := (ato_itoa (n := a) (by omega) (by omega)).2
  have b1 := (ato_itoa (n := b) (by omega) (by omega)).2
  obtain ⟨g1, g2⟩ := grow_in h (K := K) (w := bs (Lib.itoa a)) (d := bs (Lib.itoa b)) (by simp) (cnt_itoa (by omega) (by omega)) (cnt_itoa (by omega) (by omega)) (by omega) (by omega)
  obtain ⟨s1, s2⟩ := step_grow h (K := K) (w := bs (Lib.itoa a)) (by simp) hx hk ht
  refine ⟨by omega, ?_⟩
  rw [s2 g1, g2, a1, b1, put_one _ _ _ (checkL_zero.1 h).1]
theorem okN_of {m t : Int} {T : ByteArray} {k : ByteArray} (h1 : 1 ≤ m ∧ m ≤ 500) (h2 : 0 ≤ t ∧ t ≤ 200000) (h3 : T.size ≤ 120) (hk : k.size ≠ 0 ∧ k.size ≤ 8 ∧ lowS k = true) : checkN ⟨m, t, k, T⟩ = 0 := by
  unfold checkN
  have h4 : ¬ (k.size = 0 ∨ lowS k = false) := by
    rintro (h | h)
    · exact hk.1 h
    · rw [hk.2.2] at h; cases h
  rw [if_neg (by dsimp only; omega), if_neg (by dsimp only; omega), if_neg h4]

/-! ### ReplayGrows -/
theorem grows {K : ByteArray} (hK : keyedS K = true) {a b c : Int} (ha : -1000 ≤ a ∧ a ≤ 1000) (hb : -1000 ≤ b ∧ b ≤ 1000) (hc : -1000 ≤ c ∧ c ≤ 1000) {t1 t2 t3 : ByteArray}
    (h1 : bl t1 = bl K ++ 32 :: bl (bs (Lib.itoa b))) (h2 : bl t2 = bl K ++ 32 :: bl (bs (Lib.itoa c))) (h3 : bl t3 = bl K ++ 32 :: bl (bs (Lib.itoa (b + c)))) :
    runV [⟨K, bs (Lib.itoa a)⟩] [⟨1, 0, growK, t1⟩, ⟨2, 0, growK, t2⟩] = ([⟨K, bs (Lib.itoa (a + b + c))⟩], 0, 0) ∧ runV [⟨K, bs (Lib.itoa a)⟩] [⟨1, 0, growK, t3⟩] = ([⟨K, bs (Lib.itoa (a + b + c))⟩], 0, 0) := by
  have hKs := (keyed_size hK).1
  have gk : growK.size ≠ 0 ∧ growK.size ≤ 8 ∧ lowS growK = true := by decide +kernel
  have sz : ∀ {t : ByteArray} {n : Int}, bl t = bl K ++ 32 :: bl (bs (Lib.itoa n)) → -100000 ≤ n → n ≤ 100000 → t.size ≤ 120 := fun {t n} h q1 q2 => by
    have := itoa_size (n := n) (by omega) (by omega)
    rw [← bl_len, h, List.length_append, List.length_cons, bl_len, bl_len]; omega
  have h0 := ok_one hK (itoa_valued (n := a) (by omega) (by omega))
  obtain ⟨p1, p2⟩ := grow_one hK (a := a) (b := b) (by omega) (by omega) (x := ⟨1, 0, growK, t1⟩) (okN_of (by omega) (by omega) (sz h1 (by omega) (by omega)) gk) rfl h1
  obtain ⟨q1, q2⟩ := grow_one hK (a := a + b) (b := c) (by omega) (by omega) (x := ⟨2, 0, growK, t2⟩) (okN_of (by omega) (by omega) (sz h2 (by omega) (by omega)) gk) rfl h2
  obtain ⟨r1, r2⟩ := grow_one hK (a := a) (b := b + c) (by omega) (by omega) (x := ⟨1, 0, growK, t3⟩) (okN_of (by omega) (by omega) (sz h3 (by omega) (by omega)) gk) rfl h3
  constructor
  · unfold runV
    rw [if_neg (by omega), if_neg (by simp)]
    rw [runF, if_neg (by simp [lostB]), if_neg (by omega), p2, runF, if_neg (by simp [lostB]), if_neg (by omega), q2, runF]
  · unfold runV
    rw [if_neg (by omega), if_neg (by simp)]
    rw [runF, if_neg (by simp [lostB]), if_neg (by omega), r2, runF, show a + (b + c) = a + b + c by omega]

/-! ### ReplayUndone -/
theorem run_two {l : List SR} {x y : EN} (h : (runV l [x, y]).2.2 = 0) : checkL l = 0 ∧ stepE l x = 0 ∧ stepE (stepL l x) y = 0 ∧ (runV l [x, y]).1 = stepL (stepL l x) y := by
  unfold runV at h ⊢
  split at h
  · exact absurd h ‹_›
  · rename_i h1
    rw [if_neg h1, if_neg (by simp)]
    rw [if_neg (by simp)] at h
    rw [runF, if_neg (by simp [lostB])] at h ⊢
    split at h
    · exact absurd h ‹_›
    · rename_i h2
      rw [if_neg h2]
      rw [runF] at h ⊢
      split at h
      · simp at h
      · rename_i h3
        rw [if_neg h3]
        split at h
        · exact absurd h ‹_›
        · rename_i h4
          rw [if_neg h4, runF]
          exact ⟨by omega, by omega, by omega, rfl⟩
theorem undone1 {l : List SR} {K t1 t2 : ByteArray} {n : Int} (hg : getE l K = 0) (hn : 0 < n ∧ n < 100) (h1 : bl t1 = bl K ++ 32 :: bl (bs (Lib.itoa n))) (h2 : bl t2 = bl K ++ 32 :: bl (bs (Lib.itoa (-n))))
    (h : (runV l [⟨1, 0, growK, t1⟩, ⟨2, 0, growK, t2⟩]).2.2 = 0) : (runV l [⟨1, 0, growK, t1⟩, ⟨2, 0, growK, t2⟩]).1 = l := by
  obtain ⟨hc, e1, e2, e3⟩ := run_two h
  rw [e3]
  obtain ⟨o, hl⟩ := checkL_zero.1 hc
  have hi : isS l K = true := by
    unfold getE at hg
    rw [if_neg (by omega)] at hg
    split at hg
    · omega
    · rename_i q; simpa using q
  obtain ⟨w, hw⟩ := isS_mem o hi
  have hw := List.mem_of_getElem? hw
  have sg1 := step_grow hc hw (x := ⟨1, 0, growK, t1⟩) (step_ok e1).2.1 rfl h1
  have z1 := grow_zero (sg1.1 ▸ e1 : growE l K (bs (Lib.itoa n)) = 0)
  have gw := (get_in hc hw).2.1
  obtain ⟨b1, b2, b3⟩ := cnt_bd (s := w) (by rw [← gw]; exact z1.2.2.1)
  have an := (ato_itoa (n := n) (by omega) (by omega)).2
  have am := (ato_itoa (n := -n) (by omega) (by omega)).2
  obtain ⟨g1, g2⟩ := grow_in hc hw (by rw [← gw]; exact z1.2.2.1) z1.1 (by have := z1.2.2.2.1; unfold sumN at this; rw [gw] at this; exact this) (by have := z1.2.2.2.2.1; unfold sumN at this; rw [gw] at this; exact this)
  have s1 := sg1.2 (sg1.1 ▸ e1)
  have hl1 := (step_ok e1).2.2
  rw [s1, g2] at hl1 e2 ⊢
  rw [an] at hl1 e2 ⊢
  have hb := z1.2.2.2
  unfold sumN at hb
  rw [gw, an] at hb
  have hv := itoa_valued (n := atoN w + n) (by omega) (by omega)
  have hw1 : (⟨K, bs (Lib.itoa (atoN w + n))⟩ : SR) ∈ putS l K (bs (Lib.itoa (atoN w + n))) := (mem_put o _).2 (.inl rfl)
  have sg2 := step_grow hl1 hw1 (x := ⟨2, 0, growK, t2⟩) (step_ok e2).2.1 rfl h2
  have av := (ato_itoa (n := atoN w + n) (by omega) (by omega)).2
  obtain ⟨k1, k2⟩ := grow_in hl1 hw1 (cnt_itoa (by omega) (by omega)) (d := bs (Lib.itoa (-n))) (cnt_itoa (by omega) (by omega)) (by rw [av, am]; omega) (by rw [av, am]; omega)
  rw [sg2.2 k1, k2, av, am, show atoN w + n + -n = atoN w by omega, b3]
  exact put_put o hw hv
theorem undone2 {l : List SR} {K t1 : ByteArray} (hg : getE l K ≠ 0) (h1 : bl t1 = bl K ++ [32, 120]) (h : (runV l [⟨7, 0, setK, t1⟩, ⟨8, 0, cutK, K⟩]).2.2 = 0) : (runV l [⟨7, 0, setK, t1⟩, ⟨8, 0, cutK, K⟩]).1 = l := by
  obtain ⟨hc, e1, e2, e3⟩ := run_two h
  rw [e3]
  obtain ⟨o, hl⟩ := checkL_zero.1 hc
  have hi : isS l K = false := by
    unfold getE at hg
    rw [if_neg (by omega)] at hg
    split at hg
    · assumption
    · exact absurd rfl hg
  have e20 := e2
  unfold stepE at e2
  split at e2
  · exact absurd e2 ‹_›
  · split at e2
    · exact absurd e2 ‹_›
    · rename_i q1 q2
      have hn1 : ¬ (seq cutK setK = true ∧ cutB 32 K = true) := by rintro ⟨a, _⟩; revert a; decide +kernel
      rw [if_neg hn1] at e2
      split at e2
      · rename_i hcut
        have hno : cutB 32 K = false := hcut.2
        have hK32 : (32 : UInt8) ∉ bl K := fun hm => by
          have h3 : Lib.indexByte (bl K) 32 < 0 := by
            unfold cutB at hno
            simpa using hno
          exact idx_none h3 hm
        have hcl : cutL 32 K = K := by unfold cutL; rw [if_neg (by simp [hno])]
        obtain ⟨c1, c2, c3⟩ := cutp_of (p := t1) (c := 32) (a := K) (b := bs [120]) (by rw [h1, bl_bs]) hK32
        have hs1 : seq setK setK = true ∧ cutB 32 t1 = true := ⟨seq_refl _, c1⟩
        have e10 := e1
        unfold stepE at e1
        rw [if_neg (by omega), if_neg (by rw [(step_ok e10).2.1]; simp), if_pos hs1] at e1
        dsimp only at e1
        rw [c2, c3] at e1
        have hl1 : stepL l ⟨7, 0, setK, t1⟩ = putS l K (bs [120]) := by
          unfold stepL
          rw [if_neg (by omega), if_pos hs1]
          dsimp only
          rw [c2, c3, (setE_zero e1).2.2.2.2.2]
        have ka := (setE_zero e1).2.2.1
        have va := (setE_zero e1).2.2.2.1
        obtain ⟨d1, d2⟩ := put_del o ka va hi
        have e4 : ∀ l1, stepE l1 ⟨8, 0, cutK, K⟩ = 0 → stepL l1 ⟨8, 0, cutK, K⟩ = cutLs l1 (cutL 32 K) := fun l1 z => by
          unfold stepL
          rw [if_neg (by omega)]
          dsimp only
          rw [if_neg hn1, if_pos hcut]
        rw [e4 _ e20]
        dsimp only at e2
        rw [(cutE_ok e2).2.2.2, hcl, hl1, d2]
      · rename_i hcut
        split at e2
        · rename_i hgr
          exact absurd (show seq cutK growK = true from hgr.1) (by decide +kernel)
        · rw [if_pos (show mineK cutK = true by decide +kernel)] at e2; omega

/-! ### ReplayNotes -/
def onlyF (m : Nat) : List EN → List EN
  | [] => []
  | x :: xs => if mineK x.kind = true then ⟨m + 1, x.tm, x.kind, x.text⟩ :: onlyF (m + 1) xs else onlyF m xs
theorem step_num {l : List SR} {x : EN} {n : Int} (h : stepE l x = 0) (hn : 1 ≤ n ∧ n ≤ 500) : stepE l ⟨n, x.tm, x.kind, x.text⟩ = 0 ∧ stepL l ⟨n, x.tm, x.kind, x.text⟩ = stepL l x := by
  have hc := (step_ok h).2.1
  have hx := checkN_zero.1 hc
  have hc2 : checkN ⟨n, x.tm, x.kind, x.text⟩ = 0 := by
    unfold checkN at hc ⊢
    split at hc
    · omega
    · rename_i a1
      rw [if_neg (by dsimp only; omega)]
      exact hc
  have e : stepE l ⟨n, x.tm, x.kind, x.text⟩ = stepE l x := by unfold stepE; rw [hc, hc2]
  refine ⟨by omega, ?_⟩
  unfold stepL
  rw [e]
theorem step_note {l : List SR} {x : EN} (h : stepE l x = 0) (hm : mineK x.kind = false) : stepL l x = l := by
  have h3 : seq x.kind setK = false ∧ seq x.kind cutK = false ∧ seq x.kind growK = false := by
    unfold mineK at hm
    simp only [Bool.or_eq_false_iff] at hm
    exact ⟨hm.1.1, hm.1.2, hm.2⟩
  unfold stepL
  rw [if_neg (by omega), if_neg (by simp [h3.1]), if_neg (by simp [h3.2.1]), if_neg (by simp [h3.2.2])]
theorem notesF : ∀ (es : List EN) (l : List SR) (k m : Nat) (p q : Option Int), m + es.length ≤ 500 → (q = none ∨ q = some (m : Int)) → (runF l k p es).2.2 = 0 → ∀ j, runF l j q (onlyF m es) = ((runF l k p es).1, 0, 0)
  | [], l, k, m, p, q, _, _, _, j => rfl
  | x :: es, l, k, m, p, q, hl, hq, h, j => by
    rw [runF] at h ⊢
    split at h
    · simp at h
    · rename_i h1
      rw [if_neg h1]
      split at h
      · exact absurd h ‹_›
      · rename_i h2
        rw [if_neg h2, onlyF]
        rw [List.length_cons] at hl
        split
        · obtain ⟨s1, s2⟩ := step_num (n := (m : Int) + 1) (show stepE l x = 0 by omega) (by omega)
          have hlost : ¬ lostB q ((m : Int) + 1) = true := by
            rcases hq with rfl | rfl <;> simp [lostB]
          rw [runF, if_neg hlost, if_neg (by rw [s1]; simp), s2]
          exact notesF es _ _ (m + 1) _ _ (by omega) (.inr (by simp)) h _
        · rename_i h3
          have s := step_note (show stepE l x = 0 by omega) (by simpa using h3)
          rw [s] at h ⊢
          exact notesF es l _ m _ _ (by omega) hq h j
theorem onlyF_len : ∀ (es : List EN) (m : Nat), (onlyF m es).length ≤ es.length
  | [], m => Nat.le_refl _
  | x :: es, m => by
    rw [onlyF]; split
    · have := onlyF_len es (m + 1); simp; omega
    · have := onlyF_len es m; simp; omega
theorem notes {l : List SR} {es : List EN} (hl : es.length ≤ 500) (h : (runV l es).2.2 = 0) : (runV l (onlyF 0 es)).2.2 = 0 ∧ (runV l es).1 = (runV l (onlyF 0 es)).1 := by
  unfold runV at h ⊢
  split at h
  · exact absurd h ‹_›
  · rename_i h1
    rw [if_neg (by omega)] at h
    have ho := onlyF_len es 0
    have ho2 : ¬ 500 < (onlyF 0 es).length := by omega
    have ho3 : ¬ 500 < es.length := by omega
    simp only [if_neg h1, if_neg ho2, if_neg ho3, notesF es l 0 0 none none (by omega) (.inl rfl) h 0]
    exact ⟨trivial, trivial⟩
/-! ### R.Itoa -/
theorem dig_at10 : ∀ m, m < 10 → bl (digs.extract m (m + 1)) = [digD m] := by decide +kernel
theorem itoaR_dec : ∀ (f n : Nat) (s : ByteArray), n + (if seq s ⟨#[]⟩ = true then 1 else 0) ≤ f → itoaR f n s = if n = 0 ∧ seq s ⟨#[]⟩ = false then s else bs (decL n ++ bl s)
  | 0, n, s, h => by
    have hs : seq s ⟨#[]⟩ = false := by
      cases hq : seq s ⟨#[]⟩ with
      | false => rfl
      | true => rw [if_pos hq] at h; omega
    rw [if_pos ⟨by omega, hs⟩]; rfl
  | f + 1, n, s, h => by
    rw [itoaR]
    split
    · rfl
    · rename_i h0
      have hne := dig_ne n s
      have hn : n / 10 ≤ f := by
        cases hq : seq s ⟨#[]⟩ with
        | false => rw [hq] at h; simp at h; omega
        | true => rw [if_pos hq] at h; omega
      rw [itoaR_dec f (n / 10) _ (by rw [hne]; simpa using hn)]
      have hb : bl (digs.extract (n % 10) (n % 10 + 1) ++ s) = digD (n % 10) :: bl s := by rw [bl_app, dig_at10 _ (by omega)]; rfl
      rcases Nat.lt_or_ge n 10 with h1 | h1
      · rw [if_pos ⟨by omega, hne⟩, decL_small h1]
        exact bl_inj (by rw [hb, bl_bs, show n % 10 = n by omega]; rfl)
      · rw [if_neg (by omega), hb, decL_step h1]; simp
theorem itoaS_dec (n : Nat) : itoaS n = bs (decL n) := by
  unfold itoaS
  rw [itoaR_dec _ _ _ (by rw [seq_refl]; simp), if_neg (by rw [seq_refl]; simp)]
  exact bl_inj (by rw [bl_bs, bl_bs]; exact List.append_nil _)
theorem itoaS_pos (n : Nat) : itoaS n = bs (Lib.itoa (n : Int)) := by rw [itoaS_dec]; exact bl_inj (by rw [bl_itoa, if_neg (by omega), bl_bs, Int.toNat_natCast])
theorem itoaS_neg {n : Nat} (h : 0 < n) : bl (⟨#[45]⟩ ++ itoaS n) = bl (bs (Lib.itoa (-(n : Int)))) := by
  rw [bl_itoa, if_pos (by omega), bl_app, itoaS_dec, bl_bs, Int.natAbs_neg, Int.natAbs_natCast]; rfl
theorem itoaS_size {n : Nat} (h : n ≤ 1000000) : (itoaS n).size ≤ 12 := by rw [itoaS_pos]; exact itoa_size (by omega) (by omega)

/-! ### ReplayParts -/
def numX (k : Nat) (x : EN) : EN := ⟨(k : Int) + 1, x.tm, x.kind, x.text⟩
def numL (es : List EN) : List EN := (es.take 12).mapIdx numX
theorem numL_len (es : List EN) : (numL es).length ≤ 12 := by unfold numL; simp; omega
theorem numL_get {es : List EN} {k : Nat} {x : EN} (h : (numL es)[k]? = some x) : x.num = (k : Int) + 1 := by
  unfold numL at h
  rw [List.getElem?_mapIdx] at h
  cases hq : (es.take 12)[k]? with
  | none => rw [hq] at h; cases h
  | some y => rw [hq] at h; obtain rfl := Option.some.inj h; rfl
theorem numL_mem {es : List EN} {x : EN} (h : x ∈ numL es) : ∃ y ∈ es, x.kind = y.kind ∧ x.text = y.text := by
  obtain ⟨k, hk⟩ := List.getElem?_of_mem h
  unfold numL at hk
  rw [List.getElem?_mapIdx] at hk
  cases hq : (es.take 12)[k]? with
  | none => rw [hq] at hk; cases hk
  | some y => rw [hq] at hk; obtain rfl := Option.some.inj hk; exact ⟨y, List.mem_of_mem_take (List.mem_of_getElem? hq), rfl, rfl⟩
theorem parts {l : List SR} {es : List EN} (n : Nat) (hn : n ≤ (numL es).length) :
    ((runV l ((numL es).take n)).2.2 ≠ 0 → (runV l (numL es)).2.2 = (runV l ((numL es).take n)).2.2 ∧ (runV l (numL es)).2.1 = (runV l ((numL es).take n)).2.1 ∧ (runV l (numL es)).1 = [] ∧ (runV l ((numL es).take n)).1 = []) ∧
    ((runV l ((numL es).take n)).2.2 = 0 → (runV l (numL es)).2.2 = (runV (runV l ((numL es).take n)).1 ((numL es).drop n)).2.2 ∧
      (runV l (numL es)).2.1 = (if (runV (runV l ((numL es).take n)).1 ((numL es).drop n)).2.2 ≠ 0 then n + (runV (runV l ((numL es).take n)).1 ((numL es).drop n)).2.1 else (runV (runV l ((numL es).take n)).1 ((numL es).drop n)).2.1) ∧
      (runV l (numL es)).1 = (runV (runV l ((numL es).take n)).1 ((numL es).drop n)).1) := by
  have hL := numL_len es
  by_cases hc : checkL l = 0
  · have e1 : runV l (numL es) = runF l 0 none (numL es) := by unfold runV; rw [if_neg (by omega), if_neg (by omega)]
    have e2 : runV l ((numL es).take n) = runF l 0 none ((numL es).take n) := by unfold runV; rw [if_neg (by omega), if_neg (by simp; omega)]
    have hap : runF l 0 none (numL es) = if (runF l 0 none ((numL es).take n)).2.2 ≠ 0 then runF l 0 none ((numL es).take n) else runF (runF l 0 none ((numL es).take n)).1 (0 + ((numL es).take n).length) (endP none ((numL es).take n)) ((numL es).drop n) := by
      conv => lhs; rw [← List.take_append_drop n (numL es)]
      exact runF_app _ _ _ _ _
    rw [e1, e2]
    constructor
    · intro h
      rw [hap, if_pos h]
      exact ⟨rfl, rfl, runF_err _ _ _ _ h, runF_err _ _ _ _ h⟩
    · intro h
      rw [if_neg (by omega)] at hap
      have hok := runF_ok ((numL es).take n) l 0 none hc
      generalize hb : (runF l 0 none ((numL es).take n)).1 = b at hap hok ⊢
      have e3 : runV b ((numL es).drop n) = runF b 0 none ((numL es).drop n) := by unfold runV; rw [if_neg (by omega), if_neg (by simp; omega)]
      have hfr := runF_from ((numL es).drop n) b n 0 (endP none ((numL es).take n)) (fun x hx => by
        unfold endP
        cases hl : ((numL es).take n).getLast? with
        | none => rfl
        | some y =>
          have hy : (numL es)[n - 1]? = some y := by
            rw [List.getLast?_eq_getElem?, List.length_take, List.getElem?_take] at hl
            split at hl
            · rw [show min n (numL es).length - 1 = n - 1 by omega] at hl; exact hl
            · cases hl
          have hx2 : (numL es)[n]? = some x := by rw [List.head?_drop] at hx; exact hx
          have hn0 : n ≠ 0 := fun h0 => by subst h0; simp at hl
          have a1 := numL_get hy
          have a2 := numL_get hx2
          unfold lostB
          exact decide_eq_false (by rw [a1, a2]; omega))
      rw [Nat.add_zero] at hfr
      rw [hap, e3, show 0 + ((numL es).take n).length = n by simp; omega, hfr]
      refine ⟨rfl, ?_, rfl⟩
      dsimp only
      split
      · rfl
      · rename_i h0
        have : ∀ (es : List EN) (l : List SR) (k : Nat) (p : Option Int), (runF l k p es).2.2 = 0 → (runF l k p es).2.1 = 0 := by
          intro es
          induction es with
          | nil => intro l k p h; rfl
          | cons x es ih =>
            intro l k p h
            rw [runF] at h ⊢
            split at h
            · simp at h
            · rename_i q1
              rw [if_neg q1]
              split at h
              · exact absurd h ‹_›
              · rename_i q2; rw [if_neg q2]; exact ih _ _ _ h
        exact (this _ _ _ _ (by omega)).symm
  · have e1 : ∀ es, runV l es = ([], 0, checkL l) := fun es => if_pos hc
    rw [e1, e1]
    exact ⟨fun _ => ⟨rfl, rfl, rfl, rfl⟩, fun h => absurd h hc⟩
end Go.Proofs.YtodbcbojkfndiaaGreatDoorA
