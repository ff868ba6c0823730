/- Logs applied to states, in plain words. -/
import Derived.Test.YtodbcbojkfndiaaGreatDoorRep1
import Derived.Test.YtodbcbojkfndiaaGreatDoorRec2
import Derived.Test.YtodbcbojkfndiaaGreatDoorSpec4
namespace Go.Proofs.YtodbcbojkfndiaaGreatDoorA
open Go
set_option linter.unusedVariables false
set_option linter.unusedSimpArgs false
set_option linter.unnecessarySimpa false

/-! ### numbers of counters -/
theorem bl_itoa (n : Int) : bl (bs (Lib.itoa n)) = if n < 0 then 45 :: decL n.natAbs else decL n.toNat := by
  rw [bl_bs, Lib.itoa]
  split <;> rw [decD_eq]
theorem valD_ge : ∀ (l : List UInt8) (a v : Nat), valD l a = some v → a ≤ v
  | [], a, v, h => by rw [valD] at h; obtain rfl := Option.some.inj h; exact Nat.le_refl _
  | c :: l, a, v, h => by
    rw [valD] at h
    split at h
    · have := valD_ge l _ v h; omega
    · cases h
theorem par_val : ∀ (l : List UInt8) (a v : Nat), valD l a = some v → v < 1844674407370955162 → Lib.parseUint10 a l = .ok v
  | [], a, v, h, _ => by rw [valD] at h; obtain rfl := Option.some.inj h; rfl
  | c :: l, a, v, h, hv => by
    rw [valD] at h
    split at h
    · rename_i hd
      have hd2 : 48 ≤ c.toNat ∧ c.toNat ≤ 57 := of_decide_eq_true hd
      have h2 := valD_ge l _ v h
      rw [Lib.parseUint10, if_pos hd2, if_neg (by omega), if_neg (by omega)]
      exact par_val l _ v (by rw [show a * 10 + (c.toNat - 48) = 10 * a + (c.toNat - 48) by omega]; exact h) hv
    · cases h
theorem mag_dec {n : Nat} (h : n < 1844674407370955162) : Lib.parseMag (decL n) = .ok n := by
  unfold Lib.parseMag
  rw [if_neg (decL_ne n), par_val _ _ _ (valD_dec n) h]
theorem ato_itoa {n : Int} (h1 : -1000000000000 ≤ n) (h2 : n ≤ 1000000000000) : atoB (bs (Lib.itoa n)) = true ∧ atoN (bs (Lib.itoa n)) = n := by
  have key : Lib.atoiAll (bl (bs (Lib.itoa n))) = .ok n := by
    rw [bl_itoa]
    split
    · rename_i h0
      rw [Lib.atoiAll_minus, mag_dec (by omega)]
      unfold Lib.signed
      simp only []
      rw [if_neg (by omega)]
      congr 1; omega
    · rename_i h0
      obtain ⟨c, r, hc⟩ : ∃ c r, decL n.toNat = c :: r := by
        cases hd : decL n.toNat with
        | nil => exact absurd hd (decL_ne _)
        | cons c r => exact ⟨c, r, rfl⟩
      have hcd : 48 ≤ c.toNat ∧ c.toNat ≤ 57 := of_decide_eq_true (decL_dig n.toNat c (by rw [hc]; simp))
      rw [hc, Lib.atoiAll_plain c r (by omega) (by omega), ← hc, mag_dec (by omega)]
      unfold Lib.signless
      simp only []
      rw [if_neg (by omega)]
      congr 1; omega
  unfold atoB atoN
  rw [key]; exact ⟨rfl, rfl⟩
theorem atoN_bd (s : ByteArray) : -9223372036854775808 ≤ atoN s ∧ atoN s ≤ 9223372036854775807 := by
  unfold atoN
  split
  · rename_i v hv; exact Lib.atoiAll_bounds hv
  · exact ⟨by decide, by decide⟩
  · exact Lib.atoiSat_bounds _
def cntB (s : ByteArray) : Bool := ((atoB s && seq (bs (Lib.itoa (atoN s))) s) && decide (-1000000000 ≤ atoN s)) && decide (atoN s ≤ 1000000000)
theorem cnt_bd {s : ByteArray} (h : cntB s = true) : -1000000000 ≤ atoN s ∧ atoN s ≤ 1000000000 ∧ bs (Lib.itoa (atoN s)) = s := by
  unfold cntB at h
  simp only [Bool.and_eq_true, decide_eq_true_eq] at h
  exact ⟨h.1.2, h.2, (seq_iff _ _).1 h.1.1.2⟩
theorem cnt_itoa {n : Int} (h1 : -1000000000 ≤ n) (h2 : n ≤ 1000000000) : cntB (bs (Lib.itoa n)) = true := by
  obtain ⟨e1, e2⟩ := ato_itoa (n := n) (by omega) (by omega)
  unfold cntB
  rw [e1, e2, seq_refl, decide_eq_true h1, decide_eq_true h2]; rfl
theorem itoa_size {n : Int} (h1 : -99999999999 ≤ n) (h2 : n ≤ 99999999999) : (bs (Lib.itoa n)).size ≤ 12 := by
  rw [← bl_len, bl_itoa]
  split
  · have := decL_len n.natAbs 10 (by omega); simp; omega
  · have := decL_len n.toNat 10 (by omega); omega
theorem itoa_valued {n : Int} (h1 : -99999999999 ≤ n) (h2 : n ≤ 99999999999) : valuedS (bs (Lib.itoa n)) = true := by
  unfold valuedS
  have hs := itoa_size h1 h2
  rw [decide_eq_true (show ((bs (Lib.itoa n)).size : Int) ≤ 40 by omega), Bool.and_true, allB_iff]
  intro b hb
  rw [bl_itoa] at hb
  rw [valB_iff]
  have key : ∀ m, b ∈ decL m → 32 ≤ b.toNat ∧ b.toNat ≤ 126 := fun m hm => by
    have : 48 ≤ b.toNat ∧ b.toNat ≤ 57 := of_decide_eq_true (decL_dig m b hm)
    omega
  split at hb
  · rcases List.mem_cons.1 hb with rfl | hb
    · exact ⟨by decide, by decide⟩
    · exact key _ hb
  · exact key _ hb

/-! ### entries -/
def sumN (l : List SR) (k d : ByteArray) : Int := atoN (getV l k) + atoN d
def growE (l : List SR) (k d : ByteArray) : Int :=
  if cntB d = false then 5 else if getE l k ≠ 0 then getE l k else if cntB (getV l k) = false then 11 else if sumN l k d < -1000000000 ∨ 1000000000 < sumN l k d then 4 else setE l k (bs (Lib.itoa (sumN l k d)))
def growL (l : List SR) (k d : ByteArray) : List SR := if growE l k d ≠ 0 then [] else setL l k (bs (Lib.itoa (sumN l k d)))
theorem grow_zero {l : List SR} {k d : ByteArray} (h : growE l k d = 0) : cntB d = true ∧ getE l k = 0 ∧ cntB (getV l k) = true ∧ -1000000000 ≤ sumN l k d ∧ sumN l k d ≤ 1000000000 ∧ setE l k (bs (Lib.itoa (sumN l k d))) = 0 ∧
    growL l k d = setL l k (bs (Lib.itoa (sumN l k d))) := by
  have h0 := h
  unfold growE at h
  split at h
  · omega
  · split at h
    · exact absurd h ‹_›
    · split at h
      · omega
      · split at h
        · omega
        · rename_i a1 a2 a3 a4
          exact ⟨by simpa using a1, by omega, by simpa using a3, by omega, by omega, h, if_neg (by omega)⟩
def setK : ByteArray := ⟨#[115, 101, 116]⟩
def cutK : ByteArray := ⟨#[99, 117, 116]⟩
def growK : ByteArray := ⟨#[103, 114, 111, 119]⟩
def mineK (k : ByteArray) : Bool := seq k setK || seq k cutK || seq k growK
def stepE (l : List SR) (x : EN) : Int :=
  if checkL l ≠ 0 then checkL l else if checkN x ≠ 0 then checkN x else
  if seq x.kind setK = true ∧ cutB 32 x.text = true then setE l (cutL 32 x.text) (cutR 32 x.text)
  else if seq x.kind cutK = true ∧ cutB 32 x.text = false then cutE l (cutL 32 x.text)
  else if seq x.kind growK = true ∧ cutB 32 x.text = true then growE l (cutL 32 x.text) (cutR 32 x.text)
  else if mineK x.kind = true then 5 else 0
def stepL (l : List SR) (x : EN) : List SR :=
  if stepE l x ≠ 0 then [] else
  if seq x.kind setK = true ∧ cutB 32 x.text = true then setL l (cutL 32 x.text) (cutR 32 x.text)
  else if seq x.kind cutK = true ∧ cutB 32 x.text = false then cutLs l (cutL 32 x.text)
  else if seq x.kind growK = true ∧ cutB 32 x.text = true then growL l (cutL 32 x.text) (cutR 32 x.text)
  else l
theorem setE_ok {l : List SR} {c v : ByteArray} (h : setE l c v = 0) : checkL (setL l c v) = 0 := by
  obtain ⟨o, hn, ka, va, na, ea⟩ := setE_zero h
  rw [ea]
  exact checkL_zero.2 ⟨put_ok o ka va, setL_len h⟩
theorem cutE_ok {l : List SR} {c : ByteArray} (h : cutE l c = 0) : okS l ∧ isS l c = true ∧ checkL (cutLs l c) = 0 ∧ cutLs l c = delS l c := by
  have h0 := h
  unfold cutE getE at h
  split at h
  · exact absurd h ‹_›
  · split at h
    · omega
    · rename_i a1 a2
      obtain ⟨o, hn⟩ := checkL_zero.1 (show checkL l = 0 by omega)
      have hi : isS l c = true := by simpa using a2
      obtain ⟨d1, d2, d3⟩ := del_ok o hi
      have e : cutLs l c = delS l c := if_neg (by omega)
      exact ⟨o, hi, by rw [e]; exact checkL_zero.2 ⟨d1, by omega⟩, e⟩
theorem step_ok {l : List SR} {x : EN} (h : stepE l x = 0) : checkL l = 0 ∧ checkN x = 0 ∧ checkL (stepL l x) = 0 := by
  have h0 := h
  unfold stepE at h
  split at h
  · exact absurd h ‹_›
  · split at h
    · exact absurd h ‹_›
    · rename_i a1 a2
      refine ⟨by omega, by omega, ?_⟩
      unfold stepL
      rw [if_neg (by omega)]
      split at h
      · rename_i b1; rw [if_pos b1]; exact setE_ok h
      · rename_i b1
        rw [if_neg b1]
        split at h
        · rename_i b2; rw [if_pos b2]; exact (cutE_ok h).2.2.1
        · rename_i b2
          rw [if_neg b2]
          split at h
          · rename_i b3; rw [if_pos b3, (grow_zero h).2.2.2.2.2.2]; exact setE_ok (grow_zero h).2.2.2.2.2.1
          · rename_i b3; rw [if_neg b3]; omega
def lostB (p : Option Int) (n : Int) : Bool := match p with | some q => decide (n ≠ q + 1) | none => false
def runF : List SR → Nat → Option Int → List EN → List SR × Nat × Int
  | l, _, _, [] => (l, 0, 0)
  | l, k, p, x :: es => if lostB p x.num = true then ([], k, 21) else if stepE l x ≠ 0 then ([], k, stepE l x) else runF (stepL l x) (k + 1) (some x.num) es
def runV (l : List SR) (es : List EN) : List SR × Nat × Int := if checkL l ≠ 0 then ([], 0, checkL l) else if 500 < es.length then ([], 0, 2) else runF l 0 none es
theorem runF_ok : ∀ (es : List EN) (l : List SR) (k : Nat) (p : Option Int), checkL l = 0 → checkL (runF l k p es).1 = 0
  | [], l, k, p, h => h
  | x :: es, l, k, p, h => by
    unfold runF
    split
    · rfl
    · split
      · rfl
      · rename_i a1 a2
        exact runF_ok es _ _ _ (step_ok (by omega)).2.2
theorem runV_ok (l : List SR) (es : List EN) : checkL (runV l es).1 = 0 := by
  unfold runV
  split
  · rfl
  · split
    · rfl
    · exact runF_ok es l 0 none (by omega)
theorem runF_err : ∀ (es : List EN) (l : List SR) (k : Nat) (p : Option Int), (runF l k p es).2.2 ≠ 0 → (runF l k p es).1 = []
  | [], l, k, p, h => absurd rfl h
  | x :: es, l, k, p, h => by
    unfold runF at h ⊢
    split
    · rfl
    · rename_i a1
      rw [if_neg a1] at h
      split
      · rfl
      · rename_i a2
        rw [if_neg a2] at h
        exact runF_err es _ _ _ h
theorem runV_err {l : List SR} {es : List EN} (h : (runV l es).2.2 ≠ 0) : (runV l es).1 = [] := by
  unfold runV at h ⊢
  split
  · rfl
  · rename_i a1
    rw [if_neg a1] at h
    split
    · rfl
    · rename_i a2
      rw [if_neg a2] at h
      exact runF_err _ _ _ _ h
def endP (p : Option Int) (es : List EN) : Option Int := match es.getLast? with | some x => some x.num | none => p
theorem runF_app : ∀ (a b : List EN) (l : List SR) (k : Nat) (p : Option Int), runF l k p (a ++ b) = if (runF l k p a).2.2 ≠ 0 then runF l k p a else runF (runF l k p a).1 (k + a.length) (endP p a) b
  | [], b, l, k, p => by simp [runF, endP]
  | x :: a, b, l, k, p => by
    rw [List.cons_append]
    rw [runF.eq_def l k p (x :: (a ++ b)), runF.eq_def l k p (x :: a)]
    simp only []
    split
    · simp
    · split
      · rename_i h1 h2; simp [h2]
      · rw [runF_app a b]
        rw [show endP (some x.num) a = endP p (x :: a) by
          unfold endP
          rw [List.getLast?_cons]
          cases a.getLast? <;> rfl]
        rw [List.length_cons, show k + 1 + a.length = k + (a.length + 1) by omega]
/-- Where the count begins, and what the entry before was called, makes no other difference. -/
theorem runF_from (es : List EN) : ∀ (l : List SR) (k m : Nat) (p : Option Int), (∀ x, es.head? = some x → lostB p x.num = false) →
    runF l (k + m) p es = ((runF l m none es).1, (if (runF l m none es).2.2 ≠ 0 then k + (runF l m none es).2.1 else 0), (runF l m none es).2.2) := by
  cases es with
  | nil => intro l k m p h; simp [runF]
  | cons x es =>
    intro l k m p h
    have h0 := h x rfl
    rw [runF.eq_def l (k + m) p (x :: es), runF.eq_def l m none (x :: es)]
    simp only []
    rw [h0, if_neg (by simp), if_neg (show ¬ lostB none x.num = true by simp [lostB])]
    split
    · rename_i h1; simp [h1]
    · have key : ∀ (es : List EN) (l : List SR) (q m : Nat) (p : Option Int), runF l (q + m) p es = ((runF l m p es).1, (if (runF l m p es).2.2 ≠ 0 then q + (runF l m p es).2.1 else 0), (runF l m p es).2.2) := by
        intro es
        induction es with
        | nil => intro l q m p; simp [runF]
        | cons y es ih =>
          intro l q m p
          rw [runF.eq_def l (q + m) p (y :: es), runF.eq_def l m p (y :: es)]
          simp only []
          split
          · simp
          · split
            · rename_i h1; simp [h1]
            · rw [show q + m + 1 = q + (m + 1) by omega]; exact ih _ _ _ _
      rw [show k + m + 1 = k + (m + 1) by omega]
      exact key _ _ _ _ _
end Go.Proofs.YtodbcbojkfndiaaGreatDoorA
