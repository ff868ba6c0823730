/- The floating root of a whole number, made whole again, is a number between 1 and 2^32. -/
import Ieee.Arith
import GoSem.Core.Float
namespace Go.Proofs.YtaegeaajhbfkgaaGreatDoorA
open Go Ieee
set_option linter.unusedVariables false
set_option linter.unusedSimpArgs false
theorem log2_of {m k : Nat} (h1 : 2 ^ k ≤ m) (h2 : m < 2 ^ (k + 1)) : m.log2 = k := by
  have h0 : m ≠ 0 := by have := Nat.two_pow_pos k; omega
  have h3 := (Nat.le_log2 h0).2 h1
  have h4 := (Nat.log2_lt h0).2 h2
  omega
theorem log2_bd {m : Nat} (h : m ≠ 0) : 2 ^ m.log2 ≤ m ∧ m < 2 ^ (m.log2 + 1) := ⟨Nat.log2_self_le h, Nat.lt_log2_self⟩
theorem cut_even {n drop : Nat} : n / 2 ^ (min drop (n.log2 + 2)) ≤ Toward.even.cut false n drop ∧ Toward.even.cut false n drop ≤ n / 2 ^ (min drop (n.log2 + 2)) + 1 := by
  unfold Toward.cut
  simp only [Nat.one_shiftLeft]
  have : ∀ b : Bool, b.toNat ≤ 1 := fun b => by cases b <;> decide
  exact ⟨Nat.le_add_right _ _, Nat.add_le_add_left (this _) _⟩
theorem cut_even0 {n : Nat} : Toward.even.cut false n 0 = n := by
  unfold Toward.cut
  simp only [Nat.zero_min, Nat.shiftLeft_zero, Nat.div_one, Nat.mod_one]
  simp
theorem kept_bd {mag : Nat} {place last : Int} (h0 : mag ≠ 0) (hl : last = place + mag.log2 - 52) :
    2 ^ 52 ≤ Toward.even.cut false (mag <<< (place - last).toNat) (last - place).toNat ∧ Toward.even.cut false (mag <<< (place - last).toNat) (last - place).toNat ≤ 2 ^ 53 := by
  obtain ⟨b1, b2⟩ := log2_bd h0
  rcases Nat.lt_or_ge 52 mag.log2 with h | h
  · have e1 : (place - last).toNat = 0 := by omega
    have e2 : (last - place).toNat = mag.log2 - 52 := by omega
    rw [e1, e2, Nat.shiftLeft_zero]
    obtain ⟨c1, c2⟩ := cut_even (n := mag) (drop := mag.log2 - 52)
    rw [show min (mag.log2 - 52) (mag.log2 + 2) = mag.log2 - 52 by omega] at c1 c2
    have hp : 0 < 2 ^ (mag.log2 - 52) := Nat.two_pow_pos _
    have d1 : 2 ^ 52 ≤ mag / 2 ^ (mag.log2 - 52) := by
      rw [Nat.le_div_iff_mul_le hp, ← Nat.pow_add, show 52 + (mag.log2 - 52) = mag.log2 by omega]; exact b1
    have d2 : mag / 2 ^ (mag.log2 - 52) < 2 ^ 53 := by
      rw [Nat.div_lt_iff_lt_mul hp, ← Nat.pow_add, show 53 + (mag.log2 - 52) = mag.log2 + 1 by omega]; exact b2
    omega
  · have e1 : (place - last).toNat = 52 - mag.log2 := by omega
    have e2 : (last - place).toNat = 0 := by omega
    rw [e1, e2, cut_even0, Nat.shiftLeft_eq]
    have d1 : 2 ^ 52 ≤ mag * 2 ^ (52 - mag.log2) := by
      have := Nat.mul_le_mul_right (2 ^ (52 - mag.log2)) b1
      rwa [← Nat.pow_add, show mag.log2 + (52 - mag.log2) = 52 by omega] at this
    have d2 : mag * 2 ^ (52 - mag.log2) < 2 ^ 53 := by
      have := Nat.mul_lt_mul_of_pos_right b2 (Nat.two_pow_pos (52 - mag.log2))
      rwa [← Nat.pow_add, show mag.log2 + 1 + (52 - mag.log2) = 53 by omega] at this
    omega
theorem read_rung (F : Format) (B : Nat) (hB0 : 0 < B) (hb : F.binade = B) (hi : F.infRung = 2047 * B) (hs : F.signWeight = 2048 * B) (hlp : F.leastPlace = -1074) {l kept : Nat} (h1 : l ≤ 1000) (k1 : B ≤ kept) (k2 : kept ≤ 2 * B) :
    ∃ m i, F.read (F.word false (min ((l + 1022) * B + kept) F.infRung)) = .number false m i ∧ B ≤ m ∧ m < 2 * B ∧ (i = (l : Int) - 52 ∨ (i = (l : Int) - 51 ∧ m = B)) := by
  have hR : (l + 1022) * B ≤ 2022 * B := Nat.mul_le_mul_right _ (by omega)
  have hR0 : 1022 * B ≤ (l + 1022) * B := Nat.mul_le_mul_right _ (by omega)
  have hd : ((l + 1022) * B + kept) / B = l + 1022 + kept / B := by rw [Nat.add_comm, Nat.add_mul_div_right _ _ hB0, Nat.add_comm]
  have hm : ((l + 1022) * B + kept) % B = kept % B := by rw [Nat.add_comm, Nat.add_mul_mod_self_right]
  rw [hi, show min ((l + 1022) * B + kept) (2047 * B) = (l + 1022) * B + kept by omega]
  have hw : F.word false ((l + 1022) * B + kept) = (l + 1022) * B + kept := by unfold Format.word; exact if_neg (by decide)
  rw [hw]
  unfold Format.read
  rw [hs, hb, hi, hlp]
  have hlt : (l + 1022) * B + kept < 2048 * B := by omega
  simp only [Nat.div_eq_of_lt hlt, Nat.mod_eq_of_lt hlt]
  rw [if_neg (by omega), if_pos (by omega), hd, hm]
  rcases Nat.lt_or_ge kept (2 * B) with h | h
  · have q1 : kept / B = 1 := by
      rw [Nat.div_eq_iff hB0]; omega
    have q2 : kept % B = kept - B := by
      have := Nat.mod_add_div kept B; rw [q1] at this; omega
    refine ⟨_, _, rfl, by omega, by omega, .inl ?_⟩
    rw [q1]; omega
  · obtain rfl : kept = 2 * B := by omega
    have q1 : 2 * B / B = 2 := Nat.mul_div_cancel _ hB0
    have q2 : 2 * B % B = 0 := Nat.mul_mod_left 2 B
    refine ⟨_, _, rfl, by omega, by omega, .inr ⟨?_, by omega⟩⟩
    rw [q1]; omega
theorem read_nearest {mag : Nat} {place : Int} {l : Nat} (h0 : mag ≠ 0) (hl : place + mag.log2 = l) (h1 : l ≤ 1000) :
    ∃ m i, double.read (double.nearest false mag place) = .number false m i ∧ 2 ^ 52 ≤ m ∧ m < 2 ^ 53 ∧ (i = (l : Int) - 52 ∨ (i = (l : Int) - 51 ∧ m = 2 ^ 52)) := by
  obtain ⟨k1, k2⟩ := kept_bd (mag := mag) (place := place) (last := place + mag.log2 - 52) h0 rfl
  have elp : double.leastPlace = -1074 := by decide
  have ebin : double.binade = 2 ^ 52 := by decide
  have e53 : (2 : Nat) ^ 53 = 2 * 2 ^ 52 := by decide
  rw [e53] at k2 ⊢
  unfold Format.nearest
  rw [if_neg h0]
  have elast : max (place + mag.log2 - double.fractionBits) double.leastPlace = place + mag.log2 - 52 := by rw [elp, show (double.fractionBits : Int) = 52 from rfl]; omega
  simp only [elast]
  have er : (place + (mag.log2 : Int) - 52 - double.leastPlace).toNat = l + 1022 := by rw [elp]; omega
  rw [er, ebin]
  exact read_rung double (2 ^ 52) (Nat.two_pow_pos 52) ebin (by decide) (by decide) elp h1 k1 k2
theorem sq_lt {a b : Nat} (h : a * a < b * b) : a < b := Nat.lt_of_not_le fun h2 => absurd (Nat.mul_self_le_mul_self h2) (by omega)
theorem rootFrom_spec (n : Nat) : ∀ (todo root : Nat), root * root ≤ n → n < (root + 2 ^ todo) * (root + 2 ^ todo) →
    Datum.rootFrom n todo root * Datum.rootFrom n todo root ≤ n ∧ n < (Datum.rootFrom n todo root + 1) * (Datum.rootFrom n todo root + 1)
  | 0, root, h1, h2 => by simpa [Datum.rootFrom] using ⟨h1, h2⟩
  | todo + 1, root, h1, h2 => by
    unfold Datum.rootFrom
    simp only [Nat.one_shiftLeft]
    have e : 2 ^ (todo + 1) = 2 ^ todo + 2 ^ todo := by rw [Nat.pow_succ]; omega
    split
    · rename_i h
      refine rootFrom_spec n todo _ h ?_
      rw [Nat.add_assoc, ← e]; exact h2
    · rename_i h
      exact rootFrom_spec n todo root h1 (by omega)
theorem root_bd {m : Nat} {i : Int} (h1 : 2 ^ 52 ≤ m) (h2 : m < 2 ^ 53) : ∃ mag pl, Datum.root 54 (.number false m i) = some (.number false mag pl) ∧ mag ≠ 0 ∧ pl + mag.log2 = (i + 52) / 2 := by
  have hl : m.log2 = 52 := log2_of h1 h2
  have hm : m ≠ 0 := by omega
  unfold Datum.root
  simp only [if_neg hm, hl, if_neg (show ¬ false = true by simp)]
  rw [show 2 * 54 - 52 = 56 from rfl]
  generalize he : 56 + ((i - (56 : Nat)) % 2).toNat = e
  have he2 : (e = 56 ∧ i % 2 = 0) ∨ (e = 57 ∧ i % 2 = 1) := by omega
  have hn1 : 2 ^ 52 * 2 ^ e ≤ m * 2 ^ e := Nat.mul_le_mul_right _ h1
  have hn2 : m * 2 ^ e < 2 ^ 53 * 2 ^ e := Nat.mul_lt_mul_of_pos_right h2 (Nat.two_pow_pos e)
  rw [Nat.shiftLeft_eq]
  generalize hn : m * 2 ^ e = n at hn1 hn2 ⊢
  have b1 : 2 ^ 108 ≤ n := by rcases he2 with ⟨rfl, _⟩ | ⟨rfl, _⟩ <;> omega
  have b2 : n < 2 ^ 110 := by rcases he2 with ⟨rfl, _⟩ | ⟨rfl, _⟩ <;> omega
  have hn0 : n ≠ 0 := by omega
  obtain ⟨s1, s2⟩ := rootFrom_spec n (n.log2 / 2 + 1) 0 (by omega) (by
    rw [Nat.zero_add, ← Nat.pow_add]
    refine Nat.lt_of_lt_of_le (log2_bd hn0).2 (Nat.pow_le_pow_right (by omega) (by omega)))
  generalize hw : Datum.rootFrom n (n.log2 / 2 + 1) 0 = w at s1 s2 ⊢
  have w1 : 2 ^ 54 < w + 1 := sq_lt (Nat.lt_of_le_of_lt (show 2 ^ 54 * 2 ^ 54 ≤ n by omega) s2)
  have w2 : w < 2 ^ 55 := sq_lt (Nat.lt_of_le_of_lt s1 (show n < 2 ^ 55 * 2 ^ 55 by omega))
  have hb : ∀ b : Bool, b.toNat ≤ 1 := fun b => by cases b <;> decide
  have hb1 := hb (w * w != n)
  refine ⟨_, _, rfl, by omega, ?_⟩
  rw [log2_of (m := 2 * w + (w * w != n).toNat) (k := 55) (by omega) (by omega)]
  rcases he2 with ⟨rfl, h⟩ | ⟨rfl, h⟩ <;> omega
theorem float_root {n : Int} (h1 : 1 ≤ n) (h2 : n < 9223372036854775808) : ∃ w, FloatKind.f64.format.sqrt (FloatKind.f64.nearest n) = some w ∧ ∃ r : Int, (FloatKind.f64.format.read w).toInt .zero = some r ∧ 1 ≤ r ∧ r ≤ 4294967296 := by
  obtain ⟨k, rfl⟩ : ∃ k : Nat, n = k := ⟨n.toNat, by omega⟩
  have hk0 : k ≠ 0 := by omega
  have hkl : k.log2 < 63 := (Nat.log2_lt hk0).2 (by omega)
  have e1 : FloatKind.f64.nearest (k : Int) = double.nearest false k 0 := by
    unfold FloatKind.nearest FloatKind.encode
    rw [decide_eq_false (by omega), Int.natAbs_natCast]; rfl
  obtain ⟨m, i, hr, m1, m2, hi⟩ := read_nearest (mag := k) (place := 0) (l := k.log2) hk0 (by omega) (by omega)
  obtain ⟨mag, pl, hq, hmag, hpl⟩ := root_bd (i := i) m1 m2
  obtain ⟨l2, hl2, hl2b⟩ : ∃ l2 : Nat, (i + 52) / 2 = l2 ∧ l2 ≤ 31 := ⟨((i + 52) / 2).toNat, by omega, by omega⟩
  obtain ⟨m', i', hr', m1', m2', hi'⟩ := read_nearest (mag := mag) (place := pl) (l := l2) hmag (by omega) (by omega)
  refine ⟨double.nearest false mag pl, ?_, ?_⟩
  · show Option.map double.write (Datum.root 54 (double.read (FloatKind.f64.nearest k))) = _
    rw [e1, hr, hq]; rfl
  · show ∃ r : Int, (double.read (double.nearest false mag pl)).toInt .zero = some r ∧ _
    rw [hr']
    have hlog : m'.log2 = 52 := log2_of m1' m2'
    have hp : ∀ q : Nat, 0 < 2 ^ q := Nat.two_pow_pos
    have key : ∀ d : Nat, d ≤ 52 → (-i').toNat = d → i'.toNat = 0 → (Datum.number false m' i').toInt .zero = some (((m' / 2 ^ d : Nat)) : Int) := fun d hd h3 h4 => by
      unfold Datum.toInt Datum.integral
      simp only [h3, h4, Nat.shiftLeft_zero]
      unfold Toward.cut
      simp only [Nat.one_shiftLeft, hlog]
      rw [show min d (52 + 2) = d by omega]
      simp [signed]
    rcases hi' with hi' | ⟨hi', rfl⟩
    · refine ⟨_, key (52 - l2) (by omega) (by omega) (by omega), ?_, ?_⟩
      · have : 1 ≤ m' / 2 ^ (52 - l2) := by
          rw [Nat.le_div_iff_mul_le (hp _), Nat.one_mul]
          exact Nat.le_trans (Nat.pow_le_pow_right (by omega) (by omega)) m1'
        omega
      · have : m' / 2 ^ (52 - l2) < 2 ^ (l2 + 1) := by
          rw [Nat.div_lt_iff_lt_mul (hp _), ← Nat.pow_add, show l2 + 1 + (52 - l2) = 53 by omega]; exact m2'
        have h5 : 2 ^ (l2 + 1) ≤ 2 ^ 32 := Nat.pow_le_pow_right (by omega) (by omega)
        omega
    · refine ⟨_, key (51 - l2) (by omega) (by omega) (by omega), ?_, ?_⟩
      · have : 1 ≤ 2 ^ 52 / 2 ^ (51 - l2) := by
          rw [Nat.le_div_iff_mul_le (hp _), Nat.one_mul]
          exact Nat.pow_le_pow_right (by omega) (by omega)
        omega
      · have : 2 ^ 52 / 2 ^ (51 - l2) = 2 ^ (l2 + 1) := by
          refine Nat.div_eq_of_eq_mul_left (hp _) ?_
          rw [← Nat.pow_add, show l2 + 1 + (51 - l2) = 52 by omega]
        have h5 : 2 ^ (l2 + 1) ≤ 2 ^ 32 := Nat.pow_le_pow_right (by omega) (by omega)
        omega
end Go.Proofs.YtaegeaajhbfkgaaGreatDoorA

