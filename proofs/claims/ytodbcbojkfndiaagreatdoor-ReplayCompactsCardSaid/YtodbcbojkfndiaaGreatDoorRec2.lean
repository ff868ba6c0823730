/- Entries and their bytes. -/
import Derived.Test.YtodbcbojkfndiaaGreatDoorRec1
import Derived.Test.YtodbcbojkfndiaaGreatDoorStrA
namespace Go.Proofs.YtodbcbojkfndiaaGreatDoorA
open Go
set_option linter.unusedVariables false
set_option linter.unusedSimpArgs false
set_option linter.unnecessarySimpa false

structure EN where
  num : Int
  tm : Int
  kind : ByteArray
  text : ByteArray
def EN.enc (x : EN) : List D := [.int .i64 x.num, .int .i64 x.tm, .str x.kind, .str x.text]
def EN.zero : EN := ⟨0, 0, ⟨#[]⟩, ⟨#[]⟩⟩
theorem EN.ext2 {x y : EN} (h1 : x.num = y.num) (h2 : x.tm = y.tm) (h3 : x.kind = y.kind) (h4 : x.text = y.text) : x = y := by cases x; cases y; cases h1; cases h2; cases h3; cases h4; rfl
instance : DecidableEq EN := fun x y => if h : x.num = y.num ∧ x.tm = y.tm ∧ x.kind = y.kind ∧ x.text = y.text then .isTrue (EN.ext2 h.1 h.2.1 h.2.2.1 h.2.2.2) else .isFalse fun e => h (by subst e; exact ⟨rfl, rfl, rfl, rfl⟩)
def lowB (c : UInt8) : Bool := decide (97 ≤ c.toNat ∧ c.toNat ≤ 122)
def lowS (s : ByteArray) : Bool := (bl s).all lowB
def checkN (e : EN) : Int :=
  if e.num < 1 ∨ 500 < e.num ∨ e.tm < 0 ∨ 200000 < e.tm then 4
  else if 120 < e.text.size ∨ 8 < e.kind.size then 2
  else if e.kind.size = 0 ∨ lowS e.kind = false then 6 else 0
structure OkN (e : EN) : Prop where
  num : 1 ≤ e.num ∧ e.num ≤ 500
  tm : 0 ≤ e.tm ∧ e.tm ≤ 200000
  text : e.text.size ≤ 120
  kind : e.kind.size ≤ 8 ∧ e.kind.size ≠ 0
  low : lowS e.kind = true
theorem checkN_zero {e : EN} : checkN e = 0 ↔ OkN e := by
  unfold checkN
  constructor
  · intro h
    split at h
    · omega
    · split at h
      · omega
      · split at h
        · omega
        · rename_i h1 h2 h3
          refine ⟨by omega, by omega, by omega, by omega, ?_⟩
          cases hl : lowS e.kind with
          | true => rfl
          | false => exact absurd (.inr hl) h3
  · rintro ⟨h1, h2, h3, h4, h5⟩
    rw [if_neg (by omega), if_neg (by omega), if_neg (by rintro (h | h); · omega
                                                         · rw [h5] at h; cases h)]
theorem OkN.no {e : EN} (h : OkN e) : (32 : UInt8) ∉ bl e.kind := fun h2 => by
  have := List.all_eq_true.1 h.low _ h2
  revert this; decide

def sumF (p : Nat × Nat) (c : UInt8) : Nat × Nat := ((p.1 + c.toNat) % 251, (p.2 + (p.1 + c.toNat) % 251) % 241)
def sumP (l : List UInt8) : Nat × Nat := l.foldl sumF (1, 0)
def sumV (l : List UInt8) : Nat := 256 * (sumP l).2 + (sumP l).1
theorem sumP_lt (l : List UInt8) : (sumP l).1 < 251 ∧ (sumP l).2 < 241 := by
  have key : ∀ (l : List UInt8) (p : Nat × Nat), p.1 < 251 ∧ p.2 < 241 → (l.foldl sumF p).1 < 251 ∧ (l.foldl sumF p).2 < 241 := by
    intro l
    induction l with
    | nil => exact fun p h => h
    | cons c l ih => exact fun p _ => ih _ ⟨Nat.mod_lt _ (by omega), Nat.mod_lt _ (by omega)⟩
  exact key l (1, 0) (by omega)
theorem sumV_lt (l : List UInt8) : sumV l < 62000 := by have := sumP_lt l; unfold sumV; omega
theorem sum_step {l : List UInt8} {k : Nat} {c : UInt8} (h : l[k]? = some c) : sumP (l.take (k + 1)) = sumF (sumP (l.take k)) c := by
  unfold sumP
  rw [List.take_add_one, h, Option.toList_some, List.foldl_append, List.foldl_cons, List.foldl_nil]
def bodyB (e : EN) : List UInt8 := decL e.num.toNat ++ 32 :: (decL e.tm.toNat ++ 32 :: (bl e.kind ++ 32 :: (decL e.text.size ++ 58 :: bl e.text)))
def encB (e : EN) : List UInt8 := bodyB e ++ 59 :: (decL (sumV (bodyB e)) ++ [10])
def encV (e : EN) : ByteArray := if checkN e ≠ 0 then ⟨#[]⟩ else bs (encB e)
theorem body_len {e : EN} (h : OkN e) : (bodyB e).length ≤ 146 := by
  have h1 := decL_len e.num.toNat 2 (by have := h.num; omega)
  have h2 := decL_len e.tm.toNat 5 (by have := h.tm; omega)
  have h3 := decL_len e.text.size 2 (by have := h.text; omega)
  have h4 := h.kind
  have h5 := h.text
  simp [bodyB, bl_len]; omega
theorem enc_len {e : EN} (h : OkN e) : (encB e).length ≤ 153 ∧ 0 < (encB e).length := by
  have h1 := body_len h
  have h2 := decL_len (sumV (bodyB e)) 4 (by have := sumV_lt (bodyB e); omega)
  simp [encB]; omega

/-! ### reading -/
def dec1 (s : ByteArray) : Option (EN × ByteArray) :=
  match numV s 32 with
  | none => none
  | some (a, r1) => match numV r1 32 with
    | none => none
    | some (t, r2) => if cutB 32 r2 = false then none else match numV (cutR 32 r2) 58 with
      | none => none
      | some (z, r4) => if r4.size < z then none else some (⟨a, t, cutL 32 r2, r4.extract 0 z⟩, r4.extract z r4.size)
def dec2 (s : ByteArray) (e : EN) (r5 : ByteArray) : Int × ByteArray :=
  if checkN e ≠ 0 ∨ r5.size = 0 ∨ (bl r5).getD 0 0 ≠ 59 then (5, ⟨#[]⟩)
  else match numV (r5.extract 1 r5.size) 10 with
    | none => (5, ⟨#[]⟩)
    | some (z, r6) => if z ≠ sumV (bl (s.extract 0 (s.size - r5.size))) then (13, r6) else (0, r6)
def decE (s : ByteArray) : Int := match dec1 s with | none => 5 | some (e, r5) => (dec2 s e r5).1
def decX (s : ByteArray) : EN := if decE s ≠ 0 then EN.zero else match dec1 s with | none => EN.zero | some (e, _) => e
def decN (s : ByteArray) : Nat := if decE s ≠ 0 then 0 else match dec1 s with | none => 0 | some (e, r5) => s.size - (dec2 s e r5).2.size

theorem cutp_parts {p : ByteArray} {c : UInt8} (h : cutB c p = true) : bl p = bl (cutL c p) ++ c :: bl (cutR c p) ∧ c ∉ bl (cutL c p) := by
  have h0 : 0 ≤ Lib.indexByte (bl p) c := of_decide_eq_true h
  obtain ⟨m, hm⟩ : ∃ m : Nat, Lib.indexByte (bl p) c = m := ⟨_, (Int.toNat_of_nonneg h0).symm⟩
  obtain ⟨_, h2, h3⟩ := idx_parts hm
  unfold cutL cutR
  rw [if_pos h, if_pos h, hm]
  exact ⟨h2, h3⟩
theorem cutp_of {p : ByteArray} {c : UInt8} {a b : ByteArray} (h : bl p = bl a ++ c :: bl b) (hc : c ∉ bl a) : cutB c p = true ∧ cutL c p = a ∧ cutR c p = b := by
  have hi : Lib.indexByte (bl p) c = (a.size : Nat) := by rw [h, idx_of hc, bl_len]
  have hb : cutB c p = true := by unfold cutB; rw [hi]; exact decide_eq_true (by omega)
  have hsz : p.size = a.size + 1 + b.size := by rw [← bl_len, h]; simp [bl_len]; omega
  refine ⟨hb, ?_, ?_⟩
  · unfold cutL
    rw [if_pos hb, hi]
    refine bl_inj ?_
    rw [bl_extract, Int.toNat_natCast, h, List.drop_zero, List.take_left' (bl_len _)]
  · unfold cutR
    rw [if_pos hb, hi]
    refine bl_inj ?_
    rw [bl_extract, Int.toNat_natCast, List.take_of_length_le (by rw [bl_len]; omega), h, show bl a ++ c :: bl b = (bl a ++ [c]) ++ bl b by simp, List.drop_left' (by simp [bl_len])]
theorem ext_split (s : ByteArray) {z : Nat} (h : z ≤ s.size) : bl s = bl (s.extract 0 z) ++ bl (s.extract z s.size) ∧ (s.extract 0 z).size = z ∧ (s.extract z s.size).size = s.size - z := by
  have e1 : bl (s.extract 0 z) = (bl s).take z := by rw [bl_extract, List.drop_zero]
  have e2 : bl (s.extract z s.size) = (bl s).drop z := by rw [bl_extract, List.take_of_length_le (by rw [bl_len]; omega)]
  refine ⟨by rw [e1, e2, List.take_append_drop], ?_, ?_⟩
  · rw [← bl_len, e1, List.length_take, bl_len]; omega
  · rw [← bl_len, e2, List.length_drop, bl_len]
theorem ext_of {s a b : ByteArray} (h : bl s = bl a ++ bl b) : s.extract 0 a.size = a ∧ s.extract a.size s.size = b := by
  have hsz : s.size = a.size + b.size := by rw [← bl_len, h]; simp [bl_len]
  refine ⟨bl_inj ?_, bl_inj ?_⟩
  · rw [bl_extract, h, List.drop_zero, List.take_left' (bl_len _)]
  · rw [bl_extract, List.take_of_length_le (by rw [bl_len]; omega), h, List.drop_left' (bl_len _)]
theorem dec1_back {s : ByteArray} {e : EN} {r : ByteArray} (h : dec1 s = some (e, r)) : bl s = bodyB e ++ bl r := by
  unfold dec1 at h
  split at h
  · cases h
  · rename_i a r1 h1
    split at h
    · cases h
    · rename_i t r2 h2
      split at h
      · cases h
      · rename_i hc
        have hc2 : cutB 32 r2 = true := by simpa using hc
        split at h
        · cases h
        · rename_i z r4 h4
          split at h
          · cases h
          · rename_i hz
            obtain ⟨rfl, rfl⟩ := Prod.mk.inj (Option.some.inj h)
            obtain ⟨g1, _⟩ := num_back h1
            obtain ⟨g2, _⟩ := num_back h2
            obtain ⟨g3, _⟩ := cutp_parts hc2
            obtain ⟨g4, _⟩ := num_back h4
            obtain ⟨g5, g6, _⟩ := ext_split r4 (z := z) (by omega)
            rw [g1, g2, g3, g4, g5]
            simp [bodyB, g6]
theorem dec1_fwd {s : ByteArray} {e : EN} {r : ByteArray} (ok : OkN e) (h : bl s = bodyB e ++ bl r) : dec1 s = some (e, r) := by
  have hi : ∀ c : UInt8, c = 32 ∨ c = 58 → isD c = false := by rintro c (rfl | rfl) <;> decide
  have h1 := ok.num
  have h2 := ok.tm
  have h3 := ok.text
  have g1 := num_fwd (s := s) (n := e.num.toNat) (c := 32) (bs (decL e.tm.toNat ++ 32 :: (bl e.kind ++ 32 :: (decL e.text.size ++ 58 :: bl e.text)) ++ bl r)) (by omega) (hi _ (.inl rfl)) (by rw [h, bodyB, bl_bs]; simp)
  have g2 := num_fwd (s := bs (decL e.tm.toNat ++ 32 :: (bl e.kind ++ 32 :: (decL e.text.size ++ 58 :: bl e.text)) ++ bl r)) (n := e.tm.toNat) (c := 32) (bs (bl e.kind ++ 32 :: (decL e.text.size ++ 58 :: bl e.text) ++ bl r)) (by omega) (hi _ (.inl rfl)) (by rw [bl_bs, bl_bs]; simp)
  obtain ⟨g3, g4, g5⟩ := cutp_of (p := bs (bl e.kind ++ 32 :: (decL e.text.size ++ 58 :: bl e.text) ++ bl r)) (a := e.kind) (b := bs (decL e.text.size ++ 58 :: bl e.text ++ bl r)) (c := 32) (by rw [bl_bs, bl_bs]; simp) ok.no
  have g6 := num_fwd (s := bs (decL e.text.size ++ 58 :: bl e.text ++ bl r)) (n := e.text.size) (c := 58) (e.text ++ r) (by omega) (hi _ (.inr rfl)) (by rw [bl_bs, bl_app]; simp)
  obtain ⟨g7, g8⟩ := ext_of (bl_app e.text r)
  unfold dec1
  rw [g1]; dsimp only
  rw [g2]; dsimp only
  rw [g3, if_neg (by simp), g4, g5, g6]; dsimp only
  have hsz : (e.text ++ r).size = e.text.size + r.size := by rw [← bl_len, bl_app, List.length_append, bl_len, bl_len]
  rw [if_neg (by omega), g7, g8]
  congr 2
  exact EN.ext2 (by show ((e.num.toNat : Nat) : Int) = _; omega) (by show ((e.tm.toNat : Nat) : Int) = _; omega) rfl rfl
/-- What follows the body. -/
theorem dec2_parts {s : ByteArray} {e : EN} {r : ByteArray} (h : bl s = bodyB e ++ bl r) : bl (s.extract 0 (s.size - r.size)) = bodyB e := by
  have hsz : s.size = (bodyB e).length + r.size := by rw [← bl_len, h]; simp [bl_len]
  rw [bl_extract, List.drop_zero, h, List.take_left' (by omega)]
theorem dec2_back {s : ByteArray} {e : EN} {r : ByteArray} (h : (dec2 s e r).1 ≠ 5) : OkN e ∧ ∃ z, bl r = 59 :: (decL z ++ 10 :: bl (dec2 s e r).2) ∧ ((dec2 s e r).1 = 0 → z = sumV (bl (s.extract 0 (s.size - r.size)))) := by
  unfold dec2 at h ⊢
  split at h
  · exact absurd rfl h
  · rename_i h1
    rw [if_neg h1]
    split at h
    · exact absurd rfl h
    · rename_i z r6 hn
      try rw [hn]
      try dsimp only
      have hck : checkN e = 0 := Classical.byContradiction fun h2 => h1 (.inl h2)
      have h59 : (bl r).getD 0 0 = 59 := Classical.byContradiction fun h2 => h1 (.inr (.inr h2))
      have h0 : r.size ≠ 0 := fun h2 => h1 (.inr (.inl h2))
      obtain ⟨g1, _⟩ := num_back hn
      have hr : bl r = 59 :: bl (r.extract 1 r.size) := by
        have e2 : bl (r.extract 1 r.size) = (bl r).drop 1 := by rw [bl_extract, List.take_of_length_le (by rw [bl_len]; omega)]
        rw [e2]
        cases hb : bl r with
        | nil => have := congrArg List.length hb; rw [bl_len] at this; exact absurd this h0
        | cons c l => rw [hb] at h59; simp at h59; rw [h59]; rfl
      refine ⟨checkN_zero.1 hck, z, ?_, ?_⟩
      · rw [hr, g1]; split <;> rfl
      · split
        · intro h2; simp at h2
        · rename_i hz; intro _; exact Classical.byContradiction hz
theorem dec2_fwd {s : ByteArray} {e : EN} {r t : ByteArray} {z : Nat} (ok : OkN e) (hz : z < 1000000) (hr : bl r = 59 :: (decL z ++ 10 :: bl t)) (hs : z = sumV (bl (s.extract 0 (s.size - r.size)))) : dec2 s e r = (0, t) := by
  have hsz : r.size = (decL z).length + 2 + t.size := by rw [← bl_len, hr]; simp [bl_len]; omega
  have h1 : bl (r.extract 1 r.size) = decL z ++ 10 :: bl t := by rw [bl_extract, List.take_of_length_le (by rw [bl_len]; omega), hr]; rfl
  have h2 := num_fwd (c := 10) t hz (by decide) h1
  unfold dec2
  rw [if_neg, h2]; dsimp only
  · rw [if_neg (by simpa using hs)]
  · rintro (h | h | h)
    · exact h (checkN_zero.2 ok)
    · omega
    · exact h (by rw [hr]; rfl)
/-- The bytes of an entry, whatever follows. -/
theorem dec_enc {s : ByteArray} {e : EN} {t : ByteArray} (ok : OkN e) (h : bl s = encB e ++ bl t) : decE s = 0 ∧ decX s = e ∧ decN s = (encB e).length := by
  have h1 : bl s = bodyB e ++ bl (bs (59 :: (decL (sumV (bodyB e)) ++ 10 :: bl t))) := by rw [h, bl_bs, encB]; simp
  have h2 := dec1_fwd ok h1
  have h3 := dec2_fwd (s := s) (t := t) (z := sumV (bodyB e)) ok (by have := sumV_lt (bodyB e); omega) (by rw [bl_bs]) (by rw [dec2_parts h1])
  have hE : decE s = 0 := by unfold decE; rw [h2]; dsimp only; rw [h3]
  have hsz : s.size = (encB e).length + t.size := by rw [← bl_len, h]; simp [bl_len]
  refine ⟨hE, ?_, ?_⟩
  · unfold decX; rw [if_neg (by omega), h2]
  · unfold decN; rw [if_neg (by omega), h2]; dsimp only; rw [h3]; dsimp only; omega
/-- What was read has these bytes. -/
theorem dec_ok {s : ByteArray} (h : decE s = 0) : OkN (decX s) ∧ decN s = (encB (decX s)).length ∧ ∃ t, bl s = encB (decX s) ++ bl t := by
  have h0 := h
  unfold decE at h
  split at h
  · omega
  · rename_i e r h1
    have hX : decX s = e := by unfold decX; rw [if_neg (by omega), h1]
    obtain ⟨ok, z, h2, h3⟩ := dec2_back (s := s) (e := e) (r := r) (by omega)
    have h4 := dec1_back h1
    have h5 := h3 h
    rw [dec2_parts h4] at h5
    have h6 : bl s = encB e ++ bl (dec2 s e r).2 := by rw [h4, h2, h5, encB]; simp
    rw [hX]
    refine ⟨ok, ?_, _, h6⟩
    have hsz : s.size = (encB e).length + (dec2 s e r).2.size := by rw [← bl_len, h6]; simp [bl_len]
    unfold decN; rw [if_neg (by omega), h1]; dsimp only; omega
/-- A proper beginning is no entry. -/
theorem dec_cut {s : ByteArray} {e : EN} {m : Nat} (ok : OkN e) (hm : m < (encB e).length) (h : bl s = (encB e).take m) : decE s = 5 := by
  refine Classical.byContradiction fun hn => ?_
  unfold decE at hn
  split at hn
  · exact hn rfl
  · rename_i e' r h1
    obtain ⟨ok', z, h2, _⟩ := dec2_back hn
    have h4 := dec1_back h1
    have h5 : encB e = bl s ++ (encB e).drop m := by rw [h, List.take_append_drop]
    have h50 : encB e = bodyB e' ++ 59 :: (decL z ++ 10 :: (bl (dec2 s e' r).2 ++ (encB e).drop m)) := by
      conv => lhs; rw [h5, h4, h2]
      simp
    have h6 := dec1_fwd (s := bs (encB e)) (r := bs (59 :: (decL z ++ 10 :: (bl (dec2 s e' r).2 ++ (encB e).drop m)))) ok' (by rw [bl_bs, bl_bs]; exact h50)
    have h7 := dec1_fwd (s := bs (encB e)) (r := bs (59 :: (decL (sumV (bodyB e)) ++ [10]))) ok (by rw [bl_bs, bl_bs]; rfl)
    rw [h6] at h7
    have h8 := bs_inj (Prod.mk.inj (Option.some.inj h7)).2
    have h9 := (List.cons.inj h8).2
    have hno : ∀ n, (10 : UInt8) ∉ decL n := fun n h => by have := decL_dig n _ h; revert this; decide
    have g1 := idx_of (b := bl (dec2 s e' r).2 ++ (encB e).drop m) (hno z)
    have g2 := idx_of (b := []) (hno (sumV (bodyB e)))
    rw [h9, g2] at g1
    have g3 := congrArg List.length h9
    simp at g3
    have g4 : ((encB e).drop m).length = (encB e).length - m := List.length_drop ..
    omega
end Go.Proofs.YtodbcbojkfndiaaGreatDoorA
