/- Reading a text of a state. -/
import Derived.Test.YtohckiiadkibkaaDoorSpec2
import Derived.Test.YtohckiiadkibkaaDoorStrA
namespace Go.Proofs.YtohckiiadkibkaaDoorA
open Go
set_option linter.unusedVariables false
set_option linter.unusedSimpArgs false
set_option linter.unnecessarySimpa false

def midS (s : ByteArray) : List ByteArray := ((splS 10 s).take ((splS 10 s).length - 1)).drop 1
def lastS (s : ByteArray) : ByteArray := (splS 10 s).getD ((splS 10 s).length - 1) ⟨#[]⟩
def headS (s : ByteArray) : ByteArray := (splS 10 s).getD 0 ⟨#[]⟩
def rowsR : List ByteArray → Option (List SR)
  | [] => some []
  | p :: ps => if cutB 61 p = true then (rowsR ps).map (⟨cutL 61 p, cutR 61 p⟩ :: ·) else none
def sumE (s : ByteArray) (out : List SR) : Int := if checkL out ≠ 0 then checkL out else if hexS (digV out) ≠ headS s then 13 else 0
def readE (s : ByteArray) : Int :=
  if 8192 < s.size then 2 else if (splS 10 s).length < 2 ∨ lastS s ≠ ⟨#[]⟩ then 5
  else match rowsR (midS s) with | none => 5 | some out => sumE s out
def readL (s : ByteArray) : List SR := if readE s ≠ 0 then [] else (rowsR (midS s)).getD []

theorem joi_lines (c : UInt8) : ∀ (M : List (List UInt8)) (h : List UInt8), joi c (h :: (M ++ [[]])) = h ++ c :: (M.map (· ++ [c])).flatten
  | [], h => by simp [joi]
  | m :: M, h => by
    show h ++ c :: joi c (m :: (M ++ [[]])) = _
    rw [joi_lines c M m]; simp
theorem shapeP {α : Type} {P : List α} (d : α) (h : 2 ≤ P.length) : P = P.getD 0 d :: (((P.take (P.length - 1)).drop 1) ++ [P.getD (P.length - 1) d]) := by
  cases P with
  | nil => simp at h
  | cons p Q =>
    rcases List.eq_nil_or_concat Q with rfl | ⟨M, x, rfl⟩
    · simp at h
    · simp
theorem cut_parts {p : ByteArray} {c : UInt8} (h : cutB c p = true) : bl p = bl (cutL c p) ++ c :: bl (cutR c p) := by
  have h0 : 0 ≤ Lib.indexByte (bl p) c := of_decide_eq_true h
  obtain ⟨m, hm⟩ : ∃ m : Nat, Lib.indexByte (bl p) c = m := ⟨_, (Int.toNat_of_nonneg h0).symm⟩
  obtain ⟨_, h2, _⟩ := idx_parts hm
  unfold cutL cutR
  rw [if_pos h, if_pos h, hm]
  exact h2
theorem rows_lines : ∀ {M : List ByteArray} {out : List SR}, rowsR M = some out → ((M.map bl).map (· ++ [10])).flatten = linesB out
  | [], out, h => by obtain rfl := Option.some.inj h; rfl
  | p :: ps, out, h => by
    unfold rowsR at h
    split at h
    · rename_i hc
      obtain ⟨o, ho, rfl⟩ := Option.map_eq_some_iff.1 h
      have ih := rows_lines ho
      rw [List.map_cons, List.map_cons, List.flatten_cons, ih, cut_parts hc]
      simp [linesB, lineB]
    · cases h
theorem spl_bl (s : ByteArray) : (splS 10 s).map bl = spl 10 (bl s) := by
  unfold splS
  rw [List.map_map]
  exact List.map_id _
theorem read_bl {s : ByteArray} {out : List SR} (h : ¬ ((splS 10 s).length < 2 ∨ lastS s ≠ ⟨#[]⟩)) (hr : rowsR (midS s) = some out) : bl s = bl (headS s) ++ 10 :: linesB out := by
  have hl : lastS s = ⟨#[]⟩ := Classical.byContradiction fun hn => h (.inr hn)
  have hs := shapeP (P := splS 10 s) ⟨#[]⟩ (by omega)
  have h2 := joi_spl 10 (bl s)
  rw [← spl_bl, hs] at h2
  have hl2 : (splS 10 s).getD ((splS 10 s).length - 1) ⟨#[]⟩ = ⟨#[]⟩ := hl
  rw [hl2, List.map_cons, List.map_append] at h2
  have h3 := joi_lines 10 ((midS s).map bl) (bl (headS s))
  rw [rows_lines hr] at h3
  rw [← h2]; exact h3
theorem nl1 : bl ⟨#[10]⟩ = [10] := rfl
theorem text_bl {m : List SR} (h : checkL m = 0) : bl (textV m) = bl (hexS (digV m)) ++ 10 :: linesB m := by
  unfold textV digV
  rw [if_neg (by omega), if_neg (by omega), bl_app, bl_app, nl1, bl_bs]
  simp
/-- What was read is written again. -/
theorem read_ok {s : ByteArray} (h : readE s = 0) : checkL (readL s) = 0 ∧ textV (readL s) = s := by
  have hL : readL s = (rowsR (midS s)).getD [] := if_neg (by omega)
  unfold readE at h
  split at h
  · omega
  · split at h
    · omega
    · rename_i h1
      split at h
      · omega
      · rename_i out ho
        rw [ho] at hL
        have hL2 : readL s = out := hL
        unfold sumE at h
        split at h
        · omega
        · rename_i h2
          split at h
          · omega
          · rename_i h3
            have h4 : hexS (digV out) = headS s := Classical.byContradiction h3
            have h5 : checkL out = 0 := by omega
            rw [hL2]
            refine ⟨h5, bl_inj ?_⟩
            rw [text_bl h5, h4, read_bl h1 ho]

def lineC (x : SR) : List UInt8 := bl x.key ++ 61 :: bl x.val
theorem lines_C (l : List SR) : linesB l = ((l.map lineC).map (· ++ [10])).flatten := by
  unfold linesB
  rw [List.map_map]
  congr 1
  refine List.map_congr_left fun x _ => ?_
  simp [lineB, lineC]
theorem key_no {s : ByteArray} (h : keyedS s = true) : (10 : UInt8) ∉ bl s ∧ (61 : UInt8) ∉ bl s := by
  have h2 := (keyed_size h).2.2
  exact ⟨fun h3 => by have := h2 _ h3; revert this; decide, fun h3 => by have := h2 _ h3; revert this; decide⟩
theorem val_no {s : ByteArray} (h : valuedS s = true) : (10 : UInt8) ∉ bl s := by
  have h2 := (valued_size h).2
  exact fun h3 => by have := h2 _ h3; revert this; decide
theorem cut_line {x : SR} (h : (61 : UInt8) ∉ bl x.key) : cutB 61 (bs (lineC x)) = true ∧ cutL 61 (bs (lineC x)) = x.key ∧ cutR 61 (bs (lineC x)) = x.val := by
  have hi : Lib.indexByte (bl (bs (lineC x))) 61 = (x.key.size : Nat) := by rw [bl_bs, lineC, idx_of h, bl_len]
  have hb : cutB 61 (bs (lineC x)) = true := by unfold cutB; rw [hi]; exact decide_eq_true (by omega)
  have hsz : (bs (lineC x)).size = x.key.size + x.val.size + 1 := by rw [bs_size, lineC]; simp [bl_len]; omega
  refine ⟨hb, ?_, ?_⟩
  · unfold cutL
    rw [if_pos hb, hi]
    refine bl_inj ?_
    rw [bl_extract, bl_bs, lineC, Int.toNat_natCast, List.drop_zero, List.take_left' (bl_len _)]
  · unfold cutR
    rw [if_pos hb, hi]
    refine bl_inj ?_
    rw [bl_extract, bl_bs, Int.toNat_natCast, List.take_of_length_le (by rw [hsz]; simp [lineC, bl_len]; omega), lineC]
    rw [show bl x.key ++ 61 :: bl x.val = (bl x.key ++ [61]) ++ bl x.val by simp, List.drop_left' (by simp [bl_len])]
theorem rows_back : ∀ {l : List SR}, (∀ x ∈ l, (61 : UInt8) ∉ bl x.key) → rowsR (l.map fun x => bs (lineC x)) = some l
  | [], _ => rfl
  | x :: l, h => by
    obtain ⟨h1, h2, h3⟩ := cut_line (h x (by simp))
    rw [List.map_cons, rowsR, if_pos h1, rows_back (fun y hy => h y (by simp [hy])), h2, h3]
    rfl
theorem text_len {l : List SR} (h : checkL l = 0) : (textV l).size ≤ 3473 := by
  obtain ⟨h1, h2⟩ := checkL_zero.1 h
  have hb := linesB_len h1 l.length
  rw [List.take_length] at hb
  have hh := hexS_len (n := digV l) (by unfold digV; split; · omega
                                        · exact fnv_lt _)
  have := congrArg List.length (text_bl h)
  rw [bl_len] at this
  simp [bl_len] at this
  omega
/-- What was written is read again. -/
theorem text_read {l : List SR} (h : checkL l = 0) : readE (textV l) = 0 ∧ readL (textV l) = l := by
  obtain ⟨h1, h2⟩ := checkL_zero.1 h
  have hlen := text_len h
  have hb := text_bl h
  rw [lines_C, ← joi_lines] at hb
  have hs : spl 10 (bl (textV l)) = bl (hexS (digV l)) :: (l.map lineC ++ [[]]) := by
    rw [hb]
    refine spl_joi (by simp) fun p hp => ?_
    rcases List.mem_cons.1 hp with rfl | hp
    · exact hexS_nl _
    · rcases List.mem_append.1 hp with hp | hp
      · obtain ⟨x, hx, rfl⟩ := List.mem_map.1 hp
        have hf := h1.form x hx
        unfold lineC
        rw [List.mem_append, List.mem_cons]
        rintro (h3 | h3 | h3)
        · exact (key_no hf.1).1 h3
        · exact absurd h3 (by decide)
        · exact val_no hf.2 h3
      · simp at hp; subst hp; simp
  have hS : splS 10 (textV l) = hexS (digV l) :: ((l.map fun x => bs (lineC x)) ++ [⟨#[]⟩]) := by
    unfold splS
    rw [hs]
    simp [bs_bl]
    rfl
  have hn : (splS 10 (textV l)).length = l.length + 2 := by rw [hS]; simp
  have hla : lastS (textV l) = ⟨#[]⟩ := by unfold lastS; rw [hn, hS]; simp
  have hhe : headS (textV l) = hexS (digV l) := by unfold headS; rw [hS]; rfl
  have hmi : midS (textV l) = l.map fun x => bs (lineC x) := by unfold midS; rw [hn, hS]; simp
  have hro := rows_back (l := l) fun x hx => (key_no (h1.form x hx).1).2
  have hE : readE (textV l) = 0 := by
    unfold readE
    rw [if_neg (by omega), if_neg (by rintro (h3 | h3); · omega
                                      · exact h3 hla), hmi, hro]
    show sumE _ l = 0
    unfold sumE
    rw [if_neg (by omega), hhe, if_neg (by simp)]
  refine ⟨hE, ?_⟩
  unfold readL
  rw [if_neg (by omega), hmi, hro]; rfl

/-! ### one byte changed -/
theorem mulp {x y : Nat} (hx : x < 18446744073709551616) (hy : y < 18446744073709551616) (h : x * 1099511628211 % 18446744073709551616 = y * 1099511628211 % 18446744073709551616) : x = y := by
  have key : ∀ z, z < 18446744073709551616 → (z * 1099511628211 % 18446744073709551616) * 14886173955864302971 % 18446744073709551616 = z := fun z hz => by
    rw [Nat.mul_mod (z * 1099511628211 % 18446744073709551616), Nat.mod_mod, ← Nat.mul_mod, Nat.mul_assoc, Nat.mul_mod z, show 1099511628211 * 14886173955864302971 % 18446744073709551616 = 1 from by decide, Nat.mul_one, Nat.mod_mod, Nat.mod_eq_of_lt hz]
  rw [← key x hx, h, key y hy]
theorem u8_lt (c : UInt8) : c.toNat < 18446744073709551616 := by have := c.toNat_lt; omega
theorem fnvF_h {h h2 : Nat} {c : UInt8} (a : h < 18446744073709551616) (b : h2 < 18446744073709551616) (e : fnvF h c = fnvF h2 c) : h = h2 := by
  have e2 := mulp (Nat.xor_lt_two_pow (n := 64) a (u8_lt c)) (Nat.xor_lt_two_pow (n := 64) b (u8_lt c)) e
  have e3 := congrArg (· ^^^ c.toNat) e2
  simpa [Nat.xor_assoc] using e3
theorem fnvF_c {h : Nat} {c d : UInt8} (a : h < 18446744073709551616) (e : fnvF h c = fnvF h d) : c = d := by
  have e2 := mulp (Nat.xor_lt_two_pow (n := 64) a (u8_lt c)) (Nat.xor_lt_two_pow (n := 64) a (u8_lt d)) e
  have e3 := congrArg (h ^^^ ·) e2
  simp only [← Nat.xor_assoc, Nat.xor_self, Nat.zero_xor] at e3
  exact UInt8.toNat_inj.1 e3
theorem fold_inj : ∀ (l : List UInt8) {h h2 : Nat}, h < 18446744073709551616 → h2 < 18446744073709551616 → l.foldl fnvF h = l.foldl fnvF h2 → h = h2
  | [], _, _, _, _, e => e
  | c :: l, _, _, a, b, e => fnvF_h a b (fold_inj l (fnvF_lt _ _) (fnvF_lt _ _) e)
theorem fnv_at {l : List UInt8} {i : Nat} {x c : UInt8} (hx : l[i]? = some x) (e : fnvL (l.set i c) = fnvL l) : c = x := by
  obtain ⟨hi, hx2⟩ := List.getElem?_eq_some_iff.1 hx
  have e1 : l = l.take i ++ x :: l.drop (i + 1) := by rw [← hx2, List.getElem_cons_drop]; exact (List.take_append_drop i l).symm
  have e2 : l.set i c = l.take i ++ c :: l.drop (i + 1) := by rw [List.set_eq_take_append_cons_drop, if_pos hi]
  rw [e2] at e
  conv at e => rhs; rw [e1]
  unfold fnvL at e
  rw [List.foldl_append, List.foldl_append, List.foldl_cons, List.foldl_cons] at e
  exact fnvF_c (fnv_lt (l.take i)) (fold_inj _ (fnvF_lt _ _) (fnvF_lt _ _) e)
theorem nl_split {a b c d : List UInt8} (ha : (10 : UInt8) ∉ a) (hc : (10 : UInt8) ∉ c) (h : a ++ 10 :: b = c ++ 10 :: d) : a = c ∧ b = d := by
  have h1 := idx_of (b := b) ha
  have h2 := idx_of (b := d) hc
  rw [h, h2] at h1
  exact List.append_inj h (by omega) |>.imp id fun h => (List.cons.inj h).2
/-- SnapshotSpoilt. -/
theorem spoilt {l : List SR} {off : Nat} {x c : UInt8} (h : checkL l = 0) (hx : (linesB l)[off]? = some x) (hc : c ≠ x) : readE (bs ((bl (textV l)).set ((hexS (digV l)).size + 1 + off) c)) ≠ 0 := fun h0 => by
  obtain ⟨h1, h2⟩ := read_ok h0
  have h3 := text_bl h1
  rw [h2] at h3
  revert h1 h3
  generalize readL _ = m
  intro h1 h3
  rw [bl_bs, text_bl h, List.set_append_right _ _ (by rw [bl_len]; omega), bl_len, show (hexS (digV l)).size + 1 + off - (hexS (digV l)).size = off + 1 by omega, List.set_cons_succ] at h3
  obtain ⟨h4, h5⟩ := nl_split (hexS_nl _) (hexS_nl _) h3
  have h6 := hexS_inj (bl_inj h4)
  unfold digV at h6
  rw [if_neg (by omega), if_neg (by omega), ← h5] at h6
  exact hc (fnv_at hx h6.symm)
theorem off_at {l : List SR} {k at_ : Nat} {x : SR} (hx : l[k]? = some x) (ha : at_ < x.val.size) : ∃ c, (linesB l)[(linesB (l.take k)).length + x.key.size + 1 + at_]? = some c := by
  have h1 : (linesB l).length ≥ (linesB (l.take (k + 1))).length := by
    have : linesB l = linesB (l.take (k + 1)) ++ linesB (l.drop (k + 1)) := by
      unfold linesB
      rw [← List.flatten_append, ← List.map_append, List.take_append_drop]
    rw [this, List.length_append]; omega
  rw [linesB_succ hx, List.length_append, lineB_len] at h1
  exact ⟨_, List.getElem?_eq_getElem (by omega)⟩
end Go.Proofs.YtohckiiadkibkaaDoorA
