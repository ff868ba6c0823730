/- Package console, in plain words: verbs, commands, texts. -/
import Derived.Test.YtdddebheolmldaaDoorStr2
import Derived.Test.YtdddebheolmldaaDoorRec1
import Derived.Test.YtdddebheolmldaaDoorFrC
namespace Go.Proofs.YtdddebheolmldaaDoorA
open Go
set_option linter.unusedVariables false
set_option linter.unusedSimpArgs false
set_option linter.unnecessarySimpa false

structure VB where
  name : ByteArray
  num : Bool
  fix : Bool
  most : Int
  kind : Int
def VB.enc (v : VB) : List D := [.str v.name, .bool v.num, .bool v.fix, .int .i64 v.most, .int .i64 v.kind]
def VB.zero : VB := ⟨⟨#[]⟩, false, false, 0, 0⟩
def verbsL : List VB := [⟨⟨#[97, 99, 99, 101, 112, 116]⟩, false, false, 0, -1⟩, ⟨⟨#[99, 111, 110, 116, 97, 99, 116]⟩, false, true, 0, 5⟩, ⟨⟨#[100, 105, 114, 101, 99, 116]⟩, false, true, 0, 3⟩,
  ⟨⟨#[100, 114, 111, 112]⟩, false, false, 0, -1⟩, ⟨⟨#[104, 101, 97, 100, 105, 110, 103]⟩, true, false, 4095, 1⟩, ⟨⟨#[104, 101, 105, 103, 104, 116]⟩, true, false, 60000, 0⟩, ⟨⟨#[104, 111, 108, 100]⟩, false, true, 0, 4⟩,
  ⟨⟨#[108, 97, 110, 100]⟩, false, true, 0, 6⟩, ⟨⟨#[111, 102, 102, 101, 114]⟩, false, true, 0, -1⟩, ⟨⟨#[115, 112, 101, 101, 100]⟩, true, false, 400, 2⟩]
def isV (s : ByteArray) (v : VB) : Bool := seq v.name s
def fndI (s : ByteArray) : Int := idxP (isV s) verbsL
def findB (s : ByteArray) : Bool := !decide (fndI s < 0)
def findV (s : ByteArray) : VB := if fndI s < 0 then VB.zero else verbsL.getD (fndI s).toNat VB.zero
structure CC where
  verb : ByteArray
  call : ByteArray
  n : Int
  fix : ByteArray
def CC.enc (c : CC) : List D := [.str c.verb, .str c.call, .int .i64 c.n, .str c.fix]
def CC.zero : CC := ⟨⟨#[]⟩, ⟨#[]⟩, 0, ⟨#[]⟩⟩
theorem CC.ext2 {x y : CC} (h1 : x.verb = y.verb) (h2 : x.call = y.call) (h3 : x.n = y.n) (h4 : x.fix = y.fix) : x = y := by cases x; cases y; cases h1; cases h2; cases h3; cases h4; rfl
instance : DecidableEq CC := fun x y => if h : x.verb = y.verb ∧ x.call = y.call ∧ x.n = y.n ∧ x.fix = y.fix then .isTrue (CC.ext2 h.1 h.2.1 h.2.2.1 h.2.2.2) else .isFalse fun e => h (by subst e; exact ⟨rfl, rfl, rfl, rfl⟩)
theorem same_cc (x y : CC) : allD (x.enc.take 4) (y.enc.take 4) = decide (x = y) := by
  show (x.verb.toList == y.verb.toList && (x.call.toList == y.call.toList && (decide (x.n = y.n) && (x.fix.toList == y.fix.toList && true)))) = _
  rw [Bool.and_true, Bool.eq_iff_iff, decide_eq_true_eq, Bool.and_eq_true, Bool.and_eq_true, Bool.and_eq_true, decide_eq_true_eq]
  show seq x.verb y.verb = true ∧ seq x.call y.call = true ∧ _ ∧ seq x.fix y.fix = true ↔ _
  rw [seq_iff, seq_iff, seq_iff]
  exact ⟨fun h => CC.ext2 h.1 h.2.1 h.2.2.1 h.2.2.2, fun h => by subst h; exact ⟨rfl, rfl, rfl, rfl⟩⟩

/-! ### names -/
def okB (k : Nat) (c : UInt8) : Bool := (decide (65 ≤ c.toNat) && decide (c.toNat ≤ 90)) || (decide (0 < k) && decide (48 ≤ c.toNat) && decide (c.toNat ≤ 57))
def byteAt (s : ByteArray) (k : Nat) : UInt8 := s.data.toList.getD k 0
def namedS (s : ByteArray) : Bool := ((List.range s.size).all fun k => okB k (byteAt s k)) && (!seq s ⟨#[]⟩ && decide ((s.size : Int) ≤ 8))
theorem okB_iff (k : Nat) (c : UInt8) : okB k c = true ↔ (65 ≤ c.toNat ∧ c.toNat ≤ 90) ∨ (0 < k ∧ 48 ≤ c.toNat ∧ c.toNat ≤ 57) := by
  unfold okB; simp only [Bool.or_eq_true, Bool.and_eq_true, decide_eq_true_eq]; omega
theorem named_bad {s : ByteArray} {k : Nat} (hk : k < s.size) (h : okB k (byteAt s k) = false) : namedS s = false := by
  unfold namedS
  have : ((List.range s.size).all fun k => okB k (byteAt s k)) = false := List.all_eq_false.2 ⟨k, by simpa using hk, by simp [h]⟩
  rw [this]; rfl
theorem named_ok {s : ByteArray} (h : ∀ k, k < s.size → okB k (byteAt s k) = true) : namedS s = (!seq s ⟨#[]⟩ && decide ((s.size : Int) ≤ 8)) := by
  unfold namedS
  have : ((List.range s.size).all fun k => okB k (byteAt s k)) = true := List.all_eq_true.2 fun k hk => h k (by simpa using hk)
  rw [this]; rfl
theorem named_size {s : ByteArray} (h : namedS s = true) : s.size ≤ 8 := by
  unfold namedS at h
  simp only [Bool.and_eq_true, decide_eq_true_eq] at h
  omega
theorem named_sp {s : ByteArray} (h : namedS s = true) : (32 : UInt8) ∉ bl s := by
  intro h2
  obtain ⟨k, hk⟩ := List.getElem?_of_mem h2
  have hkl := (List.getElem?_eq_some_iff.1 hk).1
  rw [bl_len] at hkl
  unfold namedS at h
  simp only [Bool.and_eq_true] at h
  have h3 := List.all_eq_true.1 h.1 k (by simpa using hkl)
  have h4 : byteAt s k = 32 := by unfold byteAt; unfold bl at hk; rw [List.getD_eq_getElem?_getD, hk]; rfl
  rw [h4, okB_iff] at h3
  have h5 : (32 : UInt8).toNat = 32 := rfl
  omega

/-! ### verbs -/
theorem find_spec {s : ByteArray} (h : findB s = true) : findV s ∈ verbsL ∧ (findV s).name = s := by
  have h0 : ¬ fndI s < 0 := by simpa [findB] using h
  obtain ⟨j, hj⟩ : ∃ j : Nat, fndI s = j := ⟨(fndI s).toNat, by omega⟩
  obtain ⟨x, hx, hp⟩ := idxP_at hj
  have hv : findV s = x := by unfold findV; rw [if_neg h0, hj, Int.toNat_natCast, List.getD_eq_getElem?_getD, hx]; rfl
  rw [hv]
  exact ⟨List.mem_of_getElem? hx, (seq_iff _ _).1 hp.1⟩
theorem find_no {s : ByteArray} (h : findB s = false) : findV s = VB.zero := by
  have h0 : fndI s < 0 := by simpa [findB] using h
  exact if_pos h0
theorem verb_facts : ∀ v ∈ verbsL, (32 : UInt8) ∉ bl v.name ∧ v.name.size ≤ 7 ∧ ¬ (v.num = true ∧ v.fix = true) ∧ 0 ≤ v.most ∧ v.most ≤ 60000 := by
  intro v hv
  unfold verbsL at hv
  simp only [List.mem_cons, List.mem_nil_iff, or_false] at hv
  rcases hv with rfl | rfl | rfl | rfl | rfl | rfl | rfl | rfl | rfl | rfl <;> decide

/-! ### commands -/
def ckC (c : CC) : Int :=
  if findB c.verb = false then 5
  else if namedS c.call = false ∨ ((findV c.verb).fix = true ∧ namedS c.fix = false) then 6
  else if ((findV c.verb).fix = false ∧ seq c.fix ⟨#[]⟩ = false) ∨ ((findV c.verb).num = false ∧ c.n ≠ 0) then 3
  else if c.n < 0 ∨ (findV c.verb).most < c.n then 4 else 0
theorem ck_zero {c : CC} : ckC c = 0 ↔ findB c.verb = true ∧ namedS c.call = true ∧ ((findV c.verb).fix = true → namedS c.fix = true) ∧ ((findV c.verb).fix = false → c.fix = ⟨#[]⟩) ∧ ((findV c.verb).num = false → c.n = 0) ∧ 0 ≤ c.n ∧ c.n ≤ (findV c.verb).most := by
  unfold ckC
  constructor
  · intro h
    split at h
    · omega
    · rename_i h1
      split at h
      · omega
      · rename_i h2
        split at h
        · omega
        · rename_i h3
          split at h
          · omega
          · rename_i h4
            refine ⟨by simpa using h1, ?_, ?_, ?_, ?_, by omega, by omega⟩
            · cases e : namedS c.call with
              | true => rfl
              | false => exact absurd (.inl e) h2
            · intro hf
              cases e : namedS c.fix with
              | true => rfl
              | false => exact absurd (.inr ⟨hf, e⟩) h2
            · intro hf
              cases e : seq c.fix ⟨#[]⟩ with
              | true => exact (seq_iff _ _).1 e
              | false => exact absurd (.inl ⟨hf, e⟩) h3
            · intro hf
              rcases Classical.em (c.n = 0) with e | e
              · exact e
              · exact absurd (.inr ⟨hf, e⟩) h3
  · rintro ⟨h1, h2, h3, h4, h5, h6, h7⟩
    rw [if_neg (by simp [h1]), if_neg, if_neg, if_neg (by omega)]
    · rintro (⟨a, b⟩ | ⟨a, b⟩)
      · rw [h4 a, seq_refl] at b; cases b
      · exact b (h5 a)
    · rintro (a | ⟨a, b⟩)
      · rw [h2] at a; cases a
      · rw [h3 a] at b; cases b
def spB : ByteArray := ⟨#[32]⟩
def pr2 (c : CC) : ByteArray := (c.verb ++ spB) ++ c.call
def prT (c : CC) : ByteArray := if (findV c.verb).num = true then pr2 c ++ (spB ++ bs (Lib.itoa c.n)) else if (findV c.verb).fix = true then pr2 c ++ (spB ++ c.fix) else pr2 c
def prS (c : CC) : ByteArray := if ckC c ≠ 0 then ⟨#[]⟩ else prT c

/-! ### numbers -/
def dgsB (s : ByteArray) : Bool := (bl s).all isD
def nuB (s : ByteArray) : Bool := !(decide (s.size = 0) || decide (6 < s.size) || (decide (1 < s.size) && decide (byteAt s 0 = 48)) || !dgsB s)
def nuN (s : ByteArray) : Int := if nuB s = true then ((valD (bl s) 0).getD 0 : Nat) else 0
theorem nuB_iff (s : ByteArray) : nuB s = true ↔ ((¬ s.size = 0 ∧ s.size ≤ 6) ∧ (1 < s.size → ¬ byteAt s 0 = 48)) ∧ dgsB s = true := by
  unfold nuB
  simp only [Bool.not_eq_true', Bool.or_eq_false_iff, Bool.and_eq_false_iff, decide_eq_false_iff_not, Bool.not_eq_false']
  constructor
  · rintro ⟨⟨⟨h1, h2⟩, h3⟩, h4⟩
    refine ⟨⟨⟨h1, by omega⟩, fun h5 => ?_⟩, h4⟩
    rcases h3 with h3 | h3
    · exact absurd h5 h3
    · exact h3
  · rintro ⟨⟨⟨h1, h2⟩, h3⟩, h4⟩
    refine ⟨⟨⟨h1, by omega⟩, ?_⟩, h4⟩
    by_cases h5 : 1 < s.size
    · exact .inr (h3 h5)
    · exact .inl h5
theorem valD_some : ∀ {l : List UInt8} (n : Nat), l.all isD = true → ∃ m, valD l n = some m
  | [], n, _ => ⟨n, rfl⟩
  | c :: l, n, h => by
    rw [List.all_cons, Bool.and_eq_true] at h
    obtain ⟨m, hm⟩ := valD_some (10 * n + (c.toNat - 48)) h.2
    exact ⟨m, by rw [valD, if_pos h.1]; exact hm⟩
theorem nu_spec {s : ByteArray} (h : nuB s = true) : ∃ m : Nat, valD (bl s) 0 = some m ∧ nuN s = m ∧ m < 1000000 ∧ bl s = decL m ∧ s.size ≠ 0 ∧ s.size ≤ 6 ∧ dgsB s = true := by
  have h1 : ((¬ s.size = 0 ∧ s.size ≤ 6) ∧ (1 < s.size → ¬ byteAt s 0 = 48)) ∧ dgsB s = true := (nuB_iff s).1 h
  obtain ⟨m, hm⟩ := valD_some (l := bl s) 0 h1.2
  have hlt := valD_lt _ _ _ hm
  have h7 : 10 ^ (bl s).length ≤ 10 ^ 6 := Nat.pow_le_pow_right (by omega) (by rw [bl_len]; exact h1.1.1.2)
  refine ⟨m, hm, ?_, by omega, ?_, h1.1.1.1, h1.1.1.2, h1.2⟩
  · unfold nuN; rw [if_pos h, hm]; rfl
  · exact valD_can (bl s).length _ _ rfl (by intro e; have := bl_len s; rw [e] at this; exact h1.1.1.1 (by simpa using this.symm)) (fun h2 => h1.1.2 (by rwa [bl_len] at h2)) hm
theorem nu_dec {n : Nat} (h : n < 1000000) : nuB (bs (decL n)) = true ∧ nuN (bs (decL n)) = n := by
  have hl := decL_len n 5 h
  have hne : (decL n).length ≠ 0 := fun e => decL_ne n (List.eq_nil_of_length_eq_zero e)
  have hB : nuB (bs (decL n)) = true := by
    have : ((¬ (bs (decL n)).size = 0 ∧ (bs (decL n)).size ≤ 6) ∧ (1 < (bs (decL n)).size → ¬ byteAt (bs (decL n)) 0 = 48)) ∧ dgsB (bs (decL n)) = true := by
      rw [bs_size]
      refine ⟨⟨⟨hne, hl⟩, fun h1 => ?_⟩, List.all_eq_true.2 (decL_dig n)⟩
      refine decL_head n (fun h0 => ?_)
      subst h0
      rw [decL_small (by omega)] at h1; simp at h1
    exact (nuB_iff _).2 this
  refine ⟨hB, ?_⟩
  unfold nuN; rw [if_pos hB, bl_bs, valD_dec]; rfl

/-! ### parsing -/
def paF (s : ByteArray) : List ByteArray := splS 32 s
def pa (s : ByteArray) (k : Nat) : ByteArray := (paF s).getD k ⟨#[]⟩
def paW (s : ByteArray) : VB := findV (pa s 0)
def manyV (v : VB) : Int := if v.num = true ∨ v.fix = true then 3 else 2
def paC (s : ByteArray) : CC := ⟨(paW s).name, pa s 1, if (paW s).num = true then nuN (pa s 2) else 0, if (paW s).num = true then ⟨#[]⟩ else if (paW s).fix = true then pa s 2 else ⟨#[]⟩⟩
def paE (s : ByteArray) : Int :=
  if findB (pa s 0) = false ∨ ((paF s).length : Int) ≠ manyV (paW s) then 5
  else if (paW s).num = true ∧ nuB (pa s 2) = false then 5
  else ckC (paC s)
def paV (s : ByteArray) : CC := if paE s ≠ 0 then CC.zero else paC s
theorem paF_ne (s : ByteArray) : (paF s).length ≠ 0 := by unfold paF; rw [splS_len]; omega
theorem paF_at {s : ByteArray} {k : Nat} (h : k < (paF s).length) : (paF s)[k]? = some (pa s k) := by
  unfold pa; rw [List.getD_eq_getElem?_getD, List.getElem?_eq_getElem h]; rfl
theorem paF_mem {s p : ByteArray} (h : p ∈ paF s) : (32 : UInt8) ∉ bl p := by
  unfold paF splS at h
  obtain ⟨q, hq, rfl⟩ := List.mem_map.1 h
  exact spl_mem hq
theorem size_pa (s : ByteArray) (k : Nat) : (pa s k).size ≤ s.size := by
  unfold pa
  rw [List.getD_eq_getElem?_getD]
  cases h : (paF s)[k]? with
  | none => exact Nat.zero_le _
  | some p =>
    have hm := List.mem_of_getElem? h
    unfold paF splS at hm
    obtain ⟨q, hq, rfl⟩ := List.mem_map.1 hm
    show (bs q).size ≤ _
    rw [bs_size, ← bl_len]
    clear h hm
    generalize bl s = l at hq
    induction l generalizing q with
    | nil => simp [spl] at hq; subst hq; exact Nat.le_refl _
    | cons x l ih =>
      unfold spl at hq
      split at hq
      · rcases List.mem_cons.1 hq with rfl | hq
        · exact Nat.zero_le _
        · have := ih q hq; simp; omega
      · split at hq
        · rename_i p t h2
          rcases List.mem_cons.1 hq with rfl | hq
          · have := ih p (by rw [h2]; exact List.mem_cons_self ..); simp; omega
          · have := ih q (by rw [h2]; exact List.mem_cons_of_mem _ hq); simp; omega
        · rename_i h2; exact absurd h2 (spl_ne 32 l)
theorem joi2 (a b : ByteArray) : joi 32 [bl a, bl b] = bl ((a ++ spB) ++ b) := by
  rw [bl_app, bl_app]; show bl a ++ 32 :: bl b = (bl a ++ [32]) ++ bl b; simp
theorem joi3 (a b c : ByteArray) : joi 32 [bl a, bl b, bl c] = bl (((a ++ spB) ++ b) ++ (spB ++ c)) := by
  rw [bl_app, bl_app, bl_app, bl_app]; show bl a ++ 32 :: (bl b ++ 32 :: bl c) = ((bl a ++ [32]) ++ bl b) ++ ([32] ++ bl c); simp
theorem spl2 {a b : ByteArray} (ha : (32 : UInt8) ∉ bl a) (hb : (32 : UInt8) ∉ bl b) : paF ((a ++ spB) ++ b) = [a, b] := by
  unfold paF splS
  rw [← joi2, spl_joi (by simp) (by simp only [List.mem_cons, List.mem_nil_iff, or_false]; rintro p (rfl | rfl) <;> assumption)]
  rfl
theorem spl3 {a b c : ByteArray} (ha : (32 : UInt8) ∉ bl a) (hb : (32 : UInt8) ∉ bl b) (hc : (32 : UInt8) ∉ bl c) : paF (((a ++ spB) ++ b) ++ (spB ++ c)) = [a, b, c] := by
  unfold paF splS
  rw [← joi3, spl_joi (by simp) (by simp only [List.mem_cons, List.mem_nil_iff, or_false]; rintro p (rfl | rfl | rfl) <;> assumption)]
  rfl
theorem joiS (s : ByteArray) : joi 32 ((paF s).map bl) = bl s := by
  have e : (paF s).map bl = spl 32 (bl s) := by
    unfold paF splS; rw [List.map_map]; exact List.map_id _
  rw [e, joi_spl]
theorem join2 {s a b : ByteArray} (h : paF s = [a, b]) : s = (a ++ spB) ++ b := bl_inj (by rw [← joi2, ← joiS s, h]; rfl)
theorem join3 {s a b c : ByteArray} (h : paF s = [a, b, c]) : s = ((a ++ spB) ++ b) ++ (spB ++ c) := bl_inj (by rw [← joi3, ← joiS s, h]; rfl)
end Go.Proofs.YtdddebheolmldaaDoorA
