/- Package console: what is printed is parsed, what is parsed is printed; scripts. -/
import Derived.Test.YtdddebheolmldaaDoorCon2
namespace Go.Proofs.YtdddebheolmldaaDoorA
open Go
set_option linter.unusedVariables false
set_option linter.unusedSimpArgs false
set_option linter.unnecessarySimpa false

theorem dec_sp (n : Nat) : (32 : UInt8) ∉ bl (bs (decL n)) := fun h => by
  have := decL_dig n 32 h
  exact absurd this (by decide)
theorem itoa_pos {n : Int} (h : 0 ≤ n) : bs (Lib.itoa n) = bs (decL n.toNat) := by
  obtain ⟨m, rfl⟩ : ∃ m : Nat, n = m := ⟨n.toNat, by omega⟩
  rw [itoa_nat, Int.toNat_natCast]
theorem ck_enc {c d : CC} (h : ckC c = 0) (hd : d = c) : ckC d = 0 := by rw [hd]; exact h
/-- What is printed is parsed as it was. -/
theorem print_parse {c : CC} (h : ckC c = 0) : paE (prT c) = 0 ∧ paV (prT c) = c := by
  obtain ⟨h1, h2, h3, h4, h5, h6, h7⟩ := ck_zero.1 h
  obtain ⟨hv, hn⟩ := find_spec h1
  obtain ⟨f1, f2, f3, f4, f5⟩ := verb_facts _ hv
  rw [hn] at f1
  have key : findB (pa (prT c) 0) = true ∧ ((paF (prT c)).length : Int) = manyV (paW (prT c)) ∧ ((paW (prT c)).num = true → nuB (pa (prT c) 2) = true) ∧ paC (prT c) = c := by
    unfold prT
    cases hnum : (findV c.verb).num with
    | true =>
      have hfix : (findV c.verb).fix = false := by cases e : (findV c.verb).fix with | false => rfl | true => exact absurd ⟨hnum, e⟩ f3
      rw [if_pos rfl, itoa_pos h6]
      have hs := spl3 f1 (named_sp h2) (dec_sp c.n.toNat)
      have hs' : paF (pr2 c ++ (spB ++ bs (decL c.n.toNat))) = [c.verb, c.call, bs (decL c.n.toNat)] := hs
      have p0 : pa (pr2 c ++ (spB ++ bs (decL c.n.toNat))) 0 = c.verb := by unfold pa; rw [hs']; rfl
      have p1 : pa (pr2 c ++ (spB ++ bs (decL c.n.toNat))) 1 = c.call := by unfold pa; rw [hs']; rfl
      have p2 : pa (pr2 c ++ (spB ++ bs (decL c.n.toNat))) 2 = bs (decL c.n.toNat) := by unfold pa; rw [hs']; rfl
      obtain ⟨n1, n2⟩ := nu_dec (n := c.n.toNat) (by omega)
      have w : paW (pr2 c ++ (spB ++ bs (decL c.n.toNat))) = findV c.verb := by unfold paW; rw [p0]
      refine ⟨by rw [p0]; exact h1, by rw [hs', w]; unfold manyV; rw [if_pos (.inl hnum)]; rfl, fun _ => by rw [p2]; exact n1, ?_⟩
      refine CC.ext2 ?_ ?_ ?_ ?_
      · show (paW _).name = _; rw [w, hn]
      · exact p1
      · show (if (paW _).num = true then _ else _) = _; rw [w, if_pos hnum, p2, n2]; omega
      · show (if (paW _).num = true then _ else _) = _; rw [w, if_pos hnum]; exact (h4 hfix).symm
    | false =>
      rw [if_neg (by simp)]
      have hz := h5 hnum
      cases hfix : (findV c.verb).fix with
      | true =>
        rw [if_pos rfl]
        have hs' : paF (pr2 c ++ (spB ++ c.fix)) = [c.verb, c.call, c.fix] := spl3 f1 (named_sp h2) (named_sp (h3 hfix))
        have p0 : pa (pr2 c ++ (spB ++ c.fix)) 0 = c.verb := by unfold pa; rw [hs']; rfl
        have p1 : pa (pr2 c ++ (spB ++ c.fix)) 1 = c.call := by unfold pa; rw [hs']; rfl
        have p2 : pa (pr2 c ++ (spB ++ c.fix)) 2 = c.fix := by unfold pa; rw [hs']; rfl
        have w : paW (pr2 c ++ (spB ++ c.fix)) = findV c.verb := by unfold paW; rw [p0]
        refine ⟨by rw [p0]; exact h1, by rw [hs', w]; unfold manyV; rw [if_pos (.inr hfix)]; rfl, (fun e => by rw [w, hnum] at e; cases e), ?_⟩
        refine CC.ext2 ?_ ?_ ?_ ?_
        · show (paW _).name = _; rw [w, hn]
        · exact p1
        · show (if (paW _).num = true then _ else _) = _; rw [w, if_neg (by simp [hnum])]; exact hz.symm
        · show (if (paW _).num = true then _ else _) = _; rw [w, if_neg (by simp [hnum]), if_pos hfix, p2]
      | false =>
        rw [if_neg (by simp)]
        have hs' : paF (pr2 c) = [c.verb, c.call] := spl2 f1 (named_sp h2)
        have p0 : pa (pr2 c) 0 = c.verb := by unfold pa; rw [hs']; rfl
        have p1 : pa (pr2 c) 1 = c.call := by unfold pa; rw [hs']; rfl
        have w : paW (pr2 c) = findV c.verb := by unfold paW; rw [p0]
        refine ⟨by rw [p0]; exact h1, by rw [hs', w]; unfold manyV; rw [if_neg (by simp [hnum, hfix])]; rfl, (fun e => by rw [w, hnum] at e; cases e), ?_⟩
        refine CC.ext2 ?_ ?_ ?_ ?_
        · show (paW _).name = _; rw [w, hn]
        · exact p1
        · show (if (paW _).num = true then _ else _) = _; rw [w, if_neg (by simp [hnum])]; exact hz.symm
        · show (if (paW _).num = true then _ else _) = _; rw [w, if_neg (by simp [hnum]), if_neg (by simp [hfix])]; exact (h4 hfix).symm
  obtain ⟨k1, k2, k3, k4⟩ := key
  have hE : paE (prT c) = 0 := by
    unfold paE
    rw [if_neg (by simp [k1, k2]), if_neg (fun ⟨a, b⟩ => by rw [k3 a] at b; cases b), k4]; exact h
  refine ⟨hE, ?_⟩
  unfold paV; rw [if_neg (by omega), k4]
/-- What is parsed is printed as it was. -/
theorem parse_print {s : ByteArray} (h : paE s = 0) : ckC (paV s) = 0 ∧ prT (paV s) = s := by
  have hv : paV s = paC s := if_neg (by omega)
  rw [hv]
  unfold paE at h
  split at h
  · omega
  · rename_i h1
    split at h
    · omega
    · rename_i h2
      refine ⟨h, ?_⟩
      have hB : findB (pa s 0) = true := by cases e : findB (pa s 0) with | true => rfl | false => exact absurd (.inl e) h1
      have hL : ((paF s).length : Int) = manyV (paW s) := Classical.byContradiction fun e => h1 (.inr e)
      obtain ⟨hm, hn⟩ := find_spec hB
      obtain ⟨f1, f2, f3, f4, f5⟩ := verb_facts _ hm
      have hw : findV (paC s).verb = paW s := by show findV (paW s).name = _; unfold paW; rw [hn]
      have hn2 : (paW s).name = pa s 0 := hn
      obtain ⟨c1, c2, c3, c4, c5, c6, c7⟩ := ck_zero.1 h
      have g : ∀ k, (hk : k < (paF s).length) → (paF s)[k] = pa s k := fun k hk => by
        have := paF_at hk; rw [List.getElem?_eq_getElem hk] at this; exact Option.some.inj this
      have g3 : (paF s).length = 3 → paF s = [pa s 0, pa s 1, pa s 2] := fun e => by
        match hp : paF s, e with
        | [x, y, z], _ => unfold pa; rw [hp]; rfl
      have g2 : (paF s).length = 2 → paF s = [pa s 0, pa s 1] := fun e => by
        match hp : paF s, e with
        | [x, y], _ => unfold pa; rw [hp]; rfl
      have e2 : pr2 (paC s) = (pa s 0 ++ spB) ++ pa s 1 := by unfold pr2 paC; rw [← hn2]
      unfold prT
      rw [hw]
      cases hnum : (paW s).num with
      | true =>
        have hN : nuB (pa s 2) = true := by cases e : nuB (pa s 2) with | true => rfl | false => exact absurd ⟨hnum, e⟩ h2
        obtain ⟨m, _, q2, q3, q4, _⟩ := nu_spec hN
        have hnn : (paC s).n = m := by show (if (paW s).num = true then _ else _) = _; rw [if_pos hnum, q2]
        have hL3 : (paF s).length = 3 := by unfold manyV at hL; rw [if_pos (.inl hnum)] at hL; omega
        rw [if_pos rfl, hnn, itoa_nat, ← q4, bs_bl, e2]
        exact (join3 (g3 hL3)).symm
      | false =>
        rw [if_neg (by simp)]
        cases hfix : (paW s).fix with
        | true =>
          have hL3 : (paF s).length = 3 := by unfold manyV at hL; rw [if_pos (.inr hfix)] at hL; omega
          have hfx : (paC s).fix = pa s 2 := by show (if (paW s).num = true then _ else _) = _; rw [if_neg (by simp [hnum]), if_pos hfix]
          rw [if_pos rfl, hfx, e2]
          exact (join3 (g3 hL3)).symm
        | false =>
          have hL2 : (paF s).length = 2 := by unfold manyV at hL; rw [if_neg (by simp [hnum, hfix])] at hL; omega
          rw [if_neg (by simp), e2]
          exact (join2 (g2 hL2)).symm
theorem prT_size {c : CC} (h : ckC c = 0) : (prT c).size ≤ 25 := by
  obtain ⟨h1, h2, h3, h4, h5, h6, h7⟩ := ck_zero.1 h
  obtain ⟨hv, hn⟩ := find_spec h1
  obtain ⟨f1, f2, f3, f4, f5⟩ := verb_facts _ hv
  rw [hn] at f2
  have hc := named_size h2
  have hs : spB.size = 1 := rfl
  have h8 : (pr2 c).size ≤ 16 := by unfold pr2; rw [ByteArray.size_append, ByteArray.size_append]; omega
  unfold prT
  split
  · rw [ByteArray.size_append, ByteArray.size_append, itoa_pos h6, bs_size]
    have := decL_len c.n.toNat 5 (by omega)
    omega
  · split
    · rename_i h9
      have := named_size (h3 h9)
      rw [ByteArray.size_append, ByteArray.size_append]; omega
    · omega
theorem paV_size (s : ByteArray) : (paV s).call.size ≤ s.size ∧ (paV s).fix.size ≤ s.size := by
  unfold paV
  split
  · exact ⟨Nat.zero_le _, Nat.zero_le _⟩
  · refine ⟨size_pa s 1, ?_⟩
    show (if _ then _ else _ : ByteArray).size ≤ _
    split
    · exact Nat.zero_le _
    · split
      · exact size_pa s 2
      · exact Nat.zero_le _
theorem paV_bad {s : ByteArray} (h : paE s ≠ 0) : paV s = CC.zero := if_pos h

theorem nu_bool (s : ByteArray) : nuB s = !(s.toList == (⟨#[]⟩ : ByteArray).toList || decide ((6 : Int) < (s.size : Nat)) || decide ((1 : Int) < (s.size : Nat)) && decide ((((s.data.toList.getD (Int.toNat 0) 0).toNat : Nat) : Int) = 48) || !(bs (Lib.trimS (bl s) (bl decS))).toList == (⟨#[]⟩ : ByteArray).toList) := by
  have ht : ((bs (Lib.trimS (bl s) (bl decS))).toList == (⟨#[]⟩ : ByteArray).toList) = dgsB s := trim_dgs s
  have he : (s.toList == (⟨#[]⟩ : ByteArray).toList) = decide (s.size = 0) := by
    rw [Bool.eq_iff_iff, decide_eq_true_eq]
    show seq s ⟨#[]⟩ = true ↔ _
    rw [seq_iff]
    constructor
    · rintro rfl; rfl
    · intro h; exact bl_inj (List.eq_nil_of_length_eq_zero (by rw [bl_len]; exact h))
  have hb : decide ((((s.data.toList.getD (Int.toNat 0) 0).toNat : Nat) : Int) = 48) = decide (byteAt s 0 = 48) := by
    rw [Bool.eq_iff_iff, decide_eq_true_eq, decide_eq_true_eq]
    show ((byteAt s 0).toNat : Int) = 48 ↔ _
    rw [← UInt8.toNat_inj]
    have : (48 : UInt8).toNat = 48 := rfl
    omega
  have h6 : decide ((6 : Int) < (s.size : Nat)) = decide (6 < s.size) := by rw [Bool.eq_iff_iff, decide_eq_true_eq, decide_eq_true_eq]; omega
  have h1 : decide ((1 : Int) < (s.size : Nat)) = decide (1 < s.size) := by rw [Bool.eq_iff_iff, decide_eq_true_eq, decide_eq_true_eq]; omega
  rw [ht, he, hb, h6, h1]
  rfl

/-! ### scripts -/
def emB : ByteArray := ⟨#[]⟩
def lnA (t : ByteArray) : List ByteArray := splS 10 t
def lnS (t : ByteArray) : List ByteArray := if seq ((lnA t).getD ((lnA t).length - 1) emB) emB = true then (lnA t).take ((lnA t).length - 1) else lnA t
theorem lnA_ne (t : ByteArray) : (lnA t).length ≠ 0 := by unfold lnA; rw [splS_len]; omega
theorem lnA_len (t : ByteArray) : (lnA t).length ≤ t.size + 1 := by
  unfold lnA; rw [splS_len]
  have := List.count_le_length (a := (10 : UInt8)) (l := bl t)
  rw [bl_len] at this; omega
theorem lnA_size {t x : ByteArray} (h : x ∈ lnA t) : x.size ≤ t.size := by
  unfold lnA splS at h
  obtain ⟨q, hq, rfl⟩ := List.mem_map.1 h
  rw [bs_size, ← bl_len]
  clear h
  generalize bl t = l at hq
  induction l generalizing q with
  | nil => simp [spl] at hq; subst hq; exact Nat.le_refl _
  | cons x l ih =>
    unfold spl at hq
    split at hq
    · rcases List.mem_cons.1 hq with rfl | hq
      · exact Nat.zero_le _
      · have := ih q hq; simp; omega
    · split at hq
      · rename_i p t h2
        rcases List.mem_cons.1 hq with rfl | hq
        · have := ih p (by rw [h2]; exact List.mem_cons_self ..); simp; omega
        · have := ih q (by rw [h2]; exact List.mem_cons_of_mem _ hq); simp; omega
      · rename_i h2; exact absurd h2 (spl_ne 10 l)
theorem lnS_end {t x : ByteArray} {k : Nat} (h : (lnA t)[k]? = some x) (hk : k = (lnA t).length - 1) (he : seq x emB = true) : (lnS t).length = k ∧ lnS t = (lnA t).take k := by
  subst hk
  have hl := (List.getElem?_eq_some_iff.1 h).1
  unfold lnS
  rw [List.getD_eq_getElem?_getD, h, Option.getD_some, if_pos he, List.length_take]
  exact ⟨by omega, rfl⟩
theorem lnS_at {t x : ByteArray} {k : Nat} (h : (lnA t)[k]? = some x) (hk : ¬ (k = (lnA t).length - 1 ∧ seq x emB = true)) : (lnS t)[k]? = some x := by
  have hl := (List.getElem?_eq_some_iff.1 h).1
  unfold lnS
  split
  · rename_i h2
    by_cases h3 : k = (lnA t).length - 1
    · exfalso
      refine hk ⟨h3, ?_⟩
      rw [← h3, List.getD_eq_getElem?_getD, h, Option.getD_some] at h2; exact h2
    · rw [List.getElem?_take_of_lt (by omega)]; exact h
  · exact h
theorem lnS_le (t : ByteArray) : (lnS t).length ≤ (lnA t).length := by
  unfold lnS; split
  · rw [List.length_take]; omega
  · exact Nat.le_refl _
theorem lnS_sub {t x : ByteArray} (h : x ∈ lnS t) : x ∈ lnA t := by
  unfold lnS at h
  split at h
  · exact List.mem_of_mem_take h
  · exact h
def badP (s : ByteArray) : Bool := !decide (paE s = 0)
def badI (ls : List ByteArray) : Int := idxP badP ls
def scE (ls : List ByteArray) : Int := if badI ls < 0 then 0 else paE (ls.getD (badI ls).toNat emB)
def scN (ls : List ByteArray) : Int := if badI ls < 0 then 0 else badI ls
def scL (ls : List ByteArray) : List CC := if badI ls < 0 then ls.map paV else []
theorem sc_bad {ls : List ByteArray} {k : Nat} {x : ByteArray} (h : ls[k]? = some x) (hx : paE x ≠ 0) (hI : ∀ (i : Nat) y, i < k → ls[i]? = some y → paE y = 0) : scE ls = paE x ∧ scN ls = k ∧ scL ls = [] := by
  have hb : badI ls = k := idxP_some (p := badP) h (by unfold badP; rw [decide_eq_false hx]; rfl) fun i y hi hy => by unfold badP; rw [decide_eq_true (hI i y hi hy)]; rfl
  unfold scE scN scL
  rw [hb, if_neg (by omega), if_neg (by omega), if_neg (by omega), Int.toNat_natCast, List.getD_eq_getElem?_getD, h]
  exact ⟨rfl, rfl, rfl⟩
theorem sc_good {ls : List ByteArray} (hI : ∀ (i : Nat) y, ls[i]? = some y → paE y = 0) : scE ls = 0 ∧ scN ls = 0 ∧ scL ls = ls.map paV := by
  have hb : badI ls = -1 := idxP_none (p := badP) fun i y hy => by unfold badP; rw [decide_eq_true (hI i y hy)]; rfl
  unfold scE scN scL
  rw [hb, if_pos (by omega), if_pos (by omega), if_pos (by omega)]
  exact ⟨rfl, rfl, rfl⟩
theorem sc_zero {ls : List ByteArray} (h : scE ls = 0) : scL ls = ls.map paV := by
  unfold scE at h
  split at h
  · rename_i h2; exact if_pos h2
  · rename_i h2
    obtain ⟨j, hj⟩ : ∃ j : Nat, badI ls = j := ⟨(badI ls).toNat, by omega⟩
    obtain ⟨x, hx, hp, _⟩ := idxP_at hj
    rw [hj, Int.toNat_natCast, List.getD_eq_getElem?_getD, hx, Option.getD_some] at h
    unfold badP at hp
    rw [decide_eq_true h] at hp; cases hp
end Go.Proofs.YtdddebheolmldaaDoorA
