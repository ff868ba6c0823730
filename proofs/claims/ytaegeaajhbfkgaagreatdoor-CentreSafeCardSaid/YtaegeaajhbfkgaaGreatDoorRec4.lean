/- Decimal texts and trimming, by the kit's contracts. -/
import Derived.Test.YtaegeaajhbfkgaaGreatDoorRec3
import Derived.Test.YtaegeaajhbfkgaaGreatDoorLay
import Derived.Test.YtaegeaajhbfkgaaGreatDoorFrD
namespace Go.Proofs.YtaegeaajhbfkgaaGreatDoorA
open Go Go.RowKit Go.Sort Go.Shelf
set_option linter.unusedVariables false
set_option linter.unusedSimpArgs false
set_option linter.unnecessarySimpa false
theorem decD_eq (n : Nat) : Lib.decDigits n = decL n := by
  induction n using Nat.strongRecOn with
  | _ n ih =>
    rcases Nat.lt_or_ge n 10 with h | h
    · rw [decL_small h, Lib.decDigits, dif_pos h]; rfl
    · rw [decL_step h, Lib.decDigits, dif_neg (by omega), ih _ (by omega)]; rfl
theorem itoa_nat (n : Nat) : Lib.itoa n = decL n := by
  unfold Lib.itoa
  rw [if_neg (by omega), Int.toNat_natCast, decD_eq]
def p10T : List Value := Lib.pow10Tab.map (Value.int .u64)
theorem two_args {κ : Kap} {w : World} {O : Nat → Prop} {vals : Array Value} {x y : AV} (h2 : vals.size = 2) (h3 : ∀ (i : Nat) (u : Value) (z : AV), vals[i]? = some u → [x, y][i]? = some z → RepA κ w O u z) :
    ∃ u v, vals = #[u, v] ∧ RepA κ w O u x ∧ RepA κ w O v y := by
  have e0 : vals[0]? = some vals[0] := Array.getElem?_eq_getElem (by omega)
  have e1 : vals[1]? = some vals[1] := Array.getElem?_eq_getElem (by omega)
  refine ⟨vals[0], vals[1], ?_, h3 0 _ _ e0 rfl, h3 1 _ _ e1 rfl⟩
  apply Array.ext
  · exact h2
  · intro i h4 h5
    have : i = 0 ∨ i = 1 := by omega
    rcases this with rfl | rfl <;> rfl
theorem fmt_c {f g : Nat} (hf : Tryz.fmtI_ren.f 246 = f) (hg : Tryz.prog.globalNamed "internal/strconv.uint64pow10" = some g) (n : Int) (h0 : -9223372036854775808 ≤ n) (h1 : n ≤ 9223372036854775807) (gd : Nat) (hs : Hp) :
    AC Tryz.prog f [.d (.int .i64 n), .d (.int .i64 10)] ((gd, .glob g p10T) :: hs) (fun r h => r = .d (.str (bs (Lib.itoa n))) ∧ h = (gd, .glob g p10T) :: hs) := by
  subst hf
  refine AC.ofk (v := .string (bs (Lib.itoa n))) (fun κ w O => .d (.str _)) fun κ vals w h2 h3 h4 => ?_
  obtain ⟨u, v, rfl, r0, r1⟩ := two_args h3 h4
  rw [r0.int_inv, r1.int_inv]
  exact Any.internal_strconv_FormatInt_10 Tryz.fmtI n h0 h1 w (glob_tab (kk := 0) h2 rfl hg)
def abcS : ByteArray := ⟨#[97, 98, 99, 100, 101, 102, 103, 104, 105, 106, 107, 108, 109, 110, 111, 112, 113, 114, 115, 116, 117, 118, 119, 120, 121, 122]⟩
theorem trim_c {f : Nat} (hf : Tryz.trim_ren.f 160 = f) (h116 : (Tryz.prog.info? (Tryz.trim_ren.t 116)).map (fun i => (i.zero, i.size)) = some (some (.agg (Array.replicate 256 (.bool false))), 256)) (s : ByteArray) (hL : s.size ≤ 140737488355000) (hs : Hp) :
    AC Tryz.prog f [.d (.str s), .d (.str abcS)] hs (fun r h => r = .d (.str (bs (Lib.trimS (bl s) (bl abcS)))) ∧ h = hs) := by
  subst hf
  refine AC.ofk (v := .string (bs (Lib.trimS (bl s) (bl abcS)))) (fun κ w O => .d (.str _)) fun κ vals w h2 h3 h4 => ?_
  obtain ⟨u, v, rfl, r0, r1⟩ := two_args h3 h4
  rw [r0.str_inv, r1.str_inv]
  by_cases h0 : s.size = 0
  · refine (Any.strings_Trim_empty Tryz.trim s abcS w (.inl h0)).mono ?_
    rintro e w' ⟨rfl, rfl⟩
    have hl : bl s = [] := List.eq_nil_of_length_eq_zero (by rw [bl_len]; exact h0)
    have : s = bs (Lib.trimS (bl s) (bl abcS)) := by rw [hl]; exact bl_inj hl
    refine ⟨by rw [← this], 0, #[], ?_⟩
    simp [grow, World.drewN]
  · refine (Any.strings_Trim_set Tryz.trim (zero_of_info h116).1 (zero_of_info h116).2 s abcS w (by decide) (by omega) (by omega) (by decide) (ascii_of_all (by decide))).mono ?_
    rintro e w' ⟨rfl, q, rfl⟩
    refine ⟨rfl, q, #[.cells (Lib.setCells abcS.data.toList) (Tryz.trim_ren.t 116), .cells (Lib.setCells abcS.data.toList) (Tryz.trim_ren.t 116)], ?_⟩
    simp only [grow, World.drewN]
    have e : ∀ (A B : Obj), ((w.alloc A).alloc B).heap = w.heap ++ #[A, B] := fun A B => by show (w.heap.push A).push B = w.heap ++ #[A, B]; rfl
    simp [e]
    exact ⟨rfl, rfl⟩
theorem dw_nil (p : UInt8 → Bool) : ∀ l : List UInt8, l.dropWhile p = [] ↔ ∀ x ∈ l, p x = true
  | [] => by simp
  | x :: l => by
    rw [List.dropWhile_cons]
    split
    · rename_i h; rw [dw_nil p l]; simp [h]
    · rename_i h; simp [h]
theorem dw_head {p : UInt8 → Bool} : ∀ {l t : List UInt8} {x : UInt8}, l.dropWhile p = x :: t → p x = false
  | [], _, _, h => by simp at h
  | y :: l, t, x, h => by
    rw [List.dropWhile_cons] at h
    split at h
    · exact dw_head h
    · rename_i hy
      obtain ⟨rfl, _⟩ := List.cons.inj h
      simpa using hy
set_option maxRecDepth 100000 in
theorem abc_low (b : UInt8) : (bl abcS).contains b = lowB b := by
  have key : ∀ n : Fin 256, (bl abcS).contains (UInt8.ofNat n.1) = lowB (UInt8.ofNat n.1) := by decide
  have := key ⟨b.toNat, b.toNat_lt⟩
  rwa [UInt8.ofNat_toNat] at this
theorem trim_low (s : ByteArray) : seq (bs (Lib.trimS (bl s) (bl abcS))) ⟨#[]⟩ = lowS s := by
  have e : ∀ l : List UInt8, Lib.trimS l (bl abcS) = [] ↔ ∀ x ∈ l, (bl abcS).contains x = true := by
    intro l
    unfold Lib.trimS Lib.trimLeftS Lib.trimRightS
    constructor
    · intro h
      have h1 := (dw_nil _ _).1 h
      cases h2 : l.reverse.dropWhile ((bl abcS).contains ·) with
      | nil => have h3 := (dw_nil _ _).1 h2; exact fun x hx => h3 x (by simpa using hx)
      | cons x t =>
        have h3 := dw_head h2
        have h4 := h1 x (by rw [h2]; simp)
        rw [h3] at h4; cases h4
    · intro h
      rw [(dw_nil _ l.reverse).2 (fun x hx => h x (by simpa using hx))]; rfl
  rw [Bool.eq_iff_iff, seq_iff]
  unfold lowS
  rw [List.all_eq_true]
  constructor
  · intro h
    have h1 : Lib.trimS (bl s) (bl abcS) = [] := bs_inj h
    exact fun x hx => by rw [← abc_low]; exact (e _).1 h1 x hx
  · intro h
    rw [(e _).2 fun x hx => by rw [abc_low]; exact h x hx]; rfl
end Go.Proofs.YtaegeaajhbfkgaaGreatDoorA

