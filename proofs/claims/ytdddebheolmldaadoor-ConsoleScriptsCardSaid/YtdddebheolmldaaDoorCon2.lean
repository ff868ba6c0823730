/- Decimal texts, trimming and strconv.Atoi at digits, by the kit's contracts. -/
import Derived.Test.YtdddebheolmldaaDoorCon1
import Derived.Test.YtdddebheolmldaaDoorLay
import Derived.Test.YtdddebheolmldaaDoorFrD
import Derived.Shelf.Strconv.AtoiAll
namespace Go.Proofs.YtdddebheolmldaaDoorA
open Go Go.RowKit Go.Sort Go.Shelf
set_option linter.unusedVariables false
set_option linter.unusedSimpArgs false
set_option linter.unnecessarySimpa false

theorem decD_eq (n : Nat) : Lib.decDigits n = decL n := by
  induction n using Nat.strongRecOn with
  | _ n ih =>
    rcases Nat.lt_or_ge n 10 with h | h
    · rw [decL_small h, Lib.decDigits, dif_pos h]; rfl
    · rw [decL_step h, Lib.decDigits, dif_neg (by omega), ih _ (by omega)]; rfl
theorem itoa_nat (n : Nat) : Lib.itoa n = decL n := by
  unfold Lib.itoa
  rw [if_neg (by omega), Int.toNat_natCast, decD_eq]
def p10T : List Value := Lib.pow10Tab.map (Value.int .u64)
theorem two_args {κ : Kap} {w : World} {O : Nat → Prop} {vals : Array Value} {x y : AV} (h2 : vals.size = 2) (h3 : ∀ (i : Nat) (u : Value) (z : AV), vals[i]? = some u → [x, y][i]? = some z → RepA κ w O u z) :
    ∃ u v, vals = #[u, v] ∧ RepA κ w O u x ∧ RepA κ w O v y := by
  have e0 : vals[0]? = some vals[0] := Array.getElem?_eq_getElem (by omega)
  have e1 : vals[1]? = some vals[1] := Array.getElem?_eq_getElem (by omega)
  refine ⟨vals[0], vals[1], ?_, h3 0 _ _ e0 rfl, h3 1 _ _ e1 rfl⟩
  apply Array.ext
  · exact h2
  · intro i h4 h5
    have : i = 0 ∨ i = 1 := by omega
    rcases this with rfl | rfl <;> rfl
theorem fmt_c {f g : Nat} (hf : Tryd.fmtI_ren.f 246 = f) (hg : Tryd.prog.globalNamed "internal/strconv.uint64pow10" = some g) (n : Int) (h0 : -9223372036854775808 ≤ n) (h1 : n ≤ 9223372036854775807) (gd : Nat) (hs : Hp) :
    AC Tryd.prog f [.d (.int .i64 n), .d (.int .i64 10)] ((gd, .glob g p10T) :: hs) (fun r h => r = .d (.str (bs (Lib.itoa n))) ∧ h = (gd, .glob g p10T) :: hs) := by
  subst hf
  refine AC.ofk (v := .string (bs (Lib.itoa n))) (fun κ w O => .d (.str _)) fun κ vals w h2 h3 h4 => ?_
  obtain ⟨u, v, rfl, r0, r1⟩ := two_args h3 h4
  rw [r0.int_inv, r1.int_inv]
  exact Any.internal_strconv_FormatInt_10 Tryd.fmtI n h0 h1 w (glob_tab (kk := 0) h2 rfl hg)
def decS : ByteArray := ⟨#[48, 49, 50, 51, 52, 53, 54, 55, 56, 57]⟩
theorem trim_c {f : Nat} (hf : Tryd.trim_ren.f 160 = f) (h116 : (Tryd.prog.info? (Tryd.trim_ren.t 116)).map (fun i => (i.zero, i.size)) = some (some (.agg (Array.replicate 256 (.bool false))), 256)) (s : ByteArray) (hL : s.size ≤ 140737488355000) (hs : Hp) :
    AC Tryd.prog f [.d (.str s), .d (.str decS)] hs (fun r h => r = .d (.str (bs (Lib.trimS (bl s) (bl decS)))) ∧ h = hs) := by
  subst hf
  refine AC.ofk (v := .string (bs (Lib.trimS (bl s) (bl decS)))) (fun κ w O => .d (.str _)) fun κ vals w h2 h3 h4 => ?_
  obtain ⟨u, v, rfl, r0, r1⟩ := two_args h3 h4
  rw [r0.str_inv, r1.str_inv]
  by_cases h0 : s.size = 0
  · refine (Any.strings_Trim_empty Tryd.trim s decS w (.inl h0)).mono ?_
    rintro e w' ⟨rfl, rfl⟩
    have hl : bl s = [] := List.eq_nil_of_length_eq_zero (by rw [bl_len]; exact h0)
    have : s = bs (Lib.trimS (bl s) (bl decS)) := by rw [hl]; exact bl_inj hl
    refine ⟨by rw [← this], 0, #[], ?_⟩
    simp [grow, World.drewN]
  · refine (Any.strings_Trim_set Tryd.trim (zero_of_info h116).1 (zero_of_info h116).2 s decS w (by decide) (by omega) (by omega) (by decide) (ascii_of_all (by decide))).mono ?_
    rintro e w' ⟨rfl, q, rfl⟩
    refine ⟨rfl, q, #[.cells (Lib.setCells decS.data.toList) (Tryd.trim_ren.t 116), .cells (Lib.setCells decS.data.toList) (Tryd.trim_ren.t 116)], ?_⟩
    simp only [grow, World.drewN]
    have e : ∀ (A B : Obj), ((w.alloc A).alloc B).heap = w.heap ++ #[A, B] := fun A B => by show (w.heap.push A).push B = w.heap ++ #[A, B]; rfl
    simp [e]
    exact ⟨rfl, rfl⟩
theorem dw_nil (p : UInt8 → Bool) : ∀ l : List UInt8, l.dropWhile p = [] ↔ ∀ x ∈ l, p x = true
  | [] => by simp
  | x :: l => by
    rw [List.dropWhile_cons]
    split
    · rename_i h; rw [dw_nil p l]; simp [h]
    · rename_i h; simp [h]
theorem dw_head {p : UInt8 → Bool} : ∀ {l t : List UInt8} {x : UInt8}, l.dropWhile p = x :: t → p x = false
  | [], _, _, h => by simp at h
  | y :: l, t, x, h => by
    rw [List.dropWhile_cons] at h
    split at h
    · exact dw_head h
    · rename_i hy
      obtain ⟨rfl, _⟩ := List.cons.inj h
      simpa using hy
set_option maxRecDepth 100000 in
theorem dec_has (b : UInt8) : (bl decS).contains b = isD b := by
  have key : ∀ n : Fin 256, (bl decS).contains (UInt8.ofNat n.1) = isD (UInt8.ofNat n.1) := by decide
  have := key ⟨b.toNat, b.toNat_lt⟩
  rwa [UInt8.ofNat_toNat] at this
/-- Nothing is left of a text of digits alone. -/
theorem trim_dgs (s : ByteArray) : seq (bs (Lib.trimS (bl s) (bl decS))) ⟨#[]⟩ = dgsB s := by
  have e : ∀ l : List UInt8, Lib.trimS l (bl decS) = [] ↔ ∀ x ∈ l, (bl decS).contains x = true := by
    intro l
    unfold Lib.trimS Lib.trimLeftS Lib.trimRightS
    constructor
    · intro h
      have h1 := (dw_nil _ _).1 h
      cases h2 : l.reverse.dropWhile ((bl decS).contains ·) with
      | nil => have h3 := (dw_nil _ _).1 h2; exact fun x hx => h3 x (by simpa using hx)
      | cons x t =>
        have h3 := dw_head h2
        have h4 := h1 x (by rw [h2]; simp)
        rw [h3] at h4; cases h4
    · intro h
      rw [(dw_nil _ l.reverse).2 (fun x hx => h x (by simpa using hx))]; rfl
  rw [Bool.eq_iff_iff, seq_iff]
  unfold dgsB
  rw [List.all_eq_true]
  constructor
  · intro h
    have h1 : Lib.trimS (bl s) (bl decS) = [] := bs_inj h
    exact fun x hx => by rw [← dec_has]; exact (e _).1 h1 x hx
  · intro h
    rw [(e _).2 fun x hx => by rw [dec_has]; exact h x hx]; rfl

/-! ### strconv.Atoi at digits -/
theorem HS.below {κ : Kap} {w w' : World} {hs : Hp} (h : HS κ w hs) (b : Below w.heap.size w w') : HS κ w' hs ∧ Ext κ hs w κ hs w' :=
  h.oneMore b.size (fun h => h.elim) b.os b.tape b.output b.block
/-- A call whose result is of no memory of ours. -/
theorem AC.ofB {P : Program} {f : FuncId} {args : List AV} {hs : Hp} {y : AV}
    (h : ∀ κ vals w, HS κ w hs → vals.size = args.length → (∀ (i : Nat) (u : Value) (x : AV), vals[i]? = some u → args[i]? = some x → RepA κ w (Own κ hs) u x) →
      Calls P f vals w fun e w' => ∃ v, e = .returned v ∧ (∀ κ w O, RepA κ w O v y) ∧ Below w.heap.size w w') : AC P f args hs (fun r h => r = y ∧ h = hs) := fun κ vals w h1 h2 h3 => by
  refine (h κ vals w h1 h2 h3).mono ?_
  rintro e w' ⟨v, rfl, hv, hb⟩
  obtain ⟨h4, h5⟩ := h1.below hb
  exact ⟨κ, hs, v, y, rfl, h4, h5, hv _ _ _, rfl, rfl⟩
theorem one_arg {κ : Kap} {w : World} {O : Nat → Prop} {vals : Array Value} {x : AV} (h2 : vals.size = 1) (h3 : ∀ (i : Nat) (u : Value) (z : AV), vals[i]? = some u → [x][i]? = some z → RepA κ w O u z) :
    ∃ u, vals = #[u] ∧ RepA κ w O u x := by
  have e0 : vals[0]? = some vals[0] := Array.getElem?_eq_getElem (by omega)
  refine ⟨vals[0], ?_, h3 0 _ _ e0 rfl⟩
  apply Array.ext
  · exact h2
  · intro i h4 h5
    obtain rfl : i = 0 := by omega
    rfl
theorem tup2 {κ : Kap} {w : World} {O : Nat → Prop} {u v : Value} {x y : AV} (h1 : RepA κ w O u x) (h2 : RepA κ w O v y) : RepA κ w O (.tuple #[u, v]) (.tup [x, y]) :=
  .tup _ _ rfl fun i a b ha hb => by
    match i with
    | 0 => simp at ha hb; subst ha; subst hb; exact h1
    | 1 => simp at ha hb; subst ha; subst hb; exact h2
    | i + 2 => simp at ha
theorem valD_ge : ∀ (l : List UInt8) (a v : Nat), valD l a = some v → a ≤ v
  | [], a, v, h => by rw [valD] at h; obtain rfl := Option.some.inj h; exact Nat.le_refl _
  | c :: l, a, v, h => by
    rw [valD] at h
    split at h
    · have := valD_ge l _ v h; omega
    · cases h
theorem par_val : ∀ (l : List UInt8) (a v : Nat), valD l a = some v → v < 1844674407370955162 → Lib.parseUint10 a l = .ok v
  | [], a, v, h, _ => by rw [valD] at h; obtain rfl := Option.some.inj h; rfl
  | c :: l, a, v, h, hv => by
    rw [valD] at h
    split at h
    · rename_i hd
      have hd2 : 48 ≤ c.toNat ∧ c.toNat ≤ 57 := of_decide_eq_true hd
      have h2 := valD_ge l _ v h
      rw [Lib.parseUint10, if_pos hd2, if_neg (by omega), if_neg (by omega)]
      exact par_val l _ v (by rw [show a * 10 + (c.toNat - 48) = 10 * a + (c.toNat - 48) by omega]; exact h) hv
    · cases h
theorem ato_nu {s : ByteArray} (h : nuB s = true) : Lib.atoiAll (bl s) = .ok (nuN s) := by
  obtain ⟨m, q1, q2, q3, q4, q5, q6, q7⟩ := nu_spec h
  obtain ⟨c, r, hc⟩ : ∃ c r, bl s = c :: r := by
    cases hd : bl s with
    | nil => exact absurd (by rw [← bl_len, hd]; rfl) q5
    | cons c r => exact ⟨c, r, rfl⟩
  have hcd : 48 ≤ c.toNat ∧ c.toNat ≤ 57 := of_decide_eq_true (List.all_eq_true.1 q7 c (by rw [hc]; simp))
  have hm : Lib.parseMag (bl s) = .ok m := by
    unfold Lib.parseMag
    rw [if_neg (by rw [hc]; simp), par_val _ _ _ q1 (by omega)]
  rw [hc, Lib.atoiAll_plain c r (by omega) (by omega), ← hc, hm, q2]
  unfold Lib.signless
  simp only []
  rw [if_neg (by omega)]
theorem atoi_nu {f : Nat} (hf : Tryd.atoi_ren.f 172 = f) (s : ByteArray) (h : nuB s = true) (hs : Hp) : AC Tryd.prog f [.d (.str s)] hs (fun r h => r = .tup [.d (.int .i64 (nuN s)), .d .nilif] ∧ h = hs) := by
  subst hf
  refine AC.ofB fun κ vals w h2 h3 h4 => ?_
  obtain ⟨u, rfl, r0⟩ := one_arg h3 h4
  rw [r0.str_inv]
  have hz := (nu_spec h).choose_spec.2.2.2.2.2.1
  refine (Any.strconv_Atoi_ok Tryd.atoi s (by omega) (nuN s) (ato_nu h) w).mono ?_
  rintro e w' ⟨rfl, hw⟩
  refine ⟨_, rfl, fun κ w O => tup2 (.d (.int _ _)) (.d .nilif), ?_⟩
  rcases hw with rfl | ⟨t, rfl⟩
  · exact Below.refl _ _
  · exact Lib.bytesWorld_below _ _ _
end Go.Proofs.YtdddebheolmldaaDoorA
