/- Decimal texts, by the kit's contract. -/
import Derived.Test.YtlfapbkaknikpaaDoorRec1
import Derived.Test.YtlfapbkaknikpaaDoorLay
import Derived.Test.YtlfapbkaknikpaaDoorFrD
import Derived.Test.YtlfapbkaknikpaaDoorAbs26
import Derived.Shelf.SlSortCmp.NoneTotal
namespace Go.Proofs.YtlfapbkaknikpaaDoorA
open Go Go.RowKit Go.Sort Go.Shelf
set_option linter.unusedVariables false
set_option linter.unusedSimpArgs false
set_option linter.unnecessarySimpa false

theorem decD_eq (n : Nat) : Lib.decDigits n = decL n := by
  induction n using Nat.strongRecOn with
  | _ n ih =>
    rcases Nat.lt_or_ge n 10 with h | h
    · rw [decL_small h, Lib.decDigits, dif_pos h]; rfl
    · rw [decL_step h, Lib.decDigits, dif_neg (by omega), ih _ (by omega)]; rfl
theorem itoa_nat (n : Nat) : Lib.itoa n = decL n := by
  unfold Lib.itoa
  rw [if_neg (by omega), Int.toNat_natCast, decD_eq]
def p10T : List Value := Lib.pow10Tab.map (Value.int .u64)
theorem two_args {κ : Kap} {w : World} {O : Nat → Prop} {vals : Array Value} {x y : AV} (h2 : vals.size = 2) (h3 : ∀ (i : Nat) (u : Value) (z : AV), vals[i]? = some u → [x, y][i]? = some z → RepA κ w O u z) :
    ∃ u v, vals = #[u, v] ∧ RepA κ w O u x ∧ RepA κ w O v y := by
  have e0 : vals[0]? = some vals[0] := Array.getElem?_eq_getElem (by omega)
  have e1 : vals[1]? = some vals[1] := Array.getElem?_eq_getElem (by omega)
  refine ⟨vals[0], vals[1], ?_, h3 0 _ _ e0 rfl, h3 1 _ _ e1 rfl⟩
  apply Array.ext
  · exact h2
  · intro i h4 h5
    have : i = 0 ∨ i = 1 := by omega
    rcases this with rfl | rfl <;> rfl
theorem fmt_c {f g : Nat} (hf : Tryd.fmtI_ren.f 246 = f) (hg : Tryd.prog.globalNamed "internal/strconv.uint64pow10" = some g) (n : Int) (h0 : -9223372036854775808 ≤ n) (h1 : n ≤ 9223372036854775807) (gd : Nat) (hs : Hp) :
    AC Tryd.prog f [.d (.int .i64 n), .d (.int .i64 10)] ((gd, .glob g p10T) :: hs) (fun r h => r = .d (.str (bs (Lib.itoa n))) ∧ h = (gd, .glob g p10T) :: hs) := by
  subst hf
  refine AC.ofk (v := .string (bs (Lib.itoa n))) (fun κ w O => .d (.str _)) fun κ vals w h2 h3 h4 => ?_
  obtain ⟨u, v, rfl, r0, r1⟩ := two_args h3 h4
  rw [r0.int_inv, r1.int_inv]
  exact Any.internal_strconv_FormatInt_10 Tryd.fmtI n h0 h1 w (glob_tab (kk := 0) h2 rfl hg)
/-- slices.SortFunc at no element. -/
theorem AC.sortK0 {P : Program} {ρ : Ren} (L : Go.Proofs.SlLaysF0.n6 P ρ) {g : FuncId} {caps : List AV} {hs : Hp} {id sz : Nat} :
    AC P (ρ.f 6) [.vs id 0 0 sz, .fn g caps] hs (fun r h => r = .tup [] ∧ h = hs) := by
  intro κ vals w h1 h2 h3
  obtain ⟨v0, v1, rfl, r0, r1⟩ := two_args h2 h3
  obtain ⟨ob, cap, p, hκ, hle, hp, rfl⟩ := r0.vs_inv
  refine (Go.Proofs.AnyF.slices_SortFunc_none L p (cap - 0) v1 w).mono ?_
  rintro e w' ⟨rfl, rfl⟩
  exact ⟨κ, hs, _, .tup [], rfl, h1, .refl _ _ _, .tup _ _ rfl (fun i v x hi => by simp at hi), rfl, rfl⟩
end Go.Proofs.YtlfapbkaknikpaaDoorA
