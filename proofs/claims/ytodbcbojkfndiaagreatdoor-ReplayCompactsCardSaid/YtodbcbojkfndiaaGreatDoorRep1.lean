/- strconv.Atoi by the kit's contract. -/
import Derived.Test.YtodbcbojkfndiaaGreatDoorRec4
import Derived.Test.YtodbcbojkfndiaaGreatDoorFrD
import Derived.Shelf.Strconv.AtoiAll
namespace Go.Proofs.YtodbcbojkfndiaaGreatDoorA
open Go Go.RowKit Go.Sort Go.Shelf
set_option linter.unusedVariables false
set_option linter.unusedSimpArgs false

theorem HS.below {κ : Kap} {w w' : World} {hs : Hp} (h : HS κ w hs) (b : Below w.heap.size w w') : HS κ w' hs ∧ Ext κ hs w κ hs w' :=
  h.oneMore b.size (fun h => h.elim) b.os b.tape b.output b.block
/-- A call whose result is of no memory of ours. -/
theorem AC.ofB {P : Program} {f : FuncId} {args : List AV} {hs : Hp} {y : AV}
    (h : ∀ κ vals w, HS κ w hs → vals.size = args.length → (∀ (i : Nat) (u : Value) (x : AV), vals[i]? = some u → args[i]? = some x → RepA κ w (Own κ hs) u x) →
      Calls P f vals w fun e w' => ∃ v, e = .returned v ∧ (∀ κ w O, RepA κ w O v y) ∧ Below w.heap.size w w') : AC P f args hs (fun r h => r = y ∧ h = hs) := fun κ vals w h1 h2 h3 => by
  refine (h κ vals w h1 h2 h3).mono ?_
  rintro e w' ⟨v, rfl, hv, hb⟩
  obtain ⟨h4, h5⟩ := h1.below hb
  exact ⟨κ, hs, v, y, rfl, h4, h5, hv _ _ _, rfl, rfl⟩
theorem glob_cell {κ : Kap} {w : World} {hs : Hp} (h : HS κ w hs) {kk id b : Nat} {v : Value} (hk : hs[kk]? = some (id, .glob b [v])) : w.cell? ⟨b, 0, none⟩ = some v := by
  obtain ⟨⟨ob, cap⟩, hκ, hok⟩ := h.ok id _ (List.mem_of_getElem? hk)
  obtain ⟨h0, hno, T, f, hw⟩ := hok
  simp [World.cell?, hw]
def okE (v : Value) : Prop := v = .nilIface ∨ ∃ te pe, v = .iface te pe
abbrev GH (gd gs gr b1 bs' br : Nat) (es er : Value) (hs : Hp) : Hp := (gd, .glob b1 p10T) :: (gs, .glob bs' [es]) :: (gr, .glob br [er]) :: hs
def atoB (s : ByteArray) : Bool := match Lib.atoiAll (bl s) with | .ok _ => true | _ => false
def atoN (s : ByteArray) : Int := match Lib.atoiAll (bl s) with | .ok v => v | .«syntax» => 0 | .range => Lib.atoiSat (bl s)
theorem one_arg {κ : Kap} {w : World} {O : Nat → Prop} {vals : Array Value} {x : AV} (h2 : vals.size = 1) (h3 : ∀ (i : Nat) (u : Value) (z : AV), vals[i]? = some u → [x][i]? = some z → RepA κ w O u z) :
    ∃ u, vals = #[u] ∧ RepA κ w O u x := by
  have e0 : vals[0]? = some vals[0] := Array.getElem?_eq_getElem (by omega)
  refine ⟨vals[0], ?_, h3 0 _ _ e0 rfl⟩
  apply Array.ext
  · exact h2
  · intro i h4 h5
    obtain rfl : i = 0 := by omega
    rfl
theorem tup2 {κ : Kap} {w : World} {O : Nat → Prop} {u v : Value} {x y : AV} (h1 : RepA κ w O u x) (h2 : RepA κ w O v y) : RepA κ w O (.tuple #[u, v]) (.tup [x, y]) :=
  .tup _ _ rfl fun i a b ha hb => by
    match i with
    | 0 => simp at ha hb; subst ha; subst hb; exact h1
    | 1 => simp at ha hb; subst ha; subst hb; exact h2
    | i + 2 => simp at ha
theorem atoi_ok {f : Nat} (hf : Tryz.atoi_ren.f 172 = f) (s : ByteArray) (hL : s.size ≤ 140737488355328) (h : atoB s = true) (hs : Hp) : AC Tryz.prog f [.d (.str s)] hs (fun r h => r = .tup [.d (.int .i64 (atoN s)), .d .nilif] ∧ h = hs) := by
  subst hf
  refine AC.ofB fun κ vals w h2 h3 h4 => ?_
  obtain ⟨u, rfl, r0⟩ := one_arg h3 h4
  rw [r0.str_inv]
  obtain ⟨v, hv, hn⟩ : ∃ v, Lib.atoiAll (bl s) = .ok v ∧ atoN s = v := by
    unfold atoB at h; unfold atoN
    split at h
    · rename_i v hv; rw [hv]; exact ⟨v, rfl, rfl⟩
    · cases h
  refine (Any.strconv_Atoi_ok Tryz.atoi s (by omega) v hv w).mono ?_
  rintro e w' ⟨rfl, hw⟩
  refine ⟨_, rfl, fun κ w O => tup2 (by rw [hn]; exact .d (.int _ _)) (.d .nilif), ?_⟩
  rcases hw with rfl | ⟨t, rfl⟩
  · exact Below.refl _ _
  · exact Lib.bytesWorld_below _ _ _
theorem atoi_no {f gS gR : Nat} (hf : Tryz.atoi_ren.f 172 = f) (hS : Tryz.atoi_ren.g 15 = gS) (hR : Tryz.atoi_ren.g 16 = gR) (s : ByteArray) (hL : s.size ≤ 140737488355328) (h : atoB s = false) {hs : Hp} (k1 k2 i1 i2 : Nat) {es er : Value}
    (h1 : hs[k1]? = some (i1, .glob gS [es])) (h2 : hs[k2]? = some (i2, .glob gR [er])) (o1 : okE es) (o2 : okE er) : AC Tryz.prog f [.d (.str s)] hs (fun r h => r = .tup [.d (.int .i64 (atoN s)), .ifc (Tryz.atoi_ren.t 168) .any] ∧ h = hs) := by
  subst hf hS hR
  refine AC.ofB fun κ vals w h5 h3 h4 => ?_
  obtain ⟨u, rfl, r0⟩ := one_arg h3 h4
  rw [r0.str_inv]
  unfold atoB at h; unfold atoN
  split at h
  · cases h
  · rename_i hno
    cases hv : Lib.atoiAll (bl s) with
    | ok v => exact absurd hv (hno v)
    | «syntax» =>
      refine (Any.strconv_Atoi_syntax Tryz.atoi s (by omega) hv es w (glob_cell h5 h1) o1).mono ?_
      rintro e w' ⟨N, rfl, _, _, hb⟩
      exact ⟨_, rfl, fun κ w O => tup2 (.d (.int _ _)) (.ifc _ _ _ (.any _)), hb⟩
    | range =>
      refine (Any.strconv_Atoi_range Tryz.atoi s (by omega) hv er w (glob_cell h5 h2) o2).mono ?_
      rintro e w' ⟨N, rfl, _, _, hb⟩
      exact ⟨_, rfl, fun κ w O => tup2 (.d (.int _ _)) (.ifc _ _ _ (.any _)), hb⟩
end Go.Proofs.YtodbcbojkfndiaaGreatDoorA
