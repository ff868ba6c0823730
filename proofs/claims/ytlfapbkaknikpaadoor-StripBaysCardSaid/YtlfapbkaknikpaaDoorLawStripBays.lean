/- StripBays: for every list of strips and every list of numbers the law is true. No condition. -/
import Derived.Test.YtlfapbkaknikpaaDoorRows
import Derived.Test.YtlfapbkaknikpaaDoorCards
import Derived.Test.YtlfapbkaknikpaaDoorTie
import Derived.Test.YtlfapbkaknikpaaDoorFrD
import Derived.Test.YtlfapbkaknikpaaDoorSpG
import Derived.ProofKit
import Derived.SevenTiedAt
import Derived.Lay
set_option linter.unusedVariables false
set_option linter.unusedSimpArgs false
namespace Go.Proofs.YtlfapbkaknikpaaDoorA.LStripBays
open Go Go.Proofs.YtlfapbkaknikpaaDoor
theorem shp22 : shape P 8 22 = some (.sl (.cons .str (.cons .str (.cons (.int .i64) (.cons (.int .i64) (.cons (.int .i64) .unit))))) 5 56) := by kernel_rfl
theorem shp33 : shape P 8 33 = some (.sl (.int .i64) 1 8) := by kernel_rfl
theorem contract : ∀ ls, Tys [(.sl (.cons .str (.cons .str (.cons (.int .i64) (.cons (.int .i64) (.cons (.int .i64) .unit))))) 5 56), (.sl (.int .i64) 1 8)] ls → AC P 4 (argsOf [(.sl (.cons .str (.cons .str (.cons (.int .i64) (.cons (.int .i64) (.cons (.int .i64) .unit))))) 5 56), (.sl (.int .i64) 1 8)] ls) (globHp [(1, p10T)]) (fun r _ => r = .d (.bool true)) := by
  intro ls h
  obtain ⟨l1, _, rfl, h1, l2, _, rfl, h2, rfl⟩ := h
  obtain ⟨xs, rfl, hL, hx⟩ := Ty.rowsP ST.enc (fun x : ST => x.call.size ≤ 140737488351232 ∧ x.fix.size ≤ 140737488351232) h1 fun r hr => by
    obtain ⟨_, _, rfl, ⟨s1, rfl, hs1⟩, _, _, rfl, ⟨s2, rfl, hs2⟩, _, _, rfl, ⟨n1, rfl, _⟩, _, _, rfl, ⟨n2, rfl, _⟩, _, _, rfl, ⟨n3, rfl, _⟩, rfl⟩ := hr; exact ⟨⟨s1, s2, n1, n2, n3⟩, rfl, hs1, hs2⟩
  have hR : reachBytes = 140737488351232 := rfl
  obtain ⟨ms, rfl, hM⟩ := Ty.rows nE h2 fun r hr => by obtain ⟨n, rfl, _⟩ := hr; exact ⟨n, rfl⟩
  exact bays_c xs ms 0 [] hx
theorem own : ownKnob Tryd.prog.godebug = none := by kernel_rfl
noncomputable abbrev laid : List (String × DataW Unit) := Rows.stripBaysRow.laid
set_option maxRecDepth 100000 in
theorem lifted (os : Os) (started : os.Started) (H : Type) (enc : TypeId × Value → H) :
    ReturnsInHanded {} Tryd.checked os 4 .any (fun w args => (Rows.stripBaysSpec.pre enc Tryd.prog Tryd.f4 [] false w args ∧ laidMetH Tryd.prog laid w) ∧ sizedMet enc Tryd.prog Tryd.f4 (OpenSpec.ofChange Rows.stripBaysSpec) false w args) (Rows.stripBaysSpec.post enc Tryd.prog Tryd.f4 false true false false) :=
  lawG (C := Tryd.checked) laid 8 [(.sl (.cons .str (.cons .str (.cons (.int .i64) (.cons (.int .i64) (.cons (.int .i64) .unit))))) 5 56), (.sl (.int .i64) 1 8)] [(1, p10T)] own started (by kernel_rfl) Tryd.func4
    (laid_witness (C := Tryd.checked) (fn := Tryd.f4) (f := 4) (s := Rows.stripBaysSpec) laid #[.slice none 0 0, .slice none 0 0] 8 (by kernel_rfl) (World.shaped_of_ZipB (by kernel_rfl) (by kernel_rfl)) (by kernel_rfl) (by kernel_rfl) (by kernel_rfl) (by kernel_rfl) (by kernel_rfl))
    (fun W h p hp => by
    simp only [List.mem_cons, List.mem_nil_iff, or_false] at hp
    rcases hp with rfl
    · exact laid_tab (t := 111) (e := 82) (n := 20) (k := .u64) (zs := Lib.pow10Tab) (name := "internal/strconv.uint64pow10") (d := Rows.laid_internal_strconv_uint64pow10) (by kernel_rfl) h rfl rfl (by kernel_rfl) (by kernel_rfl) (by kernel_rfl) (by kernel_rfl) (by kernel_rfl) (by kernel_rfl) 
    )
    (by kernel_rfl) (by kernel_rfl) 4 Tryd.underlying4 (by kernel_rfl) rfl (by kernel_rfl)
    (fun ds h => match ds, h with | [d0, d1], _ => rfl) contract
theorem over : Rows.stripBaysRow.holds Tryd.pinned (OpenSpec.ofChange Rows.stripBaysSpec) :=
  OpenClaim.holds_of_wide 4 Tryd.f4 rfl rfl rfl rfl rfl rfl rfl ⟨rfl, rfl, rfl, rfl, rfl⟩ rfl rfl rfl rfl rfl (by kernel_rfl) Tryd.func4 (by kernel_rfl)
    (of_decide_eq_true (by kernel_rfl)) (by unfold Func.isWrapper; first | (rw [if_pos (by decide +kernel)]; kernel_rfl) | (rw [if_neg (by decide +kernel)]; exact ⟨rfl, rfl⟩))
    (fun os started H enc _ => lifted os started H enc)
theorem card : Claim7.holds Tryd.pinned (.plain (OpenSpec.ofChange Rows.stripBaysSpec)) Rows.stripBaysCard :=
  Claim7.holds_tied_plain_at .later [] [.data, .data, .data] true (true, "6fcf76016de47e6f8cbb88d1d2b459c2c30ee138bbaf83d8f3b2b228e3558b28") false
    over (fun _ h => by cases h) (by kernel_rfl) (fun _ h => by cases h) stripBays_row_tie rfl ⟨rfl, rfl⟩ (by kernel_rfl) rfl
    (fun f fn hf hfn => by
      obtain rfl : f = 4 := Option.some.inj ((show Tryd.prog.funcNamed "skyway/skywaykeep4.StripBays" = some 4 by kernel_rfl).symm.trans hf) |>.symm
      obtain rfl : fn = Tryd.f4 := (Option.some.inj (Tryd.func4.symm.trans hfn)).symm
      exact ⟨by kernel_rfl, fun j t ht => by
        have hp : Tryd.f4.params = #[22, 33] := rfl
        rw [hp] at ht
        have hm : t ∈ [22, 33] := by simpa using Array.mem_of_getElem? ht
        have hall : ([22, 33].all fun u => !Tryd.prog.wantsStandIn u) = true := by kernel_rfl
        exact (show Tryd.prog.wantsStandIn t = false by simpa using List.all_eq_true.1 hall t hm)⟩)
    (by kernel_rfl)
end Go.Proofs.YtlfapbkaknikpaaDoorA.LStripBays
namespace Go.Proofs.YtlfapbkaknikpaaDoor
/-- The statement, under a short name, for the claim. -/
theorem stripBays_holds : Rows.StripBaysCardSaid := Go.Proofs.YtlfapbkaknikpaaDoorA.LStripBays.card
end Go.Proofs.YtlfapbkaknikpaaDoor
#print axioms Go.Proofs.YtlfapbkaknikpaaDoor.stripBays_holds
