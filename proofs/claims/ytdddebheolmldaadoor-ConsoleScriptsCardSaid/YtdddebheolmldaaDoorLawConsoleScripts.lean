/- ConsoleScripts: for every text the law is true. No condition. -/
import Derived.Test.YtdddebheolmldaaDoorRows
import Derived.Test.YtdddebheolmldaaDoorCards
import Derived.Test.YtdddebheolmldaaDoorTie
import Derived.Test.YtdddebheolmldaaDoorFrD
import Derived.Test.YtdddebheolmldaaDoorCoE
import Derived.ProofKit
import Derived.SevenTiedAt
import Derived.Lay
set_option linter.unusedVariables false
set_option linter.unusedSimpArgs false
namespace Go.Proofs.YtdddebheolmldaaDoorA.LConsoleScripts
open Go Go.Proofs.YtdddebheolmldaaDoor
theorem shp9 : shape P 8 9 = some (.str) := by kernel_rfl
theorem contract : ∀ ls, Tys [(.str)] ls → AC P 4 (argsOf [(.str)] ls) (globHp [(1, p10T)]) (fun r _ => r = .d (.bool true)) := by
  intro ls h
  obtain ⟨l1, _, rfl, ⟨s, rfl, _⟩, rfl⟩ := h
  exact scripts_c s _
theorem own : ownKnob Tryd.prog.godebug = none := by kernel_rfl
noncomputable abbrev laid : List (String × DataW Unit) := Rows.consoleScriptsRow.laid
set_option maxRecDepth 100000 in
theorem lifted (os : Os) (started : os.Started) (H : Type) (enc : TypeId × Value → H) :
    ReturnsInHanded {} Tryd.checked os 4 .any (fun w args => (Rows.consoleScriptsSpec.pre enc Tryd.prog Tryd.f4 [] false w args ∧ laidMetH Tryd.prog laid w) ∧ sizedMet enc Tryd.prog Tryd.f4 (OpenSpec.ofChange Rows.consoleScriptsSpec) false w args) (Rows.consoleScriptsSpec.post enc Tryd.prog Tryd.f4 false true false false) :=
  lawG (C := Tryd.checked) laid 8 [(.str)] [(1, p10T)] own started (by kernel_rfl) Tryd.func4
    (laid_witness (C := Tryd.checked) (fn := Tryd.f4) (f := 4) (s := Rows.consoleScriptsSpec) laid #[.string .empty] 8 (by kernel_rfl) (World.shaped_of_ZipB (by kernel_rfl) (by kernel_rfl)) (by kernel_rfl) (by kernel_rfl) (by kernel_rfl) (by kernel_rfl) (by kernel_rfl))
    (fun W h p hp => by
    simp only [List.mem_cons, List.mem_nil_iff, or_false] at hp
    rcases hp with rfl
    · exact laid_tab (t := 88) (e := 72) (n := 20) (k := .u64) (zs := Lib.pow10Tab) (name := "internal/strconv.uint64pow10") (d := Rows.laid_internal_strconv_uint64pow10) (by kernel_rfl) h rfl rfl (by kernel_rfl) (by kernel_rfl) (by kernel_rfl) (by kernel_rfl) (by kernel_rfl) (by kernel_rfl) 
    )
    (by kernel_rfl) (by kernel_rfl) 4 Tryd.underlying4 (by kernel_rfl) rfl (by kernel_rfl)
    (fun ds h => match ds, h with | [d0], _ => rfl) contract
theorem over : Rows.consoleScriptsRow.holds Tryd.pinned (OpenSpec.ofChange Rows.consoleScriptsSpec) :=
  OpenClaim.holds_of_wide 4 Tryd.f4 rfl rfl rfl rfl rfl rfl rfl ⟨rfl, rfl, rfl, rfl, rfl⟩ rfl rfl rfl rfl rfl (by kernel_rfl) Tryd.func4 (by kernel_rfl)
    (of_decide_eq_true (by kernel_rfl)) (by unfold Func.isWrapper; first | (rw [if_pos (by decide +kernel)]; kernel_rfl) | (rw [if_neg (by decide +kernel)]; exact ⟨rfl, rfl⟩))
    (fun os started H enc _ => lifted os started H enc)
theorem card : Claim7.holds Tryd.pinned (.plain (OpenSpec.ofChange Rows.consoleScriptsSpec)) Rows.consoleScriptsCard :=
  Claim7.holds_tied_plain_at .later [] [.data, .data, .data, .data, .sentinel, .sentinel, .pinned] true (true, "82b0381934895d01262927f1aeef6fd8d99285ff3413c6c91c7f55be02ded9c9") true
    over (fun _ h => by cases h) (by kernel_rfl) (fun _ h => by cases h) consoleScripts_row_tie rfl ⟨rfl, rfl⟩ (by kernel_rfl) rfl
    (fun f fn hf hfn => by
      obtain rfl : f = 4 := Option.some.inj ((show Tryd.prog.funcNamed "skyway/skywaykeep4.ConsoleScripts" = some 4 by kernel_rfl).symm.trans hf) |>.symm
      obtain rfl : fn = Tryd.f4 := (Option.some.inj (Tryd.func4.symm.trans hfn)).symm
      exact ⟨by kernel_rfl, fun j t ht => by
        have hp : Tryd.f4.params = #[9] := rfl
        rw [hp] at ht
        have hm : t ∈ [9] := by simpa using Array.mem_of_getElem? ht
        have hall : ([9].all fun u => !Tryd.prog.wantsStandIn u) = true := by kernel_rfl
        exact (show Tryd.prog.wantsStandIn t = false by simpa using List.all_eq_true.1 hall t hm)⟩)
    (by kernel_rfl)
end Go.Proofs.YtdddebheolmldaaDoorA.LConsoleScripts
namespace Go.Proofs.YtdddebheolmldaaDoor
/-- The statement, under a short name, for the claim. -/
theorem consoleScripts_holds : Rows.ConsoleScriptsCardSaid := Go.Proofs.YtdddebheolmldaaDoorA.LConsoleScripts.card
end Go.Proofs.YtdddebheolmldaaDoor
#print axioms Go.Proofs.YtdddebheolmldaaDoor.consoleScripts_holds
