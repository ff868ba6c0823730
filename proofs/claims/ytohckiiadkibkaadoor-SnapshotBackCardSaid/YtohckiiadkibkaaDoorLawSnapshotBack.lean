/- SnapshotBack: for every list of rows and every text the law is true. No condition. -/
import Derived.Test.YtohckiiadkibkaaDoorRows
import Derived.Test.YtohckiiadkibkaaDoorCards
import Derived.Test.YtohckiiadkibkaaDoorTie
import Derived.Test.YtohckiiadkibkaaDoorAbs38
import Derived.Test.YtohckiiadkibkaaDoorSnJ
import Derived.ProofKit
import Derived.SevenTiedAt
import Derived.Lay
set_option linter.unusedVariables false
set_option linter.unusedSimpArgs false
namespace Go.Proofs.YtohckiiadkibkaaDoorA.LSnapshotBack
open Go Go.Proofs.YtohckiiadkibkaaDoor
theorem shp22 : shape P 8 22 = some (.sl (.cons .str (.cons .str .unit)) 2 32) := by kernel_rfl
theorem shp9 : shape P 8 9 = some (.str) := by kernel_rfl
theorem contract : ∀ ls, Tys [(.sl (.cons .str (.cons .str .unit)) 2 32), (.str)] ls → AC P 7 (argsOf [(.sl (.cons .str (.cons .str .unit)) 2 32), (.str)] ls) (globHp [(3, dbT)]) (fun r _ => r = .d (.bool true)) := by
  intro ls h
  obtain ⟨l1, _, rfl, h1, l2, _, rfl, ⟨s, rfl, hs1⟩, rfl⟩ := h
  obtain ⟨l, rfl, hL, hz⟩ := Ty.rowsP SR.enc (fun x : SR => x.key.size ≤ 140737488351232 ∧ x.val.size ≤ 140737488351232) h1 fun r hr => by
    obtain ⟨q1, _, rfl, ⟨s, rfl, hs⟩, q2, _, rfl, ⟨f, rfl, hf⟩, rfl⟩ := hr; exact ⟨⟨s, f⟩, rfl, hs, hf⟩
  have hR : reachBytes = 140737488351232 := rfl
  exact back_c l s 0 [] (by omega) hz (by omega)
theorem own : ownKnob Tryd.prog.godebug = none := by kernel_rfl
noncomputable abbrev laid : List (String × DataW Unit) := Rows.snapshotBackRow.laid
set_option maxRecDepth 100000 in
theorem lifted (os : Os) (started : os.Started) (H : Type) (enc : TypeId × Value → H) :
    ReturnsInHanded {} Tryd.checked os 7 .any (fun w args => (Rows.snapshotBackSpec.pre enc Tryd.prog Tryd.f7 [] false w args ∧ laidMetH Tryd.prog laid w) ∧ sizedMet enc Tryd.prog Tryd.f7 (OpenSpec.ofChange Rows.snapshotBackSpec) false w args) (Rows.snapshotBackSpec.post enc Tryd.prog Tryd.f7 false true false false) :=
  lawG (C := Tryd.checked) laid 8 [(.sl (.cons .str (.cons .str .unit)) 2 32), (.str)] [(3, dbT)] own started (by kernel_rfl) Tryd.func7
    (laid_witness (C := Tryd.checked) (fn := Tryd.f7) (f := 7) (s := Rows.snapshotBackSpec) laid #[.slice none 0 0, .string .empty] 8 (by kernel_rfl) (World.shaped_of_ZipB (by kernel_rfl) (by kernel_rfl)) (by kernel_rfl) (by kernel_rfl) (by kernel_rfl) (by kernel_rfl) (by kernel_rfl))
    (fun W h p hp i v hv => by
    simp only [List.mem_cons, List.mem_nil_iff, or_false] at hp
    rcases hp with rfl
    · exact laid_tab (t := 110) (e := 5) (n := 64) (k := .u8) (zs := dbN) (name := "math/bits.deBruijn64tab") (d := Rows.laid_math_bits_deBruijn64tab) (by kernel_rfl) h rfl rfl (by kernel_rfl) (by kernel_rfl) (by kernel_rfl) (by kernel_rfl) (by kernel_rfl) (by kernel_rfl) i v hv
    )
    (by kernel_rfl) (by kernel_rfl) 4 Tryd.underlying4 (by kernel_rfl) rfl (by kernel_rfl)
    (fun ds h => match ds, h with | [d0, d1], _ => rfl) contract
theorem over : Rows.snapshotBackRow.holds Tryd.pinned (OpenSpec.ofChange Rows.snapshotBackSpec) :=
  OpenClaim.holds_of_wide 7 Tryd.f7 rfl rfl rfl rfl rfl rfl rfl ⟨rfl, rfl, rfl, rfl, rfl⟩ rfl rfl rfl rfl rfl (by kernel_rfl) Tryd.func7 (by kernel_rfl)
    (of_decide_eq_true (by kernel_rfl)) (by unfold Func.isWrapper; first | (rw [if_pos (by decide +kernel)]; kernel_rfl) | (rw [if_neg (by decide +kernel)]; exact ⟨rfl, rfl⟩))
    (fun os started H enc _ => lifted os started H enc)
theorem card : Claim7.holds Tryd.pinned (.plain (OpenSpec.ofChange Rows.snapshotBackSpec)) Rows.snapshotBackCard :=
  Claim7.holds_tied_plain_at .later [] [.data, .data, .data, .data, .pinned] true (true, "daa39b8fe02e64e469381ca7a0fe47c0b0fab2fdd2206a31a336fc0f981eca3d") false
    over (fun _ h => by cases h) (by kernel_rfl) (fun _ h => by cases h) snapshotBack_row_tie rfl ⟨rfl, rfl⟩ (by kernel_rfl) rfl
    (fun f fn hf hfn => by
      obtain rfl : f = 7 := Option.some.inj ((show Tryd.prog.funcNamed "skyway/skywaykeep4.SnapshotBack" = some 7 by kernel_rfl).symm.trans hf) |>.symm
      obtain rfl : fn = Tryd.f7 := (Option.some.inj (Tryd.func7.symm.trans hfn)).symm
      exact ⟨by kernel_rfl, fun j t ht => by
        have hp : Tryd.f7.params = #[22, 9] := rfl
        rw [hp] at ht
        have hm : t ∈ [22, 9] := by simpa using Array.mem_of_getElem? ht
        have hall : ([22, 9].all fun u => !Tryd.prog.wantsStandIn u) = true := by kernel_rfl
        exact (show Tryd.prog.wantsStandIn t = false by simpa using List.all_eq_true.1 hall t hm)⟩)
    (by kernel_rfl)
end Go.Proofs.YtohckiiadkibkaaDoorA.LSnapshotBack
namespace Go.Proofs.YtohckiiadkibkaaDoor
/-- The statement, under a short name, for the claim. -/
theorem snapshotBack_holds : Rows.SnapshotBackCardSaid := Go.Proofs.YtohckiiadkibkaaDoorA.LSnapshotBack.card
end Go.Proofs.YtohckiiadkibkaaDoor
#print axioms Go.Proofs.YtohckiiadkibkaaDoor.snapshotBack_holds
