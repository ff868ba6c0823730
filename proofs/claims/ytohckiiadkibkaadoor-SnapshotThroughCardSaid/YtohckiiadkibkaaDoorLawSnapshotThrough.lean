/- SnapshotThrough: for every three lists of rows the law is true. No condition. -/
import Derived.Test.YtohckiiadkibkaaDoorRows
import Derived.Test.YtohckiiadkibkaaDoorCards
import Derived.Test.YtohckiiadkibkaaDoorTie
import Derived.Test.YtohckiiadkibkaaDoorAbs38
import Derived.Test.YtohckiiadkibkaaDoorSnH
import Derived.ProofKit
import Derived.SevenTiedAt
import Derived.Lay
set_option linter.unusedVariables false
set_option linter.unusedSimpArgs false
namespace Go.Proofs.YtohckiiadkibkaaDoorA.LSnapshotThrough
open Go Go.Proofs.YtohckiiadkibkaaDoor
theorem shp22 : shape P 8 22 = some (.sl (.cons .str (.cons .str .unit)) 2 32) := by kernel_rfl
theorem contract : ∀ ls, Tys [(.sl (.cons .str (.cons .str .unit)) 2 32), (.sl (.cons .str (.cons .str .unit)) 2 32), (.sl (.cons .str (.cons .str .unit)) 2 32)] ls → AC P 6 (argsOf [(.sl (.cons .str (.cons .str .unit)) 2 32), (.sl (.cons .str (.cons .str .unit)) 2 32), (.sl (.cons .str (.cons .str .unit)) 2 32)] ls) (globHp [(3, dbT)]) (fun r _ => r = .d (.bool true)) := by
  intro ls h
  obtain ⟨l1, _, rfl, h1, l2, _, rfl, h2, l3, _, rfl, h3, rfl⟩ := h
  obtain ⟨a, rfl, hL, hz⟩ := Ty.rowsP SR.enc (fun x : SR => x.key.size ≤ 140737488351232 ∧ x.val.size ≤ 140737488351232) h1 fun r hr => by
    obtain ⟨q1, _, rfl, ⟨s, rfl, hs⟩, q2, _, rfl, ⟨f, rfl, hf⟩, rfl⟩ := hr; exact ⟨⟨s, f⟩, rfl, hs, hf⟩
  obtain ⟨b, rfl, hL2, hz2⟩ := Ty.rowsP SR.enc (fun x : SR => x.key.size ≤ 140737488351232 ∧ x.val.size ≤ 140737488351232) h2 fun r hr => by
    obtain ⟨q1, _, rfl, ⟨s, rfl, hs⟩, q2, _, rfl, ⟨f, rfl, hf⟩, rfl⟩ := hr; exact ⟨⟨s, f⟩, rfl, hs, hf⟩
  obtain ⟨c, rfl, hL3, hz3⟩ := Ty.rowsP SR.enc (fun x : SR => x.key.size ≤ 140737488351232 ∧ x.val.size ≤ 140737488351232) h3 fun r hr => by
    obtain ⟨q1, _, rfl, ⟨s, rfl, hs⟩, q2, _, rfl, ⟨f, rfl, hf⟩, rfl⟩ := hr; exact ⟨⟨s, f⟩, rfl, hs, hf⟩
  have hR : reachBytes = 140737488351232 := rfl
  exact through_c a b c 0 [] (by omega) (by omega) (by omega) hz hz2 hz3
theorem own : ownKnob Tryd.prog.godebug = none := by kernel_rfl
noncomputable abbrev laid : List (String × DataW Unit) := Rows.snapshotThroughRow.laid
set_option maxRecDepth 100000 in
theorem lifted (os : Os) (started : os.Started) (H : Type) (enc : TypeId × Value → H) :
    ReturnsInHanded {} Tryd.checked os 6 .any (fun w args => (Rows.snapshotThroughSpec.pre enc Tryd.prog Tryd.f6 [] false w args ∧ laidMetH Tryd.prog laid w) ∧ sizedMet enc Tryd.prog Tryd.f6 (OpenSpec.ofChange Rows.snapshotThroughSpec) false w args) (Rows.snapshotThroughSpec.post enc Tryd.prog Tryd.f6 false true false false) :=
  lawG (C := Tryd.checked) laid 8 [(.sl (.cons .str (.cons .str .unit)) 2 32), (.sl (.cons .str (.cons .str .unit)) 2 32), (.sl (.cons .str (.cons .str .unit)) 2 32)] [(3, dbT)] own started (by kernel_rfl) Tryd.func6
    (laid_witness (C := Tryd.checked) (fn := Tryd.f6) (f := 6) (s := Rows.snapshotThroughSpec) laid #[.slice none 0 0, .slice none 0 0, .slice none 0 0] 8 (by kernel_rfl) (World.shaped_of_ZipB (by kernel_rfl) (by kernel_rfl)) (by kernel_rfl) (by kernel_rfl) (by kernel_rfl) (by kernel_rfl) (by kernel_rfl))
    (fun W h p hp i v hv => by
    simp only [List.mem_cons, List.mem_nil_iff, or_false] at hp
    rcases hp with rfl
    · exact laid_tab (t := 110) (e := 5) (n := 64) (k := .u8) (zs := dbN) (name := "math/bits.deBruijn64tab") (d := Rows.laid_math_bits_deBruijn64tab) (by kernel_rfl) h rfl rfl (by kernel_rfl) (by kernel_rfl) (by kernel_rfl) (by kernel_rfl) (by kernel_rfl) (by kernel_rfl) i v hv
    )
    (by kernel_rfl) (by kernel_rfl) 4 Tryd.underlying4 (by kernel_rfl) rfl (by kernel_rfl)
    (fun ds h => match ds, h with | [d0, d1, d2], _ => rfl) contract
theorem over : Rows.snapshotThroughRow.holds Tryd.pinned (OpenSpec.ofChange Rows.snapshotThroughSpec) :=
  OpenClaim.holds_of_wide 6 Tryd.f6 rfl rfl rfl rfl rfl rfl rfl ⟨rfl, rfl, rfl, rfl, rfl⟩ rfl rfl rfl rfl rfl (by kernel_rfl) Tryd.func6 (by kernel_rfl)
    (of_decide_eq_true (by kernel_rfl)) (by unfold Func.isWrapper; first | (rw [if_pos (by decide +kernel)]; kernel_rfl) | (rw [if_neg (by decide +kernel)]; exact ⟨rfl, rfl⟩))
    (fun os started H enc _ => lifted os started H enc)
theorem card : Claim7.holds Tryd.pinned (.plain (OpenSpec.ofChange Rows.snapshotThroughSpec)) Rows.snapshotThroughCard :=
  Claim7.holds_tied_plain_at .later [] [.data, .data, .data] true (true, "daa39b8fe02e64e469381ca7a0fe47c0b0fab2fdd2206a31a336fc0f981eca3d") false
    over (fun _ h => by cases h) (by kernel_rfl) (fun _ h => by cases h) snapshotThrough_row_tie rfl ⟨rfl, rfl⟩ (by kernel_rfl) rfl
    (fun f fn hf hfn => by
      obtain rfl : f = 6 := Option.some.inj ((show Tryd.prog.funcNamed "skyway/skywaykeep4.SnapshotThrough" = some 6 by kernel_rfl).symm.trans hf) |>.symm
      obtain rfl : fn = Tryd.f6 := (Option.some.inj (Tryd.func6.symm.trans hfn)).symm
      exact ⟨by kernel_rfl, fun j t ht => by
        have hp : Tryd.f6.params = #[22, 22, 22] := rfl
        rw [hp] at ht
        have hm : t ∈ [22, 22, 22] := by simpa using Array.mem_of_getElem? ht
        have hall : ([22, 22, 22].all fun u => !Tryd.prog.wantsStandIn u) = true := by kernel_rfl
        exact (show Tryd.prog.wantsStandIn t = false by simpa using List.all_eq_true.1 hall t hm)⟩)
    (by kernel_rfl)
end Go.Proofs.YtohckiiadkibkaaDoorA.LSnapshotThrough
namespace Go.Proofs.YtohckiiadkibkaaDoor
/-- The statement, under a short name, for the claim. -/
theorem snapshotThrough_holds : Rows.SnapshotThroughCardSaid := Go.Proofs.YtohckiiadkibkaaDoorA.LSnapshotThrough.card
end Go.Proofs.YtohckiiadkibkaaDoor
#print axioms Go.Proofs.YtohckiiadkibkaaDoor.snapshotThrough_holds
