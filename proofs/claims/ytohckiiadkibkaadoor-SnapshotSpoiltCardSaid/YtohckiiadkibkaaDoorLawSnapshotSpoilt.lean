/- SnapshotSpoilt: for every list of rows, every two numbers and every byte the law is true. No condition. -/
import Derived.Test.YtohckiiadkibkaaDoorRows
import Derived.Test.YtohckiiadkibkaaDoorCards
import Derived.Test.YtohckiiadkibkaaDoorTie
import Derived.Test.YtohckiiadkibkaaDoorAbs38
import Derived.Test.YtohckiiadkibkaaDoorSnK
import Derived.ProofKit
import Derived.SevenTiedAt
import Derived.Lay
set_option linter.unusedVariables false
set_option linter.unusedSimpArgs false
namespace Go.Proofs.YtohckiiadkibkaaDoorA.LSnapshotSpoilt
open Go Go.Proofs.YtohckiiadkibkaaDoor
theorem shp22 : shape P 8 22 = some (.sl (.cons .str (.cons .str .unit)) 2 32) := by kernel_rfl
theorem shp3 : shape P 8 3 = some (.int .i64) := by kernel_rfl
theorem shp5 : shape P 8 5 = some (.int .u8) := by kernel_rfl
theorem contract : ∀ ls, Tys [(.sl (.cons .str (.cons .str .unit)) 2 32), (.int .i64), (.int .i64), (.int .u8)] ls → AC P 8 (argsOf [(.sl (.cons .str (.cons .str .unit)) 2 32), (.int .i64), (.int .i64), (.int .u8)] ls) (globHp [(3, dbT)]) (fun r _ => r = .d (.bool true)) := by
  intro ls h
  obtain ⟨l1, _, rfl, h1, l2, _, rfl, ⟨x, rfl, _⟩, l3, _, rfl, ⟨y, rfl, _⟩, l4, _, rfl, ⟨z, rfl, hz8⟩, rfl⟩ := h
  obtain ⟨l, rfl, hL, hz⟩ := Ty.rowsP SR.enc (fun x : SR => x.key.size ≤ 140737488351232 ∧ x.val.size ≤ 140737488351232) h1 fun r hr => by
    obtain ⟨q1, _, rfl, ⟨s, rfl, hs⟩, q2, _, rfl, ⟨f, rfl, hf⟩, rfl⟩ := hr; exact ⟨⟨s, f⟩, rfl, hs, hf⟩
  have hR : reachBytes = 140737488351232 := rfl
  obtain ⟨c, rfl⟩ : ∃ c : UInt8, z = (c.toNat : Nat) := by
    have h0 : IntKind.u8.min ≤ z ∧ z ≤ IntKind.u8.max := by simpa [Lit.wf] using hz8
    have h1 : IntKind.u8.min = 0 := rfl
    have h2 : IntKind.u8.max = 255 := rfl
    exact ⟨UInt8.ofNat z.toNat, by rw [UInt8.toNat_ofNat']; omega⟩
  exact spoilt_c l x y c 0 [] (by omega) hz
theorem own : ownKnob Tryd.prog.godebug = none := by kernel_rfl
noncomputable abbrev laid : List (String × DataW Unit) := Rows.snapshotSpoiltRow.laid
set_option maxRecDepth 100000 in
theorem lifted (os : Os) (started : os.Started) (H : Type) (enc : TypeId × Value → H) :
    ReturnsInHanded {} Tryd.checked os 8 .any (fun w args => (Rows.snapshotSpoiltSpec.pre enc Tryd.prog Tryd.f8 [] false w args ∧ laidMetH Tryd.prog laid w) ∧ sizedMet enc Tryd.prog Tryd.f8 (OpenSpec.ofChange Rows.snapshotSpoiltSpec) false w args) (Rows.snapshotSpoiltSpec.post enc Tryd.prog Tryd.f8 false true false false) :=
  lawG (C := Tryd.checked) laid 8 [(.sl (.cons .str (.cons .str .unit)) 2 32), (.int .i64), (.int .i64), (.int .u8)] [(3, dbT)] own started (by kernel_rfl) Tryd.func8
    (laid_witness (C := Tryd.checked) (fn := Tryd.f8) (f := 8) (s := Rows.snapshotSpoiltSpec) laid #[.slice none 0 0, .int .i64 0, .int .i64 0, .int .u8 0] 8 (by kernel_rfl) (World.shaped_of_ZipB (by kernel_rfl) (by kernel_rfl)) (by kernel_rfl) (by kernel_rfl) (by kernel_rfl) (by kernel_rfl) (by kernel_rfl))
    (fun W h p hp i v hv => by
    simp only [List.mem_cons, List.mem_nil_iff, or_false] at hp
    rcases hp with rfl
    · exact laid_tab (t := 110) (e := 5) (n := 64) (k := .u8) (zs := dbN) (name := "math/bits.deBruijn64tab") (d := Rows.laid_math_bits_deBruijn64tab) (by kernel_rfl) h rfl rfl (by kernel_rfl) (by kernel_rfl) (by kernel_rfl) (by kernel_rfl) (by kernel_rfl) (by kernel_rfl) i v hv
    )
    (by kernel_rfl) (by kernel_rfl) 4 Tryd.underlying4 (by kernel_rfl) rfl (by kernel_rfl)
    (fun ds h => match ds, h with | [d0, d1, d2, d3], _ => rfl) contract
theorem over : Rows.snapshotSpoiltRow.holds Tryd.pinned (OpenSpec.ofChange Rows.snapshotSpoiltSpec) :=
  OpenClaim.holds_of_wide 8 Tryd.f8 rfl rfl rfl rfl rfl rfl rfl ⟨rfl, rfl, rfl, rfl, rfl⟩ rfl rfl rfl rfl rfl (by kernel_rfl) Tryd.func8 (by kernel_rfl)
    (of_decide_eq_true (by kernel_rfl)) (by unfold Func.isWrapper; first | (rw [if_pos (by decide +kernel)]; kernel_rfl) | (rw [if_neg (by decide +kernel)]; exact ⟨rfl, rfl⟩))
    (fun os started H enc _ => lifted os started H enc)
theorem card : Claim7.holds Tryd.pinned (.plain (OpenSpec.ofChange Rows.snapshotSpoiltSpec)) Rows.snapshotSpoiltCard :=
  Claim7.holds_tied_plain_at .later [] [.data, .data, .data, .data, .pinned] true (true, "daa39b8fe02e64e469381ca7a0fe47c0b0fab2fdd2206a31a336fc0f981eca3d") false
    over (fun _ h => by cases h) (by kernel_rfl) (fun _ h => by cases h) snapshotSpoilt_row_tie rfl ⟨rfl, rfl⟩ (by kernel_rfl) rfl
    (fun f fn hf hfn => by
      obtain rfl : f = 8 := Option.some.inj ((show Tryd.prog.funcNamed "skyway/skywaykeep4.SnapshotSpoilt" = some 8 by kernel_rfl).symm.trans hf) |>.symm
      obtain rfl : fn = Tryd.f8 := (Option.some.inj (Tryd.func8.symm.trans hfn)).symm
      exact ⟨by kernel_rfl, fun j t ht => by
        have hp : Tryd.f8.params = #[22, 3, 3, 5] := rfl
        rw [hp] at ht
        have hm : t ∈ [22, 3, 3, 5] := by simpa using Array.mem_of_getElem? ht
        have hall : ([22, 3, 3, 5].all fun u => !Tryd.prog.wantsStandIn u) = true := by kernel_rfl
        exact (show Tryd.prog.wantsStandIn t = false by simpa using List.all_eq_true.1 hall t hm)⟩)
    (by kernel_rfl)
end Go.Proofs.YtohckiiadkibkaaDoorA.LSnapshotSpoilt
namespace Go.Proofs.YtohckiiadkibkaaDoor
/-- The statement, under a short name, for the claim. -/
theorem snapshotSpoilt_holds : Rows.SnapshotSpoiltCardSaid := Go.Proofs.YtohckiiadkibkaaDoorA.LSnapshotSpoilt.card
end Go.Proofs.YtohckiiadkibkaaDoor
#print axioms Go.Proofs.YtohckiiadkibkaaDoor.snapshotSpoilt_holds
