/- RecordSpoilt: for every list of entries, every number and every byte the law is true. No condition. -/
import Derived.Test.YtldkkoecehdicaaDoorRows
import Derived.Test.YtldkkoecehdicaaDoorCards
import Derived.Test.YtldkkoecehdicaaDoorTie
import Derived.Test.YtldkkoecehdicaaDoorAbs38
import Derived.Test.YtldkkoecehdicaaDoorRcK
import Derived.ProofKit
import Derived.SevenTiedAt
import Derived.Lay
set_option linter.unusedVariables false
set_option linter.unusedSimpArgs false
namespace Go.Proofs.YtldkkoecehdicaaDoorA.LRecordSpoilt
open Go Go.Proofs.YtldkkoecehdicaaDoor
theorem shp3 : shape P 8 3 = some (.int .i64) := by kernel_rfl
theorem shp34 : shape P 8 34 = some (.sl (.cons (.int .i64) (.cons (.int .i64) (.cons .str (.cons .str .unit)))) 4 48) := by kernel_rfl
theorem shp5 : shape P 8 5 = some (.int .u8) := by kernel_rfl
theorem contract : ∀ ls, Tys [(.sl (.cons (.int .i64) (.cons (.int .i64) (.cons .str (.cons .str .unit)))) 4 48), (.int .i64), (.int .u8)] ls → AC P 8 (argsOf [(.sl (.cons (.int .i64) (.cons (.int .i64) (.cons .str (.cons .str .unit)))) 4 48), (.int .i64), (.int .u8)] ls) (globHp [(1, p10T)]) (fun r _ => r = .d (.bool true)) := by
  intro ls h
  obtain ⟨l1, _, rfl, h1, l2, _, rfl, ⟨m, rfl, _⟩, l3, _, rfl, ⟨z, rfl, hz8⟩, rfl⟩ := h
  obtain ⟨xs, rfl, hL, hx⟩ := Ty.rowsP EN.enc (fun x : EN => x.kind.size ≤ 140737488351232 ∧ x.text.size ≤ 140737488351232) h1 fun r hr => by
    obtain ⟨_, _, rfl, ⟨n1, rfl, _⟩, _, _, rfl, ⟨n2, rfl, _⟩, _, _, rfl, ⟨s1, rfl, hs1⟩, _, _, rfl, ⟨s2, rfl, hs2⟩, rfl⟩ := hr; exact ⟨⟨n1, n2, s1, s2⟩, rfl, hs1, hs2⟩
  have hR : reachBytes = 140737488351232 := rfl
  obtain ⟨c, rfl⟩ : ∃ c : UInt8, z = (c.toNat : Nat) := by
    have h0 : IntKind.u8.min ≤ z ∧ z ≤ IntKind.u8.max := by simpa [Lit.wf] using hz8
    have h1 : IntKind.u8.min = 0 := rfl
    have h2 : IntKind.u8.max = 255 := rfl
    have h3 : (UInt8.ofNat z.toNat).toNat = z.toNat := by simp; omega
    exact ⟨UInt8.ofNat z.toNat, by omega⟩
  exact spoilt_c xs m c 0 [] hx
theorem own : ownKnob Tryd.prog.godebug = none := by kernel_rfl
noncomputable abbrev laid : List (String × DataW Unit) := Rows.recordSpoiltRow.laid
set_option maxRecDepth 100000 in
theorem lifted (os : Os) (started : os.Started) (H : Type) (enc : TypeId × Value → H) :
    ReturnsInHanded {} Tryd.checked os 8 .any (fun w args => (Rows.recordSpoiltSpec.pre enc Tryd.prog Tryd.f8 [] false w args ∧ laidMetH Tryd.prog laid w) ∧ sizedMet enc Tryd.prog Tryd.f8 (OpenSpec.ofChange Rows.recordSpoiltSpec) false w args) (Rows.recordSpoiltSpec.post enc Tryd.prog Tryd.f8 false true false false) :=
  lawG (C := Tryd.checked) laid 8 [(.sl (.cons (.int .i64) (.cons (.int .i64) (.cons .str (.cons .str .unit)))) 4 48), (.int .i64), (.int .u8)] [(1, p10T)] own started (by kernel_rfl) Tryd.func8
    (laid_witness (C := Tryd.checked) (fn := Tryd.f8) (f := 8) (s := Rows.recordSpoiltSpec) laid #[.slice none 0 0, .int .i64 0, .int .u8 0] 8 (by kernel_rfl) (World.shaped_of_ZipB (by kernel_rfl) (by kernel_rfl)) (by kernel_rfl) (by kernel_rfl) (by kernel_rfl) (by kernel_rfl) (by kernel_rfl))
    (fun W h p hp => by
    simp only [List.mem_cons, List.mem_nil_iff, or_false] at hp
    rcases hp with rfl
    · exact laid_tab (t := 85) (e := 76) (n := 20) (k := .u64) (zs := Lib.pow10Tab) (name := "internal/strconv.uint64pow10") (d := Rows.laid_internal_strconv_uint64pow10) (by kernel_rfl) h rfl rfl (by kernel_rfl) (by kernel_rfl) (by kernel_rfl) (by kernel_rfl) (by kernel_rfl) (by kernel_rfl) 
    )
    (by kernel_rfl) (by kernel_rfl) 4 Tryd.underlying4 (by kernel_rfl) rfl (by kernel_rfl)
    (fun ds h => match ds, h with | [d0, d1, d2], _ => rfl) contract
theorem over : Rows.recordSpoiltRow.holds Tryd.pinned (OpenSpec.ofChange Rows.recordSpoiltSpec) :=
  OpenClaim.holds_of_wide 8 Tryd.f8 rfl rfl rfl rfl rfl rfl rfl ⟨rfl, rfl, rfl, rfl, rfl⟩ rfl rfl rfl rfl rfl (by kernel_rfl) Tryd.func8 (by kernel_rfl)
    (of_decide_eq_true (by kernel_rfl)) (by unfold Func.isWrapper; first | (rw [if_pos (by decide +kernel)]; kernel_rfl) | (rw [if_neg (by decide +kernel)]; exact ⟨rfl, rfl⟩))
    (fun os started H enc _ => lifted os started H enc)
theorem card : Claim7.holds Tryd.pinned (.plain (OpenSpec.ofChange Rows.recordSpoiltSpec)) Rows.recordSpoiltCard :=
  Claim7.holds_tied_plain_at .later [] [.data, .data, .data, .data, .pinned] true (true, "9a3ecfb3c6a7dfa18f4fbde5b5fbaa99f35eba3c76547a6a7b88310c4cd1d083") false
    over (fun _ h => by cases h) (by kernel_rfl) (fun _ h => by cases h) recordSpoilt_row_tie rfl ⟨rfl, rfl⟩ (by kernel_rfl) rfl
    (fun f fn hf hfn => by
      obtain rfl : f = 8 := Option.some.inj ((show Tryd.prog.funcNamed "skyway/skywaykeep4.RecordSpoilt" = some 8 by kernel_rfl).symm.trans hf) |>.symm
      obtain rfl : fn = Tryd.f8 := (Option.some.inj (Tryd.func8.symm.trans hfn)).symm
      exact ⟨by kernel_rfl, fun j t ht => by
        have hp : Tryd.f8.params = #[34, 3, 5] := rfl
        rw [hp] at ht
        have hm : t ∈ [34, 3, 5] := by simpa using Array.mem_of_getElem? ht
        have hall : ([34, 3, 5].all fun u => !Tryd.prog.wantsStandIn u) = true := by kernel_rfl
        exact (show Tryd.prog.wantsStandIn t = false by simpa using List.all_eq_true.1 hall t hm)⟩)
    (by kernel_rfl)
end Go.Proofs.YtldkkoecehdicaaDoorA.LRecordSpoilt
namespace Go.Proofs.YtldkkoecehdicaaDoor
/-- The statement, under a short name, for the claim. -/
theorem recordSpoilt_holds : Rows.RecordSpoiltCardSaid := Go.Proofs.YtldkkoecehdicaaDoorA.LRecordSpoilt.card
end Go.Proofs.YtldkkoecehdicaaDoor
#print axioms Go.Proofs.YtldkkoecehdicaaDoor.recordSpoilt_holds
