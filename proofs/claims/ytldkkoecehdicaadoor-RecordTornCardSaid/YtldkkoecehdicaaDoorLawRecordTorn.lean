/- RecordTorn: for every list of entries and every number the law is true. No condition. -/
import Derived.Test.YtldkkoecehdicaaDoorRows
import Derived.Test.YtldkkoecehdicaaDoorCards
import Derived.Test.YtldkkoecehdicaaDoorTie
import Derived.Test.YtldkkoecehdicaaDoorAbs38
import Derived.Test.YtldkkoecehdicaaDoorRcJ
import Derived.ProofKit
import Derived.SevenTiedAt
import Derived.Lay
set_option linter.unusedVariables false
set_option linter.unusedSimpArgs false
namespace Go.Proofs.YtldkkoecehdicaaDoorA.LRecordTorn
open Go Go.Proofs.YtldkkoecehdicaaDoor
theorem shp3 : shape P 8 3 = some (.int .i64) := by kernel_rfl
theorem shp34 : shape P 8 34 = some (.sl (.cons (.int .i64) (.cons (.int .i64) (.cons .str (.cons .str .unit)))) 4 48) := by kernel_rfl
theorem contract : ∀ ls, Tys [(.sl (.cons (.int .i64) (.cons (.int .i64) (.cons .str (.cons .str .unit)))) 4 48), (.int .i64)] ls → AC P 7 (argsOf [(.sl (.cons (.int .i64) (.cons (.int .i64) (.cons .str (.cons .str .unit)))) 4 48), (.int .i64)] ls) (globHp [(1, p10T)]) (fun r _ => r = .d (.bool true)) := by
  intro ls h
  obtain ⟨l1, _, rfl, h1, l2, _, rfl, ⟨m, rfl, _⟩, rfl⟩ := h
  obtain ⟨xs, rfl, hL, hx⟩ := Ty.rowsP EN.enc (fun x : EN => x.kind.size ≤ 140737488351232 ∧ x.text.size ≤ 140737488351232) h1 fun r hr => by
    obtain ⟨_, _, rfl, ⟨n1, rfl, _⟩, _, _, rfl, ⟨n2, rfl, _⟩, _, _, rfl, ⟨s1, rfl, hs1⟩, _, _, rfl, ⟨s2, rfl, hs2⟩, rfl⟩ := hr; exact ⟨⟨n1, n2, s1, s2⟩, rfl, hs1, hs2⟩
  have hR : reachBytes = 140737488351232 := rfl
  exact torn_c xs m 0 [] hx
theorem own : ownKnob Tryd.prog.godebug = none := by kernel_rfl
noncomputable abbrev laid : List (String × DataW Unit) := Rows.recordTornRow.laid
set_option maxRecDepth 100000 in
theorem lifted (os : Os) (started : os.Started) (H : Type) (enc : TypeId × Value → H) :
    ReturnsInHanded {} Tryd.checked os 7 .any (fun w args => (Rows.recordTornSpec.pre enc Tryd.prog Tryd.f7 [] false w args ∧ laidMetH Tryd.prog laid w) ∧ sizedMet enc Tryd.prog Tryd.f7 (OpenSpec.ofChange Rows.recordTornSpec) false w args) (Rows.recordTornSpec.post enc Tryd.prog Tryd.f7 false true false false) :=
  lawG (C := Tryd.checked) laid 8 [(.sl (.cons (.int .i64) (.cons (.int .i64) (.cons .str (.cons .str .unit)))) 4 48), (.int .i64)] [(1, p10T)] own started (by kernel_rfl) Tryd.func7
    (laid_witness (C := Tryd.checked) (fn := Tryd.f7) (f := 7) (s := Rows.recordTornSpec) laid #[.slice none 0 0, .int .i64 0] 8 (by kernel_rfl) (World.shaped_of_ZipB (by kernel_rfl) (by kernel_rfl)) (by kernel_rfl) (by kernel_rfl) (by kernel_rfl) (by kernel_rfl) (by kernel_rfl))
    (fun W h p hp => by
    simp only [List.mem_cons, List.mem_nil_iff, or_false] at hp
    rcases hp with rfl
    · exact laid_tab (t := 85) (e := 76) (n := 20) (k := .u64) (zs := Lib.pow10Tab) (name := "internal/strconv.uint64pow10") (d := Rows.laid_internal_strconv_uint64pow10) (by kernel_rfl) h rfl rfl (by kernel_rfl) (by kernel_rfl) (by kernel_rfl) (by kernel_rfl) (by kernel_rfl) (by kernel_rfl) 
    )
    (by kernel_rfl) (by kernel_rfl) 4 Tryd.underlying4 (by kernel_rfl) rfl (by kernel_rfl)
    (fun ds h => match ds, h with | [d0, d1], _ => rfl) contract
theorem over : Rows.recordTornRow.holds Tryd.pinned (OpenSpec.ofChange Rows.recordTornSpec) :=
  OpenClaim.holds_of_wide 7 Tryd.f7 rfl rfl rfl rfl rfl rfl rfl ⟨rfl, rfl, rfl, rfl, rfl⟩ rfl rfl rfl rfl rfl (by kernel_rfl) Tryd.func7 (by kernel_rfl)
    (of_decide_eq_true (by kernel_rfl)) (by unfold Func.isWrapper; first | (rw [if_pos (by decide +kernel)]; kernel_rfl) | (rw [if_neg (by decide +kernel)]; exact ⟨rfl, rfl⟩))
    (fun os started H enc _ => lifted os started H enc)
theorem card : Claim7.holds Tryd.pinned (.plain (OpenSpec.ofChange Rows.recordTornSpec)) Rows.recordTornCard :=
  Claim7.holds_tied_plain_at .later [] [.data, .data, .data, .data, .pinned] true (true, "9a3ecfb3c6a7dfa18f4fbde5b5fbaa99f35eba3c76547a6a7b88310c4cd1d083") false
    over (fun _ h => by cases h) (by kernel_rfl) (fun _ h => by cases h) recordTorn_row_tie rfl ⟨rfl, rfl⟩ (by kernel_rfl) rfl
    (fun f fn hf hfn => by
      obtain rfl : f = 7 := Option.some.inj ((show Tryd.prog.funcNamed "skyway/skywaykeep4.RecordTorn" = some 7 by kernel_rfl).symm.trans hf) |>.symm
      obtain rfl : fn = Tryd.f7 := (Option.some.inj (Tryd.func7.symm.trans hfn)).symm
      exact ⟨by kernel_rfl, fun j t ht => by
        have hp : Tryd.f7.params = #[34, 3] := rfl
        rw [hp] at ht
        have hm : t ∈ [34, 3] := by simpa using Array.mem_of_getElem? ht
        have hall : ([34, 3].all fun u => !Tryd.prog.wantsStandIn u) = true := by kernel_rfl
        exact (show Tryd.prog.wantsStandIn t = false by simpa using List.all_eq_true.1 hall t hm)⟩)
    (by kernel_rfl)
end Go.Proofs.YtldkkoecehdicaaDoorA.LRecordTorn
namespace Go.Proofs.YtldkkoecehdicaaDoor
/-- The statement, under a short name, for the claim. -/
theorem recordTorn_holds : Rows.RecordTornCardSaid := Go.Proofs.YtldkkoecehdicaaDoorA.LRecordTorn.card
end Go.Proofs.YtldkkoecehdicaaDoor
#print axioms Go.Proofs.YtldkkoecehdicaaDoor.recordTorn_holds
