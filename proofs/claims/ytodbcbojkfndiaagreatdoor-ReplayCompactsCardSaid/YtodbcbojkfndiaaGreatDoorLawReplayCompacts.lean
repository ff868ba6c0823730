/- ReplayCompacts: for every list of entries and every number the law is true. No condition. -/
import Derived.Test.YtodbcbojkfndiaaGreatDoorRows
import Derived.Test.YtodbcbojkfndiaaGreatDoorCards
import Derived.Test.YtodbcbojkfndiaaGreatDoorTie
import Derived.Test.YtodbcbojkfndiaaGreatDoorFrD
import Derived.Test.YtodbcbojkfndiaaGreatDoorRzH
import Derived.Test.YtodbcbojkfndiaaGreatDoorRep4
import Derived.ProofKit
import Derived.SevenTiedAt
import Derived.Lay
set_option linter.unusedVariables false
set_option linter.unusedSimpArgs false
namespace Go.Proofs.YtodbcbojkfndiaaGreatDoorA.LReplayCompacts
open Go Go.Proofs.YtodbcbojkfndiaaGreatDoor
theorem shp22 : shape P 8 22 = some (.sl (.cons (.int .i64) (.cons (.int .i64) (.cons .str (.cons .str .unit)))) 4 48) := by kernel_rfl
theorem shp3 : shape P 8 3 = some (.int .i64) := by kernel_rfl
def okG (gs0 : List (Nat × List Value)) : Prop := ∃ e0 e1, okE e0 ∧ okE e1 ∧ gs0 = [(1, p10T), (4, [e0]), (5, [e1])]
theorem erow (u : TypeId) (h : Tryz.prog.typeName? 3 u = some "*errors.errorString") : u = 144 :=
  typeName_ptr_named (nm := "errors.errorString") (by rw [show "*" ++ "errors.errorString" = "*errors.errorString" by decide]; kernel_rfl) (by kernel_rfl) (by decide) u (by rw [show "*" ++ "errors.errorString" = "*errors.errorString" by decide]; exact h)
theorem contract : ∀ gs0, okG gs0 → ∀ ls, Tys [(.sl (.cons (.int .i64) (.cons (.int .i64) (.cons .str (.cons .str .unit)))) 4 48), (.int .i64)] ls → AC P 3 (argsOf [(.sl (.cons (.int .i64) (.cons (.int .i64) (.cons .str (.cons .str .unit)))) 4 48), (.int .i64)] ls) (globHp gs0) (fun r _ => r = .d (.bool true)) := by
  rintro _ ⟨e0, e1, o0, o1, rfl⟩ ls h
  obtain ⟨l1, _, rfl, h1, l2, _, rfl, ⟨m, rfl, _⟩, rfl⟩ := h
  obtain ⟨xs, rfl, hE, hx⟩ := Ty.rowsP EN.enc (fun x : EN => x.kind.size ≤ 140737488351232 ∧ x.text.size ≤ 140737488351232) h1 fun r hr => by
    obtain ⟨_, _, rfl, ⟨n1, rfl, _⟩, _, _, rfl, ⟨n2, rfl, _⟩, _, _, rfl, ⟨s1, rfl, hs1⟩, _, _, rfl, ⟨s2, rfl, hs2⟩, rfl⟩ := hr; exact ⟨⟨n1, n2, s1, s2⟩, rfl, hs1, hs2⟩
  exact compacts_c xs m 0 1 2 e0 e1 o0 o1 [] hx
theorem own : ownKnob Tryz.prog.godebug = none := by kernel_rfl
noncomputable abbrev laid : List (String × DataW Unit) := Rows.replayCompactsRow.laid
set_option maxRecDepth 100000 in
theorem lifted (os : Os) (started : os.Started) (H : Type) (enc : TypeId × Value → H) :
    ReturnsInHanded {} Tryz.checked os 3 .any (fun w args => (Rows.replayCompactsSpec.pre enc Tryz.prog Tryz.f3 [] false w args ∧ laidMetH Tryz.prog laid w) ∧ sizedMet enc Tryz.prog Tryz.f3 (OpenSpec.ofChange Rows.replayCompactsSpec) false w args) (Rows.replayCompactsSpec.post enc Tryz.prog Tryz.f3 false true false false) :=
  lawG2 (C := Tryz.checked) laid 8 [(.sl (.cons (.int .i64) (.cons (.int .i64) (.cons .str (.cons .str .unit)))) 4 48), (.int .i64)] okG own started (by kernel_rfl) Tryz.func3
    (laid_witness (C := Tryz.checked) (fn := Tryz.f3) (f := 3) (s := Rows.replayCompactsSpec) laid #[.slice none 0 0, .int .i64 0] 8 (by kernel_rfl) (World.shaped_of_ZipB (by kernel_rfl) (by kernel_rfl)) (by kernel_rfl) (by kernel_rfl) (by kernel_rfl) (by kernel_rfl) (by kernel_rfl))
    (fun W h => by
    obtain ⟨e0, o0, h0⟩ := laid_err (f := _) (hpl := by kernel_rfl) (h := h) (name := "strconv.ErrSyntax") (hm := rfl) (hg := by kernel_rfl) (ht := by kernel_rfl) (hi := Tryz.underlying96) (hrow := erow) (hp := Tryz.underlying144) (he := Tryz.underlying146) (hft := rfl) (hfo := rfl) (hs := Tryz.underlying9) (hc := by kernel_rfl) (hcs := by kernel_rfl)
    obtain ⟨e1, o1, h1⟩ := laid_err (f := _) (hpl := by kernel_rfl) (h := h) (name := "strconv.ErrRange") (hm := rfl) (hg := by kernel_rfl) (ht := by kernel_rfl) (hi := Tryz.underlying96) (hrow := erow) (hp := Tryz.underlying144) (he := Tryz.underlying146) (hft := rfl) (hfo := rfl) (hs := Tryz.underlying9) (hc := by kernel_rfl) (hcs := by kernel_rfl)
    refine ⟨_, ⟨e0, e1, o0, o1, rfl⟩, fun p hp => ?_⟩
    simp only [List.mem_cons, List.mem_nil_iff, or_false] at hp
    rcases hp with rfl | rfl | rfl
    · exact laid_tab (t := 114) (e := 104) (n := 20) (k := .u64) (zs := Lib.pow10Tab) (name := "internal/strconv.uint64pow10") (d := Rows.laid_internal_strconv_uint64pow10) (by kernel_rfl) h rfl rfl (by kernel_rfl) (by kernel_rfl) (by kernel_rfl) (by kernel_rfl) (by kernel_rfl) (by kernel_rfl) 
    · exact h0
    · exact h1
    )
    (by kernel_rfl) (by kernel_rfl) 4 Tryz.underlying4 (by kernel_rfl) rfl (by kernel_rfl)
    (fun ds h => match ds, h with | [d0, d1], _ => rfl) contract
theorem over : Rows.replayCompactsRow.holds Tryz.pinned (OpenSpec.ofChange Rows.replayCompactsSpec) :=
  OpenClaim.holds_of_wide 3 Tryz.f3 rfl rfl rfl rfl rfl rfl rfl ⟨rfl, rfl, rfl, rfl, rfl⟩ rfl rfl rfl rfl rfl (by kernel_rfl) Tryz.func3 (by kernel_rfl)
    (of_decide_eq_true (by kernel_rfl)) (by unfold Func.isWrapper; first | (rw [if_pos (by decide +kernel)]; kernel_rfl) | (rw [if_neg (by decide +kernel)]; exact ⟨rfl, rfl⟩))
    (fun os started H enc _ => lifted os started H enc)
theorem card : Claim7.holds Tryz.pinned (.plain (OpenSpec.ofChange Rows.replayCompactsSpec)) Rows.replayCompactsCard :=
  Claim7.holds_tied_plain_at .later [] [.data, .data, .data, .data, .sentinel, .sentinel, .pinned] true (true, "415ec45711f5375bc703a4e640d5fcda47c9796c621b0b2b0704a4f1c63d4995") true
    over (fun _ h => by cases h) (by kernel_rfl) (fun _ h => by cases h) replayCompacts_row_tie rfl ⟨rfl, rfl⟩ (by kernel_rfl) rfl
    (fun f fn hf hfn => by
      obtain rfl : f = 3 := Option.some.inj ((show Tryz.prog.funcNamed "skyway/skywaykeep4.ReplayCompacts" = some 3 by kernel_rfl).symm.trans hf) |>.symm
      obtain rfl : fn = Tryz.f3 := (Option.some.inj (Tryz.func3.symm.trans hfn)).symm
      exact ⟨by kernel_rfl, fun j t ht => by
        have hp : Tryz.f3.params = #[22, 3] := rfl
        rw [hp] at ht
        have hm : t ∈ [22, 3] := by simpa using Array.mem_of_getElem? ht
        have hall : ([22, 3].all fun u => !Tryz.prog.wantsStandIn u) = true := by kernel_rfl
        exact (show Tryz.prog.wantsStandIn t = false by simpa using List.all_eq_true.1 hall t hm)⟩)
    (by kernel_rfl)
end Go.Proofs.YtodbcbojkfndiaaGreatDoorA.LReplayCompacts
namespace Go.Proofs.YtodbcbojkfndiaaGreatDoor
/-- The statement, under a short name, for the claim. -/
theorem replayCompacts_holds : Rows.ReplayCompactsCardSaid := Go.Proofs.YtodbcbojkfndiaaGreatDoorA.LReplayCompacts.card
end Go.Proofs.YtodbcbojkfndiaaGreatDoor
#print axioms Go.Proofs.YtodbcbojkfndiaaGreatDoor.replayCompacts_holds
