/- ReplayNotes: for every list of rows and every list of entries the law is true. No condition. -/
import Derived.Test.YtodbcbojkfndiaaDoorRows
import Derived.Test.YtodbcbojkfndiaaDoorCards
import Derived.Test.YtodbcbojkfndiaaDoorTie
import Derived.Test.YtodbcbojkfndiaaDoorFrD
import Derived.Test.YtodbcbojkfndiaaDoorRpF
import Derived.Test.YtodbcbojkfndiaaDoorRep4
import Derived.ProofKit
import Derived.SevenTiedAt
import Derived.Lay
set_option linter.unusedVariables false
set_option linter.unusedSimpArgs false
namespace Go.Proofs.YtodbcbojkfndiaaDoorA.LReplayNotes
open Go Go.Proofs.YtodbcbojkfndiaaDoor
theorem shp22 : shape P 8 22 = some (.sl (.cons .str (.cons .str .unit)) 2 32) := by kernel_rfl
theorem shp23 : shape P 8 23 = some (.sl (.cons (.int .i64) (.cons (.int .i64) (.cons .str (.cons .str .unit)))) 4 48) := by kernel_rfl
def okG (gs0 : List (Nat × List Value)) : Prop := ∃ e0 e1, okE e0 ∧ okE e1 ∧ gs0 = [(5, p10T), (3, [e0]), (4, [e1])]
theorem erow (u : TypeId) (h : Tryd.prog.typeName? 3 u = some "*errors.errorString") : u = 123 :=
  typeName_ptr_named (nm := "errors.errorString") (by rw [show "*" ++ "errors.errorString" = "*errors.errorString" by decide]; kernel_rfl) (by kernel_rfl) (by decide) u (by rw [show "*" ++ "errors.errorString" = "*errors.errorString" by decide]; exact h)
theorem contract : ∀ gs0, okG gs0 → ∀ ls, Tys [(.sl (.cons .str (.cons .str .unit)) 2 32), (.sl (.cons (.int .i64) (.cons (.int .i64) (.cons .str (.cons .str .unit)))) 4 48)] ls → AC P 6 (argsOf [(.sl (.cons .str (.cons .str .unit)) 2 32), (.sl (.cons (.int .i64) (.cons (.int .i64) (.cons .str (.cons .str .unit)))) 4 48)] ls) (globHp gs0) (fun r _ => r = .d (.bool true)) := by
  rintro _ ⟨e0, e1, o0, o1, rfl⟩ ls h
  obtain ⟨l1, _, rfl, h1, l2, _, rfl, h2, rfl⟩ := h
  obtain ⟨l, rfl, hL, hz⟩ := Ty.rowsP SR.enc (fun x : SR => x.key.size ≤ 140737488351232 ∧ x.val.size ≤ 140737488351232) h1 fun r hr => by
    obtain ⟨q1, _, rfl, ⟨s, rfl, hs⟩, q2, _, rfl, ⟨f, rfl, hf⟩, rfl⟩ := hr; exact ⟨⟨s, f⟩, rfl, hs, hf⟩
  have hR : reachBytes = 140737488351232 := rfl
  have hz2 : szR l := fun x hx => ⟨Nat.le_trans (hz x hx).1 (by decide), Nat.le_trans (hz x hx).2 (by decide)⟩
  obtain ⟨es, rfl, hE, hx⟩ := Ty.rowsP EN.enc (fun x : EN => x.kind.size ≤ 140737488351232 ∧ x.text.size ≤ 140737488351232) h2 fun r hr => by
    obtain ⟨_, _, rfl, ⟨n1, rfl, _⟩, _, _, rfl, ⟨n2, rfl, _⟩, _, _, rfl, ⟨s1, rfl, hs1⟩, _, _, rfl, ⟨s2, rfl, hs2⟩, rfl⟩ := hr; exact ⟨⟨n1, n2, s1, s2⟩, rfl, hs1, hs2⟩
  have hx2 : szE es := fun x hx' => ⟨Nat.le_trans (hx x hx').1 (by decide), Nat.le_trans (hx x hx').2 (by decide)⟩
  exact notes_c l es 0 1 2 e0 e1 o0 o1 [] (by omega) hz2 hx2
theorem own : ownKnob Tryd.prog.godebug = none := by kernel_rfl
noncomputable abbrev laid : List (String × DataW Unit) := Rows.replayNotesRow.laid
set_option maxRecDepth 100000 in
theorem lifted (os : Os) (started : os.Started) (H : Type) (enc : TypeId × Value → H) :
    ReturnsInHanded {} Tryd.checked os 6 .any (fun w args => (Rows.replayNotesSpec.pre enc Tryd.prog Tryd.f6 [] false w args ∧ laidMetH Tryd.prog laid w) ∧ sizedMet enc Tryd.prog Tryd.f6 (OpenSpec.ofChange Rows.replayNotesSpec) false w args) (Rows.replayNotesSpec.post enc Tryd.prog Tryd.f6 false true false false) :=
  lawG2 (C := Tryd.checked) laid 8 [(.sl (.cons .str (.cons .str .unit)) 2 32), (.sl (.cons (.int .i64) (.cons (.int .i64) (.cons .str (.cons .str .unit)))) 4 48)] okG own started (by kernel_rfl) Tryd.func6
    (laid_witness (C := Tryd.checked) (fn := Tryd.f6) (f := 6) (s := Rows.replayNotesSpec) laid #[.slice none 0 0, .slice none 0 0] 8 (by kernel_rfl) (World.shaped_of_ZipB (by kernel_rfl) (by kernel_rfl)) (by kernel_rfl) (by kernel_rfl) (by kernel_rfl) (by kernel_rfl) (by kernel_rfl))
    (fun W h => by
    obtain ⟨e0, o0, h0⟩ := laid_err (f := _) (hpl := by kernel_rfl) (h := h) (name := "strconv.ErrSyntax") (hm := rfl) (hg := by kernel_rfl) (ht := by kernel_rfl) (hi := Tryd.underlying77) (hrow := erow) (hp := Tryd.underlying123) (he := Tryd.underlying125) (hft := rfl) (hfo := rfl) (hs := Tryd.underlying9) (hc := by kernel_rfl) (hcs := by kernel_rfl)
    obtain ⟨e1, o1, h1⟩ := laid_err (f := _) (hpl := by kernel_rfl) (h := h) (name := "strconv.ErrRange") (hm := rfl) (hg := by kernel_rfl) (ht := by kernel_rfl) (hi := Tryd.underlying77) (hrow := erow) (hp := Tryd.underlying123) (he := Tryd.underlying125) (hft := rfl) (hfo := rfl) (hs := Tryd.underlying9) (hc := by kernel_rfl) (hcs := by kernel_rfl)
    refine ⟨_, ⟨e0, e1, o0, o1, rfl⟩, fun p hp => ?_⟩
    simp only [List.mem_cons, List.mem_nil_iff, or_false] at hp
    rcases hp with rfl | rfl | rfl
    · exact laid_tab (t := 117) (e := 100) (n := 20) (k := .u64) (zs := Lib.pow10Tab) (name := "internal/strconv.uint64pow10") (d := Rows.laid_internal_strconv_uint64pow10) (by kernel_rfl) h rfl rfl (by kernel_rfl) (by kernel_rfl) (by kernel_rfl) (by kernel_rfl) (by kernel_rfl) (by kernel_rfl) 
    · exact h0
    · exact h1
    )
    (by kernel_rfl) (by kernel_rfl) 4 Tryd.underlying4 (by kernel_rfl) rfl (by kernel_rfl)
    (fun ds h => match ds, h with | [d0, d1], _ => rfl) contract
theorem over : Rows.replayNotesRow.holds Tryd.pinned (OpenSpec.ofChange Rows.replayNotesSpec) :=
  OpenClaim.holds_of_wide 6 Tryd.f6 rfl rfl rfl rfl rfl rfl rfl ⟨rfl, rfl, rfl, rfl, rfl⟩ rfl rfl rfl rfl rfl (by kernel_rfl) Tryd.func6 (by kernel_rfl)
    (of_decide_eq_true (by kernel_rfl)) (by unfold Func.isWrapper; first | (rw [if_pos (by decide +kernel)]; kernel_rfl) | (rw [if_neg (by decide +kernel)]; exact ⟨rfl, rfl⟩))
    (fun os started H enc _ => lifted os started H enc)
theorem card : Claim7.holds Tryd.pinned (.plain (OpenSpec.ofChange Rows.replayNotesSpec)) Rows.replayNotesCard :=
  Claim7.holds_tied_plain_at .later [] [.data, .data, .data, .data, .sentinel, .sentinel, .pinned] true (true, "55c48d7af79f81507494c2637afa3c27c5a78d6b2e18ba58c6462eff042d152b") true
    over (fun _ h => by cases h) (by kernel_rfl) (fun _ h => by cases h) replayNotes_row_tie rfl ⟨rfl, rfl⟩ (by kernel_rfl) rfl
    (fun f fn hf hfn => by
      obtain rfl : f = 6 := Option.some.inj ((show Tryd.prog.funcNamed "skyway/skywaykeep4.ReplayNotes" = some 6 by kernel_rfl).symm.trans hf) |>.symm
      obtain rfl : fn = Tryd.f6 := (Option.some.inj (Tryd.func6.symm.trans hfn)).symm
      exact ⟨by kernel_rfl, fun j t ht => by
        have hp : Tryd.f6.params = #[22, 23] := rfl
        rw [hp] at ht
        have hm : t ∈ [22, 23] := by simpa using Array.mem_of_getElem? ht
        have hall : ([22, 23].all fun u => !Tryd.prog.wantsStandIn u) = true := by kernel_rfl
        exact (show Tryd.prog.wantsStandIn t = false by simpa using List.all_eq_true.1 hall t hm)⟩)
    (by kernel_rfl)
end Go.Proofs.YtodbcbojkfndiaaDoorA.LReplayNotes
namespace Go.Proofs.YtodbcbojkfndiaaDoor
/-- The statement, under a short name, for the claim. -/
theorem replayNotes_holds : Rows.ReplayNotesCardSaid := Go.Proofs.YtodbcbojkfndiaaDoorA.LReplayNotes.card
end Go.Proofs.YtodbcbojkfndiaaDoor
#print axioms Go.Proofs.YtodbcbojkfndiaaDoor.replayNotes_holds
