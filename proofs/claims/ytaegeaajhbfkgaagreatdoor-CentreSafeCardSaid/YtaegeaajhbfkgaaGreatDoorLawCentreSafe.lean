/- CentreSafe: for every setup and every list of inputs the law is true. No condition. -/
import Derived.Test.YtaegeaajhbfkgaaGreatDoorRows
import Derived.Test.YtaegeaajhbfkgaaGreatDoorCards
import Derived.Test.YtaegeaajhbfkgaaGreatDoorTie
import Derived.Test.YtaegeaajhbfkgaaGreatDoorFrD
import Derived.Test.YtaegeaajhbfkgaaGreatDoorCe3
import Derived.Test.YtaegeaajhbfkgaaGreatDoorCenL
import Derived.ProofKit
import Derived.SevenTiedAt
import Derived.Lay
set_option linter.unusedVariables false
set_option linter.unusedSimpArgs false
namespace Go.Proofs.YtaegeaajhbfkgaaGreatDoorA.LCentreSafe
open Go Go.Proofs.YtaegeaajhbfkgaaGreatDoor
theorem shp27 : shape P 8 27 = some (.cons (.cons (.int .i64) (.cons (.int .i64) .unit)) (.cons (.cons (.cons (.int .i64) (.cons (.int .i64) (.cons (.int .i64) (.cons (.int .i64) .unit)))) (.cons (.cons (.int .i64) (.cons (.int .i64) (.cons (.int .i64) (.cons (.int .i64) .unit)))) (.cons (.cons (.int .i64) (.cons (.int .i64) (.cons (.int .i64) (.cons (.int .i64) .unit)))) (.cons (.cons (.int .i64) (.cons (.int .i64) (.cons (.int .i64) (.cons (.int .i64) .unit)))) .unit)))) .unit)) := by kernel_rfl
theorem shp28 : shape P 8 28 = some (.sl (.cons (.int .i64) (.cons (.int .i64) (.cons .str (.cons .str (.cons .str (.cons (.sl (.cons (.cons (.int .i64) (.cons (.cons (.int .i64) (.cons (.int .i64) .unit)) (.cons (.int .i64) .unit))) (.cons (.int .i64) (.cons (.int .i64) .unit))) 6 48) (.cons (.int .i64) (.cons (.int .i64) (.cons .bool .unit))))))))) 9 112) := by kernel_rfl
theorem contract : ∀ ls, Tys [(.cons (.cons (.int .i64) (.cons (.int .i64) .unit)) (.cons (.cons (.cons (.int .i64) (.cons (.int .i64) (.cons (.int .i64) (.cons (.int .i64) .unit)))) (.cons (.cons (.int .i64) (.cons (.int .i64) (.cons (.int .i64) (.cons (.int .i64) .unit)))) (.cons (.cons (.int .i64) (.cons (.int .i64) (.cons (.int .i64) (.cons (.int .i64) .unit)))) (.cons (.cons (.int .i64) (.cons (.int .i64) (.cons (.int .i64) (.cons (.int .i64) .unit)))) .unit)))) .unit)), (.sl (.cons (.int .i64) (.cons (.int .i64) (.cons .str (.cons .str (.cons .str (.cons (.sl (.cons (.cons (.int .i64) (.cons (.cons (.int .i64) (.cons (.int .i64) .unit)) (.cons (.int .i64) .unit))) (.cons (.int .i64) (.cons (.int .i64) .unit))) 6 48) (.cons (.int .i64) (.cons (.int .i64) (.cons .bool .unit))))))))) 9 112)] ls → AC P 6 (argsOf [(.cons (.cons (.int .i64) (.cons (.int .i64) .unit)) (.cons (.cons (.cons (.int .i64) (.cons (.int .i64) (.cons (.int .i64) (.cons (.int .i64) .unit)))) (.cons (.cons (.int .i64) (.cons (.int .i64) (.cons (.int .i64) (.cons (.int .i64) .unit)))) (.cons (.cons (.int .i64) (.cons (.int .i64) (.cons (.int .i64) (.cons (.int .i64) .unit)))) (.cons (.cons (.int .i64) (.cons (.int .i64) (.cons (.int .i64) (.cons (.int .i64) .unit)))) .unit)))) .unit)), (.sl (.cons (.int .i64) (.cons (.int .i64) (.cons .str (.cons .str (.cons .str (.cons (.sl (.cons (.cons (.int .i64) (.cons (.cons (.int .i64) (.cons (.int .i64) .unit)) (.cons (.int .i64) .unit))) (.cons (.int .i64) (.cons (.int .i64) .unit))) 6 48) (.cons (.int .i64) (.cons (.int .i64) (.cons .bool .unit))))))))) 9 112)] ls) (globHp [(0, kiT), (3, p10T)]) (fun r _ => r = .d (.bool true)) := by
  intro ls h
  obtain ⟨l1, _, rfl, ⟨_, _, rfl, ⟨_, _, rfl, ⟨lat, rfl, _⟩, _, _, rfl, ⟨ver, rfl, _⟩, rfl⟩, _, _, rfl, ⟨_, _, rfl, ⟨_, _, rfl, ⟨g0, rfl, _⟩, _, _, rfl, ⟨g1, rfl, _⟩, _, _, rfl, ⟨g2, rfl, _⟩, _, _, rfl, ⟨g3, rfl, _⟩, rfl⟩, _, _, rfl, ⟨_, _, rfl, ⟨g4, rfl, _⟩, _, _, rfl, ⟨g5, rfl, _⟩, _, _, rfl, ⟨g6, rfl, _⟩, _, _, rfl, ⟨g7, rfl, _⟩, rfl⟩, _, _, rfl, ⟨_, _, rfl, ⟨g8, rfl, _⟩, _, _, rfl, ⟨g9, rfl, _⟩, _, _, rfl, ⟨g10, rfl, _⟩, _, _, rfl, ⟨g11, rfl, _⟩, rfl⟩, _, _, rfl, ⟨_, _, rfl, ⟨g12, rfl, _⟩, _, _, rfl, ⟨g13, rfl, _⟩, _, _, rfl, ⟨g14, rfl, _⟩, _, _, rfl, ⟨g15, rfl, _⟩, rfl⟩, rfl⟩, rfl⟩, l2, _, rfl, h2, rfl⟩ := h
  have hR : reachBytes = 140737488351232 := rfl
  obtain ⟨xs, rfl, hL, hx⟩ := Ty.rowsP CI.enc CiS h2 fun r hr => by
    obtain ⟨_, _, rfl, ⟨kind, rfl, _⟩, _, _, rfl, ⟨time, rfl, _⟩, _, _, rfl, ⟨c, rfl, hc⟩, _, _, rfl, ⟨y, rfl, hy⟩, _, _, rfl, ⟨o, rfl, ho⟩, _, _, rfl, hT, _, _, rfl, ⟨wake, rfl, _⟩, _, _, rfl, ⟨slot, rfl, _⟩, _, _, rfl, ⟨lands, rfl⟩, rfl⟩ := hr
    obtain ⟨tb, e, hl, _⟩ := Ty.rowsP Nd.enc (fun _ => True) hT fun r hr => by
      obtain ⟨_, _, rfl, ⟨_, _, rfl, ⟨t, rfl, _⟩, _, _, rfl, ⟨_, _, rfl, ⟨x, rfl, _⟩, _, _, rfl, ⟨y, rfl, _⟩, rfl⟩, _, _, rfl, ⟨h, rfl, _⟩, rfl⟩, _, _, rfl, ⟨r, rfl, _⟩, _, _, rfl, ⟨b, rfl, _⟩, rfl⟩ := hr
      exact ⟨⟨t, x, y, h, r, b⟩, rfl, trivial⟩
    exact ⟨⟨kind, time, c, y, o, tb, wake, slot, lands⟩, by rw [e]; rfl, hc, hy, ho, hl⟩
  have hlen : xs.length ≤ 4611686018427387904 := by omega
  exact safe_c ⟨lat, ver, fun i => [g0, g1, g2, g3, g4, g5, g6, g7, g8, g9, g10, g11, g12, g13, g14, g15].getD i 0⟩ xs 0 1 [] hx hlen
theorem own : ownKnob Tryz.prog.godebug = none := by kernel_rfl
noncomputable abbrev laid : List (String × DataW Unit) := Rows.centreSafeRow.laid
set_option maxRecDepth 100000 in
theorem lifted (os : Os) (started : os.Started) (H : Type) (enc : TypeId × Value → H) :
    ReturnsInHanded {} Tryz.checked os 6 .any (fun w args => (Rows.centreSafeSpec.pre enc Tryz.prog Tryz.f6 [] false w args ∧ laidMetH Tryz.prog laid w) ∧ sizedMet enc Tryz.prog Tryz.f6 (OpenSpec.ofChange Rows.centreSafeSpec) false w args) (Rows.centreSafeSpec.post enc Tryz.prog Tryz.f6 false true false false) :=
  lawG (C := Tryz.checked) laid 8 [(.cons (.cons (.int .i64) (.cons (.int .i64) .unit)) (.cons (.cons (.cons (.int .i64) (.cons (.int .i64) (.cons (.int .i64) (.cons (.int .i64) .unit)))) (.cons (.cons (.int .i64) (.cons (.int .i64) (.cons (.int .i64) (.cons (.int .i64) .unit)))) (.cons (.cons (.int .i64) (.cons (.int .i64) (.cons (.int .i64) (.cons (.int .i64) .unit)))) (.cons (.cons (.int .i64) (.cons (.int .i64) (.cons (.int .i64) (.cons (.int .i64) .unit)))) .unit)))) .unit)), (.sl (.cons (.int .i64) (.cons (.int .i64) (.cons .str (.cons .str (.cons .str (.cons (.sl (.cons (.cons (.int .i64) (.cons (.cons (.int .i64) (.cons (.int .i64) .unit)) (.cons (.int .i64) .unit))) (.cons (.int .i64) (.cons (.int .i64) .unit))) 6 48) (.cons (.int .i64) (.cons (.int .i64) (.cons .bool .unit))))))))) 9 112)] [(0, kiT), (3, p10T)] own started (by kernel_rfl) Tryz.func6
    (laid_witness (C := Tryz.checked) (fn := Tryz.f6) (f := 6) (s := Rows.centreSafeSpec) laid #[.agg #[.int .i64 0, .int .i64 0, .int .i64 0, .int .i64 0, .int .i64 0, .int .i64 0, .int .i64 0, .int .i64 0, .int .i64 0, .int .i64 0, .int .i64 0, .int .i64 0, .int .i64 0, .int .i64 0, .int .i64 0, .int .i64 0, .int .i64 0, .int .i64 0], .slice none 0 0] 24 (by kernel_rfl) (World.shaped_of_ZipB (by kernel_rfl) (by kernel_rfl)) (by kernel_rfl) (by kernel_rfl) (by kernel_rfl) (by kernel_rfl) (by kernel_rfl))
    (fun W h p hp => by
    simp only [List.mem_cons, List.mem_nil_iff, or_false] at hp
    rcases hp with rfl | rfl
    · exact laid_tabS (t := 106) (e := 9) (n := 7) (ss := kindsL) (name := "skyway/centre.kinds") (d := Rows.laid_skyway_centre_kinds) (by kernel_rfl) h rfl rfl (by kernel_rfl) (by kernel_rfl) (by kernel_rfl) (by kernel_rfl) (by kernel_rfl) (by kernel_rfl) 
    · exact laid_tab (t := 192) (e := 185) (n := 20) (k := .u64) (zs := Lib.pow10Tab) (name := "internal/strconv.uint64pow10") (d := Rows.laid_internal_strconv_uint64pow10) (by kernel_rfl) h rfl rfl (by kernel_rfl) (by kernel_rfl) (by kernel_rfl) (by kernel_rfl) (by kernel_rfl) (by kernel_rfl) 
    )
    (by kernel_rfl) (by kernel_rfl) 4 Tryz.underlying4 (by kernel_rfl) rfl (by kernel_rfl)
    (fun ds h => match ds, h with | [d0, d1], _ => rfl) contract
theorem over : Rows.centreSafeRow.holds Tryz.pinned (OpenSpec.ofChange Rows.centreSafeSpec) :=
  OpenClaim.holds_of_wide 6 Tryz.f6 rfl rfl rfl rfl rfl rfl rfl ⟨rfl, rfl, rfl, rfl, rfl⟩ rfl rfl rfl rfl rfl (by kernel_rfl) Tryz.func6 (by kernel_rfl)
    (of_decide_eq_true (by kernel_rfl)) (by unfold Func.isWrapper; first | (rw [if_pos (by decide +kernel)]; kernel_rfl) | (rw [if_neg (by decide +kernel)]; exact ⟨rfl, rfl⟩))
    (fun os started H enc _ => lifted os started H enc)
theorem card : Claim7.holds Tryz.pinned (.plain (OpenSpec.ofChange Rows.centreSafeSpec)) Rows.centreSafeCard :=
  Claim7.holds_tied_plain_at .later [] [.data, .data, .data, .data, .data, .pinned] true (true, "b04f4bc368db86cd971aec41a7157e911366481ce75ba95dee482ec0a4a43df3") false
    over (fun _ h => by cases h) (by kernel_rfl) (fun _ h => by cases h) centreSafe_row_tie rfl ⟨rfl, rfl⟩ (by kernel_rfl) rfl
    (fun f fn hf hfn => by
      obtain rfl : f = 6 := Option.some.inj ((show Tryz.prog.funcNamed "skyway/skywaykeep4.CentreSafe" = some 6 by kernel_rfl).symm.trans hf) |>.symm
      obtain rfl : fn = Tryz.f6 := (Option.some.inj (Tryz.func6.symm.trans hfn)).symm
      exact ⟨by kernel_rfl, fun j t ht => by
        have hp : Tryz.f6.params = #[27, 28] := rfl
        rw [hp] at ht
        have hm : t ∈ [27, 28] := by simpa using Array.mem_of_getElem? ht
        have hall : ([27, 28].all fun u => !Tryz.prog.wantsStandIn u) = true := by kernel_rfl
        exact (show Tryz.prog.wantsStandIn t = false by simpa using List.all_eq_true.1 hall t hm)⟩)
    (by kernel_rfl)
end Go.Proofs.YtaegeaajhbfkgaaGreatDoorA.LCentreSafe
namespace Go.Proofs.YtaegeaajhbfkgaaGreatDoor
/-- The statement, under a short name, for the claim. -/
theorem centreSafe_holds : Rows.CentreSafeCardSaid := Go.Proofs.YtaegeaajhbfkgaaGreatDoorA.LCentreSafe.card
end Go.Proofs.YtaegeaajhbfkgaaGreatDoor
#print axioms Go.Proofs.YtaegeaajhbfkgaaGreatDoor.centreSafe_holds
