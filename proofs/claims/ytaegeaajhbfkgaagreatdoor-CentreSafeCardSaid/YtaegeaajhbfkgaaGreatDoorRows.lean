/-
  NARROWER THAN 'FOR EVERY INPUT', by the rows' own cells (each row's printed sentence says how): CentreLands: laid · CentreJoins: laid · CentreOwned: laid · CentreSafe: laid · CentreRepeats: laid · CentreRefuses: laid · CentreShifted: laid · CentreDelayed: laid.
  DERIVED. THE GIVEN ROWS OF THIS SEAT. 8 by the template 'for every input the law returns true; each argument reads behind the call as it read before'; 0 by the template 'total and deterministic' (their statements: YtaegeaajhbfkgaaGreatDoorTotals.lean).
  GIVEN WITH THE SEED: the statements are not yours to turn. If you find one false, say at which input.
  Laid BY PROGRAM, IN A SANDBOX (cutbox-rows.mjs): the forced cells as the released guide's own fill.sh prints them over the translation 1513a7703c843f11… (all of the seat's roots in one cut). By AI agents, Wed Nov 11 2026. No macro, syntax, notation, axiom, sorry.
-/
import Derived.Test.YtaegeaajhbfkgaaGreatDoorChecked
import GoSem.PinnedTables
import GoSem.Claim
import GoSem.ClaimJoined
import GoSem.ClaimMapViews
import Derived.JoinedTies
import Derived.KernelRfl
namespace Go.Proofs.YtaegeaajhbfkgaaGreatDoor
/- THE CELL 'sum', in the pinned program and in every row, IS THE sha256 OF THE DUMP (.gsa) THAT YtaegeaajhbfkgaaGreatDoorProg.lean LOADS. Nothing in Lean hashes anything: it is a label: what it is worth is what the hold of that sum in a sandbox is worth. -/
noncomputable def Tryz.pinned : Pinned := { name := "ytaegeaajhbfkgaagreatdoor", sum := "1513a7703c843f113f60f6a42edb5ceda49719e625399b1b5eca91e62c2451b0", checked := Tryz.checked }
namespace Rows
def none {H : Type} : Left H := { results := [], args := [] }

/- WHAT THE LISTED PACKAGE-LEVEL VARIABLES READ AS WHEN THE CALL BEGINS. Each datum BY PROGRAM (the guide's laid-datum.mjs) off the statement by which the dump's own 'gosem.cut.vars' lays the variable. In a bare row this is a premise. The card (YtaegeaajhbfkgaaGreatDoorCards.lean) ties it to the program's text. -/
def laid_math_bits_deBruijn32tab {H : Type} : DataW H := .agg [.lit (.int .u8 0), .lit (.int .u8 1), .lit (.int .u8 28), .lit (.int .u8 2), .lit (.int .u8 29), .lit (.int .u8 14), .lit (.int .u8 24), .lit (.int .u8 3), .lit (.int .u8 30), .lit (.int .u8 22), .lit (.int .u8 20), .lit (.int .u8 15), .lit (.int .u8 25), .lit (.int .u8 17), .lit (.int .u8 4), .lit (.int .u8 8), .lit (.int .u8 31), .lit (.int .u8 27), .lit (.int .u8 13), .lit (.int .u8 23), .lit (.int .u8 21), .lit (.int .u8 19), .lit (.int .u8 16), .lit (.int .u8 7), .lit (.int .u8 26), .lit (.int .u8 12), .lit (.int .u8 18), .lit (.int .u8 6), .lit (.int .u8 11), .lit (.int .u8 5), .lit (.int .u8 10), .lit (.int .u8 9)]
def laid_math_bits_deBruijn64tab {H : Type} : DataW H := .agg [.lit (.int .u8 0), .lit (.int .u8 1), .lit (.int .u8 56), .lit (.int .u8 2), .lit (.int .u8 57), .lit (.int .u8 49), .lit (.int .u8 28), .lit (.int .u8 3), .lit (.int .u8 61), .lit (.int .u8 58), .lit (.int .u8 42), .lit (.int .u8 50), .lit (.int .u8 38), .lit (.int .u8 29), .lit (.int .u8 17), .lit (.int .u8 4), .lit (.int .u8 62), .lit (.int .u8 47), .lit (.int .u8 59), .lit (.int .u8 36), .lit (.int .u8 45), .lit (.int .u8 43), .lit (.int .u8 51), .lit (.int .u8 22), .lit (.int .u8 53), .lit (.int .u8 39), .lit (.int .u8 33), .lit (.int .u8 30), .lit (.int .u8 24), .lit (.int .u8 18), .lit (.int .u8 12), .lit (.int .u8 5), .lit (.int .u8 63), .lit (.int .u8 55), .lit (.int .u8 48), .lit (.int .u8 27), .lit (.int .u8 60), .lit (.int .u8 41), .lit (.int .u8 37), .lit (.int .u8 16), .lit (.int .u8 46), .lit (.int .u8 35), .lit (.int .u8 44), .lit (.int .u8 21), .lit (.int .u8 52), .lit (.int .u8 32), .lit (.int .u8 23), .lit (.int .u8 11), .lit (.int .u8 54), .lit (.int .u8 26), .lit (.int .u8 40), .lit (.int .u8 15), .lit (.int .u8 34), .lit (.int .u8 20), .lit (.int .u8 31), .lit (.int .u8 10), .lit (.int .u8 25), .lit (.int .u8 14), .lit (.int .u8 19), .lit (.int .u8 9), .lit (.int .u8 13), .lit (.int .u8 8), .lit (.int .u8 7), .lit (.int .u8 6)]
def laid_internal_strconv_uint64pow10 {H : Type} : DataW H := .agg [.lit (.int .u64 1), .lit (.int .u64 10), .lit (.int .u64 100), .lit (.int .u64 1000), .lit (.int .u64 10000), .lit (.int .u64 100000), .lit (.int .u64 1000000), .lit (.int .u64 10000000), .lit (.int .u64 100000000), .lit (.int .u64 1000000000), .lit (.int .u64 10000000000), .lit (.int .u64 100000000000), .lit (.int .u64 1000000000000), .lit (.int .u64 10000000000000), .lit (.int .u64 100000000000000), .lit (.int .u64 1000000000000000), .lit (.int .u64 10000000000000000), .lit (.int .u64 100000000000000000), .lit (.int .u64 1000000000000000000), .lit (.int .u64 10000000000000000000)]
def laid_unicode_utf8_acceptRanges {H : Type} : DataW H := .agg [.agg [.lit (.int .u8 128), .lit (.int .u8 191)], .agg [.lit (.int .u8 160), .lit (.int .u8 191)], .agg [.lit (.int .u8 128), .lit (.int .u8 159)], .agg [.lit (.int .u8 144), .lit (.int .u8 191)], .agg [.lit (.int .u8 128), .lit (.int .u8 143)], .agg [.lit (.int .u8 0), .lit (.int .u8 0)], .agg [.lit (.int .u8 0), .lit (.int .u8 0)], .agg [.lit (.int .u8 0), .lit (.int .u8 0)], .agg [.lit (.int .u8 0), .lit (.int .u8 0)], .agg [.lit (.int .u8 0), .lit (.int .u8 0)], .agg [.lit (.int .u8 0), .lit (.int .u8 0)], .agg [.lit (.int .u8 0), .lit (.int .u8 0)], .agg [.lit (.int .u8 0), .lit (.int .u8 0)], .agg [.lit (.int .u8 0), .lit (.int .u8 0)], .agg [.lit (.int .u8 0), .lit (.int .u8 0)], .agg [.lit (.int .u8 0), .lit (.int .u8 0)]]
def laid_skyway_centre_kinds {H : Type} : DataW H := .agg [.lit (.string [102, 105, 108, 101]), .lit (.string [111, 102, 102, 101, 114]), .lit (.string [97, 99, 99, 101, 112, 116]), .lit (.string [99, 108, 101, 97, 114]), .lit (.string [104, 101, 97, 114]), .lit (.string [114, 101, 102, 117, 115, 101]), .lit (.string [101, 110, 100])]
/-- One of Go's own tables, pinned by name: the form's constant. -/
def laid_unicode_utf8_first : DataW Unit := Go.Pinned.utf8First

/-- 'skywaykeep4.CentreLands': WHATEVER THE INPUT: true; the input reads as it did. -/
def centreLandsSpec : ChangeSpec := { name := "centreLands", fn := fun _ => fun
  | [d1, d2] => { results := [.lit (.bool true)], args := [d1, d2] }
  | _ => none }
def centreLandsRow : OpenClaim := { program := "ytaegeaajhbfkgaagreatdoor", sum := "1513a7703c843f113f60f6a42edb5ceda49719e625399b1b5eca91e62c2451b0", func := "skyway/skywaykeep4.CentreLands", spec := "centreLands", inPlace := ["internal/bytealg.abigen_runtime_cmpstring", "slices.overlaps[skyway/api.OwnerEntry]", "math.sqrt", "slices.overlaps[skyway/api.CentreFlight]", "internal/bytealg.IndexByteString", "internal/bytealg.IndexString"], unfollowed := true, recurses := true, named := ["skyway/centre.kinds", "unicode/utf8.first", "unicode/utf8.acceptRanges", "internal/strconv.uint64pow10", "math/bits.deBruijn32tab", "math/bits.deBruijn64tab", "internal/bytealg.MaxLen"], apart := false, laid := [("math/bits.deBruijn32tab", laid_math_bits_deBruijn32tab), ("math/bits.deBruijn64tab", laid_math_bits_deBruijn64tab), ("internal/strconv.uint64pow10", laid_internal_strconv_uint64pow10), ("unicode/utf8.acceptRanges", laid_unicode_utf8_acceptRanges), ("skyway/centre.kinds", laid_skyway_centre_kinds), ("unicode/utf8.first", laid_unicode_utf8_first)] }
def CentreLandsSaid : Prop := centreLandsRow.holds Tryz.pinned (OpenSpec.ofChange centreLandsSpec)

/-- ITS FALSE NEIGHBOUR: 'it returns false'. Refute it at one input. -/
def centreLandsWrong : ChangeSpec := { name := "centreLands", fn := fun _ => fun
  | [d1, d2] => { results := [.lit (.bool false)], args := [d1, d2] }
  | _ => none }
def CentreLandsWrongFalsely : Prop := centreLandsRow.holds Tryz.pinned (OpenSpec.ofChange centreLandsWrong)

/-- 'skywaykeep4.CentreJoins': WHATEVER THE INPUT: true; the input reads as it did. -/
def centreJoinsSpec : ChangeSpec := { name := "centreJoins", fn := fun _ => fun
  | [d1, d2] => { results := [.lit (.bool true)], args := [d1, d2] }
  | _ => none }
def centreJoinsRow : OpenClaim := { program := "ytaegeaajhbfkgaagreatdoor", sum := "1513a7703c843f113f60f6a42edb5ceda49719e625399b1b5eca91e62c2451b0", func := "skyway/skywaykeep4.CentreJoins", spec := "centreJoins", inPlace := ["internal/bytealg.abigen_runtime_cmpstring", "slices.overlaps[skyway/api.OwnerEntry]", "math.sqrt", "slices.overlaps[skyway/api.CentreFlight]", "internal/bytealg.IndexByteString", "internal/bytealg.IndexString"], unfollowed := true, recurses := true, named := ["skyway/centre.kinds", "unicode/utf8.first", "unicode/utf8.acceptRanges", "internal/strconv.uint64pow10", "math/bits.deBruijn32tab", "math/bits.deBruijn64tab", "internal/bytealg.MaxLen"], apart := false, laid := [("math/bits.deBruijn32tab", laid_math_bits_deBruijn32tab), ("math/bits.deBruijn64tab", laid_math_bits_deBruijn64tab), ("internal/strconv.uint64pow10", laid_internal_strconv_uint64pow10), ("unicode/utf8.acceptRanges", laid_unicode_utf8_acceptRanges), ("skyway/centre.kinds", laid_skyway_centre_kinds), ("unicode/utf8.first", laid_unicode_utf8_first)] }
def CentreJoinsSaid : Prop := centreJoinsRow.holds Tryz.pinned (OpenSpec.ofChange centreJoinsSpec)

/-- ITS FALSE NEIGHBOUR: 'it returns false'. Refute it at one input. -/
def centreJoinsWrong : ChangeSpec := { name := "centreJoins", fn := fun _ => fun
  | [d1, d2] => { results := [.lit (.bool false)], args := [d1, d2] }
  | _ => none }
def CentreJoinsWrongFalsely : Prop := centreJoinsRow.holds Tryz.pinned (OpenSpec.ofChange centreJoinsWrong)

/-- 'skywaykeep4.CentreOwned': WHATEVER THE INPUT: true; the input reads as it did. -/
def centreOwnedSpec : ChangeSpec := { name := "centreOwned", fn := fun _ => fun
  | [d1, d2] => { results := [.lit (.bool true)], args := [d1, d2] }
  | _ => none }
def centreOwnedRow : OpenClaim := { program := "ytaegeaajhbfkgaagreatdoor", sum := "1513a7703c843f113f60f6a42edb5ceda49719e625399b1b5eca91e62c2451b0", func := "skyway/skywaykeep4.CentreOwned", spec := "centreOwned", inPlace := ["internal/bytealg.abigen_runtime_cmpstring", "slices.overlaps[skyway/api.OwnerEntry]", "math.sqrt", "slices.overlaps[skyway/api.CentreFlight]", "internal/bytealg.IndexByteString", "internal/bytealg.IndexString"], unfollowed := true, recurses := true, named := ["skyway/centre.kinds", "unicode/utf8.first", "unicode/utf8.acceptRanges", "internal/strconv.uint64pow10", "math/bits.deBruijn32tab", "math/bits.deBruijn64tab", "internal/bytealg.MaxLen"], apart := false, laid := [("math/bits.deBruijn32tab", laid_math_bits_deBruijn32tab), ("math/bits.deBruijn64tab", laid_math_bits_deBruijn64tab), ("internal/strconv.uint64pow10", laid_internal_strconv_uint64pow10), ("unicode/utf8.acceptRanges", laid_unicode_utf8_acceptRanges), ("skyway/centre.kinds", laid_skyway_centre_kinds), ("unicode/utf8.first", laid_unicode_utf8_first)] }
def CentreOwnedSaid : Prop := centreOwnedRow.holds Tryz.pinned (OpenSpec.ofChange centreOwnedSpec)

/-- ITS FALSE NEIGHBOUR: 'it returns false'. Refute it at one input. -/
def centreOwnedWrong : ChangeSpec := { name := "centreOwned", fn := fun _ => fun
  | [d1, d2] => { results := [.lit (.bool false)], args := [d1, d2] }
  | _ => none }
def CentreOwnedWrongFalsely : Prop := centreOwnedRow.holds Tryz.pinned (OpenSpec.ofChange centreOwnedWrong)

/-- 'skywaykeep4.CentreSafe': WHATEVER THE INPUT: true; the input reads as it did. -/
def centreSafeSpec : ChangeSpec := { name := "centreSafe", fn := fun _ => fun
  | [d1, d2] => { results := [.lit (.bool true)], args := [d1, d2] }
  | _ => none }
def centreSafeRow : OpenClaim := { program := "ytaegeaajhbfkgaagreatdoor", sum := "1513a7703c843f113f60f6a42edb5ceda49719e625399b1b5eca91e62c2451b0", func := "skyway/skywaykeep4.CentreSafe", spec := "centreSafe", inPlace := ["internal/bytealg.abigen_runtime_cmpstring", "slices.overlaps[skyway/api.OwnerEntry]", "math.sqrt", "slices.overlaps[skyway/api.CentreFlight]", "internal/bytealg.IndexByteString", "internal/bytealg.IndexString"], unfollowed := true, recurses := true, named := ["skyway/centre.kinds", "unicode/utf8.first", "unicode/utf8.acceptRanges", "internal/strconv.uint64pow10", "math/bits.deBruijn32tab", "math/bits.deBruijn64tab", "internal/bytealg.MaxLen"], apart := false, laid := [("math/bits.deBruijn32tab", laid_math_bits_deBruijn32tab), ("math/bits.deBruijn64tab", laid_math_bits_deBruijn64tab), ("internal/strconv.uint64pow10", laid_internal_strconv_uint64pow10), ("unicode/utf8.acceptRanges", laid_unicode_utf8_acceptRanges), ("skyway/centre.kinds", laid_skyway_centre_kinds), ("unicode/utf8.first", laid_unicode_utf8_first)] }
def CentreSafeSaid : Prop := centreSafeRow.holds Tryz.pinned (OpenSpec.ofChange centreSafeSpec)

/-- ITS FALSE NEIGHBOUR: 'it returns false'. Refute it at one input. -/
def centreSafeWrong : ChangeSpec := { name := "centreSafe", fn := fun _ => fun
  | [d1, d2] => { results := [.lit (.bool false)], args := [d1, d2] }
  | _ => none }
def CentreSafeWrongFalsely : Prop := centreSafeRow.holds Tryz.pinned (OpenSpec.ofChange centreSafeWrong)

/-- 'skywaykeep4.CentreRepeats': WHATEVER THE INPUT: true; the input reads as it did. -/
def centreRepeatsSpec : ChangeSpec := { name := "centreRepeats", fn := fun _ => fun
  | [d1, d2] => { results := [.lit (.bool true)], args := [d1, d2] }
  | _ => none }
def centreRepeatsRow : OpenClaim := { program := "ytaegeaajhbfkgaagreatdoor", sum := "1513a7703c843f113f60f6a42edb5ceda49719e625399b1b5eca91e62c2451b0", func := "skyway/skywaykeep4.CentreRepeats", spec := "centreRepeats", inPlace := ["internal/bytealg.abigen_runtime_cmpstring", "slices.overlaps[skyway/api.OwnerEntry]", "math.sqrt", "slices.overlaps[skyway/api.CentreFlight]", "internal/bytealg.IndexByteString", "internal/bytealg.IndexString"], unfollowed := true, recurses := true, named := ["skyway/centre.kinds", "unicode/utf8.first", "unicode/utf8.acceptRanges", "internal/strconv.uint64pow10", "math/bits.deBruijn32tab", "math/bits.deBruijn64tab", "internal/bytealg.MaxLen"], apart := false, laid := [("math/bits.deBruijn32tab", laid_math_bits_deBruijn32tab), ("math/bits.deBruijn64tab", laid_math_bits_deBruijn64tab), ("internal/strconv.uint64pow10", laid_internal_strconv_uint64pow10), ("unicode/utf8.acceptRanges", laid_unicode_utf8_acceptRanges), ("skyway/centre.kinds", laid_skyway_centre_kinds), ("unicode/utf8.first", laid_unicode_utf8_first)] }
def CentreRepeatsSaid : Prop := centreRepeatsRow.holds Tryz.pinned (OpenSpec.ofChange centreRepeatsSpec)

/-- ITS FALSE NEIGHBOUR: 'it returns false'. Refute it at one input. -/
def centreRepeatsWrong : ChangeSpec := { name := "centreRepeats", fn := fun _ => fun
  | [d1, d2] => { results := [.lit (.bool false)], args := [d1, d2] }
  | _ => none }
def CentreRepeatsWrongFalsely : Prop := centreRepeatsRow.holds Tryz.pinned (OpenSpec.ofChange centreRepeatsWrong)

/-- 'skywaykeep4.CentreRefuses': WHATEVER THE INPUT: true; the input reads as it did. -/
def centreRefusesSpec : ChangeSpec := { name := "centreRefuses", fn := fun _ => fun
  | [d1, d2] => { results := [.lit (.bool true)], args := [d1, d2] }
  | _ => none }
def centreRefusesRow : OpenClaim := { program := "ytaegeaajhbfkgaagreatdoor", sum := "1513a7703c843f113f60f6a42edb5ceda49719e625399b1b5eca91e62c2451b0", func := "skyway/skywaykeep4.CentreRefuses", spec := "centreRefuses", inPlace := ["internal/bytealg.abigen_runtime_cmpstring", "slices.overlaps[skyway/api.OwnerEntry]", "math.sqrt", "slices.overlaps[skyway/api.CentreFlight]", "internal/bytealg.IndexByteString", "internal/bytealg.IndexString"], unfollowed := true, recurses := true, named := ["skyway/centre.kinds", "unicode/utf8.first", "unicode/utf8.acceptRanges", "internal/strconv.uint64pow10", "math/bits.deBruijn32tab", "math/bits.deBruijn64tab", "internal/bytealg.MaxLen"], apart := false, laid := [("math/bits.deBruijn32tab", laid_math_bits_deBruijn32tab), ("math/bits.deBruijn64tab", laid_math_bits_deBruijn64tab), ("internal/strconv.uint64pow10", laid_internal_strconv_uint64pow10), ("unicode/utf8.acceptRanges", laid_unicode_utf8_acceptRanges), ("skyway/centre.kinds", laid_skyway_centre_kinds), ("unicode/utf8.first", laid_unicode_utf8_first)] }
def CentreRefusesSaid : Prop := centreRefusesRow.holds Tryz.pinned (OpenSpec.ofChange centreRefusesSpec)

/-- ITS FALSE NEIGHBOUR: 'it returns false'. Refute it at one input. -/
def centreRefusesWrong : ChangeSpec := { name := "centreRefuses", fn := fun _ => fun
  | [d1, d2] => { results := [.lit (.bool false)], args := [d1, d2] }
  | _ => none }
def CentreRefusesWrongFalsely : Prop := centreRefusesRow.holds Tryz.pinned (OpenSpec.ofChange centreRefusesWrong)

/-- 'skywaykeep4.CentreShifted': WHATEVER THE INPUT: true; the input reads as it did. -/
def centreShiftedSpec : ChangeSpec := { name := "centreShifted", fn := fun _ => fun
  | [d1, d2, d3] => { results := [.lit (.bool true)], args := [d1, d2, d3] }
  | _ => none }
def centreShiftedRow : OpenClaim := { program := "ytaegeaajhbfkgaagreatdoor", sum := "1513a7703c843f113f60f6a42edb5ceda49719e625399b1b5eca91e62c2451b0", func := "skyway/skywaykeep4.CentreShifted", spec := "centreShifted", inPlace := ["internal/bytealg.abigen_runtime_cmpstring", "slices.overlaps[skyway/api.OwnerEntry]", "math.sqrt", "slices.overlaps[skyway/api.CentreFlight]", "internal/bytealg.IndexByteString", "internal/bytealg.IndexString"], unfollowed := true, recurses := true, named := ["skyway/centre.kinds", "unicode/utf8.first", "unicode/utf8.acceptRanges", "internal/strconv.uint64pow10", "math/bits.deBruijn32tab", "math/bits.deBruijn64tab", "internal/bytealg.MaxLen"], apart := false, laid := [("math/bits.deBruijn32tab", laid_math_bits_deBruijn32tab), ("math/bits.deBruijn64tab", laid_math_bits_deBruijn64tab), ("internal/strconv.uint64pow10", laid_internal_strconv_uint64pow10), ("unicode/utf8.acceptRanges", laid_unicode_utf8_acceptRanges), ("skyway/centre.kinds", laid_skyway_centre_kinds), ("unicode/utf8.first", laid_unicode_utf8_first)] }
def CentreShiftedSaid : Prop := centreShiftedRow.holds Tryz.pinned (OpenSpec.ofChange centreShiftedSpec)

/-- ITS FALSE NEIGHBOUR: 'it returns false'. Refute it at one input. -/
def centreShiftedWrong : ChangeSpec := { name := "centreShifted", fn := fun _ => fun
  | [d1, d2, d3] => { results := [.lit (.bool false)], args := [d1, d2, d3] }
  | _ => none }
def CentreShiftedWrongFalsely : Prop := centreShiftedRow.holds Tryz.pinned (OpenSpec.ofChange centreShiftedWrong)

/-- 'skywaykeep4.CentreDelayed': WHATEVER THE INPUT: true; the input reads as it did. -/
def centreDelayedSpec : ChangeSpec := { name := "centreDelayed", fn := fun _ => fun
  | [d1, d2, d3] => { results := [.lit (.bool true)], args := [d1, d2, d3] }
  | _ => none }
def centreDelayedRow : OpenClaim := { program := "ytaegeaajhbfkgaagreatdoor", sum := "1513a7703c843f113f60f6a42edb5ceda49719e625399b1b5eca91e62c2451b0", func := "skyway/skywaykeep4.CentreDelayed", spec := "centreDelayed", inPlace := ["internal/bytealg.abigen_runtime_cmpstring", "slices.overlaps[skyway/api.OwnerEntry]", "math.sqrt", "slices.overlaps[skyway/api.CentreFlight]", "internal/bytealg.IndexByteString", "internal/bytealg.IndexString"], unfollowed := true, recurses := true, named := ["skyway/centre.kinds", "unicode/utf8.first", "unicode/utf8.acceptRanges", "internal/strconv.uint64pow10", "math/bits.deBruijn32tab", "math/bits.deBruijn64tab", "internal/bytealg.MaxLen"], apart := false, laid := [("math/bits.deBruijn32tab", laid_math_bits_deBruijn32tab), ("math/bits.deBruijn64tab", laid_math_bits_deBruijn64tab), ("internal/strconv.uint64pow10", laid_internal_strconv_uint64pow10), ("unicode/utf8.acceptRanges", laid_unicode_utf8_acceptRanges), ("skyway/centre.kinds", laid_skyway_centre_kinds), ("unicode/utf8.first", laid_unicode_utf8_first)] }
def CentreDelayedSaid : Prop := centreDelayedRow.holds Tryz.pinned (OpenSpec.ofChange centreDelayedSpec)

/-- ITS FALSE NEIGHBOUR: 'it returns false'. Refute it at one input. -/
def centreDelayedWrong : ChangeSpec := { name := "centreDelayed", fn := fun _ => fun
  | [d1, d2, d3] => { results := [.lit (.bool false)], args := [d1, d2, d3] }
  | _ => none }
def CentreDelayedWrongFalsely : Prop := centreDelayedRow.holds Tryz.pinned (OpenSpec.ofChange centreDelayedWrong)

/- THE SECOND FORM. 'bulk': how many values and letters a reading holds, each counted each time it is reached (what is shared counts as often as it is met; a slice's spare places count too). A statement '..UptoSaid' is the law's where the arguments, and the package variables that the reading takes, are together of bulk at most 1048576: NARROWER than '..Said'. Prove '..Said' where nothing that the law and all that it calls make is longer than what came in: it says more and counts as full. Else prove '..UptoSaid'. A law counts once. -/
mutual
def uptoBulk {H : Type} : DataW H → Nat
  | .lit (.string bytes) => bytes.length + 1
  | .lit _ => 1
  | .nil => 1
  | .ptr d => uptoBulk d + 1
  | .slice elems spare => uptoBulkAll elems + uptoBulkAll spare + 1
  | .agg parts => uptoBulkAll parts + 1
  | .iface _ d => uptoBulk d + 1
  | .map entries => uptoBulkEntries entries + 1
  | .held _ => 1
def uptoBulkAll {H : Type} : List (DataW H) → Nat
  | [] => 0
  | d :: r => uptoBulk d + uptoBulkAll r
def uptoBulkEntries {H : Type} : List (Lit × DataW H) → Nat
  | [] => 0
  | x :: r => uptoBulkEntry x + uptoBulkEntries r
def uptoBulkEntry {H : Type} : Lit × DataW H → Nat
  | (.string bytes, d) => bytes.length + uptoBulk d + 1
  | (_, d) => uptoBulk d + 1
 end
def uptoSmall : (H : Type) → List (DataW H) → Bool := fun _ ds => decide (uptoBulkAll ds ≤ 1048576)
def OpenSpec.upto (s : _root_.Go.ChangeSpec) : _root_.Go.OpenSpec := { _root_.Go.OpenSpec.ofChange s with cond := some uptoSmall }

/-- 'skywaykeep4.CentreLands', WHERE WHAT IT READS IS OF BULK AT MOST 1048576: true; the input reads as it did. -/
def centreLandsUptoRow : OpenClaim := { program := "ytaegeaajhbfkgaagreatdoor", sum := "1513a7703c843f113f60f6a42edb5ceda49719e625399b1b5eca91e62c2451b0", func := "skyway/skywaykeep4.CentreLands", spec := "centreLands", inPlace := ["internal/bytealg.abigen_runtime_cmpstring", "slices.overlaps[skyway/api.OwnerEntry]", "math.sqrt", "slices.overlaps[skyway/api.CentreFlight]", "internal/bytealg.IndexByteString", "internal/bytealg.IndexString"], unfollowed := true, recurses := true, named := ["skyway/centre.kinds", "unicode/utf8.first", "unicode/utf8.acceptRanges", "internal/strconv.uint64pow10", "math/bits.deBruijn32tab", "math/bits.deBruijn64tab", "internal/bytealg.MaxLen"], apart := false, laid := [("math/bits.deBruijn32tab", laid_math_bits_deBruijn32tab), ("math/bits.deBruijn64tab", laid_math_bits_deBruijn64tab), ("internal/strconv.uint64pow10", laid_internal_strconv_uint64pow10), ("unicode/utf8.acceptRanges", laid_unicode_utf8_acceptRanges), ("skyway/centre.kinds", laid_skyway_centre_kinds), ("unicode/utf8.first", laid_unicode_utf8_first)], narrowed := true }
def CentreLandsUptoSaid : Prop := centreLandsUptoRow.holds Tryz.pinned (OpenSpec.upto centreLandsSpec)

/-- 'skywaykeep4.CentreJoins', WHERE WHAT IT READS IS OF BULK AT MOST 1048576: true; the input reads as it did. -/
def centreJoinsUptoRow : OpenClaim := { program := "ytaegeaajhbfkgaagreatdoor", sum := "1513a7703c843f113f60f6a42edb5ceda49719e625399b1b5eca91e62c2451b0", func := "skyway/skywaykeep4.CentreJoins", spec := "centreJoins", inPlace := ["internal/bytealg.abigen_runtime_cmpstring", "slices.overlaps[skyway/api.OwnerEntry]", "math.sqrt", "slices.overlaps[skyway/api.CentreFlight]", "internal/bytealg.IndexByteString", "internal/bytealg.IndexString"], unfollowed := true, recurses := true, named := ["skyway/centre.kinds", "unicode/utf8.first", "unicode/utf8.acceptRanges", "internal/strconv.uint64pow10", "math/bits.deBruijn32tab", "math/bits.deBruijn64tab", "internal/bytealg.MaxLen"], apart := false, laid := [("math/bits.deBruijn32tab", laid_math_bits_deBruijn32tab), ("math/bits.deBruijn64tab", laid_math_bits_deBruijn64tab), ("internal/strconv.uint64pow10", laid_internal_strconv_uint64pow10), ("unicode/utf8.acceptRanges", laid_unicode_utf8_acceptRanges), ("skyway/centre.kinds", laid_skyway_centre_kinds), ("unicode/utf8.first", laid_unicode_utf8_first)], narrowed := true }
def CentreJoinsUptoSaid : Prop := centreJoinsUptoRow.holds Tryz.pinned (OpenSpec.upto centreJoinsSpec)

/-- 'skywaykeep4.CentreOwned', WHERE WHAT IT READS IS OF BULK AT MOST 1048576: true; the input reads as it did. -/
def centreOwnedUptoRow : OpenClaim := { program := "ytaegeaajhbfkgaagreatdoor", sum := "1513a7703c843f113f60f6a42edb5ceda49719e625399b1b5eca91e62c2451b0", func := "skyway/skywaykeep4.CentreOwned", spec := "centreOwned", inPlace := ["internal/bytealg.abigen_runtime_cmpstring", "slices.overlaps[skyway/api.OwnerEntry]", "math.sqrt", "slices.overlaps[skyway/api.CentreFlight]", "internal/bytealg.IndexByteString", "internal/bytealg.IndexString"], unfollowed := true, recurses := true, named := ["skyway/centre.kinds", "unicode/utf8.first", "unicode/utf8.acceptRanges", "internal/strconv.uint64pow10", "math/bits.deBruijn32tab", "math/bits.deBruijn64tab", "internal/bytealg.MaxLen"], apart := false, laid := [("math/bits.deBruijn32tab", laid_math_bits_deBruijn32tab), ("math/bits.deBruijn64tab", laid_math_bits_deBruijn64tab), ("internal/strconv.uint64pow10", laid_internal_strconv_uint64pow10), ("unicode/utf8.acceptRanges", laid_unicode_utf8_acceptRanges), ("skyway/centre.kinds", laid_skyway_centre_kinds), ("unicode/utf8.first", laid_unicode_utf8_first)], narrowed := true }
def CentreOwnedUptoSaid : Prop := centreOwnedUptoRow.holds Tryz.pinned (OpenSpec.upto centreOwnedSpec)

/-- 'skywaykeep4.CentreSafe', WHERE WHAT IT READS IS OF BULK AT MOST 1048576: true; the input reads as it did. -/
def centreSafeUptoRow : OpenClaim := { program := "ytaegeaajhbfkgaagreatdoor", sum := "1513a7703c843f113f60f6a42edb5ceda49719e625399b1b5eca91e62c2451b0", func := "skyway/skywaykeep4.CentreSafe", spec := "centreSafe", inPlace := ["internal/bytealg.abigen_runtime_cmpstring", "slices.overlaps[skyway/api.OwnerEntry]", "math.sqrt", "slices.overlaps[skyway/api.CentreFlight]", "internal/bytealg.IndexByteString", "internal/bytealg.IndexString"], unfollowed := true, recurses := true, named := ["skyway/centre.kinds", "unicode/utf8.first", "unicode/utf8.acceptRanges", "internal/strconv.uint64pow10", "math/bits.deBruijn32tab", "math/bits.deBruijn64tab", "internal/bytealg.MaxLen"], apart := false, laid := [("math/bits.deBruijn32tab", laid_math_bits_deBruijn32tab), ("math/bits.deBruijn64tab", laid_math_bits_deBruijn64tab), ("internal/strconv.uint64pow10", laid_internal_strconv_uint64pow10), ("unicode/utf8.acceptRanges", laid_unicode_utf8_acceptRanges), ("skyway/centre.kinds", laid_skyway_centre_kinds), ("unicode/utf8.first", laid_unicode_utf8_first)], narrowed := true }
def CentreSafeUptoSaid : Prop := centreSafeUptoRow.holds Tryz.pinned (OpenSpec.upto centreSafeSpec)

/-- 'skywaykeep4.CentreRepeats', WHERE WHAT IT READS IS OF BULK AT MOST 1048576: true; the input reads as it did. -/
def centreRepeatsUptoRow : OpenClaim := { program := "ytaegeaajhbfkgaagreatdoor", sum := "1513a7703c843f113f60f6a42edb5ceda49719e625399b1b5eca91e62c2451b0", func := "skyway/skywaykeep4.CentreRepeats", spec := "centreRepeats", inPlace := ["internal/bytealg.abigen_runtime_cmpstring", "slices.overlaps[skyway/api.OwnerEntry]", "math.sqrt", "slices.overlaps[skyway/api.CentreFlight]", "internal/bytealg.IndexByteString", "internal/bytealg.IndexString"], unfollowed := true, recurses := true, named := ["skyway/centre.kinds", "unicode/utf8.first", "unicode/utf8.acceptRanges", "internal/strconv.uint64pow10", "math/bits.deBruijn32tab", "math/bits.deBruijn64tab", "internal/bytealg.MaxLen"], apart := false, laid := [("math/bits.deBruijn32tab", laid_math_bits_deBruijn32tab), ("math/bits.deBruijn64tab", laid_math_bits_deBruijn64tab), ("internal/strconv.uint64pow10", laid_internal_strconv_uint64pow10), ("unicode/utf8.acceptRanges", laid_unicode_utf8_acceptRanges), ("skyway/centre.kinds", laid_skyway_centre_kinds), ("unicode/utf8.first", laid_unicode_utf8_first)], narrowed := true }
def CentreRepeatsUptoSaid : Prop := centreRepeatsUptoRow.holds Tryz.pinned (OpenSpec.upto centreRepeatsSpec)

/-- 'skywaykeep4.CentreRefuses', WHERE WHAT IT READS IS OF BULK AT MOST 1048576: true; the input reads as it did. -/
def centreRefusesUptoRow : OpenClaim := { program := "ytaegeaajhbfkgaagreatdoor", sum := "1513a7703c843f113f60f6a42edb5ceda49719e625399b1b5eca91e62c2451b0", func := "skyway/skywaykeep4.CentreRefuses", spec := "centreRefuses", inPlace := ["internal/bytealg.abigen_runtime_cmpstring", "slices.overlaps[skyway/api.OwnerEntry]", "math.sqrt", "slices.overlaps[skyway/api.CentreFlight]", "internal/bytealg.IndexByteString", "internal/bytealg.IndexString"], unfollowed := true, recurses := true, named := ["skyway/centre.kinds", "unicode/utf8.first", "unicode/utf8.acceptRanges", "internal/strconv.uint64pow10", "math/bits.deBruijn32tab", "math/bits.deBruijn64tab", "internal/bytealg.MaxLen"], apart := false, laid := [("math/bits.deBruijn32tab", laid_math_bits_deBruijn32tab), ("math/bits.deBruijn64tab", laid_math_bits_deBruijn64tab), ("internal/strconv.uint64pow10", laid_internal_strconv_uint64pow10), ("unicode/utf8.acceptRanges", laid_unicode_utf8_acceptRanges), ("skyway/centre.kinds", laid_skyway_centre_kinds), ("unicode/utf8.first", laid_unicode_utf8_first)], narrowed := true }
def CentreRefusesUptoSaid : Prop := centreRefusesUptoRow.holds Tryz.pinned (OpenSpec.upto centreRefusesSpec)

/-- 'skywaykeep4.CentreShifted', WHERE WHAT IT READS IS OF BULK AT MOST 1048576: true; the input reads as it did. -/
def centreShiftedUptoRow : OpenClaim := { program := "ytaegeaajhbfkgaagreatdoor", sum := "1513a7703c843f113f60f6a42edb5ceda49719e625399b1b5eca91e62c2451b0", func := "skyway/skywaykeep4.CentreShifted", spec := "centreShifted", inPlace := ["internal/bytealg.abigen_runtime_cmpstring", "slices.overlaps[skyway/api.OwnerEntry]", "math.sqrt", "slices.overlaps[skyway/api.CentreFlight]", "internal/bytealg.IndexByteString", "internal/bytealg.IndexString"], unfollowed := true, recurses := true, named := ["skyway/centre.kinds", "unicode/utf8.first", "unicode/utf8.acceptRanges", "internal/strconv.uint64pow10", "math/bits.deBruijn32tab", "math/bits.deBruijn64tab", "internal/bytealg.MaxLen"], apart := false, laid := [("math/bits.deBruijn32tab", laid_math_bits_deBruijn32tab), ("math/bits.deBruijn64tab", laid_math_bits_deBruijn64tab), ("internal/strconv.uint64pow10", laid_internal_strconv_uint64pow10), ("unicode/utf8.acceptRanges", laid_unicode_utf8_acceptRanges), ("skyway/centre.kinds", laid_skyway_centre_kinds), ("unicode/utf8.first", laid_unicode_utf8_first)], narrowed := true }
def CentreShiftedUptoSaid : Prop := centreShiftedUptoRow.holds Tryz.pinned (OpenSpec.upto centreShiftedSpec)

/-- 'skywaykeep4.CentreDelayed', WHERE WHAT IT READS IS OF BULK AT MOST 1048576: true; the input reads as it did. -/
def centreDelayedUptoRow : OpenClaim := { program := "ytaegeaajhbfkgaagreatdoor", sum := "1513a7703c843f113f60f6a42edb5ceda49719e625399b1b5eca91e62c2451b0", func := "skyway/skywaykeep4.CentreDelayed", spec := "centreDelayed", inPlace := ["internal/bytealg.abigen_runtime_cmpstring", "slices.overlaps[skyway/api.OwnerEntry]", "math.sqrt", "slices.overlaps[skyway/api.CentreFlight]", "internal/bytealg.IndexByteString", "internal/bytealg.IndexString"], unfollowed := true, recurses := true, named := ["skyway/centre.kinds", "unicode/utf8.first", "unicode/utf8.acceptRanges", "internal/strconv.uint64pow10", "math/bits.deBruijn32tab", "math/bits.deBruijn64tab", "internal/bytealg.MaxLen"], apart := false, laid := [("math/bits.deBruijn32tab", laid_math_bits_deBruijn32tab), ("math/bits.deBruijn64tab", laid_math_bits_deBruijn64tab), ("internal/strconv.uint64pow10", laid_internal_strconv_uint64pow10), ("unicode/utf8.acceptRanges", laid_unicode_utf8_acceptRanges), ("skyway/centre.kinds", laid_skyway_centre_kinds), ("unicode/utf8.first", laid_unicode_utf8_first)], narrowed := true }
def CentreDelayedUptoSaid : Prop := centreDelayedUptoRow.holds Tryz.pinned (OpenSpec.upto centreDelayedSpec)

end Rows
end Go.Proofs.YtaegeaajhbfkgaaGreatDoor
