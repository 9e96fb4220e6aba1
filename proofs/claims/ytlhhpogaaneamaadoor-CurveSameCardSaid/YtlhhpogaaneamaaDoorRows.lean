/-
  NARROWER THAN 'FOR EVERY INPUT', by the rows' own cells (each row's printed sentence says how): CurvePlaces: laid · CurveHeights: laid · CurveCompares: laid · CurveGalois: laid · CurveSame: laid · CurveTurned: laid · CurveRises: laid · CurveJoins: laid · CurveBent: laid · CurveBelow: laid · CurveThrough: laid · CurveMeets: laid · CurveEarlier: laid · CurveRates: laid · CurveOthers: laid.
  DERIVED. THE GIVEN ROWS OF THIS SEAT. 15 by the template 'for every input the law returns true; each argument reads behind the call as it read before'; 0 by the template 'total and deterministic' (their statements: YtlhhpogaaneamaaDoorTotals.lean).
  GIVEN WITH THE SEED: the statements are not yours to turn. If you find one false, say at which input.
  Laid BY PROGRAM, IN A SANDBOX (cutbox-rows.mjs): the forced cells as the released guide's own fill.sh prints them over the translation 1fdc317da76a829d… (all of the seat's roots in one cut). By AI agents, Wed Nov 11 2026. No macro, syntax, notation, axiom, sorry.
-/
import Derived.Test.YtlhhpogaaneamaaDoorChecked
import GoSem.Claim
import GoSem.ClaimJoined
import GoSem.ClaimMapViews
import Derived.JoinedTies
import Derived.KernelRfl
namespace Go.Proofs.YtlhhpogaaneamaaDoor
/- THE CELL 'sum', in the pinned program and in every row, IS THE sha256 OF THE DUMP (.gsa) THAT YtlhhpogaaneamaaDoorProg.lean LOADS. Nothing in Lean hashes anything: it is a label: what it is worth is what the hold of that sum in a sandbox is worth. -/
noncomputable def Tryd.pinned : Pinned := { name := "ytlhhpogaaneamaadoor", sum := "1fdc317da76a829dec2ce9edc57febceb288b7d59cb8668773371e16dca3a1f2", checked := Tryd.checked }
namespace Rows
def none {H : Type} : Left H := { results := [], args := [] }

/- WHAT THE LISTED PACKAGE-LEVEL VARIABLES READ AS WHEN THE CALL BEGINS. Each datum BY PROGRAM (the guide's laid-datum.mjs) off the statement by which the dump's own 'gosem.cut.vars' lays the variable. In a bare row this is a premise. The card (YtlhhpogaaneamaaDoorCards.lean) ties it to the program's text. -/
def laid_math_bits_deBruijn32tab {H : Type} : DataW H := .agg [.lit (.int .u8 0), .lit (.int .u8 1), .lit (.int .u8 28), .lit (.int .u8 2), .lit (.int .u8 29), .lit (.int .u8 14), .lit (.int .u8 24), .lit (.int .u8 3), .lit (.int .u8 30), .lit (.int .u8 22), .lit (.int .u8 20), .lit (.int .u8 15), .lit (.int .u8 25), .lit (.int .u8 17), .lit (.int .u8 4), .lit (.int .u8 8), .lit (.int .u8 31), .lit (.int .u8 27), .lit (.int .u8 13), .lit (.int .u8 23), .lit (.int .u8 21), .lit (.int .u8 19), .lit (.int .u8 16), .lit (.int .u8 7), .lit (.int .u8 26), .lit (.int .u8 12), .lit (.int .u8 18), .lit (.int .u8 6), .lit (.int .u8 11), .lit (.int .u8 5), .lit (.int .u8 10), .lit (.int .u8 9)]
def laid_math_bits_deBruijn64tab {H : Type} : DataW H := .agg [.lit (.int .u8 0), .lit (.int .u8 1), .lit (.int .u8 56), .lit (.int .u8 2), .lit (.int .u8 57), .lit (.int .u8 49), .lit (.int .u8 28), .lit (.int .u8 3), .lit (.int .u8 61), .lit (.int .u8 58), .lit (.int .u8 42), .lit (.int .u8 50), .lit (.int .u8 38), .lit (.int .u8 29), .lit (.int .u8 17), .lit (.int .u8 4), .lit (.int .u8 62), .lit (.int .u8 47), .lit (.int .u8 59), .lit (.int .u8 36), .lit (.int .u8 45), .lit (.int .u8 43), .lit (.int .u8 51), .lit (.int .u8 22), .lit (.int .u8 53), .lit (.int .u8 39), .lit (.int .u8 33), .lit (.int .u8 30), .lit (.int .u8 24), .lit (.int .u8 18), .lit (.int .u8 12), .lit (.int .u8 5), .lit (.int .u8 63), .lit (.int .u8 55), .lit (.int .u8 48), .lit (.int .u8 27), .lit (.int .u8 60), .lit (.int .u8 41), .lit (.int .u8 37), .lit (.int .u8 16), .lit (.int .u8 46), .lit (.int .u8 35), .lit (.int .u8 44), .lit (.int .u8 21), .lit (.int .u8 52), .lit (.int .u8 32), .lit (.int .u8 23), .lit (.int .u8 11), .lit (.int .u8 54), .lit (.int .u8 26), .lit (.int .u8 40), .lit (.int .u8 15), .lit (.int .u8 34), .lit (.int .u8 20), .lit (.int .u8 31), .lit (.int .u8 10), .lit (.int .u8 25), .lit (.int .u8 14), .lit (.int .u8 19), .lit (.int .u8 9), .lit (.int .u8 13), .lit (.int .u8 8), .lit (.int .u8 7), .lit (.int .u8 6)]
def laid_internal_strconv_uint64pow10 {H : Type} : DataW H := .agg [.lit (.int .u64 1), .lit (.int .u64 10), .lit (.int .u64 100), .lit (.int .u64 1000), .lit (.int .u64 10000), .lit (.int .u64 100000), .lit (.int .u64 1000000), .lit (.int .u64 10000000), .lit (.int .u64 100000000), .lit (.int .u64 1000000000), .lit (.int .u64 10000000000), .lit (.int .u64 100000000000), .lit (.int .u64 1000000000000), .lit (.int .u64 10000000000000), .lit (.int .u64 100000000000000), .lit (.int .u64 1000000000000000), .lit (.int .u64 10000000000000000), .lit (.int .u64 100000000000000000), .lit (.int .u64 1000000000000000000), .lit (.int .u64 10000000000000000000)]

/-- 'waterhourlaw01.CurvePlaces': WHATEVER THE INPUT: true; the input reads as it did. -/
def curvePlacesSpec : ChangeSpec := { name := "curvePlaces", fn := fun _ => fun
  | [d1, d2, d3, d4] => { results := [.lit (.bool true)], args := [d1, d2, d3, d4] }
  | _ => none }
def curvePlacesRow : OpenClaim := { program := "ytlhhpogaaneamaadoor", sum := "1fdc317da76a829dec2ce9edc57febceb288b7d59cb8668773371e16dca3a1f2", func := "waterhour/waterhourlaw01.CurvePlaces", spec := "curvePlaces", inPlace := ["internal/abi.NoEscape", "internal/bytealg.MakeNoZero"], unfollowed := true, recurses := true, named := ["internal/strconv.uint64pow10", "math/bits.deBruijn32tab", "math/bits.deBruijn64tab"], apart := false, laid := [("math/bits.deBruijn32tab", laid_math_bits_deBruijn32tab), ("math/bits.deBruijn64tab", laid_math_bits_deBruijn64tab), ("internal/strconv.uint64pow10", laid_internal_strconv_uint64pow10)] }
def CurvePlacesSaid : Prop := curvePlacesRow.holds Tryd.pinned (OpenSpec.ofChange curvePlacesSpec)

/-- ITS FALSE NEIGHBOUR: 'it returns false'. Refute it at one input. -/
def curvePlacesWrong : ChangeSpec := { name := "curvePlaces", fn := fun _ => fun
  | [d1, d2, d3, d4] => { results := [.lit (.bool false)], args := [d1, d2, d3, d4] }
  | _ => none }
def CurvePlacesWrongFalsely : Prop := curvePlacesRow.holds Tryd.pinned (OpenSpec.ofChange curvePlacesWrong)

/-- 'waterhourlaw01.CurveHeights': WHATEVER THE INPUT: true; the input reads as it did. -/
def curveHeightsSpec : ChangeSpec := { name := "curveHeights", fn := fun _ => fun
  | [d1, d2] => { results := [.lit (.bool true)], args := [d1, d2] }
  | _ => none }
def curveHeightsRow : OpenClaim := { program := "ytlhhpogaaneamaadoor", sum := "1fdc317da76a829dec2ce9edc57febceb288b7d59cb8668773371e16dca3a1f2", func := "waterhour/waterhourlaw01.CurveHeights", spec := "curveHeights", inPlace := ["internal/abi.NoEscape", "internal/bytealg.MakeNoZero"], unfollowed := true, recurses := true, named := ["internal/strconv.uint64pow10", "math/bits.deBruijn32tab", "math/bits.deBruijn64tab"], apart := false, laid := [("math/bits.deBruijn32tab", laid_math_bits_deBruijn32tab), ("math/bits.deBruijn64tab", laid_math_bits_deBruijn64tab), ("internal/strconv.uint64pow10", laid_internal_strconv_uint64pow10)] }
def CurveHeightsSaid : Prop := curveHeightsRow.holds Tryd.pinned (OpenSpec.ofChange curveHeightsSpec)

/-- ITS FALSE NEIGHBOUR: 'it returns false'. Refute it at one input. -/
def curveHeightsWrong : ChangeSpec := { name := "curveHeights", fn := fun _ => fun
  | [d1, d2] => { results := [.lit (.bool false)], args := [d1, d2] }
  | _ => none }
def CurveHeightsWrongFalsely : Prop := curveHeightsRow.holds Tryd.pinned (OpenSpec.ofChange curveHeightsWrong)

/-- 'waterhourlaw01.CurveCompares': WHATEVER THE INPUT: true; the input reads as it did. -/
def curveComparesSpec : ChangeSpec := { name := "curveCompares", fn := fun _ => fun
  | [d1, d2, d3] => { results := [.lit (.bool true)], args := [d1, d2, d3] }
  | _ => none }
def curveComparesRow : OpenClaim := { program := "ytlhhpogaaneamaadoor", sum := "1fdc317da76a829dec2ce9edc57febceb288b7d59cb8668773371e16dca3a1f2", func := "waterhour/waterhourlaw01.CurveCompares", spec := "curveCompares", inPlace := ["internal/abi.NoEscape", "internal/bytealg.MakeNoZero"], unfollowed := true, recurses := true, named := ["internal/strconv.uint64pow10", "math/bits.deBruijn32tab", "math/bits.deBruijn64tab"], apart := false, laid := [("math/bits.deBruijn32tab", laid_math_bits_deBruijn32tab), ("math/bits.deBruijn64tab", laid_math_bits_deBruijn64tab), ("internal/strconv.uint64pow10", laid_internal_strconv_uint64pow10)] }
def CurveComparesSaid : Prop := curveComparesRow.holds Tryd.pinned (OpenSpec.ofChange curveComparesSpec)

/-- ITS FALSE NEIGHBOUR: 'it returns false'. Refute it at one input. -/
def curveComparesWrong : ChangeSpec := { name := "curveCompares", fn := fun _ => fun
  | [d1, d2, d3] => { results := [.lit (.bool false)], args := [d1, d2, d3] }
  | _ => none }
def CurveComparesWrongFalsely : Prop := curveComparesRow.holds Tryd.pinned (OpenSpec.ofChange curveComparesWrong)

/-- 'waterhourlaw01.CurveGalois': WHATEVER THE INPUT: true; the input reads as it did. -/
def curveGaloisSpec : ChangeSpec := { name := "curveGalois", fn := fun _ => fun
  | [d1, d2, d3] => { results := [.lit (.bool true)], args := [d1, d2, d3] }
  | _ => none }
def curveGaloisRow : OpenClaim := { program := "ytlhhpogaaneamaadoor", sum := "1fdc317da76a829dec2ce9edc57febceb288b7d59cb8668773371e16dca3a1f2", func := "waterhour/waterhourlaw01.CurveGalois", spec := "curveGalois", inPlace := ["internal/abi.NoEscape", "internal/bytealg.MakeNoZero"], unfollowed := true, recurses := true, named := ["internal/strconv.uint64pow10", "math/bits.deBruijn32tab", "math/bits.deBruijn64tab"], apart := false, laid := [("math/bits.deBruijn32tab", laid_math_bits_deBruijn32tab), ("math/bits.deBruijn64tab", laid_math_bits_deBruijn64tab), ("internal/strconv.uint64pow10", laid_internal_strconv_uint64pow10)] }
def CurveGaloisSaid : Prop := curveGaloisRow.holds Tryd.pinned (OpenSpec.ofChange curveGaloisSpec)

/-- ITS FALSE NEIGHBOUR: 'it returns false'. Refute it at one input. -/
def curveGaloisWrong : ChangeSpec := { name := "curveGalois", fn := fun _ => fun
  | [d1, d2, d3] => { results := [.lit (.bool false)], args := [d1, d2, d3] }
  | _ => none }
def CurveGaloisWrongFalsely : Prop := curveGaloisRow.holds Tryd.pinned (OpenSpec.ofChange curveGaloisWrong)

/-- 'waterhourlaw01.CurveSame': WHATEVER THE INPUT: true; the input reads as it did. -/
def curveSameSpec : ChangeSpec := { name := "curveSame", fn := fun _ => fun
  | [d1, d2, d3, d4, d5, d6, d7] => { results := [.lit (.bool true)], args := [d1, d2, d3, d4, d5, d6, d7] }
  | _ => none }
def curveSameRow : OpenClaim := { program := "ytlhhpogaaneamaadoor", sum := "1fdc317da76a829dec2ce9edc57febceb288b7d59cb8668773371e16dca3a1f2", func := "waterhour/waterhourlaw01.CurveSame", spec := "curveSame", inPlace := ["internal/abi.NoEscape", "internal/bytealg.MakeNoZero"], unfollowed := true, recurses := true, named := ["internal/strconv.uint64pow10", "math/bits.deBruijn32tab", "math/bits.deBruijn64tab"], apart := false, laid := [("math/bits.deBruijn32tab", laid_math_bits_deBruijn32tab), ("math/bits.deBruijn64tab", laid_math_bits_deBruijn64tab), ("internal/strconv.uint64pow10", laid_internal_strconv_uint64pow10)] }
def CurveSameSaid : Prop := curveSameRow.holds Tryd.pinned (OpenSpec.ofChange curveSameSpec)

/-- ITS FALSE NEIGHBOUR: 'it returns false'. Refute it at one input. -/
def curveSameWrong : ChangeSpec := { name := "curveSame", fn := fun _ => fun
  | [d1, d2, d3, d4, d5, d6, d7] => { results := [.lit (.bool false)], args := [d1, d2, d3, d4, d5, d6, d7] }
  | _ => none }
def CurveSameWrongFalsely : Prop := curveSameRow.holds Tryd.pinned (OpenSpec.ofChange curveSameWrong)

/-- 'waterhourlaw01.CurveTurned': WHATEVER THE INPUT: true; the input reads as it did. -/
def curveTurnedSpec : ChangeSpec := { name := "curveTurned", fn := fun _ => fun
  | [d1, d2, d3] => { results := [.lit (.bool true)], args := [d1, d2, d3] }
  | _ => none }
def curveTurnedRow : OpenClaim := { program := "ytlhhpogaaneamaadoor", sum := "1fdc317da76a829dec2ce9edc57febceb288b7d59cb8668773371e16dca3a1f2", func := "waterhour/waterhourlaw01.CurveTurned", spec := "curveTurned", inPlace := ["internal/abi.NoEscape", "internal/bytealg.MakeNoZero"], unfollowed := true, recurses := true, named := ["internal/strconv.uint64pow10", "math/bits.deBruijn32tab", "math/bits.deBruijn64tab"], apart := false, laid := [("math/bits.deBruijn32tab", laid_math_bits_deBruijn32tab), ("math/bits.deBruijn64tab", laid_math_bits_deBruijn64tab), ("internal/strconv.uint64pow10", laid_internal_strconv_uint64pow10)] }
def CurveTurnedSaid : Prop := curveTurnedRow.holds Tryd.pinned (OpenSpec.ofChange curveTurnedSpec)

/-- ITS FALSE NEIGHBOUR: 'it returns false'. Refute it at one input. -/
def curveTurnedWrong : ChangeSpec := { name := "curveTurned", fn := fun _ => fun
  | [d1, d2, d3] => { results := [.lit (.bool false)], args := [d1, d2, d3] }
  | _ => none }
def CurveTurnedWrongFalsely : Prop := curveTurnedRow.holds Tryd.pinned (OpenSpec.ofChange curveTurnedWrong)

/-- 'waterhourlaw01.CurveRises': WHATEVER THE INPUT: true; the input reads as it did. -/
def curveRisesSpec : ChangeSpec := { name := "curveRises", fn := fun _ => fun
  | [d1, d2] => { results := [.lit (.bool true)], args := [d1, d2] }
  | _ => none }
def curveRisesRow : OpenClaim := { program := "ytlhhpogaaneamaadoor", sum := "1fdc317da76a829dec2ce9edc57febceb288b7d59cb8668773371e16dca3a1f2", func := "waterhour/waterhourlaw01.CurveRises", spec := "curveRises", inPlace := ["internal/abi.NoEscape", "internal/bytealg.MakeNoZero"], unfollowed := true, recurses := true, named := ["internal/strconv.uint64pow10", "math/bits.deBruijn32tab", "math/bits.deBruijn64tab"], apart := false, laid := [("math/bits.deBruijn32tab", laid_math_bits_deBruijn32tab), ("math/bits.deBruijn64tab", laid_math_bits_deBruijn64tab), ("internal/strconv.uint64pow10", laid_internal_strconv_uint64pow10)] }
def CurveRisesSaid : Prop := curveRisesRow.holds Tryd.pinned (OpenSpec.ofChange curveRisesSpec)

/-- ITS FALSE NEIGHBOUR: 'it returns false'. Refute it at one input. -/
def curveRisesWrong : ChangeSpec := { name := "curveRises", fn := fun _ => fun
  | [d1, d2] => { results := [.lit (.bool false)], args := [d1, d2] }
  | _ => none }
def CurveRisesWrongFalsely : Prop := curveRisesRow.holds Tryd.pinned (OpenSpec.ofChange curveRisesWrong)

/-- 'waterhourlaw01.CurveJoins': WHATEVER THE INPUT: true; the input reads as it did. -/
def curveJoinsSpec : ChangeSpec := { name := "curveJoins", fn := fun _ => fun
  | [d1, d2, d3, d4] => { results := [.lit (.bool true)], args := [d1, d2, d3, d4] }
  | _ => none }
def curveJoinsRow : OpenClaim := { program := "ytlhhpogaaneamaadoor", sum := "1fdc317da76a829dec2ce9edc57febceb288b7d59cb8668773371e16dca3a1f2", func := "waterhour/waterhourlaw01.CurveJoins", spec := "curveJoins", inPlace := ["internal/abi.NoEscape", "internal/bytealg.MakeNoZero"], unfollowed := true, recurses := true, named := ["internal/strconv.uint64pow10", "math/bits.deBruijn32tab", "math/bits.deBruijn64tab"], apart := false, laid := [("math/bits.deBruijn32tab", laid_math_bits_deBruijn32tab), ("math/bits.deBruijn64tab", laid_math_bits_deBruijn64tab), ("internal/strconv.uint64pow10", laid_internal_strconv_uint64pow10)] }
def CurveJoinsSaid : Prop := curveJoinsRow.holds Tryd.pinned (OpenSpec.ofChange curveJoinsSpec)

/-- ITS FALSE NEIGHBOUR: 'it returns false'. Refute it at one input. -/
def curveJoinsWrong : ChangeSpec := { name := "curveJoins", fn := fun _ => fun
  | [d1, d2, d3, d4] => { results := [.lit (.bool false)], args := [d1, d2, d3, d4] }
  | _ => none }
def CurveJoinsWrongFalsely : Prop := curveJoinsRow.holds Tryd.pinned (OpenSpec.ofChange curveJoinsWrong)

/-- 'waterhourlaw01.CurveBent': WHATEVER THE INPUT: true; the input reads as it did. -/
def curveBentSpec : ChangeSpec := { name := "curveBent", fn := fun _ => fun
  | [d1, d2, d3] => { results := [.lit (.bool true)], args := [d1, d2, d3] }
  | _ => none }
def curveBentRow : OpenClaim := { program := "ytlhhpogaaneamaadoor", sum := "1fdc317da76a829dec2ce9edc57febceb288b7d59cb8668773371e16dca3a1f2", func := "waterhour/waterhourlaw01.CurveBent", spec := "curveBent", inPlace := ["internal/abi.NoEscape", "internal/bytealg.MakeNoZero"], unfollowed := true, recurses := true, named := ["internal/strconv.uint64pow10", "math/bits.deBruijn32tab", "math/bits.deBruijn64tab"], apart := false, laid := [("math/bits.deBruijn32tab", laid_math_bits_deBruijn32tab), ("math/bits.deBruijn64tab", laid_math_bits_deBruijn64tab), ("internal/strconv.uint64pow10", laid_internal_strconv_uint64pow10)] }
def CurveBentSaid : Prop := curveBentRow.holds Tryd.pinned (OpenSpec.ofChange curveBentSpec)

/-- ITS FALSE NEIGHBOUR: 'it returns false'. Refute it at one input. -/
def curveBentWrong : ChangeSpec := { name := "curveBent", fn := fun _ => fun
  | [d1, d2, d3] => { results := [.lit (.bool false)], args := [d1, d2, d3] }
  | _ => none }
def CurveBentWrongFalsely : Prop := curveBentRow.holds Tryd.pinned (OpenSpec.ofChange curveBentWrong)

/-- 'waterhourlaw01.CurveBelow': WHATEVER THE INPUT: true; the input reads as it did. -/
def curveBelowSpec : ChangeSpec := { name := "curveBelow", fn := fun _ => fun
  | [d1, d2, d3, d4] => { results := [.lit (.bool true)], args := [d1, d2, d3, d4] }
  | _ => none }
def curveBelowRow : OpenClaim := { program := "ytlhhpogaaneamaadoor", sum := "1fdc317da76a829dec2ce9edc57febceb288b7d59cb8668773371e16dca3a1f2", func := "waterhour/waterhourlaw01.CurveBelow", spec := "curveBelow", inPlace := ["internal/abi.NoEscape", "internal/bytealg.MakeNoZero"], unfollowed := true, recurses := true, named := ["internal/strconv.uint64pow10", "math/bits.deBruijn32tab", "math/bits.deBruijn64tab"], apart := false, laid := [("math/bits.deBruijn32tab", laid_math_bits_deBruijn32tab), ("math/bits.deBruijn64tab", laid_math_bits_deBruijn64tab), ("internal/strconv.uint64pow10", laid_internal_strconv_uint64pow10)] }
def CurveBelowSaid : Prop := curveBelowRow.holds Tryd.pinned (OpenSpec.ofChange curveBelowSpec)

/-- ITS FALSE NEIGHBOUR: 'it returns false'. Refute it at one input. -/
def curveBelowWrong : ChangeSpec := { name := "curveBelow", fn := fun _ => fun
  | [d1, d2, d3, d4] => { results := [.lit (.bool false)], args := [d1, d2, d3, d4] }
  | _ => none }
def CurveBelowWrongFalsely : Prop := curveBelowRow.holds Tryd.pinned (OpenSpec.ofChange curveBelowWrong)

/-- 'waterhourlaw01.CurveThrough': WHATEVER THE INPUT: true; the input reads as it did. -/
def curveThroughSpec : ChangeSpec := { name := "curveThrough", fn := fun _ => fun
  | [d1, d2, d3, d4, d5] => { results := [.lit (.bool true)], args := [d1, d2, d3, d4, d5] }
  | _ => none }
def curveThroughRow : OpenClaim := { program := "ytlhhpogaaneamaadoor", sum := "1fdc317da76a829dec2ce9edc57febceb288b7d59cb8668773371e16dca3a1f2", func := "waterhour/waterhourlaw01.CurveThrough", spec := "curveThrough", inPlace := ["internal/abi.NoEscape", "internal/bytealg.MakeNoZero"], unfollowed := true, recurses := true, named := ["internal/strconv.uint64pow10", "math/bits.deBruijn32tab", "math/bits.deBruijn64tab"], apart := false, laid := [("math/bits.deBruijn32tab", laid_math_bits_deBruijn32tab), ("math/bits.deBruijn64tab", laid_math_bits_deBruijn64tab), ("internal/strconv.uint64pow10", laid_internal_strconv_uint64pow10)] }
def CurveThroughSaid : Prop := curveThroughRow.holds Tryd.pinned (OpenSpec.ofChange curveThroughSpec)

/-- ITS FALSE NEIGHBOUR: 'it returns false'. Refute it at one input. -/
def curveThroughWrong : ChangeSpec := { name := "curveThrough", fn := fun _ => fun
  | [d1, d2, d3, d4, d5] => { results := [.lit (.bool false)], args := [d1, d2, d3, d4, d5] }
  | _ => none }
def CurveThroughWrongFalsely : Prop := curveThroughRow.holds Tryd.pinned (OpenSpec.ofChange curveThroughWrong)

/-- 'waterhourlaw01.CurveMeets': WHATEVER THE INPUT: true; the input reads as it did. -/
def curveMeetsSpec : ChangeSpec := { name := "curveMeets", fn := fun _ => fun
  | [d1, d2, d3, d4] => { results := [.lit (.bool true)], args := [d1, d2, d3, d4] }
  | _ => none }
def curveMeetsRow : OpenClaim := { program := "ytlhhpogaaneamaadoor", sum := "1fdc317da76a829dec2ce9edc57febceb288b7d59cb8668773371e16dca3a1f2", func := "waterhour/waterhourlaw01.CurveMeets", spec := "curveMeets", inPlace := ["internal/abi.NoEscape", "internal/bytealg.MakeNoZero"], unfollowed := true, recurses := true, named := ["internal/strconv.uint64pow10", "math/bits.deBruijn32tab", "math/bits.deBruijn64tab"], apart := false, laid := [("math/bits.deBruijn32tab", laid_math_bits_deBruijn32tab), ("math/bits.deBruijn64tab", laid_math_bits_deBruijn64tab), ("internal/strconv.uint64pow10", laid_internal_strconv_uint64pow10)] }
def CurveMeetsSaid : Prop := curveMeetsRow.holds Tryd.pinned (OpenSpec.ofChange curveMeetsSpec)

/-- ITS FALSE NEIGHBOUR: 'it returns false'. Refute it at one input. -/
def curveMeetsWrong : ChangeSpec := { name := "curveMeets", fn := fun _ => fun
  | [d1, d2, d3, d4] => { results := [.lit (.bool false)], args := [d1, d2, d3, d4] }
  | _ => none }
def CurveMeetsWrongFalsely : Prop := curveMeetsRow.holds Tryd.pinned (OpenSpec.ofChange curveMeetsWrong)

/-- 'waterhourlaw01.CurveEarlier': WHATEVER THE INPUT: true; the input reads as it did. -/
def curveEarlierSpec : ChangeSpec := { name := "curveEarlier", fn := fun _ => fun
  | [d1, d2, d3] => { results := [.lit (.bool true)], args := [d1, d2, d3] }
  | _ => none }
def curveEarlierRow : OpenClaim := { program := "ytlhhpogaaneamaadoor", sum := "1fdc317da76a829dec2ce9edc57febceb288b7d59cb8668773371e16dca3a1f2", func := "waterhour/waterhourlaw01.CurveEarlier", spec := "curveEarlier", inPlace := ["internal/abi.NoEscape", "internal/bytealg.MakeNoZero"], unfollowed := true, recurses := true, named := ["internal/strconv.uint64pow10", "math/bits.deBruijn32tab", "math/bits.deBruijn64tab"], apart := false, laid := [("math/bits.deBruijn32tab", laid_math_bits_deBruijn32tab), ("math/bits.deBruijn64tab", laid_math_bits_deBruijn64tab), ("internal/strconv.uint64pow10", laid_internal_strconv_uint64pow10)] }
def CurveEarlierSaid : Prop := curveEarlierRow.holds Tryd.pinned (OpenSpec.ofChange curveEarlierSpec)

/-- ITS FALSE NEIGHBOUR: 'it returns false'. Refute it at one input. -/
def curveEarlierWrong : ChangeSpec := { name := "curveEarlier", fn := fun _ => fun
  | [d1, d2, d3] => { results := [.lit (.bool false)], args := [d1, d2, d3] }
  | _ => none }
def CurveEarlierWrongFalsely : Prop := curveEarlierRow.holds Tryd.pinned (OpenSpec.ofChange curveEarlierWrong)

/-- 'waterhourlaw01.CurveRates': WHATEVER THE INPUT: true; the input reads as it did. -/
def curveRatesSpec : ChangeSpec := { name := "curveRates", fn := fun _ => fun
  | [d1, d2] => { results := [.lit (.bool true)], args := [d1, d2] }
  | _ => none }
def curveRatesRow : OpenClaim := { program := "ytlhhpogaaneamaadoor", sum := "1fdc317da76a829dec2ce9edc57febceb288b7d59cb8668773371e16dca3a1f2", func := "waterhour/waterhourlaw01.CurveRates", spec := "curveRates", inPlace := ["internal/abi.NoEscape", "internal/bytealg.MakeNoZero"], unfollowed := true, recurses := true, named := ["internal/strconv.uint64pow10", "math/bits.deBruijn32tab", "math/bits.deBruijn64tab"], apart := false, laid := [("math/bits.deBruijn32tab", laid_math_bits_deBruijn32tab), ("math/bits.deBruijn64tab", laid_math_bits_deBruijn64tab), ("internal/strconv.uint64pow10", laid_internal_strconv_uint64pow10)] }
def CurveRatesSaid : Prop := curveRatesRow.holds Tryd.pinned (OpenSpec.ofChange curveRatesSpec)

/-- ITS FALSE NEIGHBOUR: 'it returns false'. Refute it at one input. -/
def curveRatesWrong : ChangeSpec := { name := "curveRates", fn := fun _ => fun
  | [d1, d2] => { results := [.lit (.bool false)], args := [d1, d2] }
  | _ => none }
def CurveRatesWrongFalsely : Prop := curveRatesRow.holds Tryd.pinned (OpenSpec.ofChange curveRatesWrong)

/-- 'waterhourlaw01.CurveOthers': WHATEVER THE INPUT: true; the input reads as it did. -/
def curveOthersSpec : ChangeSpec := { name := "curveOthers", fn := fun _ => fun
  | [d1, d2, d3, d4] => { results := [.lit (.bool true)], args := [d1, d2, d3, d4] }
  | _ => none }
def curveOthersRow : OpenClaim := { program := "ytlhhpogaaneamaadoor", sum := "1fdc317da76a829dec2ce9edc57febceb288b7d59cb8668773371e16dca3a1f2", func := "waterhour/waterhourlaw01.CurveOthers", spec := "curveOthers", inPlace := ["internal/abi.NoEscape", "internal/bytealg.MakeNoZero"], unfollowed := true, recurses := true, named := ["internal/strconv.uint64pow10", "math/bits.deBruijn32tab", "math/bits.deBruijn64tab"], apart := false, laid := [("math/bits.deBruijn32tab", laid_math_bits_deBruijn32tab), ("math/bits.deBruijn64tab", laid_math_bits_deBruijn64tab), ("internal/strconv.uint64pow10", laid_internal_strconv_uint64pow10)] }
def CurveOthersSaid : Prop := curveOthersRow.holds Tryd.pinned (OpenSpec.ofChange curveOthersSpec)

/-- ITS FALSE NEIGHBOUR: 'it returns false'. Refute it at one input. -/
def curveOthersWrong : ChangeSpec := { name := "curveOthers", fn := fun _ => fun
  | [d1, d2, d3, d4] => { results := [.lit (.bool false)], args := [d1, d2, d3, d4] }
  | _ => none }
def CurveOthersWrongFalsely : Prop := curveOthersRow.holds Tryd.pinned (OpenSpec.ofChange curveOthersWrong)

/- THE SECOND FORM. 'bulk': how many values and letters a reading holds, each counted each time it is reached (what is shared counts as often as it is met; a slice's spare places count too). A statement '..UptoSaid' is the law's where the arguments, and the package variables that the reading takes, are together of bulk at most 1048576: NARROWER than '..Said'. Prove '..Said' where nothing that the law and all that it calls make is longer than what came in: it says more and counts as full. Else prove '..UptoSaid'. A law counts once. -/
mutual
def uptoBulk {H : Type} : DataW H → Nat
  | .lit (.string bytes) => bytes.length + 1
  | .lit _ => 1
  | .nil => 1
  | .ptr d => uptoBulk d + 1
  | .slice elems spare => uptoBulkAll elems + uptoBulkAll spare + 1
  | .agg parts => uptoBulkAll parts + 1
  | .iface _ d => uptoBulk d + 1
  | .map entries => uptoBulkEntries entries + 1
  | .held _ => 1
def uptoBulkAll {H : Type} : List (DataW H) → Nat
  | [] => 0
  | d :: r => uptoBulk d + uptoBulkAll r
def uptoBulkEntries {H : Type} : List (Lit × DataW H) → Nat
  | [] => 0
  | x :: r => uptoBulkEntry x + uptoBulkEntries r
def uptoBulkEntry {H : Type} : Lit × DataW H → Nat
  | (.string bytes, d) => bytes.length + uptoBulk d + 1
  | (_, d) => uptoBulk d + 1
 end
def uptoSmall : (H : Type) → List (DataW H) → Bool := fun _ ds => decide (uptoBulkAll ds ≤ 1048576)
def OpenSpec.upto (s : _root_.Go.ChangeSpec) : _root_.Go.OpenSpec := { _root_.Go.OpenSpec.ofChange s with cond := some uptoSmall }

/-- 'waterhourlaw01.CurvePlaces', WHERE WHAT IT READS IS OF BULK AT MOST 1048576: true; the input reads as it did. -/
def curvePlacesUptoRow : OpenClaim := { program := "ytlhhpogaaneamaadoor", sum := "1fdc317da76a829dec2ce9edc57febceb288b7d59cb8668773371e16dca3a1f2", func := "waterhour/waterhourlaw01.CurvePlaces", spec := "curvePlaces", inPlace := ["internal/abi.NoEscape", "internal/bytealg.MakeNoZero"], unfollowed := true, recurses := true, named := ["internal/strconv.uint64pow10", "math/bits.deBruijn32tab", "math/bits.deBruijn64tab"], apart := false, laid := [("math/bits.deBruijn32tab", laid_math_bits_deBruijn32tab), ("math/bits.deBruijn64tab", laid_math_bits_deBruijn64tab), ("internal/strconv.uint64pow10", laid_internal_strconv_uint64pow10)], narrowed := true }
def CurvePlacesUptoSaid : Prop := curvePlacesUptoRow.holds Tryd.pinned (OpenSpec.upto curvePlacesSpec)

/-- 'waterhourlaw01.CurveHeights', WHERE WHAT IT READS IS OF BULK AT MOST 1048576: true; the input reads as it did. -/
def curveHeightsUptoRow : OpenClaim := { program := "ytlhhpogaaneamaadoor", sum := "1fdc317da76a829dec2ce9edc57febceb288b7d59cb8668773371e16dca3a1f2", func := "waterhour/waterhourlaw01.CurveHeights", spec := "curveHeights", inPlace := ["internal/abi.NoEscape", "internal/bytealg.MakeNoZero"], unfollowed := true, recurses := true, named := ["internal/strconv.uint64pow10", "math/bits.deBruijn32tab", "math/bits.deBruijn64tab"], apart := false, laid := [("math/bits.deBruijn32tab", laid_math_bits_deBruijn32tab), ("math/bits.deBruijn64tab", laid_math_bits_deBruijn64tab), ("internal/strconv.uint64pow10", laid_internal_strconv_uint64pow10)], narrowed := true }
def CurveHeightsUptoSaid : Prop := curveHeightsUptoRow.holds Tryd.pinned (OpenSpec.upto curveHeightsSpec)

/-- 'waterhourlaw01.CurveCompares', WHERE WHAT IT READS IS OF BULK AT MOST 1048576: true; the input reads as it did. -/
def curveComparesUptoRow : OpenClaim := { program := "ytlhhpogaaneamaadoor", sum := "1fdc317da76a829dec2ce9edc57febceb288b7d59cb8668773371e16dca3a1f2", func := "waterhour/waterhourlaw01.CurveCompares", spec := "curveCompares", inPlace := ["internal/abi.NoEscape", "internal/bytealg.MakeNoZero"], unfollowed := true, recurses := true, named := ["internal/strconv.uint64pow10", "math/bits.deBruijn32tab", "math/bits.deBruijn64tab"], apart := false, laid := [("math/bits.deBruijn32tab", laid_math_bits_deBruijn32tab), ("math/bits.deBruijn64tab", laid_math_bits_deBruijn64tab), ("internal/strconv.uint64pow10", laid_internal_strconv_uint64pow10)], narrowed := true }
def CurveComparesUptoSaid : Prop := curveComparesUptoRow.holds Tryd.pinned (OpenSpec.upto curveComparesSpec)

/-- 'waterhourlaw01.CurveGalois', WHERE WHAT IT READS IS OF BULK AT MOST 1048576: true; the input reads as it did. -/
def curveGaloisUptoRow : OpenClaim := { program := "ytlhhpogaaneamaadoor", sum := "1fdc317da76a829dec2ce9edc57febceb288b7d59cb8668773371e16dca3a1f2", func := "waterhour/waterhourlaw01.CurveGalois", spec := "curveGalois", inPlace := ["internal/abi.NoEscape", "internal/bytealg.MakeNoZero"], unfollowed := true, recurses := true, named := ["internal/strconv.uint64pow10", "math/bits.deBruijn32tab", "math/bits.deBruijn64tab"], apart := false, laid := [("math/bits.deBruijn32tab", laid_math_bits_deBruijn32tab), ("math/bits.deBruijn64tab", laid_math_bits_deBruijn64tab), ("internal/strconv.uint64pow10", laid_internal_strconv_uint64pow10)], narrowed := true }
def CurveGaloisUptoSaid : Prop := curveGaloisUptoRow.holds Tryd.pinned (OpenSpec.upto curveGaloisSpec)

/-- 'waterhourlaw01.CurveSame', WHERE WHAT IT READS IS OF BULK AT MOST 1048576: true; the input reads as it did. -/
def curveSameUptoRow : OpenClaim := { program := "ytlhhpogaaneamaadoor", sum := "1fdc317da76a829dec2ce9edc57febceb288b7d59cb8668773371e16dca3a1f2", func := "waterhour/waterhourlaw01.CurveSame", spec := "curveSame", inPlace := ["internal/abi.NoEscape", "internal/bytealg.MakeNoZero"], unfollowed := true, recurses := true, named := ["internal/strconv.uint64pow10", "math/bits.deBruijn32tab", "math/bits.deBruijn64tab"], apart := false, laid := [("math/bits.deBruijn32tab", laid_math_bits_deBruijn32tab), ("math/bits.deBruijn64tab", laid_math_bits_deBruijn64tab), ("internal/strconv.uint64pow10", laid_internal_strconv_uint64pow10)], narrowed := true }
def CurveSameUptoSaid : Prop := curveSameUptoRow.holds Tryd.pinned (OpenSpec.upto curveSameSpec)

/-- 'waterhourlaw01.CurveTurned', WHERE WHAT IT READS IS OF BULK AT MOST 1048576: true; the input reads as it did. -/
def curveTurnedUptoRow : OpenClaim := { program := "ytlhhpogaaneamaadoor", sum := "1fdc317da76a829dec2ce9edc57febceb288b7d59cb8668773371e16dca3a1f2", func := "waterhour/waterhourlaw01.CurveTurned", spec := "curveTurned", inPlace := ["internal/abi.NoEscape", "internal/bytealg.MakeNoZero"], unfollowed := true, recurses := true, named := ["internal/strconv.uint64pow10", "math/bits.deBruijn32tab", "math/bits.deBruijn64tab"], apart := false, laid := [("math/bits.deBruijn32tab", laid_math_bits_deBruijn32tab), ("math/bits.deBruijn64tab", laid_math_bits_deBruijn64tab), ("internal/strconv.uint64pow10", laid_internal_strconv_uint64pow10)], narrowed := true }
def CurveTurnedUptoSaid : Prop := curveTurnedUptoRow.holds Tryd.pinned (OpenSpec.upto curveTurnedSpec)

/-- 'waterhourlaw01.CurveRises', WHERE WHAT IT READS IS OF BULK AT MOST 1048576: true; the input reads as it did. -/
def curveRisesUptoRow : OpenClaim := { program := "ytlhhpogaaneamaadoor", sum := "1fdc317da76a829dec2ce9edc57febceb288b7d59cb8668773371e16dca3a1f2", func := "waterhour/waterhourlaw01.CurveRises", spec := "curveRises", inPlace := ["internal/abi.NoEscape", "internal/bytealg.MakeNoZero"], unfollowed := true, recurses := true, named := ["internal/strconv.uint64pow10", "math/bits.deBruijn32tab", "math/bits.deBruijn64tab"], apart := false, laid := [("math/bits.deBruijn32tab", laid_math_bits_deBruijn32tab), ("math/bits.deBruijn64tab", laid_math_bits_deBruijn64tab), ("internal/strconv.uint64pow10", laid_internal_strconv_uint64pow10)], narrowed := true }
def CurveRisesUptoSaid : Prop := curveRisesUptoRow.holds Tryd.pinned (OpenSpec.upto curveRisesSpec)

/-- 'waterhourlaw01.CurveJoins', WHERE WHAT IT READS IS OF BULK AT MOST 1048576: true; the input reads as it did. -/
def curveJoinsUptoRow : OpenClaim := { program := "ytlhhpogaaneamaadoor", sum := "1fdc317da76a829dec2ce9edc57febceb288b7d59cb8668773371e16dca3a1f2", func := "waterhour/waterhourlaw01.CurveJoins", spec := "curveJoins", inPlace := ["internal/abi.NoEscape", "internal/bytealg.MakeNoZero"], unfollowed := true, recurses := true, named := ["internal/strconv.uint64pow10", "math/bits.deBruijn32tab", "math/bits.deBruijn64tab"], apart := false, laid := [("math/bits.deBruijn32tab", laid_math_bits_deBruijn32tab), ("math/bits.deBruijn64tab", laid_math_bits_deBruijn64tab), ("internal/strconv.uint64pow10", laid_internal_strconv_uint64pow10)], narrowed := true }
def CurveJoinsUptoSaid : Prop := curveJoinsUptoRow.holds Tryd.pinned (OpenSpec.upto curveJoinsSpec)

/-- 'waterhourlaw01.CurveBent', WHERE WHAT IT READS IS OF BULK AT MOST 1048576: true; the input reads as it did. -/
def curveBentUptoRow : OpenClaim := { program := "ytlhhpogaaneamaadoor", sum := "1fdc317da76a829dec2ce9edc57febceb288b7d59cb8668773371e16dca3a1f2", func := "waterhour/waterhourlaw01.CurveBent", spec := "curveBent", inPlace := ["internal/abi.NoEscape", "internal/bytealg.MakeNoZero"], unfollowed := true, recurses := true, named := ["internal/strconv.uint64pow10", "math/bits.deBruijn32tab", "math/bits.deBruijn64tab"], apart := false, laid := [("math/bits.deBruijn32tab", laid_math_bits_deBruijn32tab), ("math/bits.deBruijn64tab", laid_math_bits_deBruijn64tab), ("internal/strconv.uint64pow10", laid_internal_strconv_uint64pow10)], narrowed := true }
def CurveBentUptoSaid : Prop := curveBentUptoRow.holds Tryd.pinned (OpenSpec.upto curveBentSpec)

/-- 'waterhourlaw01.CurveBelow', WHERE WHAT IT READS IS OF BULK AT MOST 1048576: true; the input reads as it did. -/
def curveBelowUptoRow : OpenClaim := { program := "ytlhhpogaaneamaadoor", sum := "1fdc317da76a829dec2ce9edc57febceb288b7d59cb8668773371e16dca3a1f2", func := "waterhour/waterhourlaw01.CurveBelow", spec := "curveBelow", inPlace := ["internal/abi.NoEscape", "internal/bytealg.MakeNoZero"], unfollowed := true, recurses := true, named := ["internal/strconv.uint64pow10", "math/bits.deBruijn32tab", "math/bits.deBruijn64tab"], apart := false, laid := [("math/bits.deBruijn32tab", laid_math_bits_deBruijn32tab), ("math/bits.deBruijn64tab", laid_math_bits_deBruijn64tab), ("internal/strconv.uint64pow10", laid_internal_strconv_uint64pow10)], narrowed := true }
def CurveBelowUptoSaid : Prop := curveBelowUptoRow.holds Tryd.pinned (OpenSpec.upto curveBelowSpec)

/-- 'waterhourlaw01.CurveThrough', WHERE WHAT IT READS IS OF BULK AT MOST 1048576: true; the input reads as it did. -/
def curveThroughUptoRow : OpenClaim := { program := "ytlhhpogaaneamaadoor", sum := "1fdc317da76a829dec2ce9edc57febceb288b7d59cb8668773371e16dca3a1f2", func := "waterhour/waterhourlaw01.CurveThrough", spec := "curveThrough", inPlace := ["internal/abi.NoEscape", "internal/bytealg.MakeNoZero"], unfollowed := true, recurses := true, named := ["internal/strconv.uint64pow10", "math/bits.deBruijn32tab", "math/bits.deBruijn64tab"], apart := false, laid := [("math/bits.deBruijn32tab", laid_math_bits_deBruijn32tab), ("math/bits.deBruijn64tab", laid_math_bits_deBruijn64tab), ("internal/strconv.uint64pow10", laid_internal_strconv_uint64pow10)], narrowed := true }
def CurveThroughUptoSaid : Prop := curveThroughUptoRow.holds Tryd.pinned (OpenSpec.upto curveThroughSpec)

/-- 'waterhourlaw01.CurveMeets', WHERE WHAT IT READS IS OF BULK AT MOST 1048576: true; the input reads as it did. -/
def curveMeetsUptoRow : OpenClaim := { program := "ytlhhpogaaneamaadoor", sum := "1fdc317da76a829dec2ce9edc57febceb288b7d59cb8668773371e16dca3a1f2", func := "waterhour/waterhourlaw01.CurveMeets", spec := "curveMeets", inPlace := ["internal/abi.NoEscape", "internal/bytealg.MakeNoZero"], unfollowed := true, recurses := true, named := ["internal/strconv.uint64pow10", "math/bits.deBruijn32tab", "math/bits.deBruijn64tab"], apart := false, laid := [("math/bits.deBruijn32tab", laid_math_bits_deBruijn32tab), ("math/bits.deBruijn64tab", laid_math_bits_deBruijn64tab), ("internal/strconv.uint64pow10", laid_internal_strconv_uint64pow10)], narrowed := true }
def CurveMeetsUptoSaid : Prop := curveMeetsUptoRow.holds Tryd.pinned (OpenSpec.upto curveMeetsSpec)

/-- 'waterhourlaw01.CurveEarlier', WHERE WHAT IT READS IS OF BULK AT MOST 1048576: true; the input reads as it did. -/
def curveEarlierUptoRow : OpenClaim := { program := "ytlhhpogaaneamaadoor", sum := "1fdc317da76a829dec2ce9edc57febceb288b7d59cb8668773371e16dca3a1f2", func := "waterhour/waterhourlaw01.CurveEarlier", spec := "curveEarlier", inPlace := ["internal/abi.NoEscape", "internal/bytealg.MakeNoZero"], unfollowed := true, recurses := true, named := ["internal/strconv.uint64pow10", "math/bits.deBruijn32tab", "math/bits.deBruijn64tab"], apart := false, laid := [("math/bits.deBruijn32tab", laid_math_bits_deBruijn32tab), ("math/bits.deBruijn64tab", laid_math_bits_deBruijn64tab), ("internal/strconv.uint64pow10", laid_internal_strconv_uint64pow10)], narrowed := true }
def CurveEarlierUptoSaid : Prop := curveEarlierUptoRow.holds Tryd.pinned (OpenSpec.upto curveEarlierSpec)

/-- 'waterhourlaw01.CurveRates', WHERE WHAT IT READS IS OF BULK AT MOST 1048576: true; the input reads as it did. -/
def curveRatesUptoRow : OpenClaim := { program := "ytlhhpogaaneamaadoor", sum := "1fdc317da76a829dec2ce9edc57febceb288b7d59cb8668773371e16dca3a1f2", func := "waterhour/waterhourlaw01.CurveRates", spec := "curveRates", inPlace := ["internal/abi.NoEscape", "internal/bytealg.MakeNoZero"], unfollowed := true, recurses := true, named := ["internal/strconv.uint64pow10", "math/bits.deBruijn32tab", "math/bits.deBruijn64tab"], apart := false, laid := [("math/bits.deBruijn32tab", laid_math_bits_deBruijn32tab), ("math/bits.deBruijn64tab", laid_math_bits_deBruijn64tab), ("internal/strconv.uint64pow10", laid_internal_strconv_uint64pow10)], narrowed := true }
def CurveRatesUptoSaid : Prop := curveRatesUptoRow.holds Tryd.pinned (OpenSpec.upto curveRatesSpec)

/-- 'waterhourlaw01.CurveOthers', WHERE WHAT IT READS IS OF BULK AT MOST 1048576: true; the input reads as it did. -/
def curveOthersUptoRow : OpenClaim := { program := "ytlhhpogaaneamaadoor", sum := "1fdc317da76a829dec2ce9edc57febceb288b7d59cb8668773371e16dca3a1f2", func := "waterhour/waterhourlaw01.CurveOthers", spec := "curveOthers", inPlace := ["internal/abi.NoEscape", "internal/bytealg.MakeNoZero"], unfollowed := true, recurses := true, named := ["internal/strconv.uint64pow10", "math/bits.deBruijn32tab", "math/bits.deBruijn64tab"], apart := false, laid := [("math/bits.deBruijn32tab", laid_math_bits_deBruijn32tab), ("math/bits.deBruijn64tab", laid_math_bits_deBruijn64tab), ("internal/strconv.uint64pow10", laid_internal_strconv_uint64pow10)], narrowed := true }
def CurveOthersUptoSaid : Prop := curveOthersUptoRow.holds Tryd.pinned (OpenSpec.upto curveOthersSpec)

end Rows
end Go.Proofs.YtlhhpogaaneamaaDoor
