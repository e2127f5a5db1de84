/-
  NARROWER THAN 'FOR EVERY INPUT', by the rows' own cells (each row's printed sentence says how): LagBases: laid · LagMoves: laid · PlaceLags: laid · PlaceZero: laid · PlaceOrders: laid · WeighKeeps: laid · WeighAlone: laid · WeighBack: laid · ClampRises: laid · ClampOrders: laid · ClampWindows: laid · ClampGrows: laid.
  DERIVED. THE GIVEN ROWS OF THIS SEAT. 12 by the template 'for every input the law returns true; each argument reads behind the call as it read before'; 0 by the template 'total and deterministic' (their statements: YtfbkamgdkdnpoaaGreatDoorTotals.lean).
  GIVEN WITH THE SEED: the statements are not yours to turn. If you find one false, say at which input.
  Laid BY PROGRAM, IN A SANDBOX (cutbox-rows.mjs): the forced cells as the released guide's own fill.sh prints them over the translation a8d1b7451ee77a75… (all of the seat's roots in one cut). By AI agents, Wed Nov 11 2026. No macro, syntax, notation, axiom, sorry.
-/
import Derived.Test.YtfbkamgdkdnpoaaGreatDoorChecked
import GoSem.Claim
import GoSem.ClaimJoined
import GoSem.ClaimMapViews
import Derived.JoinedTies
import Derived.KernelRfl
namespace Go.Proofs.YtfbkamgdkdnpoaaGreatDoor
/- THE CELL 'sum', in the pinned program and in every row, IS THE sha256 OF THE DUMP (.gsa) THAT YtfbkamgdkdnpoaaGreatDoorProg.lean LOADS. Nothing in Lean hashes anything: it is a label: what it is worth is what the hold of that sum in a sandbox is worth. -/
noncomputable def Tryz.pinned : Pinned := { name := "ytfbkamgdkdnpoaagreatdoor", sum := "a8d1b7451ee77a75e47b20d92e35d8ccb2a2b50046b381b363960a712b270afc", checked := Tryz.checked }
namespace Rows
def none {H : Type} : Left H := { results := [], args := [] }

/- WHAT THE LISTED PACKAGE-LEVEL VARIABLES READ AS WHEN THE CALL BEGINS. Each datum BY PROGRAM (the guide's laid-datum.mjs) off the statement by which the dump's own 'gosem.cut.vars' lays the variable. In a bare row this is a premise. The card (YtfbkamgdkdnpoaaGreatDoorCards.lean) ties it to the program's text. -/
def laid_math_bits_deBruijn32tab {H : Type} : DataW H := .agg [.lit (.int .u8 0), .lit (.int .u8 1), .lit (.int .u8 28), .lit (.int .u8 2), .lit (.int .u8 29), .lit (.int .u8 14), .lit (.int .u8 24), .lit (.int .u8 3), .lit (.int .u8 30), .lit (.int .u8 22), .lit (.int .u8 20), .lit (.int .u8 15), .lit (.int .u8 25), .lit (.int .u8 17), .lit (.int .u8 4), .lit (.int .u8 8), .lit (.int .u8 31), .lit (.int .u8 27), .lit (.int .u8 13), .lit (.int .u8 23), .lit (.int .u8 21), .lit (.int .u8 19), .lit (.int .u8 16), .lit (.int .u8 7), .lit (.int .u8 26), .lit (.int .u8 12), .lit (.int .u8 18), .lit (.int .u8 6), .lit (.int .u8 11), .lit (.int .u8 5), .lit (.int .u8 10), .lit (.int .u8 9)]
def laid_math_bits_deBruijn64tab {H : Type} : DataW H := .agg [.lit (.int .u8 0), .lit (.int .u8 1), .lit (.int .u8 56), .lit (.int .u8 2), .lit (.int .u8 57), .lit (.int .u8 49), .lit (.int .u8 28), .lit (.int .u8 3), .lit (.int .u8 61), .lit (.int .u8 58), .lit (.int .u8 42), .lit (.int .u8 50), .lit (.int .u8 38), .lit (.int .u8 29), .lit (.int .u8 17), .lit (.int .u8 4), .lit (.int .u8 62), .lit (.int .u8 47), .lit (.int .u8 59), .lit (.int .u8 36), .lit (.int .u8 45), .lit (.int .u8 43), .lit (.int .u8 51), .lit (.int .u8 22), .lit (.int .u8 53), .lit (.int .u8 39), .lit (.int .u8 33), .lit (.int .u8 30), .lit (.int .u8 24), .lit (.int .u8 18), .lit (.int .u8 12), .lit (.int .u8 5), .lit (.int .u8 63), .lit (.int .u8 55), .lit (.int .u8 48), .lit (.int .u8 27), .lit (.int .u8 60), .lit (.int .u8 41), .lit (.int .u8 37), .lit (.int .u8 16), .lit (.int .u8 46), .lit (.int .u8 35), .lit (.int .u8 44), .lit (.int .u8 21), .lit (.int .u8 52), .lit (.int .u8 32), .lit (.int .u8 23), .lit (.int .u8 11), .lit (.int .u8 54), .lit (.int .u8 26), .lit (.int .u8 40), .lit (.int .u8 15), .lit (.int .u8 34), .lit (.int .u8 20), .lit (.int .u8 31), .lit (.int .u8 10), .lit (.int .u8 25), .lit (.int .u8 14), .lit (.int .u8 19), .lit (.int .u8 9), .lit (.int .u8 13), .lit (.int .u8 8), .lit (.int .u8 7), .lit (.int .u8 6)]
def laid_internal_strconv_uint64pow10 {H : Type} : DataW H := .agg [.lit (.int .u64 1), .lit (.int .u64 10), .lit (.int .u64 100), .lit (.int .u64 1000), .lit (.int .u64 10000), .lit (.int .u64 100000), .lit (.int .u64 1000000), .lit (.int .u64 10000000), .lit (.int .u64 100000000), .lit (.int .u64 1000000000), .lit (.int .u64 10000000000), .lit (.int .u64 100000000000), .lit (.int .u64 1000000000000), .lit (.int .u64 10000000000000), .lit (.int .u64 100000000000000), .lit (.int .u64 1000000000000000), .lit (.int .u64 10000000000000000), .lit (.int .u64 100000000000000000), .lit (.int .u64 1000000000000000000), .lit (.int .u64 10000000000000000000)]

/-- 'turnstonelaw09.LagBases': WHATEVER THE INPUT: true; the input reads as it did. -/
def lagBasesSpec : ChangeSpec := { name := "lagBases", fn := fun _ => fun
  | [d1, d2, d3] => { results := [.lit (.bool true)], args := [d1, d2, d3] }
  | _ => none }
def lagBasesRow : OpenClaim := { program := "ytfbkamgdkdnpoaagreatdoor", sum := "a8d1b7451ee77a75e47b20d92e35d8ccb2a2b50046b381b363960a712b270afc", func := "turnstone/turnstonelaw09.LagBases", spec := "lagBases", inPlace := ["math/bits.Sub64", "math/bits.Add64"], unfollowed := true, recurses := true, named := ["math/bits.divideError", "math/bits.overflowError", "internal/strconv.uint64pow10", "math/bits.deBruijn32tab", "math/bits.deBruijn64tab"], apart := false, laid := [("math/bits.deBruijn32tab", laid_math_bits_deBruijn32tab), ("math/bits.deBruijn64tab", laid_math_bits_deBruijn64tab), ("internal/strconv.uint64pow10", laid_internal_strconv_uint64pow10)] }
def LagBasesSaid : Prop := lagBasesRow.holds Tryz.pinned (OpenSpec.ofChange lagBasesSpec)

/-- ITS FALSE NEIGHBOUR: 'it returns false'. Refute it at one input. -/
def lagBasesWrong : ChangeSpec := { name := "lagBases", fn := fun _ => fun
  | [d1, d2, d3] => { results := [.lit (.bool false)], args := [d1, d2, d3] }
  | _ => none }
def LagBasesWrongFalsely : Prop := lagBasesRow.holds Tryz.pinned (OpenSpec.ofChange lagBasesWrong)

/-- 'turnstonelaw09.LagMoves': WHATEVER THE INPUT: true; the input reads as it did. -/
def lagMovesSpec : ChangeSpec := { name := "lagMoves", fn := fun _ => fun
  | [d1, d2, d3, d4] => { results := [.lit (.bool true)], args := [d1, d2, d3, d4] }
  | _ => none }
def lagMovesRow : OpenClaim := { program := "ytfbkamgdkdnpoaagreatdoor", sum := "a8d1b7451ee77a75e47b20d92e35d8ccb2a2b50046b381b363960a712b270afc", func := "turnstone/turnstonelaw09.LagMoves", spec := "lagMoves", inPlace := ["math/bits.Sub64", "math/bits.Add64"], unfollowed := true, recurses := true, named := ["math/bits.divideError", "math/bits.overflowError", "internal/strconv.uint64pow10", "math/bits.deBruijn32tab", "math/bits.deBruijn64tab"], apart := false, laid := [("math/bits.deBruijn32tab", laid_math_bits_deBruijn32tab), ("math/bits.deBruijn64tab", laid_math_bits_deBruijn64tab), ("internal/strconv.uint64pow10", laid_internal_strconv_uint64pow10)] }
def LagMovesSaid : Prop := lagMovesRow.holds Tryz.pinned (OpenSpec.ofChange lagMovesSpec)

/-- ITS FALSE NEIGHBOUR: 'it returns false'. Refute it at one input. -/
def lagMovesWrong : ChangeSpec := { name := "lagMoves", fn := fun _ => fun
  | [d1, d2, d3, d4] => { results := [.lit (.bool false)], args := [d1, d2, d3, d4] }
  | _ => none }
def LagMovesWrongFalsely : Prop := lagMovesRow.holds Tryz.pinned (OpenSpec.ofChange lagMovesWrong)

/-- 'turnstonelaw10.PlaceLags': WHATEVER THE INPUT: true; the input reads as it did. -/
def placeLagsSpec : ChangeSpec := { name := "placeLags", fn := fun _ => fun
  | [d1, d2, d3, d4] => { results := [.lit (.bool true)], args := [d1, d2, d3, d4] }
  | _ => none }
def placeLagsRow : OpenClaim := { program := "ytfbkamgdkdnpoaagreatdoor", sum := "a8d1b7451ee77a75e47b20d92e35d8ccb2a2b50046b381b363960a712b270afc", func := "turnstone/turnstonelaw10.PlaceLags", spec := "placeLags", inPlace := ["math/bits.Sub64", "math/bits.Add64"], unfollowed := true, recurses := true, named := ["math/bits.divideError", "math/bits.overflowError", "internal/strconv.uint64pow10", "math/bits.deBruijn32tab", "math/bits.deBruijn64tab"], apart := false, laid := [("math/bits.deBruijn32tab", laid_math_bits_deBruijn32tab), ("math/bits.deBruijn64tab", laid_math_bits_deBruijn64tab), ("internal/strconv.uint64pow10", laid_internal_strconv_uint64pow10)] }
def PlaceLagsSaid : Prop := placeLagsRow.holds Tryz.pinned (OpenSpec.ofChange placeLagsSpec)

/-- ITS FALSE NEIGHBOUR: 'it returns false'. Refute it at one input. -/
def placeLagsWrong : ChangeSpec := { name := "placeLags", fn := fun _ => fun
  | [d1, d2, d3, d4] => { results := [.lit (.bool false)], args := [d1, d2, d3, d4] }
  | _ => none }
def PlaceLagsWrongFalsely : Prop := placeLagsRow.holds Tryz.pinned (OpenSpec.ofChange placeLagsWrong)

/-- 'turnstonelaw10.PlaceZero': WHATEVER THE INPUT: true; the input reads as it did. -/
def placeZeroSpec : ChangeSpec := { name := "placeZero", fn := fun _ => fun
  | [d1, d2, d3] => { results := [.lit (.bool true)], args := [d1, d2, d3] }
  | _ => none }
def placeZeroRow : OpenClaim := { program := "ytfbkamgdkdnpoaagreatdoor", sum := "a8d1b7451ee77a75e47b20d92e35d8ccb2a2b50046b381b363960a712b270afc", func := "turnstone/turnstonelaw10.PlaceZero", spec := "placeZero", inPlace := ["math/bits.Sub64", "math/bits.Add64"], unfollowed := true, recurses := true, named := ["math/bits.divideError", "math/bits.overflowError", "internal/strconv.uint64pow10", "math/bits.deBruijn32tab", "math/bits.deBruijn64tab"], apart := false, laid := [("math/bits.deBruijn32tab", laid_math_bits_deBruijn32tab), ("math/bits.deBruijn64tab", laid_math_bits_deBruijn64tab), ("internal/strconv.uint64pow10", laid_internal_strconv_uint64pow10)] }
def PlaceZeroSaid : Prop := placeZeroRow.holds Tryz.pinned (OpenSpec.ofChange placeZeroSpec)

/-- ITS FALSE NEIGHBOUR: 'it returns false'. Refute it at one input. -/
def placeZeroWrong : ChangeSpec := { name := "placeZero", fn := fun _ => fun
  | [d1, d2, d3] => { results := [.lit (.bool false)], args := [d1, d2, d3] }
  | _ => none }
def PlaceZeroWrongFalsely : Prop := placeZeroRow.holds Tryz.pinned (OpenSpec.ofChange placeZeroWrong)

/-- 'turnstonelaw10.PlaceOrders': WHATEVER THE INPUT: true; the input reads as it did. -/
def placeOrdersSpec : ChangeSpec := { name := "placeOrders", fn := fun _ => fun
  | [d1, d2, d3, d4, d5] => { results := [.lit (.bool true)], args := [d1, d2, d3, d4, d5] }
  | _ => none }
def placeOrdersRow : OpenClaim := { program := "ytfbkamgdkdnpoaagreatdoor", sum := "a8d1b7451ee77a75e47b20d92e35d8ccb2a2b50046b381b363960a712b270afc", func := "turnstone/turnstonelaw10.PlaceOrders", spec := "placeOrders", inPlace := ["math/bits.Sub64", "math/bits.Add64"], unfollowed := true, recurses := true, named := ["math/bits.divideError", "math/bits.overflowError", "internal/strconv.uint64pow10", "math/bits.deBruijn32tab", "math/bits.deBruijn64tab"], apart := false, laid := [("math/bits.deBruijn32tab", laid_math_bits_deBruijn32tab), ("math/bits.deBruijn64tab", laid_math_bits_deBruijn64tab), ("internal/strconv.uint64pow10", laid_internal_strconv_uint64pow10)] }
def PlaceOrdersSaid : Prop := placeOrdersRow.holds Tryz.pinned (OpenSpec.ofChange placeOrdersSpec)

/-- ITS FALSE NEIGHBOUR: 'it returns false'. Refute it at one input. -/
def placeOrdersWrong : ChangeSpec := { name := "placeOrders", fn := fun _ => fun
  | [d1, d2, d3, d4, d5] => { results := [.lit (.bool false)], args := [d1, d2, d3, d4, d5] }
  | _ => none }
def PlaceOrdersWrongFalsely : Prop := placeOrdersRow.holds Tryz.pinned (OpenSpec.ofChange placeOrdersWrong)

/-- 'turnstonelaw11.WeighKeeps': WHATEVER THE INPUT: true; the input reads as it did. -/
def weighKeepsSpec : ChangeSpec := { name := "weighKeeps", fn := fun _ => fun
  | [d1, d2, d3, d4] => { results := [.lit (.bool true)], args := [d1, d2, d3, d4] }
  | _ => none }
def weighKeepsRow : OpenClaim := { program := "ytfbkamgdkdnpoaagreatdoor", sum := "a8d1b7451ee77a75e47b20d92e35d8ccb2a2b50046b381b363960a712b270afc", func := "turnstone/turnstonelaw11.WeighKeeps", spec := "weighKeeps", inPlace := ["math/bits.Sub64", "math/bits.Add64"], unfollowed := true, recurses := true, named := ["math/bits.divideError", "math/bits.overflowError", "internal/strconv.uint64pow10", "math/bits.deBruijn32tab", "math/bits.deBruijn64tab"], apart := false, laid := [("math/bits.deBruijn32tab", laid_math_bits_deBruijn32tab), ("math/bits.deBruijn64tab", laid_math_bits_deBruijn64tab), ("internal/strconv.uint64pow10", laid_internal_strconv_uint64pow10)] }
def WeighKeepsSaid : Prop := weighKeepsRow.holds Tryz.pinned (OpenSpec.ofChange weighKeepsSpec)

/-- ITS FALSE NEIGHBOUR: 'it returns false'. Refute it at one input. -/
def weighKeepsWrong : ChangeSpec := { name := "weighKeeps", fn := fun _ => fun
  | [d1, d2, d3, d4] => { results := [.lit (.bool false)], args := [d1, d2, d3, d4] }
  | _ => none }
def WeighKeepsWrongFalsely : Prop := weighKeepsRow.holds Tryz.pinned (OpenSpec.ofChange weighKeepsWrong)

/-- 'turnstonelaw11.WeighAlone': WHATEVER THE INPUT: true; the input reads as it did. -/
def weighAloneSpec : ChangeSpec := { name := "weighAlone", fn := fun _ => fun
  | [d1, d2] => { results := [.lit (.bool true)], args := [d1, d2] }
  | _ => none }
def weighAloneRow : OpenClaim := { program := "ytfbkamgdkdnpoaagreatdoor", sum := "a8d1b7451ee77a75e47b20d92e35d8ccb2a2b50046b381b363960a712b270afc", func := "turnstone/turnstonelaw11.WeighAlone", spec := "weighAlone", inPlace := ["math/bits.Sub64", "math/bits.Add64"], unfollowed := true, recurses := true, named := ["math/bits.divideError", "math/bits.overflowError", "internal/strconv.uint64pow10", "math/bits.deBruijn32tab", "math/bits.deBruijn64tab"], apart := false, laid := [("math/bits.deBruijn32tab", laid_math_bits_deBruijn32tab), ("math/bits.deBruijn64tab", laid_math_bits_deBruijn64tab), ("internal/strconv.uint64pow10", laid_internal_strconv_uint64pow10)] }
def WeighAloneSaid : Prop := weighAloneRow.holds Tryz.pinned (OpenSpec.ofChange weighAloneSpec)

/-- ITS FALSE NEIGHBOUR: 'it returns false'. Refute it at one input. -/
def weighAloneWrong : ChangeSpec := { name := "weighAlone", fn := fun _ => fun
  | [d1, d2] => { results := [.lit (.bool false)], args := [d1, d2] }
  | _ => none }
def WeighAloneWrongFalsely : Prop := weighAloneRow.holds Tryz.pinned (OpenSpec.ofChange weighAloneWrong)

/-- 'turnstonelaw11.WeighBack': WHATEVER THE INPUT: true; the input reads as it did. -/
def weighBackSpec : ChangeSpec := { name := "weighBack", fn := fun _ => fun
  | [d1, d2, d3, d4] => { results := [.lit (.bool true)], args := [d1, d2, d3, d4] }
  | _ => none }
def weighBackRow : OpenClaim := { program := "ytfbkamgdkdnpoaagreatdoor", sum := "a8d1b7451ee77a75e47b20d92e35d8ccb2a2b50046b381b363960a712b270afc", func := "turnstone/turnstonelaw11.WeighBack", spec := "weighBack", inPlace := ["math/bits.Sub64", "math/bits.Add64"], unfollowed := true, recurses := true, named := ["math/bits.divideError", "math/bits.overflowError", "internal/strconv.uint64pow10", "math/bits.deBruijn32tab", "math/bits.deBruijn64tab"], apart := false, laid := [("math/bits.deBruijn32tab", laid_math_bits_deBruijn32tab), ("math/bits.deBruijn64tab", laid_math_bits_deBruijn64tab), ("internal/strconv.uint64pow10", laid_internal_strconv_uint64pow10)] }
def WeighBackSaid : Prop := weighBackRow.holds Tryz.pinned (OpenSpec.ofChange weighBackSpec)

/-- ITS FALSE NEIGHBOUR: 'it returns false'. Refute it at one input. -/
def weighBackWrong : ChangeSpec := { name := "weighBack", fn := fun _ => fun
  | [d1, d2, d3, d4] => { results := [.lit (.bool false)], args := [d1, d2, d3, d4] }
  | _ => none }
def WeighBackWrongFalsely : Prop := weighBackRow.holds Tryz.pinned (OpenSpec.ofChange weighBackWrong)

/-- 'turnstonelaw12.ClampRises': WHATEVER THE INPUT: true; the input reads as it did. -/
def clampRisesSpec : ChangeSpec := { name := "clampRises", fn := fun _ => fun
  | [d1, d2] => { results := [.lit (.bool true)], args := [d1, d2] }
  | _ => none }
def clampRisesRow : OpenClaim := { program := "ytfbkamgdkdnpoaagreatdoor", sum := "a8d1b7451ee77a75e47b20d92e35d8ccb2a2b50046b381b363960a712b270afc", func := "turnstone/turnstonelaw12.ClampRises", spec := "clampRises", inPlace := ["math/bits.Sub64", "math/bits.Add64"], unfollowed := true, recurses := true, named := ["math/bits.divideError", "math/bits.overflowError", "internal/strconv.uint64pow10", "math/bits.deBruijn32tab", "math/bits.deBruijn64tab"], apart := false, laid := [("math/bits.deBruijn32tab", laid_math_bits_deBruijn32tab), ("math/bits.deBruijn64tab", laid_math_bits_deBruijn64tab), ("internal/strconv.uint64pow10", laid_internal_strconv_uint64pow10)] }
def ClampRisesSaid : Prop := clampRisesRow.holds Tryz.pinned (OpenSpec.ofChange clampRisesSpec)

/-- ITS FALSE NEIGHBOUR: 'it returns false'. Refute it at one input. -/
def clampRisesWrong : ChangeSpec := { name := "clampRises", fn := fun _ => fun
  | [d1, d2] => { results := [.lit (.bool false)], args := [d1, d2] }
  | _ => none }
def ClampRisesWrongFalsely : Prop := clampRisesRow.holds Tryz.pinned (OpenSpec.ofChange clampRisesWrong)

/-- 'turnstonelaw12.ClampOrders': WHATEVER THE INPUT: true; the input reads as it did. -/
def clampOrdersSpec : ChangeSpec := { name := "clampOrders", fn := fun _ => fun
  | [d1, d2, d3] => { results := [.lit (.bool true)], args := [d1, d2, d3] }
  | _ => none }
def clampOrdersRow : OpenClaim := { program := "ytfbkamgdkdnpoaagreatdoor", sum := "a8d1b7451ee77a75e47b20d92e35d8ccb2a2b50046b381b363960a712b270afc", func := "turnstone/turnstonelaw12.ClampOrders", spec := "clampOrders", inPlace := ["math/bits.Sub64", "math/bits.Add64"], unfollowed := true, recurses := true, named := ["math/bits.divideError", "math/bits.overflowError", "internal/strconv.uint64pow10", "math/bits.deBruijn32tab", "math/bits.deBruijn64tab"], apart := false, laid := [("math/bits.deBruijn32tab", laid_math_bits_deBruijn32tab), ("math/bits.deBruijn64tab", laid_math_bits_deBruijn64tab), ("internal/strconv.uint64pow10", laid_internal_strconv_uint64pow10)] }
def ClampOrdersSaid : Prop := clampOrdersRow.holds Tryz.pinned (OpenSpec.ofChange clampOrdersSpec)

/-- ITS FALSE NEIGHBOUR: 'it returns false'. Refute it at one input. -/
def clampOrdersWrong : ChangeSpec := { name := "clampOrders", fn := fun _ => fun
  | [d1, d2, d3] => { results := [.lit (.bool false)], args := [d1, d2, d3] }
  | _ => none }
def ClampOrdersWrongFalsely : Prop := clampOrdersRow.holds Tryz.pinned (OpenSpec.ofChange clampOrdersWrong)

/-- 'turnstonelaw12.ClampWindows': WHATEVER THE INPUT: true; the input reads as it did. -/
def clampWindowsSpec : ChangeSpec := { name := "clampWindows", fn := fun _ => fun
  | [d1, d2, d3, d4] => { results := [.lit (.bool true)], args := [d1, d2, d3, d4] }
  | _ => none }
def clampWindowsRow : OpenClaim := { program := "ytfbkamgdkdnpoaagreatdoor", sum := "a8d1b7451ee77a75e47b20d92e35d8ccb2a2b50046b381b363960a712b270afc", func := "turnstone/turnstonelaw12.ClampWindows", spec := "clampWindows", inPlace := ["math/bits.Sub64", "math/bits.Add64"], unfollowed := true, recurses := true, named := ["math/bits.divideError", "math/bits.overflowError", "internal/strconv.uint64pow10", "math/bits.deBruijn32tab", "math/bits.deBruijn64tab"], apart := false, laid := [("math/bits.deBruijn32tab", laid_math_bits_deBruijn32tab), ("math/bits.deBruijn64tab", laid_math_bits_deBruijn64tab), ("internal/strconv.uint64pow10", laid_internal_strconv_uint64pow10)] }
def ClampWindowsSaid : Prop := clampWindowsRow.holds Tryz.pinned (OpenSpec.ofChange clampWindowsSpec)

/-- ITS FALSE NEIGHBOUR: 'it returns false'. Refute it at one input. -/
def clampWindowsWrong : ChangeSpec := { name := "clampWindows", fn := fun _ => fun
  | [d1, d2, d3, d4] => { results := [.lit (.bool false)], args := [d1, d2, d3, d4] }
  | _ => none }
def ClampWindowsWrongFalsely : Prop := clampWindowsRow.holds Tryz.pinned (OpenSpec.ofChange clampWindowsWrong)

/-- 'turnstonelaw12.ClampGrows': WHATEVER THE INPUT: true; the input reads as it did. -/
def clampGrowsSpec : ChangeSpec := { name := "clampGrows", fn := fun _ => fun
  | [d1, d2, d3, d4] => { results := [.lit (.bool true)], args := [d1, d2, d3, d4] }
  | _ => none }
def clampGrowsRow : OpenClaim := { program := "ytfbkamgdkdnpoaagreatdoor", sum := "a8d1b7451ee77a75e47b20d92e35d8ccb2a2b50046b381b363960a712b270afc", func := "turnstone/turnstonelaw12.ClampGrows", spec := "clampGrows", inPlace := ["math/bits.Sub64", "math/bits.Add64"], unfollowed := true, recurses := true, named := ["math/bits.divideError", "math/bits.overflowError", "internal/strconv.uint64pow10", "math/bits.deBruijn32tab", "math/bits.deBruijn64tab"], apart := false, laid := [("math/bits.deBruijn32tab", laid_math_bits_deBruijn32tab), ("math/bits.deBruijn64tab", laid_math_bits_deBruijn64tab), ("internal/strconv.uint64pow10", laid_internal_strconv_uint64pow10)] }
def ClampGrowsSaid : Prop := clampGrowsRow.holds Tryz.pinned (OpenSpec.ofChange clampGrowsSpec)

/-- ITS FALSE NEIGHBOUR: 'it returns false'. Refute it at one input. -/
def clampGrowsWrong : ChangeSpec := { name := "clampGrows", fn := fun _ => fun
  | [d1, d2, d3, d4] => { results := [.lit (.bool false)], args := [d1, d2, d3, d4] }
  | _ => none }
def ClampGrowsWrongFalsely : Prop := clampGrowsRow.holds Tryz.pinned (OpenSpec.ofChange clampGrowsWrong)

/- THE SECOND FORM. 'bulk': how many values and letters a reading holds, each counted each time it is reached (what is shared counts as often as it is met; a slice's spare places count too). A statement '..UptoSaid' is the law's where the arguments, and the package variables that the reading takes, are together of bulk at most 1048576: NARROWER than '..Said'. Prove '..Said' where nothing that the law and all that it calls make is longer than what came in: it says more and counts as full. Else prove '..UptoSaid'. A law counts once. -/
mutual
def uptoBulk {H : Type} : DataW H → Nat
  | .lit (.string bytes) => bytes.length + 1
  | .lit _ => 1
  | .nil => 1
  | .ptr d => uptoBulk d + 1
  | .slice elems spare => uptoBulkAll elems + uptoBulkAll spare + 1
  | .agg parts => uptoBulkAll parts + 1
  | .iface _ d => uptoBulk d + 1
  | .map entries => uptoBulkEntries entries + 1
  | .held _ => 1
def uptoBulkAll {H : Type} : List (DataW H) → Nat
  | [] => 0
  | d :: r => uptoBulk d + uptoBulkAll r
def uptoBulkEntries {H : Type} : List (Lit × DataW H) → Nat
  | [] => 0
  | x :: r => uptoBulkEntry x + uptoBulkEntries r
def uptoBulkEntry {H : Type} : Lit × DataW H → Nat
  | (.string bytes, d) => bytes.length + uptoBulk d + 1
  | (_, d) => uptoBulk d + 1
 end
def uptoSmall : (H : Type) → List (DataW H) → Bool := fun _ ds => decide (uptoBulkAll ds ≤ 1048576)
def OpenSpec.upto (s : _root_.Go.ChangeSpec) : _root_.Go.OpenSpec := { _root_.Go.OpenSpec.ofChange s with cond := some uptoSmall }

/-- 'turnstonelaw09.LagBases', WHERE WHAT IT READS IS OF BULK AT MOST 1048576: true; the input reads as it did. -/
def lagBasesUptoRow : OpenClaim := { program := "ytfbkamgdkdnpoaagreatdoor", sum := "a8d1b7451ee77a75e47b20d92e35d8ccb2a2b50046b381b363960a712b270afc", func := "turnstone/turnstonelaw09.LagBases", spec := "lagBases", inPlace := ["math/bits.Sub64", "math/bits.Add64"], unfollowed := true, recurses := true, named := ["math/bits.divideError", "math/bits.overflowError", "internal/strconv.uint64pow10", "math/bits.deBruijn32tab", "math/bits.deBruijn64tab"], apart := false, laid := [("math/bits.deBruijn32tab", laid_math_bits_deBruijn32tab), ("math/bits.deBruijn64tab", laid_math_bits_deBruijn64tab), ("internal/strconv.uint64pow10", laid_internal_strconv_uint64pow10)], narrowed := true }
def LagBasesUptoSaid : Prop := lagBasesUptoRow.holds Tryz.pinned (OpenSpec.upto lagBasesSpec)

/-- 'turnstonelaw09.LagMoves', WHERE WHAT IT READS IS OF BULK AT MOST 1048576: true; the input reads as it did. -/
def lagMovesUptoRow : OpenClaim := { program := "ytfbkamgdkdnpoaagreatdoor", sum := "a8d1b7451ee77a75e47b20d92e35d8ccb2a2b50046b381b363960a712b270afc", func := "turnstone/turnstonelaw09.LagMoves", spec := "lagMoves", inPlace := ["math/bits.Sub64", "math/bits.Add64"], unfollowed := true, recurses := true, named := ["math/bits.divideError", "math/bits.overflowError", "internal/strconv.uint64pow10", "math/bits.deBruijn32tab", "math/bits.deBruijn64tab"], apart := false, laid := [("math/bits.deBruijn32tab", laid_math_bits_deBruijn32tab), ("math/bits.deBruijn64tab", laid_math_bits_deBruijn64tab), ("internal/strconv.uint64pow10", laid_internal_strconv_uint64pow10)], narrowed := true }
def LagMovesUptoSaid : Prop := lagMovesUptoRow.holds Tryz.pinned (OpenSpec.upto lagMovesSpec)

/-- 'turnstonelaw10.PlaceLags', WHERE WHAT IT READS IS OF BULK AT MOST 1048576: true; the input reads as it did. -/
def placeLagsUptoRow : OpenClaim := { program := "ytfbkamgdkdnpoaagreatdoor", sum := "a8d1b7451ee77a75e47b20d92e35d8ccb2a2b50046b381b363960a712b270afc", func := "turnstone/turnstonelaw10.PlaceLags", spec := "placeLags", inPlace := ["math/bits.Sub64", "math/bits.Add64"], unfollowed := true, recurses := true, named := ["math/bits.divideError", "math/bits.overflowError", "internal/strconv.uint64pow10", "math/bits.deBruijn32tab", "math/bits.deBruijn64tab"], apart := false, laid := [("math/bits.deBruijn32tab", laid_math_bits_deBruijn32tab), ("math/bits.deBruijn64tab", laid_math_bits_deBruijn64tab), ("internal/strconv.uint64pow10", laid_internal_strconv_uint64pow10)], narrowed := true }
def PlaceLagsUptoSaid : Prop := placeLagsUptoRow.holds Tryz.pinned (OpenSpec.upto placeLagsSpec)

/-- 'turnstonelaw10.PlaceZero', WHERE WHAT IT READS IS OF BULK AT MOST 1048576: true; the input reads as it did. -/
def placeZeroUptoRow : OpenClaim := { program := "ytfbkamgdkdnpoaagreatdoor", sum := "a8d1b7451ee77a75e47b20d92e35d8ccb2a2b50046b381b363960a712b270afc", func := "turnstone/turnstonelaw10.PlaceZero", spec := "placeZero", inPlace := ["math/bits.Sub64", "math/bits.Add64"], unfollowed := true, recurses := true, named := ["math/bits.divideError", "math/bits.overflowError", "internal/strconv.uint64pow10", "math/bits.deBruijn32tab", "math/bits.deBruijn64tab"], apart := false, laid := [("math/bits.deBruijn32tab", laid_math_bits_deBruijn32tab), ("math/bits.deBruijn64tab", laid_math_bits_deBruijn64tab), ("internal/strconv.uint64pow10", laid_internal_strconv_uint64pow10)], narrowed := true }
def PlaceZeroUptoSaid : Prop := placeZeroUptoRow.holds Tryz.pinned (OpenSpec.upto placeZeroSpec)

/-- 'turnstonelaw10.PlaceOrders', WHERE WHAT IT READS IS OF BULK AT MOST 1048576: true; the input reads as it did. -/
def placeOrdersUptoRow : OpenClaim := { program := "ytfbkamgdkdnpoaagreatdoor", sum := "a8d1b7451ee77a75e47b20d92e35d8ccb2a2b50046b381b363960a712b270afc", func := "turnstone/turnstonelaw10.PlaceOrders", spec := "placeOrders", inPlace := ["math/bits.Sub64", "math/bits.Add64"], unfollowed := true, recurses := true, named := ["math/bits.divideError", "math/bits.overflowError", "internal/strconv.uint64pow10", "math/bits.deBruijn32tab", "math/bits.deBruijn64tab"], apart := false, laid := [("math/bits.deBruijn32tab", laid_math_bits_deBruijn32tab), ("math/bits.deBruijn64tab", laid_math_bits_deBruijn64tab), ("internal/strconv.uint64pow10", laid_internal_strconv_uint64pow10)], narrowed := true }
def PlaceOrdersUptoSaid : Prop := placeOrdersUptoRow.holds Tryz.pinned (OpenSpec.upto placeOrdersSpec)

/-- 'turnstonelaw11.WeighKeeps', WHERE WHAT IT READS IS OF BULK AT MOST 1048576: true; the input reads as it did. -/
def weighKeepsUptoRow : OpenClaim := { program := "ytfbkamgdkdnpoaagreatdoor", sum := "a8d1b7451ee77a75e47b20d92e35d8ccb2a2b50046b381b363960a712b270afc", func := "turnstone/turnstonelaw11.WeighKeeps", spec := "weighKeeps", inPlace := ["math/bits.Sub64", "math/bits.Add64"], unfollowed := true, recurses := true, named := ["math/bits.divideError", "math/bits.overflowError", "internal/strconv.uint64pow10", "math/bits.deBruijn32tab", "math/bits.deBruijn64tab"], apart := false, laid := [("math/bits.deBruijn32tab", laid_math_bits_deBruijn32tab), ("math/bits.deBruijn64tab", laid_math_bits_deBruijn64tab), ("internal/strconv.uint64pow10", laid_internal_strconv_uint64pow10)], narrowed := true }
def WeighKeepsUptoSaid : Prop := weighKeepsUptoRow.holds Tryz.pinned (OpenSpec.upto weighKeepsSpec)

/-- 'turnstonelaw11.WeighAlone', WHERE WHAT IT READS IS OF BULK AT MOST 1048576: true; the input reads as it did. -/
def weighAloneUptoRow : OpenClaim := { program := "ytfbkamgdkdnpoaagreatdoor", sum := "a8d1b7451ee77a75e47b20d92e35d8ccb2a2b50046b381b363960a712b270afc", func := "turnstone/turnstonelaw11.WeighAlone", spec := "weighAlone", inPlace := ["math/bits.Sub64", "math/bits.Add64"], unfollowed := true, recurses := true, named := ["math/bits.divideError", "math/bits.overflowError", "internal/strconv.uint64pow10", "math/bits.deBruijn32tab", "math/bits.deBruijn64tab"], apart := false, laid := [("math/bits.deBruijn32tab", laid_math_bits_deBruijn32tab), ("math/bits.deBruijn64tab", laid_math_bits_deBruijn64tab), ("internal/strconv.uint64pow10", laid_internal_strconv_uint64pow10)], narrowed := true }
def WeighAloneUptoSaid : Prop := weighAloneUptoRow.holds Tryz.pinned (OpenSpec.upto weighAloneSpec)

/-- 'turnstonelaw11.WeighBack', WHERE WHAT IT READS IS OF BULK AT MOST 1048576: true; the input reads as it did. -/
def weighBackUptoRow : OpenClaim := { program := "ytfbkamgdkdnpoaagreatdoor", sum := "a8d1b7451ee77a75e47b20d92e35d8ccb2a2b50046b381b363960a712b270afc", func := "turnstone/turnstonelaw11.WeighBack", spec := "weighBack", inPlace := ["math/bits.Sub64", "math/bits.Add64"], unfollowed := true, recurses := true, named := ["math/bits.divideError", "math/bits.overflowError", "internal/strconv.uint64pow10", "math/bits.deBruijn32tab", "math/bits.deBruijn64tab"], apart := false, laid := [("math/bits.deBruijn32tab", laid_math_bits_deBruijn32tab), ("math/bits.deBruijn64tab", laid_math_bits_deBruijn64tab), ("internal/strconv.uint64pow10", laid_internal_strconv_uint64pow10)], narrowed := true }
def WeighBackUptoSaid : Prop := weighBackUptoRow.holds Tryz.pinned (OpenSpec.upto weighBackSpec)

/-- 'turnstonelaw12.ClampRises', WHERE WHAT IT READS IS OF BULK AT MOST 1048576: true; the input reads as it did. -/
def clampRisesUptoRow : OpenClaim := { program := "ytfbkamgdkdnpoaagreatdoor", sum := "a8d1b7451ee77a75e47b20d92e35d8ccb2a2b50046b381b363960a712b270afc", func := "turnstone/turnstonelaw12.ClampRises", spec := "clampRises", inPlace := ["math/bits.Sub64", "math/bits.Add64"], unfollowed := true, recurses := true, named := ["math/bits.divideError", "math/bits.overflowError", "internal/strconv.uint64pow10", "math/bits.deBruijn32tab", "math/bits.deBruijn64tab"], apart := false, laid := [("math/bits.deBruijn32tab", laid_math_bits_deBruijn32tab), ("math/bits.deBruijn64tab", laid_math_bits_deBruijn64tab), ("internal/strconv.uint64pow10", laid_internal_strconv_uint64pow10)], narrowed := true }
def ClampRisesUptoSaid : Prop := clampRisesUptoRow.holds Tryz.pinned (OpenSpec.upto clampRisesSpec)

/-- 'turnstonelaw12.ClampOrders', WHERE WHAT IT READS IS OF BULK AT MOST 1048576: true; the input reads as it did. -/
def clampOrdersUptoRow : OpenClaim := { program := "ytfbkamgdkdnpoaagreatdoor", sum := "a8d1b7451ee77a75e47b20d92e35d8ccb2a2b50046b381b363960a712b270afc", func := "turnstone/turnstonelaw12.ClampOrders", spec := "clampOrders", inPlace := ["math/bits.Sub64", "math/bits.Add64"], unfollowed := true, recurses := true, named := ["math/bits.divideError", "math/bits.overflowError", "internal/strconv.uint64pow10", "math/bits.deBruijn32tab", "math/bits.deBruijn64tab"], apart := false, laid := [("math/bits.deBruijn32tab", laid_math_bits_deBruijn32tab), ("math/bits.deBruijn64tab", laid_math_bits_deBruijn64tab), ("internal/strconv.uint64pow10", laid_internal_strconv_uint64pow10)], narrowed := true }
def ClampOrdersUptoSaid : Prop := clampOrdersUptoRow.holds Tryz.pinned (OpenSpec.upto clampOrdersSpec)

/-- 'turnstonelaw12.ClampWindows', WHERE WHAT IT READS IS OF BULK AT MOST 1048576: true; the input reads as it did. -/
def clampWindowsUptoRow : OpenClaim := { program := "ytfbkamgdkdnpoaagreatdoor", sum := "a8d1b7451ee77a75e47b20d92e35d8ccb2a2b50046b381b363960a712b270afc", func := "turnstone/turnstonelaw12.ClampWindows", spec := "clampWindows", inPlace := ["math/bits.Sub64", "math/bits.Add64"], unfollowed := true, recurses := true, named := ["math/bits.divideError", "math/bits.overflowError", "internal/strconv.uint64pow10", "math/bits.deBruijn32tab", "math/bits.deBruijn64tab"], apart := false, laid := [("math/bits.deBruijn32tab", laid_math_bits_deBruijn32tab), ("math/bits.deBruijn64tab", laid_math_bits_deBruijn64tab), ("internal/strconv.uint64pow10", laid_internal_strconv_uint64pow10)], narrowed := true }
def ClampWindowsUptoSaid : Prop := clampWindowsUptoRow.holds Tryz.pinned (OpenSpec.upto clampWindowsSpec)

/-- 'turnstonelaw12.ClampGrows', WHERE WHAT IT READS IS OF BULK AT MOST 1048576: true; the input reads as it did. -/
def clampGrowsUptoRow : OpenClaim := { program := "ytfbkamgdkdnpoaagreatdoor", sum := "a8d1b7451ee77a75e47b20d92e35d8ccb2a2b50046b381b363960a712b270afc", func := "turnstone/turnstonelaw12.ClampGrows", spec := "clampGrows", inPlace := ["math/bits.Sub64", "math/bits.Add64"], unfollowed := true, recurses := true, named := ["math/bits.divideError", "math/bits.overflowError", "internal/strconv.uint64pow10", "math/bits.deBruijn32tab", "math/bits.deBruijn64tab"], apart := false, laid := [("math/bits.deBruijn32tab", laid_math_bits_deBruijn32tab), ("math/bits.deBruijn64tab", laid_math_bits_deBruijn64tab), ("internal/strconv.uint64pow10", laid_internal_strconv_uint64pow10)], narrowed := true }
def ClampGrowsUptoSaid : Prop := clampGrowsUptoRow.holds Tryz.pinned (OpenSpec.upto clampGrowsSpec)

end Rows
end Go.Proofs.YtfbkamgdkdnpoaaGreatDoor
