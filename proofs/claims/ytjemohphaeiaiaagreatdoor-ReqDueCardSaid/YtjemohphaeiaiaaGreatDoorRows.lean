/-
  NARROWER THAN 'FOR EVERY INPUT', by the rows' own cells (each row's printed sentence says how): ReqServes: laid · ReqDue: laid · ReqShifts: laid · ReqParts: laid · ReqMoves: laid · ReqMakes: laid.
  DERIVED. THE GIVEN ROWS OF THIS SEAT. 6 by the template 'for every input the law returns true; each argument reads behind the call as it read before'; 0 by the template 'total and deterministic' (their statements: YtjemohphaeiaiaaGreatDoorTotals.lean).
  GIVEN WITH THE SEED: the statements are not yours to turn. If you find one false, say at which input.
  Laid BY PROGRAM, IN A SANDBOX (cutbox-rows.mjs): the forced cells as the released guide's own fill.sh prints them over the translation 158186ab5036dbee… (all of the seat's roots in one cut). By AI agents, Wed Nov 11 2026. No macro, syntax, notation, axiom, sorry.
-/
import Derived.Test.YtjemohphaeiaiaaGreatDoorChecked
import GoSem.Claim
import GoSem.ClaimJoined
import GoSem.ClaimMapViews
import Derived.JoinedTies
import Derived.KernelRfl
namespace Go.Proofs.YtjemohphaeiaiaaGreatDoor
/- THE CELL 'sum', in the pinned program and in every row, IS THE sha256 OF THE DUMP (.gsa) THAT YtjemohphaeiaiaaGreatDoorProg.lean LOADS. Nothing in Lean hashes anything: it is a label: what it is worth is what the hold of that sum in a sandbox is worth. -/
noncomputable def Tryz.pinned : Pinned := { name := "ytjemohphaeiaiaagreatdoor", sum := "158186ab5036dbee2d8d5e637576667bcba5b8b4e7063e5c2787e5a765399893", checked := Tryz.checked }
namespace Rows
def none {H : Type} : Left H := { results := [], args := [] }

/- WHAT THE LISTED PACKAGE-LEVEL VARIABLES READ AS WHEN THE CALL BEGINS. Each datum BY PROGRAM (the guide's laid-datum.mjs) off the statement by which the dump's own 'gosem.cut.vars' lays the variable. In a bare row this is a premise. The card (YtjemohphaeiaiaaGreatDoorCards.lean) ties it to the program's text. -/
def laid_math_bits_deBruijn32tab {H : Type} : DataW H := .agg [.lit (.int .u8 0), .lit (.int .u8 1), .lit (.int .u8 28), .lit (.int .u8 2), .lit (.int .u8 29), .lit (.int .u8 14), .lit (.int .u8 24), .lit (.int .u8 3), .lit (.int .u8 30), .lit (.int .u8 22), .lit (.int .u8 20), .lit (.int .u8 15), .lit (.int .u8 25), .lit (.int .u8 17), .lit (.int .u8 4), .lit (.int .u8 8), .lit (.int .u8 31), .lit (.int .u8 27), .lit (.int .u8 13), .lit (.int .u8 23), .lit (.int .u8 21), .lit (.int .u8 19), .lit (.int .u8 16), .lit (.int .u8 7), .lit (.int .u8 26), .lit (.int .u8 12), .lit (.int .u8 18), .lit (.int .u8 6), .lit (.int .u8 11), .lit (.int .u8 5), .lit (.int .u8 10), .lit (.int .u8 9)]
def laid_math_bits_deBruijn64tab {H : Type} : DataW H := .agg [.lit (.int .u8 0), .lit (.int .u8 1), .lit (.int .u8 56), .lit (.int .u8 2), .lit (.int .u8 57), .lit (.int .u8 49), .lit (.int .u8 28), .lit (.int .u8 3), .lit (.int .u8 61), .lit (.int .u8 58), .lit (.int .u8 42), .lit (.int .u8 50), .lit (.int .u8 38), .lit (.int .u8 29), .lit (.int .u8 17), .lit (.int .u8 4), .lit (.int .u8 62), .lit (.int .u8 47), .lit (.int .u8 59), .lit (.int .u8 36), .lit (.int .u8 45), .lit (.int .u8 43), .lit (.int .u8 51), .lit (.int .u8 22), .lit (.int .u8 53), .lit (.int .u8 39), .lit (.int .u8 33), .lit (.int .u8 30), .lit (.int .u8 24), .lit (.int .u8 18), .lit (.int .u8 12), .lit (.int .u8 5), .lit (.int .u8 63), .lit (.int .u8 55), .lit (.int .u8 48), .lit (.int .u8 27), .lit (.int .u8 60), .lit (.int .u8 41), .lit (.int .u8 37), .lit (.int .u8 16), .lit (.int .u8 46), .lit (.int .u8 35), .lit (.int .u8 44), .lit (.int .u8 21), .lit (.int .u8 52), .lit (.int .u8 32), .lit (.int .u8 23), .lit (.int .u8 11), .lit (.int .u8 54), .lit (.int .u8 26), .lit (.int .u8 40), .lit (.int .u8 15), .lit (.int .u8 34), .lit (.int .u8 20), .lit (.int .u8 31), .lit (.int .u8 10), .lit (.int .u8 25), .lit (.int .u8 14), .lit (.int .u8 19), .lit (.int .u8 9), .lit (.int .u8 13), .lit (.int .u8 8), .lit (.int .u8 7), .lit (.int .u8 6)]
def laid_internal_strconv_uint64pow10 {H : Type} : DataW H := .agg [.lit (.int .u64 1), .lit (.int .u64 10), .lit (.int .u64 100), .lit (.int .u64 1000), .lit (.int .u64 10000), .lit (.int .u64 100000), .lit (.int .u64 1000000), .lit (.int .u64 10000000), .lit (.int .u64 100000000), .lit (.int .u64 1000000000), .lit (.int .u64 10000000000), .lit (.int .u64 100000000000), .lit (.int .u64 1000000000000), .lit (.int .u64 10000000000000), .lit (.int .u64 100000000000000), .lit (.int .u64 1000000000000000), .lit (.int .u64 10000000000000000), .lit (.int .u64 100000000000000000), .lit (.int .u64 1000000000000000000), .lit (.int .u64 10000000000000000000)]

/-- 'turnstonelaw15.ReqServes': WHATEVER THE INPUT: true; the input reads as it did. -/
def reqServesSpec : ChangeSpec := { name := "reqServes", fn := fun _ => fun
  | [d1, d2, d3] => { results := [.lit (.bool true)], args := [d1, d2, d3] }
  | _ => none }
def reqServesRow : OpenClaim := { program := "ytjemohphaeiaiaagreatdoor", sum := "158186ab5036dbee2d8d5e637576667bcba5b8b4e7063e5c2787e5a765399893", func := "turnstone/turnstonelaw15.ReqServes", spec := "reqServes", inPlace := ["math/bits.Add64", "math/bits.Sub64"], unfollowed := true, recurses := true, named := ["math/bits.divideError", "math/bits.overflowError", "internal/strconv.uint64pow10", "math/bits.deBruijn32tab", "math/bits.deBruijn64tab"], apart := false, laid := [("math/bits.deBruijn32tab", laid_math_bits_deBruijn32tab), ("math/bits.deBruijn64tab", laid_math_bits_deBruijn64tab), ("internal/strconv.uint64pow10", laid_internal_strconv_uint64pow10)] }
def ReqServesSaid : Prop := reqServesRow.holds Tryz.pinned (OpenSpec.ofChange reqServesSpec)

/-- ITS FALSE NEIGHBOUR: 'it returns false'. Refute it at one input. -/
def reqServesWrong : ChangeSpec := { name := "reqServes", fn := fun _ => fun
  | [d1, d2, d3] => { results := [.lit (.bool false)], args := [d1, d2, d3] }
  | _ => none }
def ReqServesWrongFalsely : Prop := reqServesRow.holds Tryz.pinned (OpenSpec.ofChange reqServesWrong)

/-- 'turnstonelaw15.ReqDue': WHATEVER THE INPUT: true; the input reads as it did. -/
def reqDueSpec : ChangeSpec := { name := "reqDue", fn := fun _ => fun
  | [d1, d2, d3] => { results := [.lit (.bool true)], args := [d1, d2, d3] }
  | _ => none }
def reqDueRow : OpenClaim := { program := "ytjemohphaeiaiaagreatdoor", sum := "158186ab5036dbee2d8d5e637576667bcba5b8b4e7063e5c2787e5a765399893", func := "turnstone/turnstonelaw15.ReqDue", spec := "reqDue", inPlace := ["math/bits.Add64", "math/bits.Sub64"], unfollowed := true, recurses := true, named := ["math/bits.divideError", "math/bits.overflowError", "internal/strconv.uint64pow10", "math/bits.deBruijn32tab", "math/bits.deBruijn64tab"], apart := false, laid := [("math/bits.deBruijn32tab", laid_math_bits_deBruijn32tab), ("math/bits.deBruijn64tab", laid_math_bits_deBruijn64tab), ("internal/strconv.uint64pow10", laid_internal_strconv_uint64pow10)] }
def ReqDueSaid : Prop := reqDueRow.holds Tryz.pinned (OpenSpec.ofChange reqDueSpec)

/-- ITS FALSE NEIGHBOUR: 'it returns false'. Refute it at one input. -/
def reqDueWrong : ChangeSpec := { name := "reqDue", fn := fun _ => fun
  | [d1, d2, d3] => { results := [.lit (.bool false)], args := [d1, d2, d3] }
  | _ => none }
def ReqDueWrongFalsely : Prop := reqDueRow.holds Tryz.pinned (OpenSpec.ofChange reqDueWrong)

/-- 'turnstonelaw15.ReqShifts': WHATEVER THE INPUT: true; the input reads as it did. -/
def reqShiftsSpec : ChangeSpec := { name := "reqShifts", fn := fun _ => fun
  | [d1, d2, d3, d4] => { results := [.lit (.bool true)], args := [d1, d2, d3, d4] }
  | _ => none }
def reqShiftsRow : OpenClaim := { program := "ytjemohphaeiaiaagreatdoor", sum := "158186ab5036dbee2d8d5e637576667bcba5b8b4e7063e5c2787e5a765399893", func := "turnstone/turnstonelaw15.ReqShifts", spec := "reqShifts", inPlace := ["math/bits.Add64", "math/bits.Sub64"], unfollowed := true, recurses := true, named := ["math/bits.divideError", "math/bits.overflowError", "internal/strconv.uint64pow10", "math/bits.deBruijn32tab", "math/bits.deBruijn64tab"], apart := false, laid := [("math/bits.deBruijn32tab", laid_math_bits_deBruijn32tab), ("math/bits.deBruijn64tab", laid_math_bits_deBruijn64tab), ("internal/strconv.uint64pow10", laid_internal_strconv_uint64pow10)] }
def ReqShiftsSaid : Prop := reqShiftsRow.holds Tryz.pinned (OpenSpec.ofChange reqShiftsSpec)

/-- ITS FALSE NEIGHBOUR: 'it returns false'. Refute it at one input. -/
def reqShiftsWrong : ChangeSpec := { name := "reqShifts", fn := fun _ => fun
  | [d1, d2, d3, d4] => { results := [.lit (.bool false)], args := [d1, d2, d3, d4] }
  | _ => none }
def ReqShiftsWrongFalsely : Prop := reqShiftsRow.holds Tryz.pinned (OpenSpec.ofChange reqShiftsWrong)

/-- 'turnstonelaw15.ReqParts': WHATEVER THE INPUT: true; the input reads as it did. -/
def reqPartsSpec : ChangeSpec := { name := "reqParts", fn := fun _ => fun
  | [d1, d2, d3, d4, d5] => { results := [.lit (.bool true)], args := [d1, d2, d3, d4, d5] }
  | _ => none }
def reqPartsRow : OpenClaim := { program := "ytjemohphaeiaiaagreatdoor", sum := "158186ab5036dbee2d8d5e637576667bcba5b8b4e7063e5c2787e5a765399893", func := "turnstone/turnstonelaw15.ReqParts", spec := "reqParts", inPlace := ["math/bits.Add64", "math/bits.Sub64"], unfollowed := true, recurses := true, named := ["math/bits.divideError", "math/bits.overflowError", "internal/strconv.uint64pow10", "math/bits.deBruijn32tab", "math/bits.deBruijn64tab"], apart := false, laid := [("math/bits.deBruijn32tab", laid_math_bits_deBruijn32tab), ("math/bits.deBruijn64tab", laid_math_bits_deBruijn64tab), ("internal/strconv.uint64pow10", laid_internal_strconv_uint64pow10)] }
def ReqPartsSaid : Prop := reqPartsRow.holds Tryz.pinned (OpenSpec.ofChange reqPartsSpec)

/-- ITS FALSE NEIGHBOUR: 'it returns false'. Refute it at one input. -/
def reqPartsWrong : ChangeSpec := { name := "reqParts", fn := fun _ => fun
  | [d1, d2, d3, d4, d5] => { results := [.lit (.bool false)], args := [d1, d2, d3, d4, d5] }
  | _ => none }
def ReqPartsWrongFalsely : Prop := reqPartsRow.holds Tryz.pinned (OpenSpec.ofChange reqPartsWrong)

/-- 'turnstonelaw15.ReqMoves': WHATEVER THE INPUT: true; the input reads as it did. -/
def reqMovesSpec : ChangeSpec := { name := "reqMoves", fn := fun _ => fun
  | [d1, d2, d3, d4] => { results := [.lit (.bool true)], args := [d1, d2, d3, d4] }
  | _ => none }
def reqMovesRow : OpenClaim := { program := "ytjemohphaeiaiaagreatdoor", sum := "158186ab5036dbee2d8d5e637576667bcba5b8b4e7063e5c2787e5a765399893", func := "turnstone/turnstonelaw15.ReqMoves", spec := "reqMoves", inPlace := ["math/bits.Add64", "math/bits.Sub64"], unfollowed := true, recurses := true, named := ["math/bits.divideError", "math/bits.overflowError", "internal/strconv.uint64pow10", "math/bits.deBruijn32tab", "math/bits.deBruijn64tab"], apart := false, laid := [("math/bits.deBruijn32tab", laid_math_bits_deBruijn32tab), ("math/bits.deBruijn64tab", laid_math_bits_deBruijn64tab), ("internal/strconv.uint64pow10", laid_internal_strconv_uint64pow10)] }
def ReqMovesSaid : Prop := reqMovesRow.holds Tryz.pinned (OpenSpec.ofChange reqMovesSpec)

/-- ITS FALSE NEIGHBOUR: 'it returns false'. Refute it at one input. -/
def reqMovesWrong : ChangeSpec := { name := "reqMoves", fn := fun _ => fun
  | [d1, d2, d3, d4] => { results := [.lit (.bool false)], args := [d1, d2, d3, d4] }
  | _ => none }
def ReqMovesWrongFalsely : Prop := reqMovesRow.holds Tryz.pinned (OpenSpec.ofChange reqMovesWrong)

/-- 'turnstonelaw15.ReqMakes': WHATEVER THE INPUT: true; the input reads as it did. -/
def reqMakesSpec : ChangeSpec := { name := "reqMakes", fn := fun _ => fun
  | [d1, d2, d3, d4] => { results := [.lit (.bool true)], args := [d1, d2, d3, d4] }
  | _ => none }
def reqMakesRow : OpenClaim := { program := "ytjemohphaeiaiaagreatdoor", sum := "158186ab5036dbee2d8d5e637576667bcba5b8b4e7063e5c2787e5a765399893", func := "turnstone/turnstonelaw15.ReqMakes", spec := "reqMakes", inPlace := ["math/bits.Add64", "math/bits.Sub64"], unfollowed := true, recurses := true, named := ["math/bits.divideError", "math/bits.overflowError", "internal/strconv.uint64pow10", "math/bits.deBruijn32tab", "math/bits.deBruijn64tab"], apart := false, laid := [("math/bits.deBruijn32tab", laid_math_bits_deBruijn32tab), ("math/bits.deBruijn64tab", laid_math_bits_deBruijn64tab), ("internal/strconv.uint64pow10", laid_internal_strconv_uint64pow10)] }
def ReqMakesSaid : Prop := reqMakesRow.holds Tryz.pinned (OpenSpec.ofChange reqMakesSpec)

/-- ITS FALSE NEIGHBOUR: 'it returns false'. Refute it at one input. -/
def reqMakesWrong : ChangeSpec := { name := "reqMakes", fn := fun _ => fun
  | [d1, d2, d3, d4] => { results := [.lit (.bool false)], args := [d1, d2, d3, d4] }
  | _ => none }
def ReqMakesWrongFalsely : Prop := reqMakesRow.holds Tryz.pinned (OpenSpec.ofChange reqMakesWrong)

/- THE SECOND FORM. 'bulk': how many values and letters a reading holds, each counted each time it is reached (what is shared counts as often as it is met; a slice's spare places count too). A statement '..UptoSaid' is the law's where the arguments, and the package variables that the reading takes, are together of bulk at most 1048576: NARROWER than '..Said'. Prove '..Said' where nothing that the law and all that it calls make is longer than what came in: it says more and counts as full. Else prove '..UptoSaid'. A law counts once. -/
mutual
def uptoBulk {H : Type} : DataW H → Nat
  | .lit (.string bytes) => bytes.length + 1
  | .lit _ => 1
  | .nil => 1
  | .ptr d => uptoBulk d + 1
  | .slice elems spare => uptoBulkAll elems + uptoBulkAll spare + 1
  | .agg parts => uptoBulkAll parts + 1
  | .iface _ d => uptoBulk d + 1
  | .map entries => uptoBulkEntries entries + 1
  | .held _ => 1
def uptoBulkAll {H : Type} : List (DataW H) → Nat
  | [] => 0
  | d :: r => uptoBulk d + uptoBulkAll r
def uptoBulkEntries {H : Type} : List (Lit × DataW H) → Nat
  | [] => 0
  | x :: r => uptoBulkEntry x + uptoBulkEntries r
def uptoBulkEntry {H : Type} : Lit × DataW H → Nat
  | (.string bytes, d) => bytes.length + uptoBulk d + 1
  | (_, d) => uptoBulk d + 1
 end
def uptoSmall : (H : Type) → List (DataW H) → Bool := fun _ ds => decide (uptoBulkAll ds ≤ 1048576)
def OpenSpec.upto (s : _root_.Go.ChangeSpec) : _root_.Go.OpenSpec := { _root_.Go.OpenSpec.ofChange s with cond := some uptoSmall }

/-- 'turnstonelaw15.ReqServes', WHERE WHAT IT READS IS OF BULK AT MOST 1048576: true; the input reads as it did. -/
def reqServesUptoRow : OpenClaim := { program := "ytjemohphaeiaiaagreatdoor", sum := "158186ab5036dbee2d8d5e637576667bcba5b8b4e7063e5c2787e5a765399893", func := "turnstone/turnstonelaw15.ReqServes", spec := "reqServes", inPlace := ["math/bits.Add64", "math/bits.Sub64"], unfollowed := true, recurses := true, named := ["math/bits.divideError", "math/bits.overflowError", "internal/strconv.uint64pow10", "math/bits.deBruijn32tab", "math/bits.deBruijn64tab"], apart := false, laid := [("math/bits.deBruijn32tab", laid_math_bits_deBruijn32tab), ("math/bits.deBruijn64tab", laid_math_bits_deBruijn64tab), ("internal/strconv.uint64pow10", laid_internal_strconv_uint64pow10)], narrowed := true }
def ReqServesUptoSaid : Prop := reqServesUptoRow.holds Tryz.pinned (OpenSpec.upto reqServesSpec)

/-- 'turnstonelaw15.ReqDue', WHERE WHAT IT READS IS OF BULK AT MOST 1048576: true; the input reads as it did. -/
def reqDueUptoRow : OpenClaim := { program := "ytjemohphaeiaiaagreatdoor", sum := "158186ab5036dbee2d8d5e637576667bcba5b8b4e7063e5c2787e5a765399893", func := "turnstone/turnstonelaw15.ReqDue", spec := "reqDue", inPlace := ["math/bits.Add64", "math/bits.Sub64"], unfollowed := true, recurses := true, named := ["math/bits.divideError", "math/bits.overflowError", "internal/strconv.uint64pow10", "math/bits.deBruijn32tab", "math/bits.deBruijn64tab"], apart := false, laid := [("math/bits.deBruijn32tab", laid_math_bits_deBruijn32tab), ("math/bits.deBruijn64tab", laid_math_bits_deBruijn64tab), ("internal/strconv.uint64pow10", laid_internal_strconv_uint64pow10)], narrowed := true }
def ReqDueUptoSaid : Prop := reqDueUptoRow.holds Tryz.pinned (OpenSpec.upto reqDueSpec)

/-- 'turnstonelaw15.ReqShifts', WHERE WHAT IT READS IS OF BULK AT MOST 1048576: true; the input reads as it did. -/
def reqShiftsUptoRow : OpenClaim := { program := "ytjemohphaeiaiaagreatdoor", sum := "158186ab5036dbee2d8d5e637576667bcba5b8b4e7063e5c2787e5a765399893", func := "turnstone/turnstonelaw15.ReqShifts", spec := "reqShifts", inPlace := ["math/bits.Add64", "math/bits.Sub64"], unfollowed := true, recurses := true, named := ["math/bits.divideError", "math/bits.overflowError", "internal/strconv.uint64pow10", "math/bits.deBruijn32tab", "math/bits.deBruijn64tab"], apart := false, laid := [("math/bits.deBruijn32tab", laid_math_bits_deBruijn32tab), ("math/bits.deBruijn64tab", laid_math_bits_deBruijn64tab), ("internal/strconv.uint64pow10", laid_internal_strconv_uint64pow10)], narrowed := true }
def ReqShiftsUptoSaid : Prop := reqShiftsUptoRow.holds Tryz.pinned (OpenSpec.upto reqShiftsSpec)

/-- 'turnstonelaw15.ReqParts', WHERE WHAT IT READS IS OF BULK AT MOST 1048576: true; the input reads as it did. -/
def reqPartsUptoRow : OpenClaim := { program := "ytjemohphaeiaiaagreatdoor", sum := "158186ab5036dbee2d8d5e637576667bcba5b8b4e7063e5c2787e5a765399893", func := "turnstone/turnstonelaw15.ReqParts", spec := "reqParts", inPlace := ["math/bits.Add64", "math/bits.Sub64"], unfollowed := true, recurses := true, named := ["math/bits.divideError", "math/bits.overflowError", "internal/strconv.uint64pow10", "math/bits.deBruijn32tab", "math/bits.deBruijn64tab"], apart := false, laid := [("math/bits.deBruijn32tab", laid_math_bits_deBruijn32tab), ("math/bits.deBruijn64tab", laid_math_bits_deBruijn64tab), ("internal/strconv.uint64pow10", laid_internal_strconv_uint64pow10)], narrowed := true }
def ReqPartsUptoSaid : Prop := reqPartsUptoRow.holds Tryz.pinned (OpenSpec.upto reqPartsSpec)

/-- 'turnstonelaw15.ReqMoves', WHERE WHAT IT READS IS OF BULK AT MOST 1048576: true; the input reads as it did. -/
def reqMovesUptoRow : OpenClaim := { program := "ytjemohphaeiaiaagreatdoor", sum := "158186ab5036dbee2d8d5e637576667bcba5b8b4e7063e5c2787e5a765399893", func := "turnstone/turnstonelaw15.ReqMoves", spec := "reqMoves", inPlace := ["math/bits.Add64", "math/bits.Sub64"], unfollowed := true, recurses := true, named := ["math/bits.divideError", "math/bits.overflowError", "internal/strconv.uint64pow10", "math/bits.deBruijn32tab", "math/bits.deBruijn64tab"], apart := false, laid := [("math/bits.deBruijn32tab", laid_math_bits_deBruijn32tab), ("math/bits.deBruijn64tab", laid_math_bits_deBruijn64tab), ("internal/strconv.uint64pow10", laid_internal_strconv_uint64pow10)], narrowed := true }
def ReqMovesUptoSaid : Prop := reqMovesUptoRow.holds Tryz.pinned (OpenSpec.upto reqMovesSpec)

/-- 'turnstonelaw15.ReqMakes', WHERE WHAT IT READS IS OF BULK AT MOST 1048576: true; the input reads as it did. -/
def reqMakesUptoRow : OpenClaim := { program := "ytjemohphaeiaiaagreatdoor", sum := "158186ab5036dbee2d8d5e637576667bcba5b8b4e7063e5c2787e5a765399893", func := "turnstone/turnstonelaw15.ReqMakes", spec := "reqMakes", inPlace := ["math/bits.Add64", "math/bits.Sub64"], unfollowed := true, recurses := true, named := ["math/bits.divideError", "math/bits.overflowError", "internal/strconv.uint64pow10", "math/bits.deBruijn32tab", "math/bits.deBruijn64tab"], apart := false, laid := [("math/bits.deBruijn32tab", laid_math_bits_deBruijn32tab), ("math/bits.deBruijn64tab", laid_math_bits_deBruijn64tab), ("internal/strconv.uint64pow10", laid_internal_strconv_uint64pow10)], narrowed := true }
def ReqMakesUptoSaid : Prop := reqMakesUptoRow.holds Tryz.pinned (OpenSpec.upto reqMakesSpec)

end Rows
end Go.Proofs.YtjemohphaeiaiaaGreatDoor
