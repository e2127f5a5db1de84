/-
  No cell of these rows narrows 'for every input' (looked for: loops, veiled, ifaces, maps, wideKeys, modest, calm, conditions, laid).
  DERIVED. THE GIVEN ROWS OF THIS SEAT. 14 by the template 'for every input the law returns true; each argument reads behind the call as it read before'; 0 by the template 'total and deterministic' (their statements: YtimgiiceipjpaaaTotals.lean).
  GIVEN WITH THE SEED: the statements are not yours to turn. If you find one false, say at which input.
  Laid BY PROGRAM, IN A SANDBOX (cutbox-rows.mjs): the forced cells as the released guide's own fill.sh prints them over the translation 75593f7d1fc86376… (all of the seat's roots in one cut). By AI agents, Wed Nov 11 2026. No macro, syntax, notation, axiom, sorry.
-/
import Derived.Test.YtimgiiceipjpaaaChecked
import GoSem.Claim
import GoSem.ClaimJoined
import GoSem.ClaimMapViews
import Derived.JoinedTies
import Derived.KernelRfl
namespace Go.Proofs.Ytimgiiceipjpaaa
/- THE CELL 'sum', in the pinned program and in every row, IS THE sha256 OF THE DUMP (.gsa) THAT YtimgiiceipjpaaaProg.lean LOADS. Nothing in Lean hashes anything: it is a label: what it is worth is what the hold of that sum in a sandbox is worth. -/
noncomputable def Try.pinned : Pinned := { name := "ytimgiiceipjpaaa", sum := "75593f7d1fc863766d83b06d4b3fc1591ebcd1fe4d2be3c05ac005af3d7e91a7", checked := Try.checked }
namespace Rows
def none {H : Type} : Left H := { results := [], args := [] }

/-- 'turnstonelaw03.VtimeTells': WHATEVER THE INPUT: true; the input reads as it did. -/
def vtimeTellsSpec : ChangeSpec := { name := "vtimeTells", fn := fun _ => fun
  | [d1, d2, d3] => { results := [.lit (.bool true)], args := [d1, d2, d3] }
  | _ => none }
def vtimeTellsRow : OpenClaim := { program := "ytimgiiceipjpaaa", sum := "75593f7d1fc863766d83b06d4b3fc1591ebcd1fe4d2be3c05ac005af3d7e91a7", func := "turnstone/turnstonelaw03.VtimeTells", spec := "vtimeTells", inPlace := ["math/bits.Sub64", "math/bits.Add64"], named := ["math/bits.divideError", "math/bits.overflowError"], apart := false }
def VtimeTellsSaid : Prop := vtimeTellsRow.holds Try.pinned (OpenSpec.ofChange vtimeTellsSpec)

/-- ITS FALSE NEIGHBOUR: 'it returns false'. Refute it at one input. -/
def vtimeTellsWrong : ChangeSpec := { name := "vtimeTells", fn := fun _ => fun
  | [d1, d2, d3] => { results := [.lit (.bool false)], args := [d1, d2, d3] }
  | _ => none }
def VtimeTellsWrongFalsely : Prop := vtimeTellsRow.holds Try.pinned (OpenSpec.ofChange vtimeTellsWrong)

/-- 'turnstonelaw03.VtimeEnds': WHATEVER THE INPUT: true; the input reads as it did. -/
def vtimeEndsSpec : ChangeSpec := { name := "vtimeEnds", fn := fun _ => fun
  | [d] => { results := [.lit (.bool true)], args := [d] }
  | _ => none }
def vtimeEndsRow : OpenClaim := { program := "ytimgiiceipjpaaa", sum := "75593f7d1fc863766d83b06d4b3fc1591ebcd1fe4d2be3c05ac005af3d7e91a7", func := "turnstone/turnstonelaw03.VtimeEnds", spec := "vtimeEnds", inPlace := ["math/bits.Sub64", "math/bits.Add64"], named := ["math/bits.divideError", "math/bits.overflowError"], apart := false }
def VtimeEndsSaid : Prop := vtimeEndsRow.holds Try.pinned (OpenSpec.ofChange vtimeEndsSpec)

/-- ITS FALSE NEIGHBOUR: 'it returns false'. Refute it at one input. -/
def vtimeEndsWrong : ChangeSpec := { name := "vtimeEnds", fn := fun _ => fun
  | [d] => { results := [.lit (.bool false)], args := [d] }
  | _ => none }
def VtimeEndsWrongFalsely : Prop := vtimeEndsRow.holds Try.pinned (OpenSpec.ofChange vtimeEndsWrong)

/-- 'turnstonelaw03.VtimeShifts': WHATEVER THE INPUT: true; the input reads as it did. -/
def vtimeShiftsSpec : ChangeSpec := { name := "vtimeShifts", fn := fun _ => fun
  | [d1, d2, d3] => { results := [.lit (.bool true)], args := [d1, d2, d3] }
  | _ => none }
def vtimeShiftsRow : OpenClaim := { program := "ytimgiiceipjpaaa", sum := "75593f7d1fc863766d83b06d4b3fc1591ebcd1fe4d2be3c05ac005af3d7e91a7", func := "turnstone/turnstonelaw03.VtimeShifts", spec := "vtimeShifts", inPlace := ["math/bits.Sub64", "math/bits.Add64"], named := ["math/bits.divideError", "math/bits.overflowError"], apart := false }
def VtimeShiftsSaid : Prop := vtimeShiftsRow.holds Try.pinned (OpenSpec.ofChange vtimeShiftsSpec)

/-- ITS FALSE NEIGHBOUR: 'it returns false'. Refute it at one input. -/
def vtimeShiftsWrong : ChangeSpec := { name := "vtimeShifts", fn := fun _ => fun
  | [d1, d2, d3] => { results := [.lit (.bool false)], args := [d1, d2, d3] }
  | _ => none }
def VtimeShiftsWrongFalsely : Prop := vtimeShiftsRow.holds Try.pinned (OpenSpec.ofChange vtimeShiftsWrong)

/-- 'turnstonelaw03.VtimeTurns': WHATEVER THE INPUT: true; the input reads as it did. -/
def vtimeTurnsSpec : ChangeSpec := { name := "vtimeTurns", fn := fun _ => fun
  | [d1, d2, d3] => { results := [.lit (.bool true)], args := [d1, d2, d3] }
  | _ => none }
def vtimeTurnsRow : OpenClaim := { program := "ytimgiiceipjpaaa", sum := "75593f7d1fc863766d83b06d4b3fc1591ebcd1fe4d2be3c05ac005af3d7e91a7", func := "turnstone/turnstonelaw03.VtimeTurns", spec := "vtimeTurns", inPlace := ["math/bits.Sub64", "math/bits.Add64"], named := ["math/bits.divideError", "math/bits.overflowError"], apart := false }
def VtimeTurnsSaid : Prop := vtimeTurnsRow.holds Try.pinned (OpenSpec.ofChange vtimeTurnsSpec)

/-- ITS FALSE NEIGHBOUR: 'it returns false'. Refute it at one input. -/
def vtimeTurnsWrong : ChangeSpec := { name := "vtimeTurns", fn := fun _ => fun
  | [d1, d2, d3] => { results := [.lit (.bool false)], args := [d1, d2, d3] }
  | _ => none }
def VtimeTurnsWrongFalsely : Prop := vtimeTurnsRow.holds Try.pinned (OpenSpec.ofChange vtimeTurnsWrong)

/-- 'turnstonelaw03.VtimeOrder': WHATEVER THE INPUT: true; the input reads as it did. -/
def vtimeOrderSpec : ChangeSpec := { name := "vtimeOrder", fn := fun _ => fun
  | [d1, d2] => { results := [.lit (.bool true)], args := [d1, d2] }
  | _ => none }
def vtimeOrderRow : OpenClaim := { program := "ytimgiiceipjpaaa", sum := "75593f7d1fc863766d83b06d4b3fc1591ebcd1fe4d2be3c05ac005af3d7e91a7", func := "turnstone/turnstonelaw03.VtimeOrder", spec := "vtimeOrder", inPlace := ["math/bits.Sub64", "math/bits.Add64"], named := ["math/bits.divideError", "math/bits.overflowError"], apart := false }
def VtimeOrderSaid : Prop := vtimeOrderRow.holds Try.pinned (OpenSpec.ofChange vtimeOrderSpec)

/-- ITS FALSE NEIGHBOUR: 'it returns false'. Refute it at one input. -/
def vtimeOrderWrong : ChangeSpec := { name := "vtimeOrder", fn := fun _ => fun
  | [d1, d2] => { results := [.lit (.bool false)], args := [d1, d2] }
  | _ => none }
def VtimeOrderWrongFalsely : Prop := vtimeOrderRow.holds Try.pinned (OpenSpec.ofChange vtimeOrderWrong)

/-- 'turnstonelaw02.MuldivSteps': WHATEVER THE INPUT: true; the input reads as it did. -/
def muldivStepsSpec : ChangeSpec := { name := "muldivSteps", fn := fun _ => fun
  | [d1, d2, d3, d4] => { results := [.lit (.bool true)], args := [d1, d2, d3, d4] }
  | _ => none }
def muldivStepsRow : OpenClaim := { program := "ytimgiiceipjpaaa", sum := "75593f7d1fc863766d83b06d4b3fc1591ebcd1fe4d2be3c05ac005af3d7e91a7", func := "turnstone/turnstonelaw02.MuldivSteps", spec := "muldivSteps", inPlace := ["math/bits.Add64", "math/bits.Sub64"], named := ["math/bits.divideError", "math/bits.overflowError"], apart := false }
def MuldivStepsSaid : Prop := muldivStepsRow.holds Try.pinned (OpenSpec.ofChange muldivStepsSpec)

/-- ITS FALSE NEIGHBOUR: 'it returns false'. Refute it at one input. -/
def muldivStepsWrong : ChangeSpec := { name := "muldivSteps", fn := fun _ => fun
  | [d1, d2, d3, d4] => { results := [.lit (.bool false)], args := [d1, d2, d3, d4] }
  | _ => none }
def MuldivStepsWrongFalsely : Prop := muldivStepsRow.holds Try.pinned (OpenSpec.ofChange muldivStepsWrong)

/-- 'turnstonelaw02.MuldivCarries': WHATEVER THE INPUT: true; the input reads as it did. -/
def muldivCarriesSpec : ChangeSpec := { name := "muldivCarries", fn := fun _ => fun
  | [d1, d2, d3, d4] => { results := [.lit (.bool true)], args := [d1, d2, d3, d4] }
  | _ => none }
def muldivCarriesRow : OpenClaim := { program := "ytimgiiceipjpaaa", sum := "75593f7d1fc863766d83b06d4b3fc1591ebcd1fe4d2be3c05ac005af3d7e91a7", func := "turnstone/turnstonelaw02.MuldivCarries", spec := "muldivCarries", inPlace := ["math/bits.Add64", "math/bits.Sub64"], named := ["math/bits.divideError", "math/bits.overflowError"], apart := false }
def MuldivCarriesSaid : Prop := muldivCarriesRow.holds Try.pinned (OpenSpec.ofChange muldivCarriesSpec)

/-- ITS FALSE NEIGHBOUR: 'it returns false'. Refute it at one input. -/
def muldivCarriesWrong : ChangeSpec := { name := "muldivCarries", fn := fun _ => fun
  | [d1, d2, d3, d4] => { results := [.lit (.bool false)], args := [d1, d2, d3, d4] }
  | _ => none }
def MuldivCarriesWrongFalsely : Prop := muldivCarriesRow.holds Try.pinned (OpenSpec.ofChange muldivCarriesWrong)

/-- 'turnstonelaw02.MuldivParts': WHATEVER THE INPUT: true; the input reads as it did. -/
def muldivPartsSpec : ChangeSpec := { name := "muldivParts", fn := fun _ => fun
  | [d1, d2, d3, d4, d5] => { results := [.lit (.bool true)], args := [d1, d2, d3, d4, d5] }
  | _ => none }
def muldivPartsRow : OpenClaim := { program := "ytimgiiceipjpaaa", sum := "75593f7d1fc863766d83b06d4b3fc1591ebcd1fe4d2be3c05ac005af3d7e91a7", func := "turnstone/turnstonelaw02.MuldivParts", spec := "muldivParts", inPlace := ["math/bits.Add64", "math/bits.Sub64"], named := ["math/bits.divideError", "math/bits.overflowError"], apart := false }
def MuldivPartsSaid : Prop := muldivPartsRow.holds Try.pinned (OpenSpec.ofChange muldivPartsSpec)

/-- ITS FALSE NEIGHBOUR: 'it returns false'. Refute it at one input. -/
def muldivPartsWrong : ChangeSpec := { name := "muldivParts", fn := fun _ => fun
  | [d1, d2, d3, d4, d5] => { results := [.lit (.bool false)], args := [d1, d2, d3, d4, d5] }
  | _ => none }
def MuldivPartsWrongFalsely : Prop := muldivPartsRow.holds Try.pinned (OpenSpec.ofChange muldivPartsWrong)

/-- 'turnstonelaw02.MuldivGrows': WHATEVER THE INPUT: true; the input reads as it did. -/
def muldivGrowsSpec : ChangeSpec := { name := "muldivGrows", fn := fun _ => fun
  | [d1, d2, d3, d4, d5] => { results := [.lit (.bool true)], args := [d1, d2, d3, d4, d5] }
  | _ => none }
def muldivGrowsRow : OpenClaim := { program := "ytimgiiceipjpaaa", sum := "75593f7d1fc863766d83b06d4b3fc1591ebcd1fe4d2be3c05ac005af3d7e91a7", func := "turnstone/turnstonelaw02.MuldivGrows", spec := "muldivGrows", inPlace := ["math/bits.Add64", "math/bits.Sub64"], named := ["math/bits.divideError", "math/bits.overflowError"], apart := false }
def MuldivGrowsSaid : Prop := muldivGrowsRow.holds Try.pinned (OpenSpec.ofChange muldivGrowsSpec)

/-- ITS FALSE NEIGHBOUR: 'it returns false'. Refute it at one input. -/
def muldivGrowsWrong : ChangeSpec := { name := "muldivGrows", fn := fun _ => fun
  | [d1, d2, d3, d4, d5] => { results := [.lit (.bool false)], args := [d1, d2, d3, d4, d5] }
  | _ => none }
def MuldivGrowsWrongFalsely : Prop := muldivGrowsRow.holds Try.pinned (OpenSpec.ofChange muldivGrowsWrong)

/-- 'turnstonelaw02.MuldivFloors': WHATEVER THE INPUT: true; the input reads as it did. -/
def muldivFloorsSpec : ChangeSpec := { name := "muldivFloors", fn := fun _ => fun
  | [d1, d2, d3] => { results := [.lit (.bool true)], args := [d1, d2, d3] }
  | _ => none }
def muldivFloorsRow : OpenClaim := { program := "ytimgiiceipjpaaa", sum := "75593f7d1fc863766d83b06d4b3fc1591ebcd1fe4d2be3c05ac005af3d7e91a7", func := "turnstone/turnstonelaw02.MuldivFloors", spec := "muldivFloors", inPlace := ["math/bits.Add64", "math/bits.Sub64"], named := ["math/bits.divideError", "math/bits.overflowError"], apart := false }
def MuldivFloorsSaid : Prop := muldivFloorsRow.holds Try.pinned (OpenSpec.ofChange muldivFloorsSpec)

/-- ITS FALSE NEIGHBOUR: 'it returns false'. Refute it at one input. -/
def muldivFloorsWrong : ChangeSpec := { name := "muldivFloors", fn := fun _ => fun
  | [d1, d2, d3] => { results := [.lit (.bool false)], args := [d1, d2, d3] }
  | _ => none }
def MuldivFloorsWrongFalsely : Prop := muldivFloorsRow.holds Try.pinned (OpenSpec.ofChange muldivFloorsWrong)

/-- 'turnstonelaw04.PosAt': WHATEVER THE INPUT: true; the input reads as it did. -/
def posAtSpec : ChangeSpec := { name := "posAt", fn := fun _ => fun
  | [d1, d2, d3, d4, d5] => { results := [.lit (.bool true)], args := [d1, d2, d3, d4, d5] }
  | _ => none }
def posAtRow : OpenClaim := { program := "ytimgiiceipjpaaa", sum := "75593f7d1fc863766d83b06d4b3fc1591ebcd1fe4d2be3c05ac005af3d7e91a7", func := "turnstone/turnstonelaw04.PosAt", spec := "posAt", inPlace := ["math/bits.Add64", "math/bits.Sub64"], named := ["math/bits.divideError", "math/bits.overflowError"], apart := false }
def PosAtSaid : Prop := posAtRow.holds Try.pinned (OpenSpec.ofChange posAtSpec)

/-- ITS FALSE NEIGHBOUR: 'it returns false'. Refute it at one input. -/
def posAtWrong : ChangeSpec := { name := "posAt", fn := fun _ => fun
  | [d1, d2, d3, d4, d5] => { results := [.lit (.bool false)], args := [d1, d2, d3, d4, d5] }
  | _ => none }
def PosAtWrongFalsely : Prop := posAtRow.holds Try.pinned (OpenSpec.ofChange posAtWrong)

/-- 'turnstonelaw04.PosFloors': WHATEVER THE INPUT: true; the input reads as it did. -/
def posFloorsSpec : ChangeSpec := { name := "posFloors", fn := fun _ => fun
  | [d1, d2] => { results := [.lit (.bool true)], args := [d1, d2] }
  | _ => none }
def posFloorsRow : OpenClaim := { program := "ytimgiiceipjpaaa", sum := "75593f7d1fc863766d83b06d4b3fc1591ebcd1fe4d2be3c05ac005af3d7e91a7", func := "turnstone/turnstonelaw04.PosFloors", spec := "posFloors", inPlace := ["math/bits.Add64", "math/bits.Sub64"], named := ["math/bits.divideError", "math/bits.overflowError"], apart := false }
def PosFloorsSaid : Prop := posFloorsRow.holds Try.pinned (OpenSpec.ofChange posFloorsSpec)

/-- ITS FALSE NEIGHBOUR: 'it returns false'. Refute it at one input. -/
def posFloorsWrong : ChangeSpec := { name := "posFloors", fn := fun _ => fun
  | [d1, d2] => { results := [.lit (.bool false)], args := [d1, d2] }
  | _ => none }
def PosFloorsWrongFalsely : Prop := posFloorsRow.holds Try.pinned (OpenSpec.ofChange posFloorsWrong)

/-- 'turnstonelaw04.PosMoves': WHATEVER THE INPUT: true; the input reads as it did. -/
def posMovesSpec : ChangeSpec := { name := "posMoves", fn := fun _ => fun
  | [d1, d2, d3, d4] => { results := [.lit (.bool true)], args := [d1, d2, d3, d4] }
  | _ => none }
def posMovesRow : OpenClaim := { program := "ytimgiiceipjpaaa", sum := "75593f7d1fc863766d83b06d4b3fc1591ebcd1fe4d2be3c05ac005af3d7e91a7", func := "turnstone/turnstonelaw04.PosMoves", spec := "posMoves", inPlace := ["math/bits.Add64", "math/bits.Sub64"], named := ["math/bits.divideError", "math/bits.overflowError"], apart := false }
def PosMovesSaid : Prop := posMovesRow.holds Try.pinned (OpenSpec.ofChange posMovesSpec)

/-- ITS FALSE NEIGHBOUR: 'it returns false'. Refute it at one input. -/
def posMovesWrong : ChangeSpec := { name := "posMoves", fn := fun _ => fun
  | [d1, d2, d3, d4] => { results := [.lit (.bool false)], args := [d1, d2, d3, d4] }
  | _ => none }
def PosMovesWrongFalsely : Prop := posMovesRow.holds Try.pinned (OpenSpec.ofChange posMovesWrong)

/-- 'turnstonelaw04.PosTells': WHATEVER THE INPUT: true; the input reads as it did. -/
def posTellsSpec : ChangeSpec := { name := "posTells", fn := fun _ => fun
  | [d1, d2, d3, d4] => { results := [.lit (.bool true)], args := [d1, d2, d3, d4] }
  | _ => none }
def posTellsRow : OpenClaim := { program := "ytimgiiceipjpaaa", sum := "75593f7d1fc863766d83b06d4b3fc1591ebcd1fe4d2be3c05ac005af3d7e91a7", func := "turnstone/turnstonelaw04.PosTells", spec := "posTells", inPlace := ["math/bits.Add64", "math/bits.Sub64"], named := ["math/bits.divideError", "math/bits.overflowError"], apart := false }
def PosTellsSaid : Prop := posTellsRow.holds Try.pinned (OpenSpec.ofChange posTellsSpec)

/-- ITS FALSE NEIGHBOUR: 'it returns false'. Refute it at one input. -/
def posTellsWrong : ChangeSpec := { name := "posTells", fn := fun _ => fun
  | [d1, d2, d3, d4] => { results := [.lit (.bool false)], args := [d1, d2, d3, d4] }
  | _ => none }
def PosTellsWrongFalsely : Prop := posTellsRow.holds Try.pinned (OpenSpec.ofChange posTellsWrong)

/- THE SECOND FORM. 'bulk': how many values and letters a reading holds, each counted each time it is reached (what is shared counts as often as it is met; a slice's spare places count too). A statement '..UptoSaid' is the law's where the arguments, and the package variables that the reading takes, are together of bulk at most 1048576: NARROWER than '..Said'. Prove '..Said' where nothing that the law and all that it calls make is longer than what came in: it says more and counts as full. Else prove '..UptoSaid'. A law counts once. -/
mutual
def uptoBulk {H : Type} : DataW H → Nat
  | .lit (.string bytes) => bytes.length + 1
  | .lit _ => 1
  | .nil => 1
  | .ptr d => uptoBulk d + 1
  | .slice elems spare => uptoBulkAll elems + uptoBulkAll spare + 1
  | .agg parts => uptoBulkAll parts + 1
  | .iface _ d => uptoBulk d + 1
  | .map entries => uptoBulkEntries entries + 1
  | .held _ => 1
def uptoBulkAll {H : Type} : List (DataW H) → Nat
  | [] => 0
  | d :: r => uptoBulk d + uptoBulkAll r
def uptoBulkEntries {H : Type} : List (Lit × DataW H) → Nat
  | [] => 0
  | x :: r => uptoBulkEntry x + uptoBulkEntries r
def uptoBulkEntry {H : Type} : Lit × DataW H → Nat
  | (.string bytes, d) => bytes.length + uptoBulk d + 1
  | (_, d) => uptoBulk d + 1
 end
def uptoSmall : (H : Type) → List (DataW H) → Bool := fun _ ds => decide (uptoBulkAll ds ≤ 1048576)
def OpenSpec.upto (s : _root_.Go.ChangeSpec) : _root_.Go.OpenSpec := { _root_.Go.OpenSpec.ofChange s with cond := some uptoSmall }

/-- 'turnstonelaw03.VtimeTells', WHERE WHAT IT READS IS OF BULK AT MOST 1048576: true; the input reads as it did. -/
def vtimeTellsUptoRow : OpenClaim := { program := "ytimgiiceipjpaaa", sum := "75593f7d1fc863766d83b06d4b3fc1591ebcd1fe4d2be3c05ac005af3d7e91a7", func := "turnstone/turnstonelaw03.VtimeTells", spec := "vtimeTells", inPlace := ["math/bits.Sub64", "math/bits.Add64"], named := ["math/bits.divideError", "math/bits.overflowError"], apart := false, narrowed := true }
def VtimeTellsUptoSaid : Prop := vtimeTellsUptoRow.holds Try.pinned (OpenSpec.upto vtimeTellsSpec)

/-- 'turnstonelaw03.VtimeEnds', WHERE WHAT IT READS IS OF BULK AT MOST 1048576: true; the input reads as it did. -/
def vtimeEndsUptoRow : OpenClaim := { program := "ytimgiiceipjpaaa", sum := "75593f7d1fc863766d83b06d4b3fc1591ebcd1fe4d2be3c05ac005af3d7e91a7", func := "turnstone/turnstonelaw03.VtimeEnds", spec := "vtimeEnds", inPlace := ["math/bits.Sub64", "math/bits.Add64"], named := ["math/bits.divideError", "math/bits.overflowError"], apart := false, narrowed := true }
def VtimeEndsUptoSaid : Prop := vtimeEndsUptoRow.holds Try.pinned (OpenSpec.upto vtimeEndsSpec)

/-- 'turnstonelaw03.VtimeShifts', WHERE WHAT IT READS IS OF BULK AT MOST 1048576: true; the input reads as it did. -/
def vtimeShiftsUptoRow : OpenClaim := { program := "ytimgiiceipjpaaa", sum := "75593f7d1fc863766d83b06d4b3fc1591ebcd1fe4d2be3c05ac005af3d7e91a7", func := "turnstone/turnstonelaw03.VtimeShifts", spec := "vtimeShifts", inPlace := ["math/bits.Sub64", "math/bits.Add64"], named := ["math/bits.divideError", "math/bits.overflowError"], apart := false, narrowed := true }
def VtimeShiftsUptoSaid : Prop := vtimeShiftsUptoRow.holds Try.pinned (OpenSpec.upto vtimeShiftsSpec)

/-- 'turnstonelaw03.VtimeTurns', WHERE WHAT IT READS IS OF BULK AT MOST 1048576: true; the input reads as it did. -/
def vtimeTurnsUptoRow : OpenClaim := { program := "ytimgiiceipjpaaa", sum := "75593f7d1fc863766d83b06d4b3fc1591ebcd1fe4d2be3c05ac005af3d7e91a7", func := "turnstone/turnstonelaw03.VtimeTurns", spec := "vtimeTurns", inPlace := ["math/bits.Sub64", "math/bits.Add64"], named := ["math/bits.divideError", "math/bits.overflowError"], apart := false, narrowed := true }
def VtimeTurnsUptoSaid : Prop := vtimeTurnsUptoRow.holds Try.pinned (OpenSpec.upto vtimeTurnsSpec)

/-- 'turnstonelaw03.VtimeOrder', WHERE WHAT IT READS IS OF BULK AT MOST 1048576: true; the input reads as it did. -/
def vtimeOrderUptoRow : OpenClaim := { program := "ytimgiiceipjpaaa", sum := "75593f7d1fc863766d83b06d4b3fc1591ebcd1fe4d2be3c05ac005af3d7e91a7", func := "turnstone/turnstonelaw03.VtimeOrder", spec := "vtimeOrder", inPlace := ["math/bits.Sub64", "math/bits.Add64"], named := ["math/bits.divideError", "math/bits.overflowError"], apart := false, narrowed := true }
def VtimeOrderUptoSaid : Prop := vtimeOrderUptoRow.holds Try.pinned (OpenSpec.upto vtimeOrderSpec)

/-- 'turnstonelaw02.MuldivSteps', WHERE WHAT IT READS IS OF BULK AT MOST 1048576: true; the input reads as it did. -/
def muldivStepsUptoRow : OpenClaim := { program := "ytimgiiceipjpaaa", sum := "75593f7d1fc863766d83b06d4b3fc1591ebcd1fe4d2be3c05ac005af3d7e91a7", func := "turnstone/turnstonelaw02.MuldivSteps", spec := "muldivSteps", inPlace := ["math/bits.Add64", "math/bits.Sub64"], named := ["math/bits.divideError", "math/bits.overflowError"], apart := false, narrowed := true }
def MuldivStepsUptoSaid : Prop := muldivStepsUptoRow.holds Try.pinned (OpenSpec.upto muldivStepsSpec)

/-- 'turnstonelaw02.MuldivCarries', WHERE WHAT IT READS IS OF BULK AT MOST 1048576: true; the input reads as it did. -/
def muldivCarriesUptoRow : OpenClaim := { program := "ytimgiiceipjpaaa", sum := "75593f7d1fc863766d83b06d4b3fc1591ebcd1fe4d2be3c05ac005af3d7e91a7", func := "turnstone/turnstonelaw02.MuldivCarries", spec := "muldivCarries", inPlace := ["math/bits.Add64", "math/bits.Sub64"], named := ["math/bits.divideError", "math/bits.overflowError"], apart := false, narrowed := true }
def MuldivCarriesUptoSaid : Prop := muldivCarriesUptoRow.holds Try.pinned (OpenSpec.upto muldivCarriesSpec)

/-- 'turnstonelaw02.MuldivParts', WHERE WHAT IT READS IS OF BULK AT MOST 1048576: true; the input reads as it did. -/
def muldivPartsUptoRow : OpenClaim := { program := "ytimgiiceipjpaaa", sum := "75593f7d1fc863766d83b06d4b3fc1591ebcd1fe4d2be3c05ac005af3d7e91a7", func := "turnstone/turnstonelaw02.MuldivParts", spec := "muldivParts", inPlace := ["math/bits.Add64", "math/bits.Sub64"], named := ["math/bits.divideError", "math/bits.overflowError"], apart := false, narrowed := true }
def MuldivPartsUptoSaid : Prop := muldivPartsUptoRow.holds Try.pinned (OpenSpec.upto muldivPartsSpec)

/-- 'turnstonelaw02.MuldivGrows', WHERE WHAT IT READS IS OF BULK AT MOST 1048576: true; the input reads as it did. -/
def muldivGrowsUptoRow : OpenClaim := { program := "ytimgiiceipjpaaa", sum := "75593f7d1fc863766d83b06d4b3fc1591ebcd1fe4d2be3c05ac005af3d7e91a7", func := "turnstone/turnstonelaw02.MuldivGrows", spec := "muldivGrows", inPlace := ["math/bits.Add64", "math/bits.Sub64"], named := ["math/bits.divideError", "math/bits.overflowError"], apart := false, narrowed := true }
def MuldivGrowsUptoSaid : Prop := muldivGrowsUptoRow.holds Try.pinned (OpenSpec.upto muldivGrowsSpec)

/-- 'turnstonelaw02.MuldivFloors', WHERE WHAT IT READS IS OF BULK AT MOST 1048576: true; the input reads as it did. -/
def muldivFloorsUptoRow : OpenClaim := { program := "ytimgiiceipjpaaa", sum := "75593f7d1fc863766d83b06d4b3fc1591ebcd1fe4d2be3c05ac005af3d7e91a7", func := "turnstone/turnstonelaw02.MuldivFloors", spec := "muldivFloors", inPlace := ["math/bits.Add64", "math/bits.Sub64"], named := ["math/bits.divideError", "math/bits.overflowError"], apart := false, narrowed := true }
def MuldivFloorsUptoSaid : Prop := muldivFloorsUptoRow.holds Try.pinned (OpenSpec.upto muldivFloorsSpec)

/-- 'turnstonelaw04.PosAt', WHERE WHAT IT READS IS OF BULK AT MOST 1048576: true; the input reads as it did. -/
def posAtUptoRow : OpenClaim := { program := "ytimgiiceipjpaaa", sum := "75593f7d1fc863766d83b06d4b3fc1591ebcd1fe4d2be3c05ac005af3d7e91a7", func := "turnstone/turnstonelaw04.PosAt", spec := "posAt", inPlace := ["math/bits.Add64", "math/bits.Sub64"], named := ["math/bits.divideError", "math/bits.overflowError"], apart := false, narrowed := true }
def PosAtUptoSaid : Prop := posAtUptoRow.holds Try.pinned (OpenSpec.upto posAtSpec)

/-- 'turnstonelaw04.PosFloors', WHERE WHAT IT READS IS OF BULK AT MOST 1048576: true; the input reads as it did. -/
def posFloorsUptoRow : OpenClaim := { program := "ytimgiiceipjpaaa", sum := "75593f7d1fc863766d83b06d4b3fc1591ebcd1fe4d2be3c05ac005af3d7e91a7", func := "turnstone/turnstonelaw04.PosFloors", spec := "posFloors", inPlace := ["math/bits.Add64", "math/bits.Sub64"], named := ["math/bits.divideError", "math/bits.overflowError"], apart := false, narrowed := true }
def PosFloorsUptoSaid : Prop := posFloorsUptoRow.holds Try.pinned (OpenSpec.upto posFloorsSpec)

/-- 'turnstonelaw04.PosMoves', WHERE WHAT IT READS IS OF BULK AT MOST 1048576: true; the input reads as it did. -/
def posMovesUptoRow : OpenClaim := { program := "ytimgiiceipjpaaa", sum := "75593f7d1fc863766d83b06d4b3fc1591ebcd1fe4d2be3c05ac005af3d7e91a7", func := "turnstone/turnstonelaw04.PosMoves", spec := "posMoves", inPlace := ["math/bits.Add64", "math/bits.Sub64"], named := ["math/bits.divideError", "math/bits.overflowError"], apart := false, narrowed := true }
def PosMovesUptoSaid : Prop := posMovesUptoRow.holds Try.pinned (OpenSpec.upto posMovesSpec)

/-- 'turnstonelaw04.PosTells', WHERE WHAT IT READS IS OF BULK AT MOST 1048576: true; the input reads as it did. -/
def posTellsUptoRow : OpenClaim := { program := "ytimgiiceipjpaaa", sum := "75593f7d1fc863766d83b06d4b3fc1591ebcd1fe4d2be3c05ac005af3d7e91a7", func := "turnstone/turnstonelaw04.PosTells", spec := "posTells", inPlace := ["math/bits.Add64", "math/bits.Sub64"], named := ["math/bits.divideError", "math/bits.overflowError"], apart := false, narrowed := true }
def PosTellsUptoSaid : Prop := posTellsUptoRow.holds Try.pinned (OpenSpec.upto posTellsSpec)

end Rows
end Go.Proofs.Ytimgiiceipjpaaa
