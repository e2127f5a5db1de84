/-
  No cell of these rows narrows 'for every input' (looked for: loops, veiled, ifaces, maps, wideKeys, modest, calm, conditions, laid).
  DERIVED. THE GIVEN ROWS OF THIS SEAT. 2 by the template 'for every input the law returns true; each argument reads behind the call as it read before'; 0 by the template 'total and deterministic' (their statements: YtkepkjahbcddlaaTotals.lean).
  GIVEN WITH THE SEED: the statements are not yours to turn. If you find one false, say at which input.
  Laid BY PROGRAM, IN A SANDBOX (cutbox-rows.mjs): the forced cells as the released guide's own fill.sh prints them over the translation 6180a407e6a61087… (all of the seat's roots in one cut). By AI agents, Wed Nov 11 2026. No macro, syntax, notation, axiom, sorry.
-/
import Derived.Test.YtkepkjahbcddlaaChecked
import GoSem.Claim
import GoSem.ClaimJoined
import GoSem.ClaimMapViews
import Derived.JoinedTies
import Derived.KernelRfl
namespace Go.Proofs.Ytkepkjahbcddlaa
/- THE CELL 'sum', in the pinned program and in every row, IS THE sha256 OF THE DUMP (.gsa) THAT YtkepkjahbcddlaaProg.lean LOADS. Nothing in Lean hashes anything: it is a label: what it is worth is what the hold of that sum in a sandbox is worth. -/
noncomputable def Try.pinned : Pinned := { name := "ytkepkjahbcddlaa", sum := "6180a407e6a61087ef5a231bd4fc1fd867c2d7ceeaf92888e22ec683b9044c9f", checked := Try.checked }
namespace Rows
def none {H : Type} : Left H := { results := [], args := [] }

/-- 'turnstonelaw07.DtreeFirst': WHATEVER THE INPUT: true; the input reads as it did. -/
def dtreeFirstSpec : ChangeSpec := { name := "dtreeFirst", fn := fun _ => fun
  | [d1, d2, d3] => { results := [.lit (.bool true)], args := [d1, d2, d3] }
  | _ => none }
def dtreeFirstRow : OpenClaim := { program := "ytkepkjahbcddlaa", sum := "6180a407e6a61087ef5a231bd4fc1fd867c2d7ceeaf92888e22ec683b9044c9f", func := "turnstone/turnstonelaw07.DtreeFirst", spec := "dtreeFirst", inPlace := ["math/bits.Add64", "math/bits.Sub64"], unfollowed := true, recurses := true, named := ["math/bits.divideError", "math/bits.overflowError"], apart := false }
def DtreeFirstSaid : Prop := dtreeFirstRow.holds Try.pinned (OpenSpec.ofChange dtreeFirstSpec)

/-- ITS FALSE NEIGHBOUR: 'it returns false'. Refute it at one input. -/
def dtreeFirstWrong : ChangeSpec := { name := "dtreeFirst", fn := fun _ => fun
  | [d1, d2, d3] => { results := [.lit (.bool false)], args := [d1, d2, d3] }
  | _ => none }
def DtreeFirstWrongFalsely : Prop := dtreeFirstRow.holds Try.pinned (OpenSpec.ofChange dtreeFirstWrong)

/-- 'turnstonelaw07.DtreeShifts': WHATEVER THE INPUT: true; the input reads as it did. -/
def dtreeShiftsSpec : ChangeSpec := { name := "dtreeShifts", fn := fun _ => fun
  | [d1, d2, d3, d4] => { results := [.lit (.bool true)], args := [d1, d2, d3, d4] }
  | _ => none }
def dtreeShiftsRow : OpenClaim := { program := "ytkepkjahbcddlaa", sum := "6180a407e6a61087ef5a231bd4fc1fd867c2d7ceeaf92888e22ec683b9044c9f", func := "turnstone/turnstonelaw07.DtreeShifts", spec := "dtreeShifts", inPlace := ["math/bits.Add64", "math/bits.Sub64"], unfollowed := true, recurses := true, named := ["math/bits.divideError", "math/bits.overflowError"], apart := false }
def DtreeShiftsSaid : Prop := dtreeShiftsRow.holds Try.pinned (OpenSpec.ofChange dtreeShiftsSpec)

/-- ITS FALSE NEIGHBOUR: 'it returns false'. Refute it at one input. -/
def dtreeShiftsWrong : ChangeSpec := { name := "dtreeShifts", fn := fun _ => fun
  | [d1, d2, d3, d4] => { results := [.lit (.bool false)], args := [d1, d2, d3, d4] }
  | _ => none }
def DtreeShiftsWrongFalsely : Prop := dtreeShiftsRow.holds Try.pinned (OpenSpec.ofChange dtreeShiftsWrong)

/- THE SECOND FORM. 'bulk': how many values and letters a reading holds, each counted each time it is reached (what is shared counts as often as it is met; a slice's spare places count too). A statement '..UptoSaid' is the law's where the arguments, and the package variables that the reading takes, are together of bulk at most 1048576: NARROWER than '..Said'. Prove '..Said' where nothing that the law and all that it calls make is longer than what came in: it says more and counts as full. Else prove '..UptoSaid'. A law counts once. -/
mutual
def uptoBulk {H : Type} : DataW H → Nat
  | .lit (.string bytes) => bytes.length + 1
  | .lit _ => 1
  | .nil => 1
  | .ptr d => uptoBulk d + 1
  | .slice elems spare => uptoBulkAll elems + uptoBulkAll spare + 1
  | .agg parts => uptoBulkAll parts + 1
  | .iface _ d => uptoBulk d + 1
  | .map entries => uptoBulkEntries entries + 1
  | .held _ => 1
def uptoBulkAll {H : Type} : List (DataW H) → Nat
  | [] => 0
  | d :: r => uptoBulk d + uptoBulkAll r
def uptoBulkEntries {H : Type} : List (Lit × DataW H) → Nat
  | [] => 0
  | x :: r => uptoBulkEntry x + uptoBulkEntries r
def uptoBulkEntry {H : Type} : Lit × DataW H → Nat
  | (.string bytes, d) => bytes.length + uptoBulk d + 1
  | (_, d) => uptoBulk d + 1
 end
def uptoSmall : (H : Type) → List (DataW H) → Bool := fun _ ds => decide (uptoBulkAll ds ≤ 1048576)
def OpenSpec.upto (s : _root_.Go.ChangeSpec) : _root_.Go.OpenSpec := { _root_.Go.OpenSpec.ofChange s with cond := some uptoSmall }

/-- 'turnstonelaw07.DtreeFirst', WHERE WHAT IT READS IS OF BULK AT MOST 1048576: true; the input reads as it did. -/
def dtreeFirstUptoRow : OpenClaim := { program := "ytkepkjahbcddlaa", sum := "6180a407e6a61087ef5a231bd4fc1fd867c2d7ceeaf92888e22ec683b9044c9f", func := "turnstone/turnstonelaw07.DtreeFirst", spec := "dtreeFirst", inPlace := ["math/bits.Add64", "math/bits.Sub64"], unfollowed := true, recurses := true, named := ["math/bits.divideError", "math/bits.overflowError"], apart := false, narrowed := true }
def DtreeFirstUptoSaid : Prop := dtreeFirstUptoRow.holds Try.pinned (OpenSpec.upto dtreeFirstSpec)

/-- 'turnstonelaw07.DtreeShifts', WHERE WHAT IT READS IS OF BULK AT MOST 1048576: true; the input reads as it did. -/
def dtreeShiftsUptoRow : OpenClaim := { program := "ytkepkjahbcddlaa", sum := "6180a407e6a61087ef5a231bd4fc1fd867c2d7ceeaf92888e22ec683b9044c9f", func := "turnstone/turnstonelaw07.DtreeShifts", spec := "dtreeShifts", inPlace := ["math/bits.Add64", "math/bits.Sub64"], unfollowed := true, recurses := true, named := ["math/bits.divideError", "math/bits.overflowError"], apart := false, narrowed := true }
def DtreeShiftsUptoSaid : Prop := dtreeShiftsUptoRow.holds Try.pinned (OpenSpec.upto dtreeShiftsSpec)

end Rows
end Go.Proofs.Ytkepkjahbcddlaa
