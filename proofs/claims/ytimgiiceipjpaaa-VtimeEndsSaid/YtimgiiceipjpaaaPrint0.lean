/- What each Go function that is named below answers, as a Lean function, and that its walk comes to just that: for whatever arguments that function gives an answer for. Written by a program of this session (wip/mkpr.py, pr.sh). -/
import Derived.Test.YtimgiiceipjpaaaProg
import Derived.Below
import Derived.Deep.Draws
import Derived.Deep.AppendLies
import Derived.Maps.AppendAt
import Derived.OwnWalk
import Derived.Laws.BytesArg
import Derived.Laws.MakeOwn
import Derived.Laws.OwnMore
import Derived.Deep.OwnRows
import Derived.Tactics
import Derived.Lib.ConvBytes
import Derived.Laws.Slices
import Derived.WalkKit
import Derived.KernelRfl
import Derived.RowKit3
import Derived.Deep.LoopGhost
import Derived.Deep.QuietTactic
import Derived.BigQuiet
import Derived.WideLaws
import Derived.Deep.DeepCutAuto
import Derived.Deep.CutBlock
import Derived.Deep.RegionHeld3
import Derived.Laws.Rows
import Derived.Lib.AppendStr
import Derived.ArgAppend
import Derived.Laws.IdiomCopy
import Derived.OrdersHeld
import Derived.Laws.BitsLemmas
import Derived.RowKit
import Derived.Test.YtimgiiceipjpaaaBits
import Derived.Test.YtimgiiceipjpaaaShort
import Derived.Test.YtimgiiceipjpaaaWWords
import Derived.Test.YtimgiiceipjpaaaWLast
import Derived.Test.YtimgiiceipjpaaaWTab
import Derived.Test.YtimgiiceipjpaaaWFour
import Derived.Test.YtimgiiceipjpaaaWQPut
import Derived.Test.YtimgiiceipjpaaaWApart
import Derived.Test.YtimgiiceipjpaaaWArr
import Derived.Test.YtimgiiceipjpaaaWZeros
import Derived.Test.YtimgiiceipjpaaaWFoot
import Derived.Test.YtimgiiceipjpaaaWKept
import Derived.Test.YtimgiiceipjpaaaWShare
import Derived.Test.YtimgiiceipjpaaaWN
import Derived.Test.YtimgiiceipjpaaaWFootNe
import Derived.Test.YtimgiiceipjpaaaWAt
import Derived.Test.YtimgiiceipjpaaaWEqStruct
import Derived.Test.YtimgiiceipjpaaaWRepsOne
import Derived.Test.YtimgiiceipjpaaaWInv
import Derived.Test.YtimgiiceipjpaaaWInvWords
import Derived.Test.YtimgiiceipjpaaaWGuard
import Derived.Test.YtimgiiceipjpaaaWNEv
import Derived.Test.YtimgiiceipjpaaaWMore
namespace Go.Proofs.Ytimgiiceipjpaaa.Print
open Go.RowKit Go.Proofs.YtimgiiceipjpaaaW.PrintWords Go.Proofs.YtimgiiceipjpaaaW.PrintLast Go.Proofs.YtimgiiceipjpaaaW.PrintMore
attribute [local go_sem] max2_int min2_int max_two min_two max_three min_three max_four min_four   -- for this text's walks alone
open Go.Proofs.Ytimgiiceipjpaaa.Bits Go.Proofs.Ytimgiiceipjpaaa.Short
attribute [local go_sem] add64_run0 sub64_run0 add64_run sub64_run
set_option linter.unusedVariables false
set_option linter.unusedSimpArgs false



def errW : Option Int → Value
 | none => .nilIface
 | some c => .iface 0 (.int .i64 c)
theorem errW_none : errW none = .nilIface := rfl
theorem errW_some (c : Int) : errW (some c) = .iface 0 (.int .i64 c) := rfl

theorem info3 : (Try.prog.info? 3).map (fun i => (i.zero, i.size, i.bytes)) = some (some (.int .i64 0), 1, 8) := by kernel_rfl
theorem info22 : (Try.prog.info? 22).map (fun i => (i.zero, i.size, i.bytes)) = some (some (.int .u64 0), 1, 8) := by kernel_rfl
theorem info24 : (Try.prog.info? 24).map (fun i => (i.zero, i.size, i.bytes)) = some (some (.int .u64 0), 1, 8) := by kernel_rfl
-- the values' own types

end Go.Proofs.Ytimgiiceipjpaaa.Print
