-- Rows that the kit's print laid for this seat (print.sh): those that its texts use; cut by a program of this session (wip/shake.py).
import Derived.Test.YtimgiiceipjpaaaWInv
import Derived.Test.YtimgiiceipjpaaaWFootNe
namespace Go.Proofs.YtimgiiceipjpaaaW.PrintWords
open Go.RowKit
end Go.Proofs.YtimgiiceipjpaaaW.PrintWords
namespace Go.Proofs.YtimgiiceipjpaaaW.PrintLast
section
variable {ops : Array Oper} {a : Act} {o og : Oper} {g : Nat} {t : Tmp} {u : Bool}
end
end Go.Proofs.YtimgiiceipjpaaaW.PrintLast
