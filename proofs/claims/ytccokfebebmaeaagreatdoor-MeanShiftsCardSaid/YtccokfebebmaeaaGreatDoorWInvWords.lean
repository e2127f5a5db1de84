-- Rows that the kit's print laid for this seat (print.sh): those that its texts use; cut by a program of this session (wip/shake.py).
import Derived.Test.YtccokfebebmaeaaGreatDoorWInv
import Derived.Test.YtccokfebebmaeaaGreatDoorWFootNe
namespace Go.Proofs.YtccokfebebmaeaaGreatDoorW.PrintWords
open Go.RowKit
end Go.Proofs.YtccokfebebmaeaaGreatDoorW.PrintWords
namespace Go.Proofs.YtccokfebebmaeaaGreatDoorW.PrintLast
section
variable {ops : Array Oper} {a : Act} {o og : Oper} {g : Nat} {t : Tmp} {u : Bool}
end
end Go.Proofs.YtccokfebebmaeaaGreatDoorW.PrintLast
