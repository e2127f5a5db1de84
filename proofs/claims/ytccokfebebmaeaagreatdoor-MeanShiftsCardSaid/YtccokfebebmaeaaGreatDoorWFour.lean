-- Rows that the kit's print laid for this seat (print.sh): those that its texts use; cut by a program of this session (wip/shake.py).
import Derived.Test.YtccokfebebmaeaaGreatDoorWTab
/-! ### 56. Four, five, six operations that may come up next, in any order -/
namespace Go.Proofs.YtccokfebebmaeaaGreatDoorW.PrintLast
section
variable {P : Program} {ops : Array Oper} {Q : Exit → Act → World → Prop} {md : Region.Mode} {S : World → Prop} {ds : List Nat} {T : Bool × List (List Nat × List Nat)}
end
end Go.Proofs.YtccokfebebmaeaaGreatDoorW.PrintLast
