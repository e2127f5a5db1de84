-- Rows that the kit's print laid for this seat (print.sh): those that its texts use; cut by a program of this session (wip/shake.py).
import Derived.Test.YtccokfebebmaeaaGreatDoorWN
/-! ### 52. A row that stays read whatever happens to a block (a set of blocks) doesn't lie there -/
namespace Go.Proofs.YtccokfebebmaeaaGreatDoorW.PrintWords
open Go.RowKit
namespace Kd
section
variable {α : Type} {d : Kd α} {W : World} {g n : Nat} {S ok : Nat → Prop} {A : Option Addr} {ad : Addr} {xs : List α}
end
end Kd
end Go.Proofs.YtccokfebebmaeaaGreatDoorW.PrintWords
