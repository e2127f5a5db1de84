/- The examples of the chapters: each awake function of the laws answers true, whatever the world; of what was there nothing has turned. Reckoned by the kernel. -/
import Derived.Test.YtccokfebebmaeaaGreatDoorProg
import Derived.Test.YtccokfebebmaeaaGreatDoorAwake0
namespace Go.Proofs.YtccokfebebmaeaaGreatDoor.Awake
open Go Go.RowKit Go.Proofs.YtccokfebebmaeaaGreatDoor.Ev
set_option maxRecDepth 100000
theorem known105 : Known Tryz.prog [105, 94, 104, 115, 127, 145, 149, 144, 148, 157, 158] := Known.cons (N := 400) (d := 40) (known94) 105 (by kernel_rfl)
theorem at105 (w : World) : Calls Tryz.prog 105 #[] w fun e w' => e = .returned (.bool true) ∧ Below w.heap.size w w' := known105 105 List.mem_cons_self w
theorem known95 : Known Tryz.prog [95, 105, 94, 104, 115, 127, 145, 149, 144, 148, 157, 158] := Known.cons (N := 400) (d := 40) (known105) 95 (by kernel_rfl)
theorem at95 (w : World) : Calls Tryz.prog 95 #[] w fun e w' => e = .returned (.bool true) ∧ Below w.heap.size w w' := known95 95 List.mem_cons_self w
end Go.Proofs.YtccokfebebmaeaaGreatDoor.Awake
