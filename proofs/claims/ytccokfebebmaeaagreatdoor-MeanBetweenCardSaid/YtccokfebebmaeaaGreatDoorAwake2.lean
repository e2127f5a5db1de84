/- The examples of the chapters: each awake function of the laws answers true, whatever the world; of what was there nothing has turned. Reckoned by the kernel. -/
import Derived.Test.YtccokfebebmaeaaGreatDoorProg
import Derived.Test.YtccokfebebmaeaaGreatDoorAwake1
namespace Go.Proofs.YtccokfebebmaeaaGreatDoor.Awake
open Go Go.RowKit Go.Proofs.YtccokfebebmaeaaGreatDoor.Ev
set_option maxRecDepth 100000
theorem known72 : Known Tryz.prog [72, 95, 105, 94, 104, 115, 127, 145, 149, 144, 148, 157, 158] := Known.cons (N := 400) (d := 40) (known95) 72 (by kernel_rfl)
theorem at72 (w : World) : Calls Tryz.prog 72 #[] w fun e w' => e = .returned (.bool true) ∧ Below w.heap.size w w' := known72 72 List.mem_cons_self w
theorem known40 : Known Tryz.prog [40, 72, 95, 105, 94, 104, 115, 127, 145, 149, 144, 148, 157, 158] := Known.cons (N := 400) (d := 40) (known72) 40 (by kernel_rfl)
theorem at40 (w : World) : Calls Tryz.prog 40 #[] w fun e w' => e = .returned (.bool true) ∧ Below w.heap.size w w' := known40 40 List.mem_cons_self w
end Go.Proofs.YtccokfebebmaeaaGreatDoor.Awake
