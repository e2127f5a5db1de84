/- The examples of the chapters: each awake function of the laws answers true, whatever the world; of what was there nothing has turned. Reckoned by the kernel. -/
import Derived.Test.YtccokfebebmaeaaGreatDoorProg
import Derived.Test.YtccokfebebmaeaaGreatDoorAwake2
namespace Go.Proofs.YtccokfebebmaeaaGreatDoor.Awake
open Go Go.RowKit Go.Proofs.YtccokfebebmaeaaGreatDoor.Ev
set_option maxRecDepth 100000
theorem known9 : Known Tryz.prog [9, 40, 72, 95, 105, 94, 104, 115, 127, 145, 149, 144, 148, 157, 158] := Known.cons (N := 400) (d := 40) (known40) 9 (by kernel_rfl)
theorem at9 (w : World) : Calls Tryz.prog 9 #[] w fun e w' => e = .returned (.bool true) ∧ Below w.heap.size w w' := known9 9 List.mem_cons_self w
theorem known55 : Known Tryz.prog [55, 9, 40, 72, 95, 105, 94, 104, 115, 127, 145, 149, 144, 148, 157, 158] := Known.cons (N := 400) (d := 40) (known9) 55 (by kernel_rfl)
theorem at55 (w : World) : Calls Tryz.prog 55 #[] w fun e w' => e = .returned (.bool true) ∧ Below w.heap.size w w' := known55 55 List.mem_cons_self w
theorem known25 : Known Tryz.prog [25, 55, 9, 40, 72, 95, 105, 94, 104, 115, 127, 145, 149, 144, 148, 157, 158] := Known.cons (N := 400) (d := 40) (known55) 25 (by kernel_rfl)
theorem at25 (w : World) : Calls Tryz.prog 25 #[] w fun e w' => e = .returned (.bool true) ∧ Below w.heap.size w w' := known25 25 List.mem_cons_self w
end Go.Proofs.YtccokfebebmaeaaGreatDoor.Awake
