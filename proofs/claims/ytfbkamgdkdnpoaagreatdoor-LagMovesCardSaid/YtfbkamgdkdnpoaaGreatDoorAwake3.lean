/- The examples of the chapters: each awake function of the laws answers true, whatever the world; of what was there nothing has turned. Reckoned by the kernel. -/
import Derived.Test.YtfbkamgdkdnpoaaGreatDoorProg
import Derived.Test.YtfbkamgdkdnpoaaGreatDoorAwake2
namespace Go.Proofs.YtfbkamgdkdnpoaaGreatDoor.Awake
open Go Go.RowKit Go.Proofs.YtfbkamgdkdnpoaaGreatDoor.Ev
set_option maxRecDepth 100000
theorem known77 : Known Tryz.prog [77, 91, 94, 103, 112, 102, 111, 121, 133, 150, 153, 149, 152, 161, 162] := Known.cons (N := 400) (d := 40) (known91) 77 (by kernel_rfl)
theorem at77 (w : World) : Calls Tryz.prog 77 #[] w fun e w' => e = .returned (.bool true) ∧ Below w.heap.size w w' := known77 77 List.mem_cons_self w
theorem known50 : Known Tryz.prog [50, 77, 91, 94, 103, 112, 102, 111, 121, 133, 150, 153, 149, 152, 161, 162] := Known.cons (N := 400) (d := 40) (known77) 50 (by kernel_rfl)
theorem at50 (w : World) : Calls Tryz.prog 50 #[] w fun e w' => e = .returned (.bool true) ∧ Below w.heap.size w w' := known50 50 List.mem_cons_self w
theorem known15 : Known Tryz.prog [15, 50, 77, 91, 94, 103, 112, 102, 111, 121, 133, 150, 153, 149, 152, 161, 162] := Known.cons (N := 400) (d := 40) (known50) 15 (by kernel_rfl)
theorem at15 (w : World) : Calls Tryz.prog 15 #[] w fun e w' => e = .returned (.bool true) ∧ Below w.heap.size w w' := known15 15 List.mem_cons_self w
theorem known61 : Known Tryz.prog [61, 15, 50, 77, 91, 94, 103, 112, 102, 111, 121, 133, 150, 153, 149, 152, 161, 162] := Known.cons (N := 400) (d := 40) (known15) 61 (by kernel_rfl)
theorem at61 (w : World) : Calls Tryz.prog 61 #[] w fun e w' => e = .returned (.bool true) ∧ Below w.heap.size w w' := known61 61 List.mem_cons_self w
end Go.Proofs.YtfbkamgdkdnpoaaGreatDoor.Awake
