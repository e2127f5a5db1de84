/- The examples of the chapters: each awake function of the laws answers true, whatever the world; of what was there nothing has turned. Reckoned by the kernel. -/
import Derived.Test.YtfbkamgdkdnpoaaGreatDoorProg
import Derived.Test.YtfbkamgdkdnpoaaGreatDoorAwake0
namespace Go.Proofs.YtfbkamgdkdnpoaaGreatDoor.Awake
open Go Go.RowKit Go.Proofs.YtfbkamgdkdnpoaaGreatDoor.Ev
set_option maxRecDepth 100000
theorem known112 : Known Tryz.prog [112, 102, 111, 121, 133, 150, 153, 149, 152, 161, 162] := Known.cons (N := 400) (d := 40) (known102) 112 (by kernel_rfl)
theorem at112 (w : World) : Calls Tryz.prog 112 #[] w fun e w' => e = .returned (.bool true) ∧ Below w.heap.size w w' := known112 112 List.mem_cons_self w
theorem known103 : Known Tryz.prog [103, 112, 102, 111, 121, 133, 150, 153, 149, 152, 161, 162] := Known.cons (N := 400) (d := 40) (known112) 103 (by kernel_rfl)
theorem at103 (w : World) : Calls Tryz.prog 103 #[] w fun e w' => e = .returned (.bool true) ∧ Below w.heap.size w w' := known103 103 List.mem_cons_self w
end Go.Proofs.YtfbkamgdkdnpoaaGreatDoor.Awake
