/- The examples of the chapters: each awake function of the laws answers true, whatever the world; of what was there nothing has turned. Reckoned by the kernel. -/
import Derived.Test.YtfbkamgdkdnpoaaGreatDoorProg
import Derived.Test.YtfbkamgdkdnpoaaGreatDoorAwake1
namespace Go.Proofs.YtfbkamgdkdnpoaaGreatDoor.Awake
open Go Go.RowKit Go.Proofs.YtfbkamgdkdnpoaaGreatDoor.Ev
set_option maxRecDepth 100000
theorem known94 : Known Tryz.prog [94, 103, 112, 102, 111, 121, 133, 150, 153, 149, 152, 161, 162] := Known.cons (N := 400) (d := 40) (known103) 94 (by kernel_rfl)
theorem at94 (w : World) : Calls Tryz.prog 94 #[] w fun e w' => e = .returned (.bool true) ∧ Below w.heap.size w w' := known94 94 List.mem_cons_self w
theorem known91 : Known Tryz.prog [91, 94, 103, 112, 102, 111, 121, 133, 150, 153, 149, 152, 161, 162] := Known.cons (N := 400) (d := 40) (known94) 91 (by kernel_rfl)
theorem at91 (w : World) : Calls Tryz.prog 91 #[] w fun e w' => e = .returned (.bool true) ∧ Below w.heap.size w w' := known91 91 List.mem_cons_self w
end Go.Proofs.YtfbkamgdkdnpoaaGreatDoor.Awake
