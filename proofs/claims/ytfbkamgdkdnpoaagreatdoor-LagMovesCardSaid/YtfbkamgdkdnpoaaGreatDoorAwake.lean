/- The examples of the chapters: each awake function of the laws answers true, whatever the world; of what was there nothing has turned. Reckoned by the kernel. -/
import Derived.Test.YtfbkamgdkdnpoaaGreatDoorProg
import Derived.Test.YtfbkamgdkdnpoaaGreatDoorAwake4
namespace Go.Proofs.YtfbkamgdkdnpoaaGreatDoor.Awake
open Go Go.RowKit Go.Proofs.YtfbkamgdkdnpoaaGreatDoor.Ev
set_option maxRecDepth 100000
theorem known38 : Known Tryz.prog [38, 66, 34, 65, 28, 61, 15, 50, 77, 91, 94, 103, 112, 102, 111, 121, 133, 150, 153, 149, 152, 161, 162] := Known.cons (N := 400) (d := 40) (known66) 38 (by kernel_rfl)
theorem at38 (w : World) : Calls Tryz.prog 38 #[] w fun e w' => e = .returned (.bool true) ∧ Below w.heap.size w w' := known38 38 List.mem_cons_self w
end Go.Proofs.YtfbkamgdkdnpoaaGreatDoor.Awake
