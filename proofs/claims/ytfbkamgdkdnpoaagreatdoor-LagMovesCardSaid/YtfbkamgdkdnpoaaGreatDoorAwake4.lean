/- The examples of the chapters: each awake function of the laws answers true, whatever the world; of what was there nothing has turned. Reckoned by the kernel. -/
import Derived.Test.YtfbkamgdkdnpoaaGreatDoorProg
import Derived.Test.YtfbkamgdkdnpoaaGreatDoorAwake3
namespace Go.Proofs.YtfbkamgdkdnpoaaGreatDoor.Awake
open Go Go.RowKit Go.Proofs.YtfbkamgdkdnpoaaGreatDoor.Ev
set_option maxRecDepth 100000
theorem known28 : Known Tryz.prog [28, 61, 15, 50, 77, 91, 94, 103, 112, 102, 111, 121, 133, 150, 153, 149, 152, 161, 162] := Known.cons (N := 400) (d := 40) (known61) 28 (by kernel_rfl)
theorem at28 (w : World) : Calls Tryz.prog 28 #[] w fun e w' => e = .returned (.bool true) ∧ Below w.heap.size w w' := known28 28 List.mem_cons_self w
theorem known65 : Known Tryz.prog [65, 28, 61, 15, 50, 77, 91, 94, 103, 112, 102, 111, 121, 133, 150, 153, 149, 152, 161, 162] := Known.cons (N := 400) (d := 40) (known28) 65 (by kernel_rfl)
theorem at65 (w : World) : Calls Tryz.prog 65 #[] w fun e w' => e = .returned (.bool true) ∧ Below w.heap.size w w' := known65 65 List.mem_cons_self w
theorem known34 : Known Tryz.prog [34, 65, 28, 61, 15, 50, 77, 91, 94, 103, 112, 102, 111, 121, 133, 150, 153, 149, 152, 161, 162] := Known.cons (N := 400) (d := 40) (known65) 34 (by kernel_rfl)
theorem at34 (w : World) : Calls Tryz.prog 34 #[] w fun e w' => e = .returned (.bool true) ∧ Below w.heap.size w w' := known34 34 List.mem_cons_self w
theorem known66 : Known Tryz.prog [66, 34, 65, 28, 61, 15, 50, 77, 91, 94, 103, 112, 102, 111, 121, 133, 150, 153, 149, 152, 161, 162] := Known.cons (N := 400) (d := 40) (known34) 66 (by kernel_rfl)
theorem at66 (w : World) : Calls Tryz.prog 66 #[] w fun e w' => e = .returned (.bool true) ∧ Below w.heap.size w w' := known66 66 List.mem_cons_self w
end Go.Proofs.YtfbkamgdkdnpoaaGreatDoor.Awake
