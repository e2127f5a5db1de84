/- The examples of the chapters: each awake function of the laws answers true, whatever the world; of what was there nothing has turned. Reckoned by the kernel. -/
import Derived.Test.YtfbkamgdkdnpoaaGreatDoorProg
import Derived.Test.YtfbkamgdkdnpoaaGreatDoorEv
namespace Go.Proofs.YtfbkamgdkdnpoaaGreatDoor.Awake
open Go Go.RowKit Go.Proofs.YtfbkamgdkdnpoaaGreatDoor.Ev
set_option maxRecDepth 100000
theorem known162 : Known Tryz.prog [162] := Known.cons (N := 400) (d := 40) (Known.nil _) 162 (by kernel_rfl)
theorem at162 (w : World) : Calls Tryz.prog 162 #[] w fun e w' => e = .returned (.bool true) ∧ Below w.heap.size w w' := known162 162 List.mem_cons_self w
theorem known161 : Known Tryz.prog [161, 162] := Known.cons (N := 400) (d := 40) (known162) 161 (by kernel_rfl)
theorem at161 (w : World) : Calls Tryz.prog 161 #[] w fun e w' => e = .returned (.bool true) ∧ Below w.heap.size w w' := known161 161 List.mem_cons_self w
theorem known152 : Known Tryz.prog [152, 161, 162] := Known.cons (N := 400) (d := 40) (known161) 152 (by kernel_rfl)
theorem at152 (w : World) : Calls Tryz.prog 152 #[] w fun e w' => e = .returned (.bool true) ∧ Below w.heap.size w w' := known152 152 List.mem_cons_self w
theorem known149 : Known Tryz.prog [149, 152, 161, 162] := Known.cons (N := 400) (d := 40) (known152) 149 (by kernel_rfl)
theorem at149 (w : World) : Calls Tryz.prog 149 #[] w fun e w' => e = .returned (.bool true) ∧ Below w.heap.size w w' := known149 149 List.mem_cons_self w
theorem known153 : Known Tryz.prog [153, 149, 152, 161, 162] := Known.cons (N := 400) (d := 40) (known149) 153 (by kernel_rfl)
theorem at153 (w : World) : Calls Tryz.prog 153 #[] w fun e w' => e = .returned (.bool true) ∧ Below w.heap.size w w' := known153 153 List.mem_cons_self w
theorem known150 : Known Tryz.prog [150, 153, 149, 152, 161, 162] := Known.cons (N := 400) (d := 40) (known153) 150 (by kernel_rfl)
theorem at150 (w : World) : Calls Tryz.prog 150 #[] w fun e w' => e = .returned (.bool true) ∧ Below w.heap.size w w' := known150 150 List.mem_cons_self w
theorem known133 : Known Tryz.prog [133, 150, 153, 149, 152, 161, 162] := Known.cons (N := 400) (d := 40) (known150) 133 (by kernel_rfl)
theorem at133 (w : World) : Calls Tryz.prog 133 #[] w fun e w' => e = .returned (.bool true) ∧ Below w.heap.size w w' := known133 133 List.mem_cons_self w
theorem known121 : Known Tryz.prog [121, 133, 150, 153, 149, 152, 161, 162] := Known.cons (N := 400) (d := 40) (known133) 121 (by kernel_rfl)
theorem at121 (w : World) : Calls Tryz.prog 121 #[] w fun e w' => e = .returned (.bool true) ∧ Below w.heap.size w w' := known121 121 List.mem_cons_self w
theorem known111 : Known Tryz.prog [111, 121, 133, 150, 153, 149, 152, 161, 162] := Known.cons (N := 400) (d := 40) (known121) 111 (by kernel_rfl)
theorem at111 (w : World) : Calls Tryz.prog 111 #[] w fun e w' => e = .returned (.bool true) ∧ Below w.heap.size w w' := known111 111 List.mem_cons_self w
theorem known102 : Known Tryz.prog [102, 111, 121, 133, 150, 153, 149, 152, 161, 162] := Known.cons (N := 400) (d := 40) (known111) 102 (by kernel_rfl)
theorem at102 (w : World) : Calls Tryz.prog 102 #[] w fun e w' => e = .returned (.bool true) ∧ Below w.heap.size w w' := known102 102 List.mem_cons_self w
end Go.Proofs.YtfbkamgdkdnpoaaGreatDoor.Awake
