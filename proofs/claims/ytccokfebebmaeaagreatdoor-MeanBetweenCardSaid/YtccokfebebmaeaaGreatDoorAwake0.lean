/- The examples of the chapters: each awake function of the laws answers true, whatever the world; of what was there nothing has turned. Reckoned by the kernel. -/
import Derived.Test.YtccokfebebmaeaaGreatDoorProg
import Derived.Test.YtccokfebebmaeaaGreatDoorEv
namespace Go.Proofs.YtccokfebebmaeaaGreatDoor.Awake
open Go Go.RowKit Go.Proofs.YtccokfebebmaeaaGreatDoor.Ev
set_option maxRecDepth 100000
theorem known158 : Known Tryz.prog [158] := Known.cons (N := 400) (d := 40) (Known.nil _) 158 (by kernel_rfl)
theorem at158 (w : World) : Calls Tryz.prog 158 #[] w fun e w' => e = .returned (.bool true) ∧ Below w.heap.size w w' := known158 158 List.mem_cons_self w
theorem known157 : Known Tryz.prog [157, 158] := Known.cons (N := 400) (d := 40) (known158) 157 (by kernel_rfl)
theorem at157 (w : World) : Calls Tryz.prog 157 #[] w fun e w' => e = .returned (.bool true) ∧ Below w.heap.size w w' := known157 157 List.mem_cons_self w
theorem known148 : Known Tryz.prog [148, 157, 158] := Known.cons (N := 400) (d := 40) (known157) 148 (by kernel_rfl)
theorem at148 (w : World) : Calls Tryz.prog 148 #[] w fun e w' => e = .returned (.bool true) ∧ Below w.heap.size w w' := known148 148 List.mem_cons_self w
theorem known144 : Known Tryz.prog [144, 148, 157, 158] := Known.cons (N := 400) (d := 40) (known148) 144 (by kernel_rfl)
theorem at144 (w : World) : Calls Tryz.prog 144 #[] w fun e w' => e = .returned (.bool true) ∧ Below w.heap.size w w' := known144 144 List.mem_cons_self w
theorem known149 : Known Tryz.prog [149, 144, 148, 157, 158] := Known.cons (N := 400) (d := 40) (known144) 149 (by kernel_rfl)
theorem at149 (w : World) : Calls Tryz.prog 149 #[] w fun e w' => e = .returned (.bool true) ∧ Below w.heap.size w w' := known149 149 List.mem_cons_self w
theorem known145 : Known Tryz.prog [145, 149, 144, 148, 157, 158] := Known.cons (N := 400) (d := 40) (known149) 145 (by kernel_rfl)
theorem at145 (w : World) : Calls Tryz.prog 145 #[] w fun e w' => e = .returned (.bool true) ∧ Below w.heap.size w w' := known145 145 List.mem_cons_self w
theorem known127 : Known Tryz.prog [127, 145, 149, 144, 148, 157, 158] := Known.cons (N := 400) (d := 40) (known145) 127 (by kernel_rfl)
theorem at127 (w : World) : Calls Tryz.prog 127 #[] w fun e w' => e = .returned (.bool true) ∧ Below w.heap.size w w' := known127 127 List.mem_cons_self w
theorem known115 : Known Tryz.prog [115, 127, 145, 149, 144, 148, 157, 158] := Known.cons (N := 400) (d := 40) (known127) 115 (by kernel_rfl)
theorem at115 (w : World) : Calls Tryz.prog 115 #[] w fun e w' => e = .returned (.bool true) ∧ Below w.heap.size w w' := known115 115 List.mem_cons_self w
theorem known104 : Known Tryz.prog [104, 115, 127, 145, 149, 144, 148, 157, 158] := Known.cons (N := 400) (d := 40) (known115) 104 (by kernel_rfl)
theorem at104 (w : World) : Calls Tryz.prog 104 #[] w fun e w' => e = .returned (.bool true) ∧ Below w.heap.size w w' := known104 104 List.mem_cons_self w
theorem known94 : Known Tryz.prog [94, 104, 115, 127, 145, 149, 144, 148, 157, 158] := Known.cons (N := 400) (d := 40) (known104) 94 (by kernel_rfl)
theorem at94 (w : World) : Calls Tryz.prog 94 #[] w fun e w' => e = .returned (.bool true) ∧ Below w.heap.size w w' := known94 94 List.mem_cons_self w
end Go.Proofs.YtccokfebebmaeaaGreatDoor.Awake
