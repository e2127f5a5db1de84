/- The examples of the chapters: each awake function of the laws answers true, whatever the world; of what was there nothing has turned. Reckoned by the kernel. -/
import Derived.Test.YtimgiiceipjpaaaProg
import Derived.Test.YtimgiiceipjpaaaEv
namespace Go.Proofs.Ytimgiiceipjpaaa.Awake
open Go Go.RowKit Go.Proofs.Ytimgiiceipjpaaa.Ev
set_option maxRecDepth 100000
theorem known85 : Known Try.prog [85] := Known.cons (N := 400) (d := 40) (Known.nil _) 85 (by kernel_rfl)
theorem at85 (w : World) : Calls Try.prog 85 #[] w fun e w' => e = .returned (.bool true) ∧ Below w.heap.size w w' := known85 85 List.mem_cons_self w
theorem known58 : Known Try.prog [58, 85] := Known.cons (N := 400) (d := 40) (known85) 58 (by kernel_rfl)
theorem at58 (w : World) : Calls Try.prog 58 #[] w fun e w' => e = .returned (.bool true) ∧ Below w.heap.size w w' := known58 58 List.mem_cons_self w
theorem known33 : Known Try.prog [33, 58, 85] := Known.cons (N := 400) (d := 40) (known58) 33 (by kernel_rfl)
theorem at33 (w : World) : Calls Try.prog 33 #[] w fun e w' => e = .returned (.bool true) ∧ Below w.heap.size w w' := known33 33 List.mem_cons_self w
theorem known73 : Known Try.prog [73, 33, 58, 85] := Known.cons (N := 400) (d := 40) (known33) 73 (by kernel_rfl)
theorem at73 (w : World) : Calls Try.prog 73 #[] w fun e w' => e = .returned (.bool true) ∧ Below w.heap.size w w' := known73 73 List.mem_cons_self w
theorem known17 : Known Try.prog [17, 73, 33, 58, 85] := Known.cons (N := 400) (d := 40) (known73) 17 (by kernel_rfl)
theorem at17 (w : World) : Calls Try.prog 17 #[] w fun e w' => e = .returned (.bool true) ∧ Below w.heap.size w w' := known17 17 List.mem_cons_self w
theorem known74 : Known Try.prog [74, 17, 73, 33, 58, 85] := Known.cons (N := 400) (d := 40) (known17) 74 (by kernel_rfl)
theorem at74 (w : World) : Calls Try.prog 74 #[] w fun e w' => e = .returned (.bool true) ∧ Below w.heap.size w w' := known74 74 List.mem_cons_self w
theorem known44 : Known Try.prog [44, 74, 17, 73, 33, 58, 85] := Known.cons (N := 400) (d := 40) (known74) 44 (by kernel_rfl)
theorem at44 (w : World) : Calls Try.prog 44 #[] w fun e w' => e = .returned (.bool true) ∧ Below w.heap.size w w' := known44 44 List.mem_cons_self w
end Go.Proofs.Ytimgiiceipjpaaa.Awake
