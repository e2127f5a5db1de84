/- The examples of the chapters: each awake function of the laws answers true, whatever the world; of what was there nothing has turned. Reckoned by the kernel. -/
import Derived.Test.YtdfpkjdhndfcbaaProg
import Derived.Test.YtdfpkjdhndfcbaaEv
namespace Go.Proofs.Ytdfpkjdhndfcbaa.Awake
open Go Go.RowKit Go.Proofs.Ytdfpkjdhndfcbaa.Ev
set_option maxRecDepth 100000
theorem known71 : Known Try.prog [71] := Known.cons (N := 400) (d := 40) (Known.nil _) 71 (by kernel_rfl)
theorem at71 (w : World) : Calls Try.prog 71 #[] w fun e w' => e = .returned (.bool true) ∧ Below w.heap.size w w' := known71 71 List.mem_cons_self w
theorem known65 : Known Try.prog [65, 71] := Known.cons (N := 400) (d := 40) (known71) 65 (by kernel_rfl)
theorem at65 (w : World) : Calls Try.prog 65 #[] w fun e w' => e = .returned (.bool true) ∧ Below w.heap.size w w' := known65 65 List.mem_cons_self w
theorem known57 : Known Try.prog [57, 65, 71] := Known.cons (N := 400) (d := 40) (known65) 57 (by kernel_rfl)
theorem at57 (w : World) : Calls Try.prog 57 #[] w fun e w' => e = .returned (.bool true) ∧ Below w.heap.size w w' := known57 57 List.mem_cons_self w
theorem known45 : Known Try.prog [45, 57, 65, 71] := Known.cons (N := 400) (d := 40) (known57) 45 (by kernel_rfl)
theorem at45 (w : World) : Calls Try.prog 45 #[] w fun e w' => e = .returned (.bool true) ∧ Below w.heap.size w w' := known45 45 List.mem_cons_self w
theorem known58 : Known Try.prog [58, 45, 57, 65, 71] := Known.cons (N := 400) (d := 40) (known45) 58 (by kernel_rfl)
theorem at58 (w : World) : Calls Try.prog 58 #[] w fun e w' => e = .returned (.bool true) ∧ Below w.heap.size w w' := known58 58 List.mem_cons_self w
theorem known46 : Known Try.prog [46, 58, 45, 57, 65, 71] := Known.cons (N := 400) (d := 40) (known58) 46 (by kernel_rfl)
theorem at46 (w : World) : Calls Try.prog 46 #[] w fun e w' => e = .returned (.bool true) ∧ Below w.heap.size w w' := known46 46 List.mem_cons_self w
theorem known35 : Known Try.prog [35, 46, 58, 45, 57, 65, 71] := Known.cons (N := 400) (d := 40) (known46) 35 (by kernel_rfl)
theorem at35 (w : World) : Calls Try.prog 35 #[] w fun e w' => e = .returned (.bool true) ∧ Below w.heap.size w w' := known35 35 List.mem_cons_self w
theorem known23 : Known Try.prog [23, 35, 46, 58, 45, 57, 65, 71] := Known.cons (N := 400) (d := 40) (known35) 23 (by kernel_rfl)
theorem at23 (w : World) : Calls Try.prog 23 #[] w fun e w' => e = .returned (.bool true) ∧ Below w.heap.size w w' := known23 23 List.mem_cons_self w
theorem known6 : Known Try.prog [6, 23, 35, 46, 58, 45, 57, 65, 71] := Known.cons (N := 400) (d := 40) (known23) 6 (by kernel_rfl)
theorem at6 (w : World) : Calls Try.prog 6 #[] w fun e w' => e = .returned (.bool true) ∧ Below w.heap.size w w' := known6 6 List.mem_cons_self w
end Go.Proofs.Ytdfpkjdhndfcbaa.Awake
