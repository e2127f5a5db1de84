/- The examples of the chapters: each awake function of the laws answers true, whatever the world; of what was there nothing has turned. Reckoned by the kernel. -/
import Derived.Test.YtkepkjahbcddlaaProg
import Derived.Test.YtkepkjahbcddlaaSyTree
namespace Go.Proofs.Ytkepkjahbcddlaa.Awake
open Go Go.RowKit Go.Proofs.Ytkepkjahbcddlaa.Sy
set_option maxRecDepth 100000
theorem known94 : Known Try.prog [94] := Known.cons (N := 400) (d := 40) (Known.nil _) 94 (by kernel_rfl)
theorem known88 : Known Try.prog [88, 94] := Known.cons (N := 400) (d := 40) (known94) 88 (by kernel_rfl)
theorem known75 : Known Try.prog [75, 88, 94] := Known.cons (N := 400) (d := 40) (known88) 75 (by kernel_rfl)
theorem known69 : Known Try.prog [69, 75, 88, 94] := Known.cons (N := 400) (d := 40) (known75) 69 (by kernel_rfl)
theorem known76 : Known Try.prog [76, 69, 75, 88, 94] := Known.cons (N := 400) (d := 40) (known69) 76 (by kernel_rfl)
theorem known70 : Known Try.prog [70, 76, 69, 75, 88, 94] := Known.cons (N := 400) (d := 40) (known76) 70 (by kernel_rfl)
theorem known54 : Known Try.prog [54, 70, 76, 69, 75, 88, 94] := Known.cons (N := 400) (d := 40) (known70) 54 (by kernel_rfl)
theorem known44 : Known Try.prog [44, 54, 70, 76, 69, 75, 88, 94] := Known.cons (N := 400) (d := 40) (known54) 44 (by kernel_rfl)
theorem known34 : Known Try.prog [34, 44, 54, 70, 76, 69, 75, 88, 94] := Known.cons (N := 400) (d := 40) (known44) 34 (by kernel_rfl)
theorem known21 : Known Try.prog [21, 34, 44, 54, 70, 76, 69, 75, 88, 94] := Known.cons (N := 400) (d := 40) (known34) 21 (by kernel_rfl)
end Go.Proofs.Ytkepkjahbcddlaa.Awake
