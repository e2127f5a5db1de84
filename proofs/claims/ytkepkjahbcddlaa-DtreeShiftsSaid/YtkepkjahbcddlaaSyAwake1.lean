/- The examples of the chapters: each awake function of the laws answers true, whatever the world; of what was there nothing has turned. Reckoned by the kernel. -/
import Derived.Test.YtkepkjahbcddlaaProg
import Derived.Test.YtkepkjahbcddlaaSyAwake0
namespace Go.Proofs.Ytkepkjahbcddlaa.Awake
open Go Go.RowKit Go.Proofs.Ytkepkjahbcddlaa.Sy
set_option maxRecDepth 100000
theorem known35 : Known Try.prog [35, 21, 34, 44, 54, 70, 76, 69, 75, 88, 94] := Known.cons (N := 400) (d := 40) (known21) 35 (by kernel_rfl)
theorem known22 : Known Try.prog [22, 35, 21, 34, 44, 54, 70, 76, 69, 75, 88, 94] := Known.cons (N := 400) (d := 40) (known35) 22 (by kernel_rfl)
end Go.Proofs.Ytkepkjahbcddlaa.Awake
