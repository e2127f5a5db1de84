/- The examples of the chapters: each awake function of the laws answers true, whatever the world; of what was there nothing has turned. Reckoned by the kernel. -/
import Derived.Test.YtkepkjahbcddlaaProg
import Derived.Test.YtkepkjahbcddlaaSyAwake1
namespace Go.Proofs.Ytkepkjahbcddlaa.Awake
open Go Go.RowKit Go.Proofs.Ytkepkjahbcddlaa.Sy
set_option maxRecDepth 100000
theorem known5 : Known Try.prog [5, 22, 35, 21, 34, 44, 54, 70, 76, 69, 75, 88, 94] := Known.cons (N := 400) (d := 40) (known22) 5 (by kernel_rfl)
end Go.Proofs.Ytkepkjahbcddlaa.Awake
