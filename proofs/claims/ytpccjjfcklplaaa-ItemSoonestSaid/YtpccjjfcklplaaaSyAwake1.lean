/- The examples of the chapters: each awake function of the laws answers true, whatever the world; of what was there nothing has turned. Reckoned by the kernel. -/
import Derived.Test.YtpccjjfcklplaaaProg
import Derived.Test.YtpccjjfcklplaaaSyAwake0
namespace Go.Proofs.Ytpccjjfcklplaaa.Awake
open Go Go.RowKit Go.Proofs.Ytpccjjfcklplaaa.Sy
set_option maxRecDepth 100000
theorem known59 : Known Try.prog [59, 40, 6, 29, 53, 69, 88, 68, 87, 109, 116] := Known.cons (N := 400) (d := 40) (known40) 59 (by kernel_rfl)
theorem known41 : Known Try.prog [41, 59, 40, 6, 29, 53, 69, 88, 68, 87, 109, 116] := Known.cons (N := 400) (d := 40) (known59) 41 (by kernel_rfl)
end Go.Proofs.Ytpccjjfcklplaaa.Awake
