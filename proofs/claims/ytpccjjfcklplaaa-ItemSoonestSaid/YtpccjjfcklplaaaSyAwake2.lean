/- The examples of the chapters: each awake function of the laws answers true, whatever the world; of what was there nothing has turned. Reckoned by the kernel. -/
import Derived.Test.YtpccjjfcklplaaaProg
import Derived.Test.YtpccjjfcklplaaaSyAwake1
namespace Go.Proofs.Ytpccjjfcklplaaa.Awake
open Go Go.RowKit Go.Proofs.Ytpccjjfcklplaaa.Sy
set_option maxRecDepth 100000
theorem known15 : Known Try.prog [15, 41, 59, 40, 6, 29, 53, 69, 88, 68, 87, 109, 116] := Known.cons (N := 400) (d := 40) (known41) 15 (by kernel_rfl)
end Go.Proofs.Ytpccjjfcklplaaa.Awake
