/- The examples of the chapters: each awake function of the laws answers true, whatever the world; of what was there nothing has turned. Reckoned by the kernel. -/
import Derived.Test.YtpccjjfcklplaaaProg
import Derived.Test.YtpccjjfcklplaaaSyTree
namespace Go.Proofs.Ytpccjjfcklplaaa.Awake
open Go Go.RowKit Go.Proofs.Ytpccjjfcklplaaa.Sy
set_option maxRecDepth 100000
theorem known116 : Known Try.prog [116] := Known.cons (N := 400) (d := 40) (Known.nil _) 116 (by kernel_rfl)
theorem known109 : Known Try.prog [109, 116] := Known.cons (N := 400) (d := 40) (known116) 109 (by kernel_rfl)
theorem known87 : Known Try.prog [87, 109, 116] := Known.cons (N := 400) (d := 40) (known109) 87 (by kernel_rfl)
theorem known68 : Known Try.prog [68, 87, 109, 116] := Known.cons (N := 400) (d := 40) (known87) 68 (by kernel_rfl)
theorem known88 : Known Try.prog [88, 68, 87, 109, 116] := Known.cons (N := 400) (d := 40) (known68) 88 (by kernel_rfl)
theorem known69 : Known Try.prog [69, 88, 68, 87, 109, 116] := Known.cons (N := 400) (d := 40) (known88) 69 (by kernel_rfl)
theorem known53 : Known Try.prog [53, 69, 88, 68, 87, 109, 116] := Known.cons (N := 400) (d := 40) (known69) 53 (by kernel_rfl)
theorem known29 : Known Try.prog [29, 53, 69, 88, 68, 87, 109, 116] := Known.cons (N := 400) (d := 40) (known53) 29 (by kernel_rfl)
theorem known6 : Known Try.prog [6, 29, 53, 69, 88, 68, 87, 109, 116] := Known.cons (N := 400) (d := 40) (known29) 6 (by kernel_rfl)
theorem known40 : Known Try.prog [40, 6, 29, 53, 69, 88, 68, 87, 109, 116] := Known.cons (N := 400) (d := 40) (known6) 40 (by kernel_rfl)
end Go.Proofs.Ytpccjjfcklplaaa.Awake
