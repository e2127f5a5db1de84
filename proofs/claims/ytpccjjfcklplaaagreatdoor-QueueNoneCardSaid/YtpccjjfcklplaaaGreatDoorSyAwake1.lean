/- The examples of the chapters: each awake function of the laws answers true, whatever the world; of what was there nothing has turned. Reckoned by the kernel. -/
import Derived.Test.YtpccjjfcklplaaaGreatDoorProg
import Derived.Test.YtpccjjfcklplaaaGreatDoorSyAwake0
namespace Go.Proofs.YtpccjjfcklplaaaGreatDoor.Awake
open Go Go.RowKit Go.Proofs.YtpccjjfcklplaaaGreatDoor.Sy
set_option maxRecDepth 100000
theorem known146 : Known Tryz.prog [146, 118, 145, 163, 179, 193, 197, 192, 196, 205, 206] := Known.cons (N := 400) (d := 40) (known118) 146 (by kernel_rfl)
theorem known119 : Known Tryz.prog [119, 146, 118, 145, 163, 179, 193, 197, 192, 196, 205, 206] := Known.cons (N := 400) (d := 40) (known146) 119 (by kernel_rfl)
end Go.Proofs.YtpccjjfcklplaaaGreatDoor.Awake
