/- The examples of the chapters: each awake function of the laws answers true, whatever the world; of what was there nothing has turned. Reckoned by the kernel. -/
import Derived.Test.YtpccjjfcklplaaaGreatDoorProg
import Derived.Test.YtpccjjfcklplaaaGreatDoorSyAwake4
namespace Go.Proofs.YtpccjjfcklplaaaGreatDoor.Awake
open Go Go.RowKit Go.Proofs.YtpccjjfcklplaaaGreatDoor.Sy
set_option maxRecDepth 100000
theorem known14 : Known Tryz.prog [14, 44, 93, 126, 153, 175, 190, 195, 6, 35, 79, 119, 146, 118, 145, 163, 179, 193, 197, 192, 196, 205, 206] := Known.cons (N := 400) (d := 40) (known44) 14 (by kernel_rfl)
theorem known141 : Known Tryz.prog [141, 14, 44, 93, 126, 153, 175, 190, 195, 6, 35, 79, 119, 146, 118, 145, 163, 179, 193, 197, 192, 196, 205, 206] := Known.cons (N := 400) (d := 40) (known14) 141 (by kernel_rfl)
theorem known109 : Known Tryz.prog [109, 141, 14, 44, 93, 126, 153, 175, 190, 195, 6, 35, 79, 119, 146, 118, 145, 163, 179, 193, 197, 192, 196, 205, 206] := Known.cons (N := 400) (d := 40) (known141) 109 (by kernel_rfl)
theorem known65 : Known Tryz.prog [65, 109, 141, 14, 44, 93, 126, 153, 175, 190, 195, 6, 35, 79, 119, 146, 118, 145, 163, 179, 193, 197, 192, 196, 205, 206] := Known.cons (N := 400) (d := 40) (known109) 65 (by kernel_rfl)
end Go.Proofs.YtpccjjfcklplaaaGreatDoor.Awake
