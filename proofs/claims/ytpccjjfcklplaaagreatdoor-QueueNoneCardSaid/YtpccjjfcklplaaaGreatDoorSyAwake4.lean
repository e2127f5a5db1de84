/- The examples of the chapters: each awake function of the laws answers true, whatever the world; of what was there nothing has turned. Reckoned by the kernel. -/
import Derived.Test.YtpccjjfcklplaaaGreatDoorProg
import Derived.Test.YtpccjjfcklplaaaGreatDoorSyAwake3
namespace Go.Proofs.YtpccjjfcklplaaaGreatDoor.Awake
open Go Go.RowKit Go.Proofs.YtpccjjfcklplaaaGreatDoor.Sy
set_option maxRecDepth 100000
theorem known153 : Known Tryz.prog [153, 175, 190, 195, 6, 35, 79, 119, 146, 118, 145, 163, 179, 193, 197, 192, 196, 205, 206] := Known.cons (N := 400) (d := 40) (known175) 153 (by kernel_rfl)
theorem known126 : Known Tryz.prog [126, 153, 175, 190, 195, 6, 35, 79, 119, 146, 118, 145, 163, 179, 193, 197, 192, 196, 205, 206] := Known.cons (N := 400) (d := 40) (known153) 126 (by kernel_rfl)
theorem known93 : Known Tryz.prog [93, 126, 153, 175, 190, 195, 6, 35, 79, 119, 146, 118, 145, 163, 179, 193, 197, 192, 196, 205, 206] := Known.cons (N := 400) (d := 40) (known126) 93 (by kernel_rfl)
theorem known44 : Known Tryz.prog [44, 93, 126, 153, 175, 190, 195, 6, 35, 79, 119, 146, 118, 145, 163, 179, 193, 197, 192, 196, 205, 206] := Known.cons (N := 400) (d := 40) (known93) 44 (by kernel_rfl)
end Go.Proofs.YtpccjjfcklplaaaGreatDoor.Awake
