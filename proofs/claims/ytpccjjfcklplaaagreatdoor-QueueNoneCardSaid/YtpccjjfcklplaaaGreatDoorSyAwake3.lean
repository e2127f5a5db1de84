/- The examples of the chapters: each awake function of the laws answers true, whatever the world; of what was there nothing has turned. Reckoned by the kernel. -/
import Derived.Test.YtpccjjfcklplaaaGreatDoorProg
import Derived.Test.YtpccjjfcklplaaaGreatDoorSyAwake2
namespace Go.Proofs.YtpccjjfcklplaaaGreatDoor.Awake
open Go Go.RowKit Go.Proofs.YtpccjjfcklplaaaGreatDoor.Sy
set_option maxRecDepth 100000
theorem known6 : Known Tryz.prog [6, 35, 79, 119, 146, 118, 145, 163, 179, 193, 197, 192, 196, 205, 206] := Known.cons (N := 400) (d := 40) (known35) 6 (by kernel_rfl)
theorem known195 : Known Tryz.prog [195, 6, 35, 79, 119, 146, 118, 145, 163, 179, 193, 197, 192, 196, 205, 206] := Known.cons (N := 400) (d := 40) (known6) 195 (by kernel_rfl)
theorem known190 : Known Tryz.prog [190, 195, 6, 35, 79, 119, 146, 118, 145, 163, 179, 193, 197, 192, 196, 205, 206] := Known.cons (N := 400) (d := 40) (known195) 190 (by kernel_rfl)
theorem known175 : Known Tryz.prog [175, 190, 195, 6, 35, 79, 119, 146, 118, 145, 163, 179, 193, 197, 192, 196, 205, 206] := Known.cons (N := 400) (d := 40) (known190) 175 (by kernel_rfl)
end Go.Proofs.YtpccjjfcklplaaaGreatDoor.Awake
