/- The examples of the chapters: each awake function of the laws answers true, whatever the world; of what was there nothing has turned. Reckoned by the kernel. -/
import Derived.Test.YtpccjjfcklplaaaGreatDoorProg
import Derived.Test.YtpccjjfcklplaaaGreatDoorSyTree
namespace Go.Proofs.YtpccjjfcklplaaaGreatDoor.Awake
open Go Go.RowKit Go.Proofs.YtpccjjfcklplaaaGreatDoor.Sy
set_option maxRecDepth 100000
theorem known206 : Known Tryz.prog [206] := Known.cons (N := 400) (d := 40) (Known.nil _) 206 (by kernel_rfl)
theorem known205 : Known Tryz.prog [205, 206] := Known.cons (N := 400) (d := 40) (known206) 205 (by kernel_rfl)
theorem known196 : Known Tryz.prog [196, 205, 206] := Known.cons (N := 400) (d := 40) (known205) 196 (by kernel_rfl)
theorem known192 : Known Tryz.prog [192, 196, 205, 206] := Known.cons (N := 400) (d := 40) (known196) 192 (by kernel_rfl)
theorem known197 : Known Tryz.prog [197, 192, 196, 205, 206] := Known.cons (N := 400) (d := 40) (known192) 197 (by kernel_rfl)
theorem known193 : Known Tryz.prog [193, 197, 192, 196, 205, 206] := Known.cons (N := 400) (d := 40) (known197) 193 (by kernel_rfl)
theorem known179 : Known Tryz.prog [179, 193, 197, 192, 196, 205, 206] := Known.cons (N := 400) (d := 40) (known193) 179 (by kernel_rfl)
theorem known163 : Known Tryz.prog [163, 179, 193, 197, 192, 196, 205, 206] := Known.cons (N := 400) (d := 40) (known179) 163 (by kernel_rfl)
theorem known145 : Known Tryz.prog [145, 163, 179, 193, 197, 192, 196, 205, 206] := Known.cons (N := 400) (d := 40) (known163) 145 (by kernel_rfl)
theorem known118 : Known Tryz.prog [118, 145, 163, 179, 193, 197, 192, 196, 205, 206] := Known.cons (N := 400) (d := 40) (known145) 118 (by kernel_rfl)
end Go.Proofs.YtpccjjfcklplaaaGreatDoor.Awake
