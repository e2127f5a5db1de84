/- The examples of the chapters: each awake function of the laws answers true, whatever the world; of what was there nothing has turned. Reckoned by the kernel. -/
import Derived.Test.YthlcpdjpnbbaeaaGreatDoorProg
import Derived.Test.YthlcpdjpnbbaeaaGreatDoorSyAwake2
namespace Go.Proofs.YthlcpdjpnbbaeaaGreatDoor.Awake
open Go Go.RowKit Go.Proofs.YthlcpdjpnbbaeaaGreatDoor.Sy
set_option maxRecDepth 100000
theorem known85 : Known Tryz.prog [85, 110, 120, 131, 140, 130, 139, 150, 161, 179, 182, 178, 181, 190, 191] := Known.cons (N := 400) (d := 40) (known110) 85 (by kernel_rfl)
theorem known44 : Known Tryz.prog [44, 85, 110, 120, 131, 140, 130, 139, 150, 161, 179, 182, 178, 181, 190, 191] := Known.cons (N := 400) (d := 40) (known85) 44 (by kernel_rfl)
theorem known9 : Known Tryz.prog [9, 44, 85, 110, 120, 131, 140, 130, 139, 150, 161, 179, 182, 178, 181, 190, 191] := Known.cons (N := 400) (d := 40) (known44) 9 (by kernel_rfl)
theorem known55 : Known Tryz.prog [55, 9, 44, 85, 110, 120, 131, 140, 130, 139, 150, 161, 179, 182, 178, 181, 190, 191] := Known.cons (N := 400) (d := 40) (known9) 55 (by kernel_rfl)
end Go.Proofs.YthlcpdjpnbbaeaaGreatDoor.Awake
