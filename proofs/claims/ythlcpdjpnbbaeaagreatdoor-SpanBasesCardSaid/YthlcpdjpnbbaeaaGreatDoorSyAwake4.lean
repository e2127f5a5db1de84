/- The examples of the chapters: each awake function of the laws answers true, whatever the world; of what was there nothing has turned. Reckoned by the kernel. -/
import Derived.Test.YthlcpdjpnbbaeaaGreatDoorProg
import Derived.Test.YthlcpdjpnbbaeaaGreatDoorSyAwake3
namespace Go.Proofs.YthlcpdjpnbbaeaaGreatDoor.Awake
open Go Go.RowKit Go.Proofs.YthlcpdjpnbbaeaaGreatDoor.Sy
set_option maxRecDepth 100000
theorem known19 : Known Tryz.prog [19, 55, 9, 44, 85, 110, 120, 131, 140, 130, 139, 150, 161, 179, 182, 178, 181, 190, 191] := Known.cons (N := 400) (d := 40) (known55) 19 (by kernel_rfl)
theorem known115 : Known Tryz.prog [115, 19, 55, 9, 44, 85, 110, 120, 131, 140, 130, 139, 150, 161, 179, 182, 178, 181, 190, 191] := Known.cons (N := 400) (d := 40) (known19) 115 (by kernel_rfl)
theorem known104 : Known Tryz.prog [104, 115, 19, 55, 9, 44, 85, 110, 120, 131, 140, 130, 139, 150, 161, 179, 182, 178, 181, 190, 191] := Known.cons (N := 400) (d := 40) (known115) 104 (by kernel_rfl)
theorem known65 : Known Tryz.prog [65, 104, 115, 19, 55, 9, 44, 85, 110, 120, 131, 140, 130, 139, 150, 161, 179, 182, 178, 181, 190, 191] := Known.cons (N := 400) (d := 40) (known104) 65 (by kernel_rfl)
end Go.Proofs.YthlcpdjpnbbaeaaGreatDoor.Awake
