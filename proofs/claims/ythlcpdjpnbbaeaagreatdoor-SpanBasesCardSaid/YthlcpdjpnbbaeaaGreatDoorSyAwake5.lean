/- The examples of the chapters: each awake function of the laws answers true, whatever the world; of what was there nothing has turned. Reckoned by the kernel. -/
import Derived.Test.YthlcpdjpnbbaeaaGreatDoorProg
import Derived.Test.YthlcpdjpnbbaeaaGreatDoorSyAwake4
namespace Go.Proofs.YthlcpdjpnbbaeaaGreatDoor.Awake
open Go Go.RowKit Go.Proofs.YthlcpdjpnbbaeaaGreatDoor.Sy
set_option maxRecDepth 100000
theorem known22 : Known Tryz.prog [22, 65, 104, 115, 19, 55, 9, 44, 85, 110, 120, 131, 140, 130, 139, 150, 161, 179, 182, 178, 181, 190, 191] := Known.cons (N := 400) (d := 40) (known65) 22 (by kernel_rfl)
theorem known75 : Known Tryz.prog [75, 22, 65, 104, 115, 19, 55, 9, 44, 85, 110, 120, 131, 140, 130, 139, 150, 161, 179, 182, 178, 181, 190, 191] := Known.cons (N := 400) (d := 40) (known22) 75 (by kernel_rfl)
theorem known29 : Known Tryz.prog [29, 75, 22, 65, 104, 115, 19, 55, 9, 44, 85, 110, 120, 131, 140, 130, 139, 150, 161, 179, 182, 178, 181, 190, 191] := Known.cons (N := 400) (d := 40) (known75) 29 (by kernel_rfl)
end Go.Proofs.YthlcpdjpnbbaeaaGreatDoor.Awake
