/- The examples of the chapters: each awake function of the laws answers true, whatever the world; of what was there nothing has turned. Reckoned by the kernel. -/
import Derived.Test.YthlcpdjpnbbaeaaGreatDoorProg
import Derived.Test.YthlcpdjpnbbaeaaGreatDoorSyAwake0
namespace Go.Proofs.YthlcpdjpnbbaeaaGreatDoor.Awake
open Go Go.RowKit Go.Proofs.YthlcpdjpnbbaeaaGreatDoor.Sy
set_option maxRecDepth 100000
theorem known140 : Known Tryz.prog [140, 130, 139, 150, 161, 179, 182, 178, 181, 190, 191] := Known.cons (N := 400) (d := 40) (known130) 140 (by kernel_rfl)
theorem known131 : Known Tryz.prog [131, 140, 130, 139, 150, 161, 179, 182, 178, 181, 190, 191] := Known.cons (N := 400) (d := 40) (known140) 131 (by kernel_rfl)
end Go.Proofs.YthlcpdjpnbbaeaaGreatDoor.Awake
