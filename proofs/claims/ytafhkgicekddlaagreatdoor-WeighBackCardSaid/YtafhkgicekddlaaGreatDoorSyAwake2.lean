/- The examples of the chapters: each awake function of the laws answers true, whatever the world; of what was there nothing has turned. Reckoned by the kernel. -/
import Derived.Test.YtafhkgicekddlaaGreatDoorProg
import Derived.Test.YtafhkgicekddlaaGreatDoorSyAwake1
namespace Go.Proofs.YtafhkgicekddlaaGreatDoor.Awake
open Go Go.RowKit Go.Proofs.YtafhkgicekddlaaGreatDoor.Sy
set_option maxRecDepth 100000
theorem known93 : Known Tryz.prog [93, 109, 119, 108, 118, 129, 141, 159, 162, 158, 161, 170, 171] := Known.cons (N := 400) (d := 40) (known109) 93 (by kernel_rfl)
theorem known64 : Known Tryz.prog [64, 93, 109, 119, 108, 118, 129, 141, 159, 162, 158, 161, 170, 171] := Known.cons (N := 400) (d := 40) (known93) 64 (by kernel_rfl)
end Go.Proofs.YtafhkgicekddlaaGreatDoor.Awake
