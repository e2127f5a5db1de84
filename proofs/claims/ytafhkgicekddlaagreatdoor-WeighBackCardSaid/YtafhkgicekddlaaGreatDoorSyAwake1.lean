/- The examples of the chapters: each awake function of the laws answers true, whatever the world; of what was there nothing has turned. Reckoned by the kernel. -/
import Derived.Test.YtafhkgicekddlaaGreatDoorProg
import Derived.Test.YtafhkgicekddlaaGreatDoorSyAwake0
namespace Go.Proofs.YtafhkgicekddlaaGreatDoor.Awake
open Go Go.RowKit Go.Proofs.YtafhkgicekddlaaGreatDoor.Sy
set_option maxRecDepth 100000
theorem known119 : Known Tryz.prog [119, 108, 118, 129, 141, 159, 162, 158, 161, 170, 171] := Known.cons (N := 400) (d := 40) (known108) 119 (by kernel_rfl)
theorem known109 : Known Tryz.prog [109, 119, 108, 118, 129, 141, 159, 162, 158, 161, 170, 171] := Known.cons (N := 400) (d := 40) (known119) 109 (by kernel_rfl)
end Go.Proofs.YtafhkgicekddlaaGreatDoor.Awake
