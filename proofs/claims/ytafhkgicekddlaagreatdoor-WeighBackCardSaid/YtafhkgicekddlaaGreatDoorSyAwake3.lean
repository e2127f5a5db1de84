/- The examples of the chapters: each awake function of the laws answers true, whatever the world; of what was there nothing has turned. Reckoned by the kernel. -/
import Derived.Test.YtafhkgicekddlaaGreatDoorProg
import Derived.Test.YtafhkgicekddlaaGreatDoorSyAwake2
namespace Go.Proofs.YtafhkgicekddlaaGreatDoor.Awake
open Go Go.RowKit Go.Proofs.YtafhkgicekddlaaGreatDoor.Sy
set_option maxRecDepth 100000
theorem known27 : Known Tryz.prog [27, 64, 93, 109, 119, 108, 118, 129, 141, 159, 162, 158, 161, 170, 171] := Known.cons (N := 400) (d := 40) (known64) 27 (by kernel_rfl)
theorem known67 : Known Tryz.prog [67, 27, 64, 93, 109, 119, 108, 118, 129, 141, 159, 162, 158, 161, 170, 171] := Known.cons (N := 400) (d := 40) (known27) 67 (by kernel_rfl)
theorem known34 : Known Tryz.prog [34, 67, 27, 64, 93, 109, 119, 108, 118, 129, 141, 159, 162, 158, 161, 170, 171] := Known.cons (N := 400) (d := 40) (known67) 34 (by kernel_rfl)
theorem known99 : Known Tryz.prog [99, 34, 67, 27, 64, 93, 109, 119, 108, 118, 129, 141, 159, 162, 158, 161, 170, 171] := Known.cons (N := 400) (d := 40) (known34) 99 (by kernel_rfl)
end Go.Proofs.YtafhkgicekddlaaGreatDoor.Awake
