/- The examples of the chapters: each awake function of the laws answers true, whatever the world; of what was there nothing has turned. Reckoned by the kernel. -/
import Derived.Test.YtjemohphaeiaiaaGreatDoorProg
import Derived.Test.YtjemohphaeiaiaaGreatDoorSyAwake0
namespace Go.Proofs.YtjemohphaeiaiaaGreatDoor.Awake
open Go Go.RowKit Go.Proofs.YtjemohphaeiaiaaGreatDoor.Sy
set_option maxRecDepth 100000
theorem known165 : Known Tryz.prog [165, 161, 164, 170, 180, 192, 195, 191, 194, 203, 204] := Known.cons (N := 400) (d := 40) (known161) 165 (by kernel_rfl)
theorem known162 : Known Tryz.prog [162, 165, 161, 164, 170, 180, 192, 195, 191, 194, 203, 204] := Known.cons (N := 400) (d := 40) (known165) 162 (by kernel_rfl)
end Go.Proofs.YtjemohphaeiaiaaGreatDoor.Awake
