/- The examples of the chapters: each awake function of the laws answers true, whatever the world; of what was there nothing has turned. Reckoned by the kernel. -/
import Derived.Test.YtjemohphaeiaiaaGreatDoorProg
import Derived.Test.YtjemohphaeiaiaaGreatDoorSyAwake6
namespace Go.Proofs.YtjemohphaeiaiaaGreatDoor.Awake
open Go Go.RowKit Go.Proofs.YtjemohphaeiaiaaGreatDoor.Sy
set_option maxRecDepth 100000
theorem known9 : Known Tryz.prog [9, 28, 42, 61, 88, 105, 121, 130, 139, 145, 147, 149, 150, 152, 153, 154, 156, 162, 165, 161, 164, 170, 180, 192, 195, 191, 194, 203, 204] := Known.cons (N := 400) (d := 40) (known28) 9 (by kernel_rfl)
end Go.Proofs.YtjemohphaeiaiaaGreatDoor.Awake
