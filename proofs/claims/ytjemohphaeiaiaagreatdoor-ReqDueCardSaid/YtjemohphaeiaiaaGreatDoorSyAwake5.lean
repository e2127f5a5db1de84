/- The examples of the chapters: each awake function of the laws answers true, whatever the world; of what was there nothing has turned. Reckoned by the kernel. -/
import Derived.Test.YtjemohphaeiaiaaGreatDoorProg
import Derived.Test.YtjemohphaeiaiaaGreatDoorSyAwake4
namespace Go.Proofs.YtjemohphaeiaiaaGreatDoor.Awake
open Go Go.RowKit Go.Proofs.YtjemohphaeiaiaaGreatDoor.Sy
set_option maxRecDepth 100000
theorem known121 : Known Tryz.prog [121, 130, 139, 145, 147, 149, 150, 152, 153, 154, 156, 162, 165, 161, 164, 170, 180, 192, 195, 191, 194, 203, 204] := Known.cons (N := 400) (d := 40) (known130) 121 (by kernel_rfl)
theorem known105 : Known Tryz.prog [105, 121, 130, 139, 145, 147, 149, 150, 152, 153, 154, 156, 162, 165, 161, 164, 170, 180, 192, 195, 191, 194, 203, 204] := Known.cons (N := 400) (d := 40) (known121) 105 (by kernel_rfl)
theorem known88 : Known Tryz.prog [88, 105, 121, 130, 139, 145, 147, 149, 150, 152, 153, 154, 156, 162, 165, 161, 164, 170, 180, 192, 195, 191, 194, 203, 204] := Known.cons (N := 400) (d := 40) (known105) 88 (by kernel_rfl)
theorem known61 : Known Tryz.prog [61, 88, 105, 121, 130, 139, 145, 147, 149, 150, 152, 153, 154, 156, 162, 165, 161, 164, 170, 180, 192, 195, 191, 194, 203, 204] := Known.cons (N := 400) (d := 40) (known88) 61 (by kernel_rfl)
end Go.Proofs.YtjemohphaeiaiaaGreatDoor.Awake
