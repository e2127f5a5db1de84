/- The examples of the chapters: each awake function of the laws answers true, whatever the world; of what was there nothing has turned. Reckoned by the kernel. -/
import Derived.Test.YtjemohphaeiaiaaGreatDoorProg
import Derived.Test.YtjemohphaeiaiaaGreatDoorSyAwake2
namespace Go.Proofs.YtjemohphaeiaiaaGreatDoor.Awake
open Go Go.RowKit Go.Proofs.YtjemohphaeiaiaaGreatDoor.Sy
set_option maxRecDepth 100000
theorem known153 : Known Tryz.prog [153, 154, 156, 162, 165, 161, 164, 170, 180, 192, 195, 191, 194, 203, 204] := Known.cons (N := 400) (d := 40) (known154) 153 (by kernel_rfl)
theorem known152 : Known Tryz.prog [152, 153, 154, 156, 162, 165, 161, 164, 170, 180, 192, 195, 191, 194, 203, 204] := Known.cons (N := 400) (d := 40) (known153) 152 (by kernel_rfl)
theorem known150 : Known Tryz.prog [150, 152, 153, 154, 156, 162, 165, 161, 164, 170, 180, 192, 195, 191, 194, 203, 204] := Known.cons (N := 400) (d := 40) (known152) 150 (by kernel_rfl)
theorem known149 : Known Tryz.prog [149, 150, 152, 153, 154, 156, 162, 165, 161, 164, 170, 180, 192, 195, 191, 194, 203, 204] := Known.cons (N := 400) (d := 40) (known150) 149 (by kernel_rfl)
end Go.Proofs.YtjemohphaeiaiaaGreatDoor.Awake
