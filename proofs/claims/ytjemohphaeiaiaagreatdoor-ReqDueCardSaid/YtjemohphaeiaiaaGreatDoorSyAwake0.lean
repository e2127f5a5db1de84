/- The examples of the chapters: each awake function of the laws answers true, whatever the world; of what was there nothing has turned. Reckoned by the kernel. -/
import Derived.Test.YtjemohphaeiaiaaGreatDoorProg
import Derived.Test.YtjemohphaeiaiaaGreatDoorSyTree
namespace Go.Proofs.YtjemohphaeiaiaaGreatDoor.Awake
open Go Go.RowKit Go.Proofs.YtjemohphaeiaiaaGreatDoor.Sy
set_option maxRecDepth 100000
theorem known204 : Known Tryz.prog [204] := Known.cons (N := 400) (d := 40) (Known.nil _) 204 (by kernel_rfl)
theorem known203 : Known Tryz.prog [203, 204] := Known.cons (N := 400) (d := 40) (known204) 203 (by kernel_rfl)
theorem known194 : Known Tryz.prog [194, 203, 204] := Known.cons (N := 400) (d := 40) (known203) 194 (by kernel_rfl)
theorem known191 : Known Tryz.prog [191, 194, 203, 204] := Known.cons (N := 400) (d := 40) (known194) 191 (by kernel_rfl)
theorem known195 : Known Tryz.prog [195, 191, 194, 203, 204] := Known.cons (N := 400) (d := 40) (known191) 195 (by kernel_rfl)
theorem known192 : Known Tryz.prog [192, 195, 191, 194, 203, 204] := Known.cons (N := 400) (d := 40) (known195) 192 (by kernel_rfl)
theorem known180 : Known Tryz.prog [180, 192, 195, 191, 194, 203, 204] := Known.cons (N := 400) (d := 40) (known192) 180 (by kernel_rfl)
theorem known170 : Known Tryz.prog [170, 180, 192, 195, 191, 194, 203, 204] := Known.cons (N := 400) (d := 40) (known180) 170 (by kernel_rfl)
theorem known164 : Known Tryz.prog [164, 170, 180, 192, 195, 191, 194, 203, 204] := Known.cons (N := 400) (d := 40) (known170) 164 (by kernel_rfl)
theorem known161 : Known Tryz.prog [161, 164, 170, 180, 192, 195, 191, 194, 203, 204] := Known.cons (N := 400) (d := 40) (known164) 161 (by kernel_rfl)
end Go.Proofs.YtjemohphaeiaiaaGreatDoor.Awake
