/- The examples of the chapters: each awake function of the laws answers true, whatever the world; of what was there nothing has turned. Reckoned by the kernel. -/
import Derived.Test.YtafhkgicekddlaaGreatDoorProg
import Derived.Test.YtafhkgicekddlaaGreatDoorSyTree
namespace Go.Proofs.YtafhkgicekddlaaGreatDoor.Awake
open Go Go.RowKit Go.Proofs.YtafhkgicekddlaaGreatDoor.Sy
set_option maxRecDepth 100000
theorem known171 : Known Tryz.prog [171] := Known.cons (N := 400) (d := 40) (Known.nil _) 171 (by kernel_rfl)
theorem known170 : Known Tryz.prog [170, 171] := Known.cons (N := 400) (d := 40) (known171) 170 (by kernel_rfl)
theorem known161 : Known Tryz.prog [161, 170, 171] := Known.cons (N := 400) (d := 40) (known170) 161 (by kernel_rfl)
theorem known158 : Known Tryz.prog [158, 161, 170, 171] := Known.cons (N := 400) (d := 40) (known161) 158 (by kernel_rfl)
theorem known162 : Known Tryz.prog [162, 158, 161, 170, 171] := Known.cons (N := 400) (d := 40) (known158) 162 (by kernel_rfl)
theorem known159 : Known Tryz.prog [159, 162, 158, 161, 170, 171] := Known.cons (N := 400) (d := 40) (known162) 159 (by kernel_rfl)
theorem known141 : Known Tryz.prog [141, 159, 162, 158, 161, 170, 171] := Known.cons (N := 400) (d := 40) (known159) 141 (by kernel_rfl)
theorem known129 : Known Tryz.prog [129, 141, 159, 162, 158, 161, 170, 171] := Known.cons (N := 400) (d := 40) (known141) 129 (by kernel_rfl)
theorem known118 : Known Tryz.prog [118, 129, 141, 159, 162, 158, 161, 170, 171] := Known.cons (N := 400) (d := 40) (known129) 118 (by kernel_rfl)
theorem known108 : Known Tryz.prog [108, 118, 129, 141, 159, 162, 158, 161, 170, 171] := Known.cons (N := 400) (d := 40) (known118) 108 (by kernel_rfl)
end Go.Proofs.YtafhkgicekddlaaGreatDoor.Awake
