/- The examples of the chapters: each awake function of the laws answers true, whatever the world; of what was there nothing has turned. Reckoned by the kernel. -/
import Derived.Test.YthlcpdjpnbbaeaaGreatDoorProg
import Derived.Test.YthlcpdjpnbbaeaaGreatDoorSyTree
namespace Go.Proofs.YthlcpdjpnbbaeaaGreatDoor.Awake
open Go Go.RowKit Go.Proofs.YthlcpdjpnbbaeaaGreatDoor.Sy
set_option maxRecDepth 100000
theorem known191 : Known Tryz.prog [191] := Known.cons (N := 400) (d := 40) (Known.nil _) 191 (by kernel_rfl)
theorem known190 : Known Tryz.prog [190, 191] := Known.cons (N := 400) (d := 40) (known191) 190 (by kernel_rfl)
theorem known181 : Known Tryz.prog [181, 190, 191] := Known.cons (N := 400) (d := 40) (known190) 181 (by kernel_rfl)
theorem known178 : Known Tryz.prog [178, 181, 190, 191] := Known.cons (N := 400) (d := 40) (known181) 178 (by kernel_rfl)
theorem known182 : Known Tryz.prog [182, 178, 181, 190, 191] := Known.cons (N := 400) (d := 40) (known178) 182 (by kernel_rfl)
theorem known179 : Known Tryz.prog [179, 182, 178, 181, 190, 191] := Known.cons (N := 400) (d := 40) (known182) 179 (by kernel_rfl)
theorem known161 : Known Tryz.prog [161, 179, 182, 178, 181, 190, 191] := Known.cons (N := 400) (d := 40) (known179) 161 (by kernel_rfl)
theorem known150 : Known Tryz.prog [150, 161, 179, 182, 178, 181, 190, 191] := Known.cons (N := 400) (d := 40) (known161) 150 (by kernel_rfl)
theorem known139 : Known Tryz.prog [139, 150, 161, 179, 182, 178, 181, 190, 191] := Known.cons (N := 400) (d := 40) (known150) 139 (by kernel_rfl)
theorem known130 : Known Tryz.prog [130, 139, 150, 161, 179, 182, 178, 181, 190, 191] := Known.cons (N := 400) (d := 40) (known139) 130 (by kernel_rfl)
end Go.Proofs.YthlcpdjpnbbaeaaGreatDoor.Awake
