/- ClampOrders, over numbers alone: what is clamped is within, and stays so; a greater lag isn't less then. -/
import Derived.Test.YtfbkamgdkdnpoaaGreatDoorThClamp
import Derived.Test.YtfbkamgdkdnpoaaGreatDoorPrint1032
namespace Go.Proofs.YtfbkamgdkdnpoaaGreatDoor.Pure
open Go.RowKit Go.Proofs.YtfbkamgdkdnpoaaGreatDoor.Print Go.Proofs.YtfbkamgdkdnpoaaGreatDoorW.PrintWords Go.Proofs.YtfbkamgdkdnpoaaGreatDoorW.PrintLast Go.Proofs.YtfbkamgdkdnpoaaGreatDoorW.PrintMore Go.Proofs.YtfbkamgdkdnpoaaGreatDoor.Th
set_option linter.unusedVariables false
set_option linter.unusedSimpArgs false
theorem clampZ_mono {x y w : Int} (hw : Sm w) (h : x ≤ y) : clampZ x w ≤ clampZ y w := by
  have := mx_bounds hw
  unfold clampZ
  generalize mx w 0 = m at *
  repeat' split
  all_goals omega
theorem clampZ_idem {x w : Int} (hw : Sm w) : clampZ (clampZ x w) w = clampZ x w := by
  have := clampZ_in (x := x) hw
  generalize clampZ x w = a at *
  unfold clampZ
  rw [if_neg (by omega), if_neg (by omega)]
theorem ClampOrders : turnstonelaw12_ClampOrders.Pure := by
  intro xh xl yh yl w hxh hxl hyh hyl hw
  have hw : Sm w := wf_i64 hw
  obtain ⟨x, hx, rfl, rfl⟩ := wide_of_pair (wf_i64 hxh) (wf_u64 hxl).1 (wf_u64 hxl).2
  obtain ⟨y, hy, rfl, rfl⟩ := wide_of_pair (wf_i64 hyh) (wf_u64 hyl).1 (wf_u64 hyl).2
  refine ⟨10, ?_⟩
  obtain ⟨m0, m1⟩ := mx_bounds hw
  obtain ⟨a0, a1⟩ := clampZ_in (x := x) hw
  have sa : Sm (clampZ x w) := by unfold Sm; omega
  unfold turnstonelaw12_ClampOrders.f
  rw [show turnstonelaw12_awake.f = some true from rfl, Option.bind_some, if_pos rfl, clamp_eq (by omega) hx hw, Option.bind_some, clamp_eq (by omega) hy hw, Option.bind_some, w_id (n := -(mx w 0)) (by omega) (by omega), if_pos a0, if_pos a1, of_eq sa, Option.bind_some, clamp_eq (by omega) sa.big hw, Option.bind_some, clampZ_idem hw, if_pos rfl, wcmp_eq (by omega), Option.bind_some]
  have hle : ¬ x > y → clampZ x w ≤ clampZ y w := fun h => clampZ_mono hw (by omega)
  have hge : ¬ x < y → clampZ x w ≥ clampZ y w := fun h => clampZ_mono hw (by omega)
  have e : ∀ (b : Option Bool), (if sg x y > 0 then some true else some (decide (clampZ x w ≤ clampZ y w))) = some true := by
    intro _
    by_cases h : x > y
    · rw [if_pos ((sg_pos _ _).2 h)]
    · rw [if_neg (fun h' => h ((sg_pos _ _).1 h')), decide_eq_true (hle h)]
  by_cases h : x < y
  · rw [if_pos ((sg_neg _ _).2 h)]
    simpa using e none
  · rw [if_neg (fun h' => h ((sg_neg _ _).1 h')), if_pos (hge h)]
    simpa using e none
end Go.Proofs.YtfbkamgdkdnpoaaGreatDoor.Pure
