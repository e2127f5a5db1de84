/- LagNanos, over numbers alone: the nanoseconds of any lag are the document's. -/
import Derived.Test.YtccokfebebmaeaaGreatDoorThDiv
import Derived.Test.YtccokfebebmaeaaGreatDoorThWideRef
import Derived.Test.YtccokfebebmaeaaGreatDoorThWide
import Derived.Test.YtccokfebebmaeaaGreatDoorPrint1006
import Derived.Test.YtccokfebebmaeaaGreatDoorPrint1005
namespace Go.Proofs.YtccokfebebmaeaaGreatDoor.Pure
open Go.RowKit Go.Proofs.YtccokfebebmaeaaGreatDoor.Print Go.Proofs.YtccokfebebmaeaaGreatDoorW.PrintWords Go.Proofs.YtccokfebebmaeaaGreatDoorW.PrintLast Go.Proofs.YtccokfebebmaeaaGreatDoorW.PrintMore Go.Proofs.YtccokfebebmaeaaGreatDoor.Th
set_option linter.unusedVariables false
set_option linter.unusedSimpArgs false
theorem same_eq {x y : Int} (hx : Big x) (hy : Sz y) {k : Nat} (hk : 2300 ≤ k) : turnstonelaw01_Same.f k (x / 18446744073709551616) (x % 18446744073709551616) (bn y) (bl y) = some (decide (x = y)) := by
  unfold turnstonelaw01_Same.f
  rw [ofw_eq hx hk, Option.bind_some, bcmp hx.sz hy (by omega), Option.bind_some]
  congr 1
  rw [Bool.eq_iff_iff, beq_iff_eq, decide_eq_true_eq]
  have := sgn_zero (x := x - y)
  rw [eq_iff_iff] at this
  rw [this]; omega
theorem LagNanos : turnstonelaw09_LagNanos.Pure := by
  intro h l hh hl
  have hh : Sm h := wf_i64 hh
  have hl := wf_u64 hl
  obtain ⟨x, hx, e1, e2⟩ : ∃ x : Int, Big x ∧ h = x / 18446744073709551616 ∧ l = x % 18446744073709551616 := by
    unfold Sm at hh
    exact ⟨h * 18446744073709551616 + l, by unfold Big; omega, by omega, by omega⟩
  subst e1 e2
  refine ⟨2400, ?_⟩
  have hq : Big (x / 1048576) := by unfold Big at *; omega
  unfold turnstonelaw09_LagNanos.f
  rw [show turnstonelaw09_awake.f = some true from rfl, Option.bind_some, if_pos rfl]
  unfold lag_Nanos.f turnstoneref09_Nanos.f
  rw [div_eq (by omega) hx (by omega) (by omega), Option.bind_some, Option.bind_some, ofw_eq hx (by omega), Option.bind_some, bdiv hx.sz (by omega) (by omega) (by omega), Option.bind_some, Option.bind_some, same_eq hq hq.sz (by omega), Option.bind_some]
  simp
end Go.Proofs.YtccokfebebmaeaaGreatDoor.Pure
