/- VtimeTells, over numbers alone: any two times: their difference, which is ahead; any time so much later: as the document says. For every two times and every difference of 64 bits. -/
import Derived.Test.YtimgiiceipjpaaaThBigTime
import Derived.Test.YtimgiiceipjpaaaPrint29
namespace Go.Proofs.Ytimgiiceipjpaaa.Pure
open Go.RowKit Go.Proofs.Ytimgiiceipjpaaa.Print Go.Proofs.YtimgiiceipjpaaaW.PrintWords Go.Proofs.YtimgiiceipjpaaaW.PrintLast Go.Proofs.YtimgiiceipjpaaaW.PrintMore Go.Proofs.Ytimgiiceipjpaaa.Th
set_option linter.unusedVariables false
theorem VtimeTells : turnstonelaw03_VtimeTells.Pure := by
  intro t u d ht hu hd
  obtain ⟨t0, t1⟩ := wf_u64 ht
  obtain ⟨u0, u1⟩ := wf_u64 hu
  have hd := wf_i64 hd
  refine ⟨1000, ?_⟩
  unfold turnstonelaw03_VtimeTells.f
  have hs : Sm (wrap64 (t - u)) := by unfold Sm; rw [w64]; omega
  rw [awake3 (by omega), Option.bind_some, if_pos rfl, since_eq, Option.bind_some, bN hs (by omega), Option.bind_some, bsince ⟨t0, t1⟩ ⟨u0, u1⟩ (by omega), Option.bind_some, bcmp hs.sz hs.sz (by omega), Option.bind_some, Int.sub_self]
  rw [if_pos (by rfl), before_eq, Option.bind_some, bbefore ⟨t0, t1⟩ ⟨u0, u1⟩ (by omega), Option.bind_some, if_pos (by rw [beq_self_eq_true]), later_eq, Option.bind_some, bU (by omega) (by omega) (by omega), Option.bind_some, bU t0 t1 (by omega), Option.bind_some, bN hd (by omega), Option.bind_some]
  have z1 : Sz t := by unfold Sz; omega
  have z2 : Sz ((t + d) % 18446744073709551616) := by unfold Sz; omega
  have hd' := hd
  unfold Sm at hd'
  rw [badd z1 hd.sz (by omega), Option.bind_some, bround (x := t + d) (by omega) (by omega) (by omega), Option.bind_some, bcmp z2 z2 (by omega), Option.bind_some, Int.sub_self]
  rfl
end Go.Proofs.Ytimgiiceipjpaaa.Pure
