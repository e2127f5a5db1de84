/- VtimeTurns, over numbers alone: what is so much later is so much since; there and back is where it was; later twice is later by both. For every time and any two differences of 64 bits. -/
import Derived.Test.YtimgiiceipjpaaaThTime
import Derived.Test.YtimgiiceipjpaaaPrint9
namespace Go.Proofs.Ytimgiiceipjpaaa.Pure
open Go.RowKit Go.Proofs.Ytimgiiceipjpaaa.Print Go.Proofs.YtimgiiceipjpaaaW.PrintWords Go.Proofs.YtimgiiceipjpaaaW.PrintLast Go.Proofs.YtimgiiceipjpaaaW.PrintMore Go.Proofs.Ytimgiiceipjpaaa.Th
set_option linter.unusedVariables false
theorem VtimeTurns : turnstonelaw03_VtimeTurns.Pure := by
  intro t d e ht hd he
  obtain ⟨t0, t1⟩ := wf_u64 ht
  have hd := wf_i64 hd
  have he := wf_i64 he
  unfold Sm at hd he
  refine ⟨50, ?_⟩
  unfold turnstonelaw03_VtimeTurns.f
  rw [awake3 (by omega), Option.bind_some, if_pos rfl]
  simp only [later_eq, since_eq, before_eq, Option.bind_some]
  have e1 : wrap64 ((t + d) % 18446744073709551616 - t) = d := by rw [w64]; omega
  rw [e1, if_pos rfl]
  have e2 : (((t + d) % 18446744073709551616 + e) % 18446744073709551616 + wrap64 (-e)) % 18446744073709551616 = (t + d) % 18446744073709551616 := by rw [w64]; omega
  rw [e2, if_pos rfl]
  have e3 : ((t + d) % 18446744073709551616 + e) % 18446744073709551616 = ((t + e) % 18446744073709551616 + d) % 18446744073709551616 := by omega
  rw [e3, if_pos rfl, if_pos (by simp)]
  rw [first_eq (by simp) (by simp)]
  simp only [Option.bind_some, List.foldl_nil, if_true]
  rw [spread_eq (by simp) (by simp)]
  simp only [Option.bind_some, List.foldl_cons, List.foldl_nil]
  unfold fstep lstep
  simp [w64]
end Go.Proofs.Ytimgiiceipjpaaa.Pure
