/- MuldivParts, over numbers alone: an amount that comes in two parts is carried as at once. For any numbers of 64 bits whose sum is one, too. -/
import Derived.Test.YtimgiiceipjpaaaThMuldiv
import Derived.Test.YtimgiiceipjpaaaPrint13
namespace Go.Proofs.Ytimgiiceipjpaaa.Pure
open Go.RowKit Go.Proofs.Ytimgiiceipjpaaa.Print Go.Proofs.YtimgiiceipjpaaaW.PrintWords Go.Proofs.YtimgiiceipjpaaaW.PrintLast Go.Proofs.YtimgiiceipjpaaaW.PrintMore Go.Proofs.Ytimgiiceipjpaaa.Th
theorem MuldivParts : turnstonelaw02_MuldivParts.Pure := by
  intro a b num den rem ha hb hn hd hr
  have ha := wf_u64 ha
  have hb := wf_u64 hb
  have hn := wf_u64 hn
  have hd := wf_u64 hd
  have hr := wf_u64 hr
  refine ⟨60, ?_⟩
  unfold turnstonelaw02_MuldivParts.f
  rw [awake2 (by omega), Option.bind_some, if_pos rfl]
  by_cases h : IntKind.u64.wrap (a + b) < a
  · rw [if_pos h]
  · rw [if_neg h]
    rw [u64w] at h
    have e : IntKind.u64.wrap (a + b) = a + b := by rw [u64w]; omega
    have e2 : sum [a, b] = a + b := by simp only [sum]; omega
    rw [e, step_eq (by omega) ⟨by omega, by omega⟩ hn hd hr, steps_eq hn hd hr [a, b] (by
      intro x hx
      simp only [List.mem_cons, List.not_mem_nil, or_false] at hx
      rcases hx with rfl | rfl
      · exact ha
      · exact hb) (by simp) (by simp), e2]
    unfold carried
    split
    · split <;> simp
    · simp
end Go.Proofs.Ytimgiiceipjpaaa.Pure
