/- PosTells, over numbers alone: whether a position may be, its distance from any time, where it is shifted, and of two that may be which is ahead are the document's. For any fields of their kinds. -/
import Derived.Test.YtimgiiceipjpaaaThPosRef
import Derived.Test.YtimgiiceipjpaaaPrint1010
namespace Go.Proofs.Ytimgiiceipjpaaa.Pure
open Go.RowKit Go.Proofs.Ytimgiiceipjpaaa.Print Go.Proofs.YtimgiiceipjpaaaW.PrintWords Go.Proofs.YtimgiiceipjpaaaW.PrintLast Go.Proofs.YtimgiiceipjpaaaW.PrintMore Go.Proofs.Ytimgiiceipjpaaa.Th
set_option linter.unusedVariables false
set_option linter.unusedSimpArgs false
theorem PosTells : turnstonelaw04_PosTells.Pure := by
  intro t r w t' r' w' base by_ ht hr hw ht2 hr2 hw2 hb hby
  have ht := wf_u64 ht
  have hr := wf_u32 hr
  have hw := wf_u32 hw
  have ht2 := wf_u64 ht2
  have hr2 := wf_u32 hr2
  have hw2 := wf_u32 hw2
  have hb := wf_u64 hb
  have hby := wf_u64 hby
  refine ⟨3000, ?_⟩
  obtain ⟨_, hD⟩ := dist_big (t := t) (base := base) hr hw
  unfold turnstonelaw04_PosTells.f
  rw [awake4, Option.bind_some, if_pos rfl, right_eq t w hr.1, Option.bind_some]
  unfold turnstonelaw04_Of.f
  rw [Option.bind_some, rright_eq t w hr.1, Option.bind_some, if_neg (by simp), dist_eq (by omega) hr hw, Option.bind_some, Option.bind_some, rdist_eq (by omega) ht hr hw hb, Option.bind_some, same_eq hD hD.sz (by omega), Option.bind_some, decide_eq_true rfl]
  rw [turnstonelaw04_PosTells.j0, if_neg (by simp), shift_eq, Option.bind_some, if_pos rfl, if_pos rfl, u64w]
  rw [turnstonelaw04_PosTells.j1, if_neg (by simp)]
  unfold turnstonelaw04_Of.f
  rw [Option.bind_some, rright_eq t w hr.1, Option.bind_some]
  by_cases h1 : RP r w
  · rw [decide_eq_true h1, if_pos rfl, Option.bind_some, rright_eq t' w' hr2.1, Option.bind_some]
    by_cases h2 : RP r' w'
    · rw [decide_eq_true h2, if_pos rfl, cmp_eq (by omega) hr hw hr2 hw2, Option.bind_some, Option.bind_some, Option.bind_some, rcmp_eq (by omega) ht hr hw ht2 hr2 hw2, Option.bind_some, beq_self_eq_true]
    · rw [decide_eq_false h2, if_neg (by simp)]
  · rw [decide_eq_false h1, if_neg (by simp)]
end Go.Proofs.Ytimgiiceipjpaaa.Pure
