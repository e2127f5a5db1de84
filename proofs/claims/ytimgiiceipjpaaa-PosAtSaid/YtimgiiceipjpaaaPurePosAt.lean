/- PosAt, over numbers alone: the position of any distance and weight, and of any position, any grains further, is the document's, or there is none. For any fields of their kinds. -/
import Derived.Test.YtimgiiceipjpaaaThPosRefAt
import Derived.Test.YtimgiiceipjpaaaPrint1009
namespace Go.Proofs.Ytimgiiceipjpaaa.Pure
open Go.RowKit Go.Proofs.Ytimgiiceipjpaaa.Print Go.Proofs.YtimgiiceipjpaaaW.PrintWords Go.Proofs.YtimgiiceipjpaaaW.PrintLast Go.Proofs.YtimgiiceipjpaaaW.PrintMore Go.Proofs.Ytimgiiceipjpaaa.Th
set_option linter.unusedVariables false
set_option linter.unusedSimpArgs false
theorem place_some (b d w : Int) : ∃ x, place b d w = some x := by
  unfold place
  split
  · split <;> exact ⟨_, rfl⟩
  · exact ⟨_, rfl⟩
theorem PosAt : turnstonelaw04_PosAt.Pure := by
  intro base h l w t r w2 g hb hh hl hw ht hr hw2 hg
  have hh : Sm h := wf_i64 hh
  have hl := wf_u64 hl
  have hb := wf_u64 hb
  have hw := wf_u32 hw
  have ht := wf_u64 ht
  have hr := wf_u32 hr
  have hw2 := wf_u32 hw2
  have hg := wf_u64 hg
  obtain ⟨x, hx, e1, e2⟩ : ∃ x : Int, Big x ∧ h = x / 18446744073709551616 ∧ l = x % 18446744073709551616 := by
    unfold Sm at hh
    exact ⟨h * 18446744073709551616 + l, by unfold Big; omega, by omega, by omega⟩
  subst e1 e2
  refine ⟨3000, ?_⟩
  obtain ⟨⟨a1, a2, a3, a4⟩, ha⟩ := place_some base x w
  obtain ⟨⟨b1, b2, b3, b4⟩, hb'⟩ := place_some t (g + r) w2
  have zg : Sz g := by unfold Sz; omega
  have zr : Sz r := by unfold Sz; omega
  have zs : Sz (g + r) := by unfold Sz; omega
  unfold turnstonelaw04_PosAt.f
  rw [awake4, Option.bind_some, if_pos rfl, at_eq (by omega) hx hw.1 hw.2, ha, Option.bind_some, ofw_eq hx (by omega), Option.bind_some, rat_eq (by omega) hx.sz hw.1 hw.2 hb, ha, Option.bind_some,
    move_eq (by omega) hr.1 hr.2 hw2.1 hw2.2 hg.1 hg.2, hb', Option.bind_some, bU hg.1 hg.2 (by omega), Option.bind_some, u64_id hr.1 (by omega), bU hr.1 (by omega) (by omega), Option.bind_some, badd zg zr (by omega), Option.bind_some, rat_eq (by omega) zs hw2.1 hw2.2 ht, hb', Option.bind_some]
  unfold turnstonelaw04_Of.f
  simp
end Go.Proofs.Ytimgiiceipjpaaa.Pure
