/- MuldivGrows, over numbers alone: for a greater amount the quotient is no less; for one of den more it is num more, with the same left. For any numbers of 64 bits. -/
import Derived.Test.YtimgiiceipjpaaaThMuldiv
import Derived.Test.YtimgiiceipjpaaaPrint13
namespace Go.Proofs.Ytimgiiceipjpaaa.Pure
open Go.RowKit Go.Proofs.Ytimgiiceipjpaaa.Print Go.Proofs.YtimgiiceipjpaaaW.PrintWords Go.Proofs.YtimgiiceipjpaaaW.PrintLast Go.Proofs.YtimgiiceipjpaaaW.PrintMore Go.Proofs.Ytimgiiceipjpaaa.Th
theorem grows_end {a num den rem : Int} (ha : U a) (hn : U num) (hd : U den) (hr : U rem) (k : Nat) (hk : 40 ≤ k) : turnstonelaw02_MuldivGrows.j0 k a num den rem false = some true := by
  obtain ⟨k, rfl⟩ : ∃ j, k = j + 1 := ⟨k - 1, by omega⟩
  unfold U at *
  rw [turnstonelaw02_MuldivGrows.j0, if_neg (by simp)]
  by_cases h : IntKind.u64.wrap (a + den) < a
  · rw [if_pos h]
  · rw [if_neg h]
    rw [u64w] at h
    have e : IntKind.u64.wrap (a + den) = a + den := by rw [u64w]; omega
    rw [e, step_eq (by omega) ha hn hd hr, step_eq (by omega) ⟨by omega, by omega⟩ hn hd hr]
    by_cases h1 : rem < den
    · rw [if_pos h1, if_pos h1]
      unfold carried
      have e2 : (a + den) * num + rem = (a * num + rem) + den * num := by rw [Int.add_mul]; omega
      have p := Int.mul_nonneg hd.1 hn.1
      rw [e2]
      by_cases h2 : a * num + rem + den * num < den * 18446744073709551616
      · rw [if_pos (show a * num + rem < den * 18446744073709551616 by omega), if_pos h2]
        simp only [Option.bind_some, if_true]
        rw [Int.add_mul_ediv_left _ _ (by omega), Int.add_mul_emod_self_left, u64w, if_pos (by omega)]
        simp
      · rw [if_neg h2]
        split <;> simp
    · rw [if_neg h1, if_neg h1]
      simp
theorem MuldivGrows : turnstonelaw02_MuldivGrows.Pure := by
  intro a b num den rem ha hb hn hd hr
  have ha := wf_u64 ha
  have hb := wf_u64 hb
  have hn := wf_u64 hn
  have hd := wf_u64 hd
  have hr := wf_u64 hr
  refine ⟨60, ?_⟩
  unfold turnstonelaw02_MuldivGrows.f
  rw [awake2 (by omega), Option.bind_some, if_pos rfl]
  have h1 : U (mn a b) := by unfold mn; split <;> assumption
  have h2 : U (mx a b) := by unfold mx; split <;> assumption
  have hle : mn a b ≤ mx a b := by unfold mn mx; split <;> split <;> omega
  rw [step_eq (by omega) h1 hn hd hr, step_eq (by omega) h2 hn hd hr]
  have tail := grows_end ha hn hd hr 60 (by omega)
  by_cases h : rem < den
  · rw [if_pos h, if_pos h]
    unfold carried
    have p := Int.mul_le_mul_of_nonneg_right hle hn.1
    by_cases h3 : mx a b * num + rem < den * 18446744073709551616
    · rw [if_pos h3, if_pos (show mn a b * num + rem < den * 18446744073709551616 by omega)]
      simp only [Option.bind_some, if_true]
      have := Int.ediv_le_ediv (show 0 < den by have := hr.1; omega) (show mn a b * num + rem ≤ mx a b * num + rem by omega)
      rw [decide_eq_false (by omega)]
      exact tail
    · rw [if_neg h3]
      split
      · simpa using tail
      · simpa using tail
  · rw [if_neg h, if_neg h]
    simpa using tail
end Go.Proofs.Ytimgiiceipjpaaa.Pure
