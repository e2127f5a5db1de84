/- Positions near a time, but for one of them; and its index, told by a number of 8 bits. -/
import Derived.Test.YtfbkamgdkdnpoaaGreatDoorThNear
import Derived.Test.YtfbkamgdkdnpoaaGreatDoorPrint1001
namespace Go.Proofs.YtfbkamgdkdnpoaaGreatDoor.Th
open Go.RowKit Go.Proofs.YtfbkamgdkdnpoaaGreatDoor.Print Go.Proofs.YtfbkamgdkdnpoaaGreatDoorW.PrintWords Go.Proofs.YtfbkamgdkdnpoaaGreatDoorW.PrintLast Go.Proofs.YtfbkamgdkdnpoaaGreatDoorW.PrintMore Go.Proofs.YtfbkamgdkdnpoaaGreatDoor.Bits
set_option linter.unusedVariables false
set_option linter.unusedSimpArgs false
theorem SA_erase (f : PS → Int) : ∀ (l : List PS) (j : Nat) (h : j < l.length), SA f l = f l[j] + SA f (l.eraseIdx j) ∧ SW l = l[j].f2 + SW (l.eraseIdx j)
  | p :: l, 0, h => by simp [SA, SW, List.eraseIdx]
  | p :: l, j + 1, h => by
    have h' : j < l.length := by simpa using h
    obtain ⟨e1, e2⟩ := SA_erase f l j h'
    simp only [SA, SW, List.eraseIdx_cons_succ, List.getElem_cons_succ]
    omega
/-- What is left when one of them is taken. -/
theorem rest_RM {B at_ : Int} {l : List PS} (hB : B ≤ 1152921504606846976) (hn : ∀ p ∈ l, Near B at_ p) (hl : l.length ≤ 32) (j : Nat) (h : j < l.length) : RM (SA (dof at_) l - dof at_ l[j]) (SW l - l[j].f2) ((l.length : Int) - 1) ∧ (∀ i (hi : i < l.length), i ≠ j → l[i].f2 ≤ SW l - l[j].f2) ∧ l[j].f2 ≤ SW l := by
  obtain ⟨e1, e2⟩ := SA_erase (dof at_) l j h
  have hm : ∀ p ∈ l.eraseIdx j, Near B at_ p := fun p hp => hn p (List.mem_of_mem_eraseIdx hp)
  have hlen : (l.eraseIdx j).length = l.length - 1 := List.length_eraseIdx_of_lt h
  obtain ⟨hR, _, _⟩ := near_RM hB hm (by omega)
  have hw := SW_le (l := l.eraseIdx j) (fun p hp => (hm p hp).2.1)
  have e3 : (((l.eraseIdx j).length : Nat) : Int) = (l.length : Int) - 1 := by omega
  rw [e3] at hR hw
  have a1 : SA (dof at_) l - dof at_ l[j] = SA (dof at_) (l.eraseIdx j) := by omega
  have a2 : SW l - l[j].f2 = SW (l.eraseIdx j) := by omega
  rw [a1, a2]
  refine ⟨hR, fun i hi hij => ?_, by omega⟩
  exact SW_mem (fun p hp => (hm p hp).2.1) (List.mem_eraseIdx_iff_getElem.2 ⟨i, hi, hij, rfl⟩)
theorem wf_u8 {n : Int} (h : (Lit.int .u8 n).wf = true) : 0 ≤ n ∧ n < 256 := by
  simp [Lit.wf, IntKind.min, IntKind.max, IntKind.bits, IntKind.signed] at h
  omega
theorem index {i : Int} {n : Nat} (h0 : 0 ≤ i) (h1 : i < 256) (hn : 0 < n) : ∃ j : Nat, j < n ∧ Int.tmod (wrap64 i) (n : Int) = (j : Int) := by
  rw [w_id (by omega) (by omega), Int.tmod_eq_emod_of_nonneg h0]
  have a := Int.emod_nonneg i (show (n : Int) ≠ 0 by omega)
  have b := Int.emod_lt_of_pos i (show (0 : Int) < n by omega)
  exact ⟨(i % n).toNat, by omega, by omega⟩
/-- The difference of two lags, told. -/
theorem diff_told {x y z : Int} (hx : Big x) (hy : Big y) (e : y - x = z) (h0 : -9223372036854775808 ≤ z) (h1 : z < 9223372036854775808) : told (y - x) = some (z / 18446744073709551616, z % 18446744073709551616, true) := by
  rw [e]; exact told_big (by unfold Big; omega)
end Go.Proofs.YtfbkamgdkdnpoaaGreatDoor.Th
