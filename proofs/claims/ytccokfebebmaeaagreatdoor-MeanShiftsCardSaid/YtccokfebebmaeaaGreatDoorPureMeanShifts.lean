/- MeanShifts, over numbers alone: positions that are shifted, from a base that is, have the same sums; where they are together is shifted. For at most 40 positions. -/
import Derived.Test.YtccokfebebmaeaaGreatDoorThMean
import Derived.Test.YtccokfebebmaeaaGreatDoorPrint11
import Derived.Test.YtccokfebebmaeaaGreatDoorPrint10
namespace Go.Proofs.YtccokfebebmaeaaGreatDoor.Pure
open Go.RowKit Go.Proofs.YtccokfebebmaeaaGreatDoor.Print Go.Proofs.YtccokfebebmaeaaGreatDoorW.PrintWords Go.Proofs.YtccokfebebmaeaaGreatDoorW.PrintLast Go.Proofs.YtccokfebebmaeaaGreatDoorW.PrintMore Go.Proofs.YtccokfebebmaeaaGreatDoor.Th
set_option linter.unusedVariables false
set_option linter.unusedSimpArgs false
abbrev PS := S28
def shiftS (by_ : Int) (p : PS) : PS := ⟨(p.f0 + by_) % 18446744073709551616, p.f1, p.f2⟩
theorem shift_FS {by_ : Int} {p : PS} (h : FS p) : FS (shiftS by_ p) := ⟨by show 0 ≤ _ ∧ _; simp only [shiftS]; omega, h.2⟩
theorem shift_dof (b by_ : Int) (p : PS) : dof ((b + by_) % 18446744073709551616) (shiftS by_ p) = dof b p := by
  unfold dof dist shiftS
  have : wrap64 ((p.f0 + by_) % 18446744073709551616 - (b + by_) % 18446744073709551616) = wrap64 (p.f0 - b) := by rw [w64, w64]; omega
  simp only [this]
theorem shift_fold (b by_ : Int) : ∀ (l : List PS) (s : Int × Int × Int), foldM (dof ((b + by_) % 18446744073709551616)) (l.map (shiftS by_)) s = foldM (dof b) l s
  | [], s => rfl
  | p :: l, s => by
    rw [List.map_cons, foldM, foldM, shift_dof]
    have : foldM (dof ((b + by_) % 18446744073709551616)) (l.map (shiftS by_)) = foldM (dof b) l := funext fun s => shift_fold b by_ l s
    rw [this]; rfl
theorem shifts_end {b by_ : Int} {l : List PS} (hl : l.length ≤ 40) (hf : ∀ p ∈ l, FS p) {k : Nat} (hk : 60 ≤ k) {i : Int} (hi : (l.length : Int) ≤ i) :
    turnstonelaw08_MeanShifts.l0 (k + 1) b l by_ (l.map (shiftS by_)) l (l.length : Int) i = some true := by
  rw [turnstonelaw08_MeanShifts.l0, if_neg (by omega), of_mean (by omega) hf b (by omega), Option.bind_some, u64w,
    of_mean (by simp; omega) (fun p hp => by obtain ⟨q, hq, rfl⟩ := List.mem_map.1 hp; exact shift_FS (hf q hq)) _ (by simp; omega), Option.bind_some, shift_fold]
  cases hm : foldM (dof b) l (0, 0, 0) with
  | none =>
    have z : Big 0 := by unfold Big; omega
    have zs : Sm 0 := by unfold Sm; omega
    have e := mfloor_eq (b := 0) (A := 0) (W := 0) (N := 0) (k := k) (by omega) z zs
    simp only [tellM] at e ⊢
    rw [show (0 : Int) / 18446744073709551616 = 0 from rfl, show (0 : Int) % 18446744073709551616 = 0 from rfl] at e
    rw [e, Option.bind_some, Option.bind_some]
    have : floorM 0 0 0 0 = (0, false) := by unfold floorM; rw [if_neg (fun h => h.2.1 rfl)]
    rw [this]
    simp
  | some s =>
    obtain ⟨A, W, N⟩ := s
    obtain ⟨hA, hN, hN', _, _⟩ := foldM_some hm (by unfold Big; omega) (by omega) (by omega) (by omega) (by omega)
    have hS : Sm N := by unfold Sm; omega
    simp only [tellM]
    rw [mfloor_eq (by omega) hA hS, Option.bind_some, mfloor_eq (by omega) hA hS, Option.bind_some]
    unfold floorM
    by_cases hc : RM A W N ∧ N ≠ 0 ∧ Sm (A / W)
    · rw [if_pos hc, if_pos hc]
      have e : ((b + by_) % 18446744073709551616 + A / W) % 18446744073709551616 = IntKind.u64.wrap ((b + A / W) % 18446744073709551616 + by_) := by rw [u64w]; omega
      rw [e]
      simp [u64w]
    · rw [if_neg hc, if_neg hc]
      simp [u64w]
theorem shifts_l0 {b by_ : Int} {l : List PS} (hl : l.length ≤ 40) (hf : ∀ p ∈ l, FS p) (d : Nat) : ∀ (k i : Nat), l.length - i = d → i ≤ l.length → d + 61 ≤ k →
    turnstonelaw08_MeanShifts.l0 k b l by_ ((l.take i).map (shiftS by_)) l (l.length : Int) (i : Int) = some true := by
  induction d with
  | zero =>
    intro k i hd hi hk
    obtain ⟨k, rfl⟩ : ∃ j, k = j + 1 := ⟨k - 1, by omega⟩
    rw [List.take_of_length_le (by omega)]
    exact shifts_end hl hf (by omega) (by omega)
  | succ d ih =>
    intro k i hd hi hk
    obtain ⟨k, rfl⟩ : ∃ j, k = j + 1 := ⟨k - 1, by omega⟩
    have h : i < l.length := by omega
    rw [turnstonelaw08_MeanShifts.l0, if_pos (by omega), if_pos (by omega), if_pos (by omega), rdp l i h, shift_eq, Option.bind_some, if_pos (by simp; omega), wrap_succ h (by omega)]
    have e : (l.take i).map (shiftS by_) ++ [(⟨(l[i].f0 + by_) % 18446744073709551616, l[i].f1, l[i].f2⟩ : PS)] = (l.take (i + 1)).map (shiftS by_) := by
      rw [List.take_succ_eq_append_getElem h, List.map_append]; rfl
    show turnstonelaw08_MeanShifts.l0 k b l by_ ((l.take i).map (shiftS by_) ++ [(⟨(l[i].f0 + by_) % 18446744073709551616, l[i].f1, l[i].f2⟩ : PS)]) l (l.length : Int) ((i + 1 : Nat) : Int) = some true
    rw [e]
    exact ih k (i + 1) (by omega) (by omega) (by omega)
theorem MeanShifts : turnstonelaw08_MeanShifts.Pure := by
  intro b by_ l hb hby hl hw
  have hf : ∀ p ∈ l, FS p := fun p hp => wf_pos (hw p hp)
  refine ⟨200, ?_⟩
  unfold turnstonelaw08_MeanShifts.f
  rw [show turnstonelaw08_awake.f = some true from rfl, Option.bind_some, if_pos rfl]
  by_cases h40 : (l.length : Int) > 40
  · rw [if_pos h40]
  · rw [if_neg h40]
    exact shifts_l0 (by omega) hf l.length 200 0 (by omega) (by omega) (by omega)
end Go.Proofs.YtccokfebebmaeaaGreatDoor.Pure
