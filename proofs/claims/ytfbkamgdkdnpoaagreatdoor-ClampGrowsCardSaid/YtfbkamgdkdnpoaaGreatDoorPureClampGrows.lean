/- ClampGrows, over numbers alone: a wider window keeps no less of a lag; what more lags carry is no less, and 2 at least of each, as long as it isn't the greatest. -/
import Derived.Test.YtfbkamgdkdnpoaaGreatDoorThCarry
import Derived.Test.YtfbkamgdkdnpoaaGreatDoorThSub
import Derived.Test.YtfbkamgdkdnpoaaGreatDoorPrint1007
namespace Go.Proofs.YtfbkamgdkdnpoaaGreatDoor.Pure
open Go.RowKit Go.Proofs.YtfbkamgdkdnpoaaGreatDoor.Print Go.Proofs.YtfbkamgdkdnpoaaGreatDoorW.PrintWords Go.Proofs.YtfbkamgdkdnpoaaGreatDoorW.PrintLast Go.Proofs.YtfbkamgdkdnpoaaGreatDoorW.PrintMore Go.Proofs.YtfbkamgdkdnpoaaGreatDoor.Th
set_option linter.unusedVariables false
set_option linter.unusedSimpArgs false
theorem size_mono {x a b : Int} (ha : Sm a) (hb : Sm b) : sizeZ (clampZ x (mn a b)) ≤ sizeZ (clampZ x (mx a b)) := by
  unfold Sm at ha hb
  have h1 : mx (mn a b) 0 ≤ mx (mx a b) 0 := by unfold mx mn; split <;> split <;> split <;> omega
  have h2 : 0 ≤ mx (mn a b) 0 := by unfold mx; split <;> omega
  have h3 : mx (mx a b) 0 < 9223372036854775808 := by unfold mx; split <;> split <;> omega
  unfold clampZ
  generalize mx (mn a b) 0 = m at *
  generalize mx (mx a b) 0 = n at *
  unfold sizeZ
  repeat' split
  all_goals omega
theorem grows_l0 {l : List WS} (hl : l.length ≤ 40) (hf : ∀ p ∈ l, FW p) (d : Nat) : ∀ (k i : Nat), l.length - i = d → i ≤ l.length → d + 80 ≤ k →
    turnstonelaw12_ClampGrows.l0 k l (l.length : Int) (i : Int) (car 0 (l.take i) / 18446744073709551616) (car 0 (l.take i) % 18446744073709551616) = some true := by
  induction d with
  | zero =>
    intro k i hd hi hk
    obtain ⟨k, rfl⟩ : ∃ j, k = j + 1 := ⟨k - 1, by omega⟩
    have := carried_eq (l := []) (by simp) (by intro p hp; cases hp) (k := k) (by simp; omega)
    rw [turnstonelaw12_ClampGrows.l0, if_neg (by omega), this, Option.bind_some]
    rfl
  | succ d ih =>
    intro k i hd hi hk
    obtain ⟨k, rfl⟩ : ∃ j, k = j + 1 := ⟨k - 1, by omega⟩
    have h : i < l.length := by omega
    have hp := hf _ (List.getElem_mem h)
    have ht : ∀ p ∈ l.take i, FW p := fun p hp => hf p (List.mem_of_mem_take hp)
    have ht1 : ∀ p ∈ l.take (i + 1), FW p := fun p hp => hf p (List.mem_of_mem_take hp)
    have e1 : l.take (i + 1) = l.take i ++ [l[i]] := List.take_succ_eq_append_getElem h
    have c0 := car_in (l := l.take i) (o := 0) ht (by omega) (by omega)
    have c1 := car_in (l := l.take (i + 1)) (o := 0) ht1 (by omega) (by omega)
    have ca := car_app (l := l.take i) (o := 0) (p := l[i]) ht hp (by omega)
    rw [← e1] at ca
    have hs := sizeZ_in hp.eqs.1
    have hk' := ih k (i + 1) (by omega) (by omega) (by omega)
    have tn : ((((i + 1 : Nat) : Int)) : Int).toNat = i + 1 := by omega
    generalize car 0 (l.take i) = a at *
    have hcar := carried_eq (l := l.take (i + 1)) (by simp; omega) ht1 (k := k) (by simp; omega)
    generalize car 0 (l.take (i + 1)) = b at *
    have hab : b = a + sizeZ (wv l[i]) + 2 ∨ (b = 170141183460469231731687303715884105727) := by
      by_cases hb : Big (a + sizeZ (wv l[i]) + 2)
      · rw [if_pos hb] at ca; exact Or.inl ca
      · rw [if_neg hb] at ca; exact Or.inr ca
    have ba : Big a := by unfold Big; omega
    have bb : Big b := by unfold Big; omega
    have bd : Big (b - a) := by unfold Big; omega
    rw [turnstonelaw12_ClampGrows.l0, if_pos (by omega), wrap_nat h (by omega), if_pos (by omega), if_pos (by omega), tn, hcar, Option.bind_some]
    dsimp only
    rw [sub_eq bb ba, told_big bd, Option.bind_some, wcmp_eq (by omega), Option.bind_some, if_neg (fun hlt => by rw [sg_neg] at hlt; omega), if_pos rfl, of_eq (by unfold Sm; omega), Option.bind_some]
    dsimp only
    rw [wcmp_eq (by omega), Option.bind_some]
    by_cases h2 : b - a < 2
    · have hG : b = 170141183460469231731687303715884105727 := by omega
      have hsz := csize_eq (x := -170141183460469231731687303715884105728) (k := k) (by omega) (by unfold Big; omega)
      rw [show (-170141183460469231731687303715884105728 : Int) / 18446744073709551616 = -9223372036854775808 from rfl, show (-170141183460469231731687303715884105728 : Int) % 18446744073709551616 = 0 from rfl] at hsz
      have e3 : sizeZ (-170141183460469231731687303715884105728) = b := by rw [hG]; rfl
      rw [e3] at hsz
      rw [if_pos ((sg_neg _ _).2 h2), hsz, Option.bind_some]
      simp only [beq_self_eq_true, Bool.not_true, Bool.or_self, Bool.false_eq_true, if_false]
      exact hk'
    · rw [if_neg (fun hlt => h2 ((sg_neg _ _).1 hlt))]
      exact hk'
theorem ClampGrows : turnstonelaw12_ClampGrows.Pure := by
  intro xh xl a b l hxh hxl ha hb _ hl
  have ha : Sm a := wf_i64 ha
  have hb : Sm b := wf_i64 hb
  obtain ⟨x, hx, rfl, rfl⟩ := wide_of_pair (wf_i64 hxh) (wf_u64 hxl).1 (wf_u64 hxl).2
  have hf : ∀ p ∈ l, FW p := fun p hp => ⟨wf_i64 (hl p hp).1, (wf_u64 (hl p hp).2).1, (wf_u64 (hl p hp).2).2⟩
  refine ⟨200, ?_⟩
  unfold turnstonelaw12_ClampGrows.f
  rw [show turnstonelaw12_awake.f = some true from rfl, Option.bind_some, if_pos rfl]
  by_cases h : (l.length : Int) > 40
  · rw [if_pos h]
  rw [if_neg h]
  have hmn : Sm (mn a b) := by unfold mn; split <;> assumption
  have hmx : Sm (mx a b) := by unfold mx; split <;> assumption
  have i1 := clampZ_in (x := x) hmn
  have i2 := clampZ_in (x := x) hmx
  have m1 := mx_bounds hmn
  have m2 := mx_bounds hmx
  have s1 : Sm (clampZ x (mn a b)) := by unfold Sm; omega
  have s2 : Sm (clampZ x (mx a b)) := by unfold Sm; omega
  have hmono := size_mono (x := x) ha hb
  have hz := sizeZ_in hx
  have hc := carried_eq (l := []) (by simp) (by intro p hp; cases hp) (k := 199) (by simp)
  rw [clamp_eq (by omega) hx hmn, Option.bind_some, of_eq s1, Option.bind_some, clamp_eq (by omega) hx hmx, Option.bind_some, of_eq s2, Option.bind_some]
  dsimp only
  rw [csize_eq (by omega) s1.big, Option.bind_some, csize_eq (by omega) s2.big, Option.bind_some]
  dsimp only
  rw [wcmp_eq (by omega), Option.bind_some, if_neg (fun hgt => by rw [sg_pos] at hgt; omega), csize_eq (by omega) hx, Option.bind_some]
  dsimp only
  rw [wsign_eq (by omega), Option.bind_some, decide_eq_false (fun hlt => by rw [sg_neg] at hlt; omega), turnstonelaw12_ClampGrows.j0, if_neg (by simp), hc, Option.bind_some]
  exact grows_l0 (by omega) hf l.length 199 0 (by omega) (by omega) (by omega)
end Go.Proofs.YtfbkamgdkdnpoaaGreatDoor.Pure
