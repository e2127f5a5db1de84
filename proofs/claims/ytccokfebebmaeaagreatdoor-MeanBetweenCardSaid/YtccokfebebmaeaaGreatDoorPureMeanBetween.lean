/- MeanBetween, over numbers alone: the virtual time of positions near a time hangs on no base near that, and lies between the first and the last of them. -/
import Derived.Test.YtccokfebebmaeaaGreatDoorThNear
import Derived.Test.YtccokfebebmaeaaGreatDoorThFloor
import Derived.Test.YtccokfebebmaeaaGreatDoorThPosCmp
import Derived.Test.YtccokfebebmaeaaGreatDoorPrint1007
import Derived.Test.YtccokfebebmaeaaGreatDoorPrint1002
namespace Go.Proofs.YtccokfebebmaeaaGreatDoor.Pure
open Go.RowKit Go.Proofs.YtccokfebebmaeaaGreatDoor.Print Go.Proofs.YtccokfebebmaeaaGreatDoorW.PrintWords Go.Proofs.YtccokfebebmaeaaGreatDoorW.PrintLast Go.Proofs.YtccokfebebmaeaaGreatDoorW.PrintMore Go.Proofs.YtccokfebebmaeaaGreatDoor.Th
set_option linter.unusedVariables false
set_option linter.unusedSimpArgs false
def dd (at_ : Int) (p : PS) : Int := wrap64 (p.f0 - at_)
theorem dd_cmp {at_ : Int} {p q : PS} (hp : Near 1152921504606846976 at_ p) (hq : Near 1152921504606846976 at_ q) : wrap64 (q.f0 - p.f0) = dd at_ q - dd at_ p := by
  obtain ⟨_, _, h1, h2⟩ := hp
  obtain ⟨_, _, h3, h4⟩ := hq
  unfold dd
  rw [w64] at h1 h2 h3 h4 ⊢
  rw [w64, w64]
  omega
theorem cmp_lt {at_ : Int} {p q : PS} (hp : Near 1152921504606846976 at_ p) (hq : Near 1152921504606846976 at_ q) (h : posCmp p.f0 p.f1 p.f2 q.f0 q.f1 q.f2 < 0) : dd at_ p ≤ dd at_ q := by
  unfold posCmp at h
  rw [dd_cmp hp hq] at h
  by_cases h0 : dd at_ q - dd at_ p = 0
  · omega
  · rw [if_neg h0] at h
    unfold sg at h
    by_cases h1 : 0 < dd at_ q - dd at_ p
    · omega
    · rw [if_neg h1, if_pos (by omega)] at h; omega
theorem cmp_ge {at_ : Int} {p q : PS} (hp : Near 1152921504606846976 at_ p) (hq : Near 1152921504606846976 at_ q) (h : ¬ posCmp p.f0 p.f1 p.f2 q.f0 q.f1 q.f2 < 0) : dd at_ q ≤ dd at_ p := by
  unfold posCmp at h
  rw [dd_cmp hp hq] at h
  by_cases h0 : dd at_ q - dd at_ p = 0
  · omega
  · rw [if_neg h0] at h
    unfold sg at h
    by_cases h1 : 0 < dd at_ q - dd at_ p
    · rw [if_pos h1] at h; omega
    · omega
theorem cmp_gt {at_ : Int} {p q : PS} (hp : Near 1152921504606846976 at_ p) (hq : Near 1152921504606846976 at_ q) (h : posCmp p.f0 p.f1 p.f2 q.f0 q.f1 q.f2 > 0) : dd at_ q ≤ dd at_ p := cmp_ge hp hq (by omega)
theorem cmp_le {at_ : Int} {p q : PS} (hp : Near 1152921504606846976 at_ p) (hq : Near 1152921504606846976 at_ q) (h : ¬ posCmp p.f0 p.f1 p.f2 q.f0 q.f1 q.f2 > 0) : dd at_ p ≤ dd at_ q := by
  unfold posCmp at h
  rw [dd_cmp hp hq] at h
  by_cases h0 : dd at_ q - dd at_ p = 0
  · omega
  · rw [if_neg h0] at h
    unfold sg at h
    by_cases h1 : 0 < dd at_ q - dd at_ p
    · omega
    · rw [if_neg h1, if_pos (by omega)] at h; omega
theorem SA_ge {at_ lo : Int} : ∀ {l : List PS}, (∀ p ∈ l, RP p.f1 p.f2 ∧ lo ≤ dd at_ p) → lo * SW l ≤ SA (dof at_) l
  | [], h => by simp [SA, SW]
  | p :: l, h => by
    obtain ⟨hr, h1⟩ := h p (List.mem_cons_self ..)
    have ih := SA_ge (at_ := at_) (lo := lo) (l := l) (fun q hq => h q (List.mem_cons_of_mem _ hq))
    unfold RP at hr
    have a : p.f2 * lo ≤ p.f2 * dd at_ p := Int.mul_le_mul_of_nonneg_left h1 (by omega)
    have e : dof at_ p = p.f2 * dd at_ p + p.f1 := rfl
    rw [SA, SW, e, Int.mul_add, Int.mul_comm lo p.f2]; omega
theorem SA_lt {at_ hi : Int} : ∀ {l : List PS}, (∀ p ∈ l, RP p.f1 p.f2 ∧ dd at_ p ≤ hi) → SA (dof at_) l ≤ (hi + 1) * SW l - l.length
  | [], h => by simp [SA, SW]
  | p :: l, h => by
    obtain ⟨hr, h1⟩ := h p (List.mem_cons_self ..)
    have ih := SA_lt (at_ := at_) (hi := hi) (l := l) (fun q hq => h q (List.mem_cons_of_mem _ hq))
    unfold RP at hr
    have a : p.f2 * dd at_ p ≤ p.f2 * hi := Int.mul_le_mul_of_nonneg_left h1 (by omega)
    have e : dof at_ p = p.f2 * dd at_ p + p.f1 := rfl
    have e2 : (hi + 1) * (p.f2 + SW l) = p.f2 * hi + p.f2 + (hi + 1) * SW l := by grind
    rw [SA, SW, e, e2, List.length_cons]; omega
theorem of_base {at_ g : Int} {l : List PS} (hg : -1152921504606846976 ≤ g ∧ g ≤ 1152921504606846976) (h : ∀ p ∈ l, Near 1152921504606846976 at_ p) (hl : l.length ≤ 32) {k : Nat} (hk : 40 ≤ k) :
    mean_Of.f k ((at_ + g) % 18446744073709551616) l = some ((at_ + g) % 18446744073709551616, (SA (dof at_) l - SW l * g) / 18446744073709551616, (SA (dof at_) l - SW l * g) % 18446744073709551616, SW l, (l.length : Int), true) := by
  rw [of_mean (by omega) (fun p hp => (h p hp).1) _ (by omega)]
  obtain ⟨k1, _⟩ := foldM_near (f := dof ((at_ + g) % 18446744073709551616)) l 0 0 0 (fun p hp => by
    have hp' := h p hp
    obtain ⟨e, _⟩ := hp'.shift (by decide) hg
    have d1 := hp'.dof_le
    have hr := hp'.2.1
    unfold RP at hr
    have m : -(1152921504606846976 * p.f2) ≤ p.f2 * g ∧ p.f2 * g ≤ 1152921504606846976 * p.f2 := by
      have a : p.f2 * g ≤ p.f2 * 1152921504606846976 := Int.mul_le_mul_of_nonneg_left hg.2 (by omega)
      have b : p.f2 * (-1152921504606846976) ≤ p.f2 * g := Int.mul_le_mul_of_nonneg_left hg.1 (by omega)
      omega
    exact ⟨hp'.2.1, by omega, by omega⟩) (Or.inl ⟨rfl, rfl, rfl⟩) (by omega) (by omega) (by omega)
  rw [k1, Int.zero_add, Int.zero_add, Int.zero_add, near_base (by decide) hg h]
  rfl
theorem between_end {at_ g : Int} {l : List PS} (hat : 0 ≤ at_ ∧ at_ < 18446744073709551616) (hg : -1152921504606846976 < g ∧ g < 1152921504606846976) (hl : l.length ≤ 32) (h0 : 1 ≤ l.length) {f q : PS} (hfn : Near 1152921504606846976 at_ f) (hqn : Near 1152921504606846976 at_ q)
    (hall : ∀ p ∈ l, Near 1152921504606846976 at_ p ∧ dd at_ f ≤ dd at_ p ∧ dd at_ p ≤ dd at_ q) {k : Nat} (hk : 60 ≤ k) :
    turnstonelaw08_MeanBetween.l0 (k + 1) l g at_ l (l.length : Int) (l.length : Int) f.f0 f.f1 f.f2 q.f0 q.f1 q.f2 = some true := by
  have hn : ∀ p ∈ l, Near 1152921504606846976 at_ p := fun p hp => (hall p hp).1
  obtain ⟨hR, a1, a2⟩ := near_RM (by decide) hn hl
  have hSW := SW_le (l := l) (fun p hp => (hn p hp).2.1)
  have b1 := SA_ge (at_ := at_) (lo := dd at_ f) (l := l) (fun p hp => ⟨(hn p hp).2.1, (hall p hp).2.1⟩)
  have b2 := SA_lt (at_ := at_) (hi := dd at_ q) (l := l) (fun p hp => ⟨(hn p hp).2.1, (hall p hp).2.2⟩)
  have f1 : -1152921504606846976 < dd at_ f ∧ dd at_ f < 1152921504606846976 := hfn.2.2
  have q1 : -1152921504606846976 < dd at_ q ∧ dd at_ q < 1152921504606846976 := hqn.2.2
  have ef : dd at_ f = wrap64 (f.f0 - at_) := rfl
  have eq : dd at_ q = wrap64 (q.f0 - at_) := rfl
  have tf := hfn.1.1
  have tq := hqn.1.1
  have m2 : -38685626227668133590597632 ≤ SW l * g ∧ SW l * g ≤ 38685626227668133590597632 := by
    have a : SW l * g ≤ SW l * 1152921504606846976 := Int.mul_le_mul_of_nonneg_left (by omega) (by omega)
    have b : SW l * (-1152921504606846976) ≤ SW l * g := Int.mul_le_mul_of_nonneg_left (by omega) (by omega)
    omega
  rw [turnstonelaw08_MeanBetween.l0, if_neg (by omega), near_of (by decide) hn hl (by omega), Option.bind_some, later_eq, Option.bind_some, of_base ⟨by omega, by omega⟩ hn hl (by omega), Option.bind_some, Option.bind_some]
  dsimp only
  generalize SA (dof at_) l = A at *
  generalize SW l = W at *
  have hW : 0 < W := by omega
  have c1 : dd at_ f ≤ A / W := Int.le_ediv_of_mul_le hW b1
  have c2 : A / W ≤ dd at_ q := by
    apply Int.le_of_lt_add_one
    apply Int.ediv_lt_of_lt_mul hW; omega
  have ez : (A - W * g) / W = A / W - g := by
    have : A - W * g = A + W * (-g) := by rw [Int.mul_neg]; omega
    rw [this, Int.add_mul_ediv_left _ _ (by omega)]; omega
  have s1 : wrap64 ((at_ + g) % 18446744073709551616 - at_) = g := by rw [w64]; omega
  have hA : Big A := by unfold Big; omega
  have hB : Big (A - W * g) := by unfold Big; omega
  have hS : Sm (l.length : Int) := by unfold Sm; omega
  have hR' : RM (A - W * g) W (l.length : Int) := by unfold RM at *; omega
  have w1 : Big W := by unfold Big; omega
  have w2 : Big (W * g) := by unfold Big; omega
  have sg' : Sm g := by unfold Sm; omega
  have hre : mean_Mean_Rebase.f k at_ (A / 18446744073709551616) (A % 18446744073709551616) W (l.length : Int) ((at_ + g) % 18446744073709551616) = some ((at_ + g) % 18446744073709551616, (A - W * g) / 18446744073709551616, (A - W * g) % 18446744073709551616, W, (l.length : Int), true) := by
    unfold mean_Mean_Rebase.f
    rw [mright_eq hA hS, decide_eq_true hR, Option.bind_some, if_pos rfl, ofU_eq (by omega) (by omega), Option.bind_some, since_eq, s1, Option.bind_some, mul_eq (by omega) w1 sg', told_big w2, Option.bind_some, sub_eq hA w2, told_big hB]
    rfl
  rw [hre, Option.bind_some, mfloor_eq (by omega) hA hS, Option.bind_some, mfloor_eq (by omega) hB hS, Option.bind_some]
  unfold floorM
  rw [if_pos (show RM A W (l.length : Int) ∧ (l.length : Int) ≠ 0 ∧ Sm (A / W) from ⟨hR, by omega, by unfold Sm; omega⟩), if_pos (show RM (A - W * g) W (l.length : Int) ∧ (l.length : Int) ≠ 0 ∧ Sm ((A - W * g) / W) from ⟨hR', by omega, by rw [ez]; unfold Sm; omega⟩)]
  have ey : ((at_ + g) % 18446744073709551616 + (A - W * g) / W) % 18446744073709551616 = (at_ + A / W) % 18446744073709551616 := by rw [ez]; omega
  simp only [reduceIte, beq_self_eq_true, Bool.and_self, ey]
  have e1 : wrap64 ((at_ + A / W) % 18446744073709551616 - f.f0) = A / W - dd at_ f := by rw [w64] at ef ⊢; omega
  have e2 : wrap64 (q.f0 - (at_ + A / W) % 18446744073709551616) = dd at_ q - A / W := by rw [w64] at eq ⊢; omega
  rw [before_eq, e1, decide_eq_false (by omega), Option.bind_some, if_neg (by simp), before_eq, e2, decide_eq_false (by omega), Option.bind_some]
  rfl
theorem between_l0 {at_ g : Int} {l : List PS} (hat : 0 ≤ at_ ∧ at_ < 18446744073709551616) (hg : -1152921504606846976 < g ∧ g < 1152921504606846976) (hf : ∀ p ∈ l, FS p) (hl : l.length ≤ 32) (h0 : 1 ≤ l.length) (d : Nat) : ∀ (k i : Nat) (f q : PS), l.length - i = d → i ≤ l.length → 2 * d + 70 ≤ k → FS f → FS q → (i = 0 → f = l[0] ∧ q = l[0]) → (i ≠ 0 → Near 1152921504606846976 at_ f ∧ Near 1152921504606846976 at_ q) → (∀ p ∈ l.take i, Near 1152921504606846976 at_ p ∧ dd at_ f ≤ dd at_ p ∧ dd at_ p ≤ dd at_ q) →
    turnstonelaw08_MeanBetween.l0 k l g at_ l (l.length : Int) (i : Int) f.f0 f.f1 f.f2 q.f0 q.f1 q.f2 = some true := by
  induction d with
  | zero =>
    intro k i f q hd hi hk hff hfq hz hnz hall
    obtain ⟨k, rfl⟩ : ∃ j, k = j + 1 := ⟨k - 1, by omega⟩
    have : i = l.length := by omega
    subst this
    rw [List.take_length] at hall
    obtain ⟨n1, n2⟩ := hnz (by omega)
    exact between_end hat hg hl h0 n1 n2 hall (by omega)
  | succ d ih =>
    intro k i f q hd hi hk hff hfq hz hnz hall
    obtain ⟨k, rfl⟩ : ∃ j, k = j + 2 := ⟨k - 2, by omega⟩
    have h : i < l.length := by omega
    have hF := hf _ (List.getElem_mem h)
    have no : ∀ a b c d e f, turnstonelaw08_MeanBetween.j2 (k + 1) l g at_ l (l.length : Int) (i : Int) true a b c d e f (l[i].f0) (l[i].f1) (l[i].f2) = some true := by intros; rw [turnstonelaw08_MeanBetween.j2, if_pos rfl]
    rw [turnstonelaw08_MeanBetween.l0, if_pos (by omega), if_pos (by omega), if_pos (by omega), rdp l i h, since_eq, Option.bind_some, right_eq _ _ hF.2.1.1, Option.bind_some]
    by_cases hR : RP l[i].f1 l[i].f2
    rotate_left
    · rw [decide_eq_false hR, if_neg (by simp), no]
    rw [decide_eq_true hR, if_pos rfl]
    by_cases h1 : wrap64 (l[i].f0 - at_) ≤ -1152921504606846976
    · rw [if_pos h1, no]
    rw [if_neg h1]
    by_cases h2 : wrap64 (l[i].f0 - at_) ≥ 1152921504606846976
    · rw [decide_eq_true h2, no]
    have hp : Near 1152921504606846976 at_ l[i] := ⟨hF, hR, by omega, by omega⟩
    have hfq' : Near 1152921504606846976 at_ f ∧ Near 1152921504606846976 at_ q := by
      by_cases hi0 : i = 0
      · subst hi0
        obtain ⟨rfl, rfl⟩ := hz rfl
        exact ⟨hp, hp⟩
      · exact hnz hi0
    obtain ⟨nf, nq⟩ := hfq'
    have step : ∀ f' q' : PS, FS f' → FS q' → Near 1152921504606846976 at_ f' → Near 1152921504606846976 at_ q' → dd at_ f' ≤ dd at_ f → dd at_ q ≤ dd at_ q' → dd at_ f' ≤ dd at_ l[i] → dd at_ l[i] ≤ dd at_ q' → turnstonelaw08_MeanBetween.l0 k l g at_ l (l.length : Int) ((i + 1 : Nat) : Int) f'.f0 f'.f1 f'.f2 q'.f0 q'.f1 q'.f2 = some true := by
      intro f' q' u1 u2 u3 u4 u5 u6 u7 u8
      refine ih k (i + 1) f' q' (by omega) (by omega) (by omega) u1 u2 (by omega) (fun _ => ⟨u3, u4⟩) ?_
      intro p hpm
      rw [List.take_succ_eq_append_getElem h] at hpm
      rcases List.mem_append.1 hpm with hpm | hpm
      · obtain ⟨v1, v2, v3⟩ := hall p hpm; exact ⟨v1, by omega, by omega⟩
      · rw [List.mem_singleton.1 hpm]; exact ⟨hp, u7, u8⟩
    rw [decide_eq_false h2, turnstonelaw08_MeanBetween.j2, if_neg (by simp), cmp_eq (by omega) hF.2.1 hF.2.2 hff.2.1 hff.2.2, Option.bind_some, wrap_succ h (by omega)]
    by_cases c1 : posCmp l[i].f0 l[i].f1 l[i].f2 f.f0 f.f1 f.f2 < 0
    · have d1 := cmp_lt hp nf c1
      rw [if_pos c1, cmp_eq (by omega) hF.2.1 hF.2.2 hfq.2.1 hfq.2.2, Option.bind_some]
      by_cases c2 : posCmp l[i].f0 l[i].f1 l[i].f2 q.f0 q.f1 q.f2 > 0
      · have d2 := cmp_gt hp nq c2
        rw [if_pos c2]; exact step _ _ hF hF hp hp d1 d2 (by omega) (by omega)
      · have d2 := cmp_le hp nq c2
        rw [if_neg c2]; exact step _ _ hF hfq hp nq d1 (by omega) (by omega) d2
    · have d1 := cmp_ge hp nf c1
      rw [if_neg c1, cmp_eq (by omega) hF.2.1 hF.2.2 hfq.2.1 hfq.2.2, Option.bind_some]
      by_cases c2 : posCmp l[i].f0 l[i].f1 l[i].f2 q.f0 q.f1 q.f2 > 0
      · have d2 := cmp_gt hp nq c2
        rw [if_pos c2]; exact step _ _ hff hF nf hp (by omega) d2 d1 (by omega)
      · have d2 := cmp_le hp nq c2
        rw [if_neg c2]; exact step _ _ hff hfq nf nq (by omega) (by omega) d1 d2
theorem MeanBetween : turnstonelaw08_MeanBetween.Pure := by
  intro at_ l g hat _ hl hg
  have hat := wf_u64 hat
  have hf : ∀ p ∈ l, FS p := fun p hp => wf_pos (hl p hp)
  refine ⟨1000, ?_⟩
  unfold turnstonelaw08_MeanBetween.f
  rw [show turnstonelaw08_awake.f = some true from rfl, Option.bind_some, if_pos rfl]
  have no : turnstonelaw08_MeanBetween.j0 1000 at_ l g true = some true := by rw [turnstonelaw08_MeanBetween.j0, if_pos rfl]
  by_cases h : (l.length : Int) > 32
  · rw [if_pos h, no]
  rw [if_neg h]
  by_cases h0 : (l.length : Int) = 0
  · rw [if_pos h0, no]
  rw [if_neg h0]
  by_cases h1 : g ≤ -1152921504606846976
  · rw [if_pos h1, no]
  rw [if_neg h1]
  by_cases h2 : g ≥ 1152921504606846976
  · rw [decide_eq_true h2, no]
  have hpos : 0 < l.length := by omega
  have hF := hf _ (List.getElem_mem hpos)
  have r0 : rd_T28 l 0 = l[0] := rdp l 0 hpos
  rw [decide_eq_false h2, turnstonelaw08_MeanBetween.j0, if_neg (by simp), if_pos (by omega), r0]
  exact between_l0 hat ⟨by omega, by omega⟩ hf (by omega) (by omega) l.length 999 0 l[0] l[0] (by omega) (by omega) (by omega) hF hF (fun _ => ⟨rfl, rfl⟩) (fun h => absurd rfl h) (by intro p hp; simp at hp)
end Go.Proofs.YtccokfebebmaeaaGreatDoor.Pure
