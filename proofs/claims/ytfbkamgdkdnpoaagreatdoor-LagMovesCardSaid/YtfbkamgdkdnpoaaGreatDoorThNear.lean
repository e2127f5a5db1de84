/- Means of positions near a time, in whole numbers: their sums, and what each one is owed. -/
import Derived.Test.YtfbkamgdkdnpoaaGreatDoorThLag
import Derived.Test.YtfbkamgdkdnpoaaGreatDoorThStep
import Derived.Test.YtfbkamgdkdnpoaaGreatDoorPrint1001
import Derived.Test.YtfbkamgdkdnpoaaGreatDoorPrint1002
import Derived.Test.YtfbkamgdkdnpoaaGreatDoorPrint1003
namespace Go.Proofs.YtfbkamgdkdnpoaaGreatDoor.Th
open Go.RowKit Go.Proofs.YtfbkamgdkdnpoaaGreatDoor.Print Go.Proofs.YtfbkamgdkdnpoaaGreatDoorW.PrintWords Go.Proofs.YtfbkamgdkdnpoaaGreatDoorW.PrintLast Go.Proofs.YtfbkamgdkdnpoaaGreatDoorW.PrintMore Go.Proofs.YtfbkamgdkdnpoaaGreatDoor.Bits
set_option linter.unusedVariables false
set_option linter.unusedSimpArgs false
abbrev PS := S28
def SA (f : PS → Int) : List PS → Int
  | [] => 0
  | p :: l => f p + SA f l
def SW : List PS → Int
  | [] => 0
  | p :: l => p.f2 + SW l
/-- A position that may be, nearer than B to a time. -/
def Near (B at_ : Int) (p : PS) : Prop := FS p ∧ RP p.f1 p.f2 ∧ -B < wrap64 (p.f0 - at_) ∧ wrap64 (p.f0 - at_) < B
theorem SW_le {l : List PS} (h : ∀ p ∈ l, RP p.f1 p.f2) : (l.length : Int) ≤ SW l ∧ SW l ≤ l.length * 1048576 := by
  induction l with
  | nil => simp [SW]
  | cons p l ih =>
    have h1 := h p (List.mem_cons_self ..)
    have h2 := ih (fun q hq => h q (List.mem_cons_of_mem _ hq))
    unfold RP at h1
    simp only [SW, List.length_cons]; omega
theorem SW_mem {l : List PS} (h : ∀ p ∈ l, RP p.f1 p.f2) {p : PS} (hp : p ∈ l) : p.f2 ≤ SW l := by
  induction l with
  | nil => cases hp
  | cons q l ih =>
    have h1 := h q (List.mem_cons_self ..)
    have h2 := SW_le (fun r hr => h r (List.mem_cons_of_mem _ hr))
    unfold RP at h1
    simp only [SW]
    rcases List.mem_cons.1 hp with rfl | hp
    · omega
    · have := ih (fun r hr => h r (List.mem_cons_of_mem _ hr)) hp; omega
theorem SA_le {f : PS → Int} {B : Int} {l : List PS} (h : ∀ p ∈ l, -(B * p.f2) ≤ f p ∧ f p ≤ B * p.f2) : -(B * SW l) ≤ SA f l ∧ SA f l ≤ B * SW l := by
  induction l with
  | nil => simp [SW, SA]
  | cons p l ih =>
    have h1 := h p (List.mem_cons_self ..)
    have h2 := ih (fun q hq => h q (List.mem_cons_of_mem _ hq))
    simp only [SW, SA, Int.mul_add]; omega
theorem Near.dof_le {B at_ : Int} {p : PS} (h : Near B at_ p) : -(B * p.f2) ≤ dof at_ p ∧ dof at_ p ≤ B * p.f2 := by
  obtain ⟨_, hr, h1, h2⟩ := h
  unfold RP at hr
  unfold dof dist
  generalize wrap64 (p.f0 - at_) = d at *
  have a : p.f2 * d ≤ p.f2 * (B - 1) := Int.mul_le_mul_of_nonneg_left (by omega) (by omega)
  have b : p.f2 * (-B) ≤ p.f2 * d := Int.mul_le_mul_of_nonneg_left (by omega) (by omega)
  have e1 : p.f2 * (B - 1) = B * p.f2 - p.f2 := by rw [Int.mul_sub, Int.mul_one, Int.mul_comm]
  have e2 : p.f2 * (-B) = -(B * p.f2) := by rw [Int.mul_neg, Int.mul_comm]
  omega
/-- No more than 2^82. -/
theorem mul_w {B w : Int} (h0 : 0 ≤ B) (hB : B ≤ 2305843009213693952) (hw : 0 ≤ w) (hw' : w ≤ 1048576) : 0 ≤ B * w ∧ B * w ≤ 2417851639229258349412352 := by
  have := mul_below h0 hB hw hw'
  omega
theorem mul_W {B w : Int} (h0 : 0 ≤ B) (hB : B ≤ 2305843009213693952) (hw : 0 ≤ w) (hw' : w ≤ 33554432) : 0 ≤ B * w ∧ B * w ≤ 77371252455336267181195264 := by
  have := mul_below h0 hB hw hw'
  omega
theorem Near.dof_C {B at_ : Int} {p : PS} (h : Near B at_ p) (hB : B ≤ 1152921504606846976) : -2417851639229258349412352 ≤ dof at_ p ∧ dof at_ p ≤ 2417851639229258349412352 := by
  have h1 := h.dof_le
  obtain ⟨_, hr, h2, h3⟩ := h
  unfold RP at hr
  have := mul_w (B := B) (w := p.f2) (by omega) (by omega) (by omega) (by omega)
  omega
theorem Near.shift {B at_ g : Int} {p : PS} (h : Near B at_ p) (hB : B ≤ 1152921504606846976) (hg : -1152921504606846976 ≤ g ∧ g ≤ 1152921504606846976) : dof ((at_ + g) % 18446744073709551616) p = dof at_ p - p.f2 * g ∧ wrap64 (p.f0 - (at_ + g) % 18446744073709551616) = wrap64 (p.f0 - at_) - g := by
  obtain ⟨_, hr, h2, h3⟩ := h
  have e : wrap64 (p.f0 - (at_ + g) % 18446744073709551616) = wrap64 (p.f0 - at_) - g := by
    rw [w64] at h2 h3 ⊢
    rw [w64]
    omega
  refine ⟨?_, e⟩
  unfold dof dist
  rw [e, Int.mul_sub]; omega
theorem foldM_near {f : PS → Int} : ∀ (l : List PS) (A W N : Int), (∀ p ∈ l, RP p.f1 p.f2 ∧ -2417851639229258349412352 ≤ f p ∧ f p ≤ 2417851639229258349412352) → RM A W N → -(2417851639229258349412352 * N) ≤ A → A ≤ 2417851639229258349412352 * N → N + l.length ≤ 32 →
    foldM f l (A, W, N) = some (A + SA f l, W + SW l, N + l.length) ∧ RM (A + SA f l) (W + SW l) (N + l.length) ∧ -(2417851639229258349412352 * (N + l.length)) ≤ A + SA f l ∧ A + SA f l ≤ 2417851639229258349412352 * (N + l.length)
  | [], A, W, N, h, hR, h1, h2, h3 => by
    simp only [foldM, SA, SW, List.length_nil, Int.add_zero, Int.natCast_zero]
    exact ⟨trivial, hR, h1, h2⟩
  | p :: l, A, W, N, h, hR, h1, h2, h3 => by
    obtain ⟨a, b, c⟩ := h p (List.mem_cons_self ..)
    simp only [List.length_cons] at h3
    have hN : 0 ≤ N ∧ N ≤ 31 := by unfold RM at hR; omega
    have hs : stepM A W N (f p) p.f1 p.f2 = some (A + f p, W + p.f2, N + 1) := by
      unfold stepM
      rw [if_pos ⟨hR, a, by omega, by unfold Big; omega⟩]
    have hR' : RM (A + f p) (W + p.f2) (N + 1) := by
      unfold RM at *; unfold RP at a; omega
    obtain ⟨k1, k2, k3, k4⟩ := foldM_near l (A + f p) (W + p.f2) (N + 1) (fun q hq => h q (List.mem_cons_of_mem _ hq)) hR' (by omega) (by omega) (by omega)
    have e1 : A + f p + SA f l = A + SA f (p :: l) := by simp only [SA]; omega
    have e2 : W + p.f2 + SW l = W + SW (p :: l) := by simp only [SW]; omega
    have e3 : N + 1 + (l.length : Int) = N + ((p :: l).length : Int) := by simp only [List.length_cons]; omega
    rw [e1, e2, e3] at k1 k2
    rw [e1, e3] at k3 k4
    refine ⟨?_, k2, k3, k4⟩
    rw [foldM]
    simp only [hs, Option.bind_some]
    exact k1
/-- Positions near a time, together. -/
theorem near_of {B at_ : Int} {l : List PS} (hB : B ≤ 1152921504606846976) (h : ∀ p ∈ l, Near B at_ p) (hl : l.length ≤ 32) {k : Nat} (hk : 40 ≤ k) :
    mean_Of.f k at_ l = some (at_, SA (dof at_) l / 18446744073709551616, SA (dof at_) l % 18446744073709551616, SW l, (l.length : Int), true) := by
  rw [of_mean (by omega) (fun p hp => (h p hp).1) at_ (by omega)]
  obtain ⟨k1, _⟩ := foldM_near (f := dof at_) l 0 0 0 (fun p hp => ⟨(h p hp).2.1, (h p hp).dof_C hB⟩) (Or.inl ⟨rfl, rfl, rfl⟩) (by omega) (by omega) (by omega)
  rw [k1, Int.zero_add, Int.zero_add, Int.zero_add]
  rfl
theorem near_RM {B at_ : Int} {l : List PS} (hB : B ≤ 1152921504606846976) (h : ∀ p ∈ l, Near B at_ p) (hl : l.length ≤ 32) : RM (SA (dof at_) l) (SW l) l.length ∧ -77371252455336267181195264 ≤ SA (dof at_) l ∧ SA (dof at_) l ≤ 77371252455336267181195264 := by
  obtain ⟨_, k2, k3, k4⟩ := foldM_near (f := dof at_) l 0 0 0 (fun p hp => ⟨(h p hp).2.1, (h p hp).dof_C hB⟩) (Or.inl ⟨rfl, rfl, rfl⟩) (by omega) (by omega) (by omega)
  rw [Int.zero_add, Int.zero_add, Int.zero_add] at k2
  rw [Int.zero_add, Int.zero_add] at k3 k4
  exact ⟨k2, by omega, by omega⟩
/-- The same from another base. -/
theorem near_base {B at_ g : Int} (hB : B ≤ 1152921504606846976) (hg : -1152921504606846976 ≤ g ∧ g ≤ 1152921504606846976) : ∀ {l : List PS}, (∀ p ∈ l, Near B at_ p) → SA (dof ((at_ + g) % 18446744073709551616)) l = SA (dof at_) l - SW l * g
  | [], h => by simp [SA, SW]
  | p :: l, h => by
    rw [SA, SA, SW, near_base hB hg (fun q hq => h q (List.mem_cons_of_mem _ hq)), ((h p (List.mem_cons_self ..)).shift hB hg).1, Int.add_mul]; omega
theorem over_near {A W N D r w : Int} (hR : RM A W N) (hN : N ≠ 0) (hp : RP r w) (h1 : -1237940039285380274899124224 ≤ A) (h2 : A ≤ 1237940039285380274899124224) (h3 : -1237940039285380274899124224 ≤ D) (h4 : D ≤ 1237940039285380274899124224) :
    overM A W N D r w = some (A * w - D * W) ∧ Big (A * w - D * W) ∧ Big (A * w / W - D) := by
  have hW : 1 ≤ W ∧ W ≤ 33554432 := by unfold RM at hR; omega
  have hw : 1 ≤ w ∧ w ≤ 1048576 := by unfold RP at hp; omega
  have b : ∀ {x y : Int}, -1237940039285380274899124224 ≤ x → x ≤ 1237940039285380274899124224 → 1 ≤ y → y ≤ 33554432 → -41538374868278621028243970633760768 ≤ x * y ∧ x * y ≤ 41538374868278621028243970633760768 := by
    intro x y a1 a2 a3 a4
    rcases Int.lt_or_le x 0 with hx | hx
    · have := mul_below (a := -x) (b := y) (c := 1237940039285380274899124224) (d := 33554432) (by omega) (by omega) (by omega) a4
      rw [Int.neg_mul] at this
      omega
    · have := mul_below (a := x) (b := y) (c := 1237940039285380274899124224) (d := 33554432) hx a2 (by omega) a4
      omega
  have b1 := b h1 h2 hw.1 (by omega)
  have b2 := b h3 h4 hW.1 hW.2
  have q : -41538374868278621028243970633760768 ≤ A * w / W ∧ A * w / W ≤ 41538374868278621028243970633760768 := by
    constructor
    · apply Int.le_ediv_of_mul_le (by omega)
      have : -41538374868278621028243970633760768 * W ≤ -41538374868278621028243970633760768 * 1 := Int.mul_le_mul_of_nonpos_left (by decide) hW.1
      omega
    · apply Int.le_of_lt_add_one
      apply Int.ediv_lt_of_lt_mul (by omega)
      have : (41538374868278621028243970633760768 + 1) * 1 ≤ (41538374868278621028243970633760768 + 1) * W := Int.mul_le_mul_of_nonneg_left hW.1 (by decide)
      omega
  have g1 : Big (A * w) := by unfold Big; omega
  have g2 : Big (D * W) := by unfold Big; omega
  have g3 : Big (A * w - D * W) := by unfold Big; omega
  refine ⟨?_, g3, by unfold Big; omega⟩
  unfold overM
  rw [if_pos ⟨hR, hN, hp, g1, g2, g3⟩]
/-- What the lag is. -/
theorem read_near {b A W N t r w : Int} {k : Nat} (hk : 12 ≤ k) (hr : 0 ≤ r ∧ r < 4294967296) (hR : RM A W N) (hN : N ≠ 0) (hp : RP r w) (h1 : -1237940039285380274899124224 ≤ A) (h2 : A ≤ 1237940039285380274899124224) (h3 : -1237940039285380274899124224 ≤ dist t r w b) (h4 : dist t r w b ≤ 1237940039285380274899124224) :
    lag_Read.f k b (A / 18446744073709551616) (A % 18446744073709551616) W N t r w = some ((A * w / W - dist t r w b) / 18446744073709551616, (A * w / W - dist t r w b) % 18446744073709551616, true) := by
  obtain ⟨o1, o2, o3⟩ := over_near (D := dist t r w b) hR hN hp h1 h2 h3 h4
  have hW : 1 ≤ W ∧ W ≤ 33554432 := by unfold RM at hR; omega
  have hw : 1 ≤ w ∧ w ≤ 1048576 := by unfold RP at hp; omega
  have hS : Sm N := by unfold RM at hR; unfold Sm; omega
  have hA : Big A := by unfold Big; omega
  rw [read_eq hk hA hS hr ⟨by omega, by omega⟩, o1, Option.map_some]
  have e : (A * w - dist t r w b * W) / W = A * w / W - dist t r w b := by
    have : A * w - dist t r w b * W = A * w + W * (-(dist t r w b)) := by rw [Int.mul_neg, Int.mul_comm (dist t r w b)]; omega
    rw [this, Int.add_mul_ediv_left _ _ (by omega)]; omega
  rw [e]; rfl
end Go.Proofs.YtfbkamgdkdnpoaaGreatDoor.Th
