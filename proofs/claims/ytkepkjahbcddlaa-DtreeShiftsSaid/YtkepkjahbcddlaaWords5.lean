/- Words for requests: where a place is when so many nanoseconds are served; what is served part by part. -/
import Derived.Test.YtkepkjahbcddlaaWords4
namespace Go.Proofs.Ytkepkjahbcddlaa.Fn
open Go Go.Proofs.Ytkepkjahbcddlaa.Sy
set_option linter.unusedVariables false
set_option linter.unusedSimpArgs false
/-- A place, x nanoseconds further. -/
def mvt (t r w x : Int) : Int := (t + (x * 1048576 + r) / w) % 18446744073709551616
def mvr (r w x : Int) : Int := (x * 1048576 + r) % w
def NS (x : Int) : Prop := 1 ≤ x ∧ x ≤ 1099511627776
/-- A request may be. -/
def RQ (t r w id dt dr dw l s : Int) : Prop := PR r w ∧ 0 < id ∧ NS l ∧ NS s ∧ dt = mvt t r w l ∧ dr = mvr r w l ∧ dw = w
theorem quo_le {a w : Int} (h0 : 0 ≤ a) (hw : 1 ≤ w) : 0 ≤ a / w ∧ a / w ≤ a ∧ 0 ≤ a % w ∧ a % w < w :=
  ⟨Int.ediv_nonneg h0 (by omega), Int.ediv_le_self w h0, Int.emod_nonneg a (by omega), Int.emod_lt_of_pos a (by omega)⟩
theorem quo_le2 {x r w : Int} (h0 : 0 ≤ x) (h1 : x ≤ 1099511627776) (r0 : 0 ≤ r) (r1 : r < w) (hw : 1 ≤ w) : 0 ≤ (x * 1048576 + r) / w ∧ (x * 1048576 + r) / w ≤ 1152921504606846976 ∧ 0 ≤ (x * 1048576 + r) % w ∧ (x * 1048576 + r) % w < w := by
  have q := quo_le (a := x * 1048576 + r) (w := w) (by omega) hw
  refine ⟨q.1, ?_, q.2.2⟩
  have : (x * 1048576 + r) / w < 1152921504606846977 := by
    apply Int.ediv_lt_of_lt_mul (by omega)
    omega
  omega
/-- How far a deadline lies, of a place that may be. -/
theorem due_right {t r w l : Int} (ht : U64 t) (hr : 0 ≤ r) (hp : PR r w) (hl : NS l) : U64 (mvt t r w l) ∧ 0 ≤ mvr r w l ∧ PR (mvr r w l) w ∧ s64 (mvt t r w l - t) = (l * 1048576 + r) / w ∧ 0 ≤ s64 (mvt t r w l - t) ∧ s64 (mvt t r w l - t) ≤ 1152921504606846976 := by
  have q := quo_le2 (x := l) (r := r) (w := w) (by have := hl.1; omega) hl.2 hr hp.2.2 hp.1
  simp only [mvt, mvr, s64]
  generalize (l * 1048576 + r) / w = Q at *
  generalize (l * 1048576 + r) % w = R at *
  have := hp.1
  have := hp.2.1
  omega
theorem mvt_u (t r w x : Int) : U64 (mvt t r w x) := by
  simp only [mvt]
  omega
theorem mvr_u (r x : Int) {w : Int} (h : WT w) : 0 ≤ mvr r w x ∧ mvr r w x < w ∧ mvr r w x < 4294967296 := by
  have a := Int.emod_nonneg (x * 1048576 + r) (show w ≠ 0 by have := h.1; omega)
  have b := Int.emod_lt_of_pos (x * 1048576 + r) (show 0 < w by have := h.1; omega)
  have := h.2
  simp only [mvr]
  omega
/-- Moved in two parts it is where it is when it is moved at once. -/
theorem mv_add {t r w x y : Int} (hw : 1 ≤ w) : mvt (mvt t r w x) (mvr r w x) w y = mvt t r w (x + y) ∧ mvr (mvr r w x) w y = mvr r w (x + y) := by
  have e := Int.emod_add_ediv_mul (x * 1048576 + r) w
  have e2 : (x + y) * 1048576 + r = (y * 1048576 + (x * 1048576 + r) % w) + (x * 1048576 + r) / w * w := by omega
  simp only [mvt, mvr]
  rw [e2, Int.add_mul_ediv_right _ _ (by omega), Int.add_mul_emod_self_right]
  refine ⟨?_, rfl⟩
  generalize (x * 1048576 + r) / w = Q at *
  generalize (y * 1048576 + (x * 1048576 + r) % w) / w = Q2 at *
  omega
/-- What is served of a request. -/
def SRV (t r w id dt dr dw l s : Int) (a : Bool) (x t2 r2 w2 id2 dt2 dr2 dw2 l2 s2 : Int) (a2 rn ok : Bool) : Prop :=
  (ok = true ↔ RQ t r w id dt dr dw l s ∧ 1 ≤ x ∧ x ≤ l) ∧ (ok = true → t2 = mvt t r w x ∧ r2 = mvr r w x ∧ w2 = w ∧ id2 = id ∧ l2 = (if l - x = 0 then s else l - x) ∧ dt2 = mvt t2 r2 w l2 ∧ dr2 = mvr r2 w l2 ∧ dw2 = w ∧ s2 = s ∧ a2 = a ∧ (rn = true ↔ l - x = 0)) ∧
  (ok = false → t2 = 0 ∧ r2 = 0 ∧ w2 = 0 ∧ id2 = 0 ∧ dt2 = 0 ∧ dr2 = 0 ∧ dw2 = 0 ∧ l2 = 0 ∧ s2 = 0 ∧ a2 = false ∧ rn = false)
theorem SRV.eq {t r w id dt dr dw l s : Int} {a : Bool} {x t2 r2 w2 id2 dt2 dr2 dw2 l2 s2 : Int} {a2 rn ok : Bool} {t3 r3 w3 id3 dt3 dr3 dw3 l3 s3 : Int} {a3 rn3 ok3 : Bool} (h : SRV t r w id dt dr dw l s a x t2 r2 w2 id2 dt2 dr2 dw2 l2 s2 a2 rn ok) (k : SRV t r w id dt dr dw l s a x t3 r3 w3 id3 dt3 dr3 dw3 l3 s3 a3 rn3 ok3) :
    t2 = t3 ∧ r2 = r3 ∧ w2 = w3 ∧ id2 = id3 ∧ dt2 = dt3 ∧ dr2 = dr3 ∧ dw2 = dw3 ∧ l2 = l3 ∧ s2 = s3 ∧ a2 = a3 ∧ rn = rn3 ∧ ok = ok3 := by
  obtain ⟨h1, h2, h3⟩ := h
  obtain ⟨k1, k2, k3⟩ := k
  have e : ok = ok3 := Bool.eq_iff_iff.2 (h1.trans k1.symm)
  subst e
  cases ok with
  | true =>
    obtain ⟨rfl, rfl, rfl, rfl, rfl, rfl, rfl, rfl, rfl, rfl, h⟩ := h2 rfl
    obtain ⟨rfl, rfl, rfl, rfl, rfl, rfl, rfl, rfl, rfl, rfl, k⟩ := k2 rfl
    exact ⟨rfl, rfl, rfl, rfl, rfl, rfl, rfl, rfl, rfl, rfl, Bool.eq_iff_iff.2 (h.trans k.symm), rfl⟩
  | false =>
    obtain ⟨rfl, rfl, rfl, rfl, rfl, rfl, rfl, rfl, rfl, rfl, rfl⟩ := h3 rfl
    obtain ⟨rfl, rfl, rfl, rfl, rfl, rfl, rfl, rfl, rfl, rfl, rfl⟩ := k3 rfl
    simp
theorem SRV.kinds {t r w id dt dr dw l s : Int} {a : Bool} {x t2 r2 w2 id2 dt2 dr2 dw2 l2 s2 : Int} {a2 rn ok : Bool} (ht : U64 t) (hr : U32 r) (hs : U64 s) (h : SRV t r w id dt dr dw l s a x t2 r2 w2 id2 dt2 dr2 dw2 l2 s2 a2 rn ok) :
    U64 t2 ∧ U32 r2 ∧ U32 w2 ∧ U64 dt2 ∧ U32 dr2 ∧ U32 dw2 ∧ U64 l2 ∧ U64 s2 ∧ (ok = true → RQ t2 r2 w2 id2 dt2 dr2 dw2 l2 s2) := by
  obtain ⟨h1, h2, h3⟩ := h
  cases ok with
  | true =>
    obtain ⟨e1, e2, e3, e4, e5, e6, e7, e8, e9, e10, h⟩ := h2 rfl
    obtain ⟨q, q1, q2⟩ := h1.1 rfl
    have wt : WT w := ⟨q.1.1, q.1.2.1⟩
    have m := mvt_u t r w x
    have m1 := mvr_u r x wt
    have m2 := mvt_u (mvt t r w x) (mvr r w x) w l2
    have m3 := mvr_u (mvr r w x) l2 wt
    have nl : NS l2 := by
      rw [e5]
      have := q.2.2.1.2
      split
      · exact q.2.2.2.1
      · exact ⟨by omega, by omega⟩
    have := nl.1
    have := nl.2
    have := wt.1
    have := wt.2
    rw [e6, e7, e8, e4, e9, e3, e1, e2]
    exact ⟨m, ⟨m1.1, m1.2.2⟩, by omega, m2, ⟨m3.1, m3.2.2⟩, by omega, by omega, hs, fun _ => ⟨⟨wt.1, wt.2, m1.2.1⟩, q.2.1, nl, q.2.2.2.1, rfl, rfl, rfl⟩⟩
  | false =>
    obtain ⟨rfl, rfl, rfl, rfl, rfl, rfl, rfl, rfl, rfl, rfl, rfl⟩ := h3 rfl
    exact ⟨by omega, by omega, by omega, by omega, by omega, by omega, by omega, by omega, fun h => (by cases h)⟩
/-! ### Part by part -/
structure SS where
  t : Int
  r : Int
  l : Int
  n : Int
def mnI2 (x y : Int) : Int := if y < x then y else x
def sstep (w sl : Int) (s : SS) (x : Int) : SS :=
  ⟨mvt s.t s.r w (mnI2 x s.l), mvr s.r w (mnI2 x s.l), if s.l - mnI2 x s.l = 0 then sl else s.l - mnI2 x s.l, if s.l - mnI2 x s.l = 0 then s.n + 1 else s.n⟩
def sv (w sl : Int) (s : SS) (L : List (List Int)) : Nat → SS
  | 0 => s
  | k + 1 => sstep w sl (sv w sl s L k) (Sy.rowAt L k 0)
/-- The first k parts are none of nothing. -/
def PT (L : List (List Int)) (k : Nat) : Prop := ∀ j : Nat, j < k → 1 ≤ Sy.rowAt L j 0
theorem PT.nil (L : List (List Int)) : PT L 0 := fun j hj => absurd hj (by omega)
theorem PT.succ {L : List (List Int)} {k : Nat} : PT L (k + 1) ↔ PT L k ∧ 1 ≤ Sy.rowAt L k 0 := by
  constructor
  · exact fun h => ⟨fun j hj => h j (by omega), h k (by omega)⟩
  · rintro ⟨h, h2⟩ j hj
    by_cases e : j = k
    · subst e; exact h2
    · exact h j (by omega)
/-- A state of a request that may be. -/
def SR (w : Int) (s : SS) : Prop := U64 s.t ∧ 0 ≤ s.r ∧ s.r < w ∧ NS s.l
theorem sstep_ok {w sl x : Int} {s : SS} (hw : WT w) (hs : NS sl) (h : SR w s) (hx : 1 ≤ x) : SR w (sstep w sl s x) ∧ s.n ≤ (sstep w sl s x).n ∧ (sstep w sl s x).n ≤ s.n + 1 := by
  obtain ⟨h0, h1, h2, h3⟩ := h
  have hl := h3.1
  have hl2 := h3.2
  have hm : 1 ≤ mnI2 x s.l ∧ mnI2 x s.l ≤ s.l := by simp only [mnI2]; split <;> omega
  have d := due_right (t := s.t) (r := s.r) (w := w) (l := mnI2 x s.l) h0 h1 ⟨hw.1, hw.2, h2⟩ ⟨hm.1, by omega⟩
  refine ⟨⟨d.1, d.2.1, d.2.2.1.2.2, ?_⟩, ?_⟩
  · show NS (if s.l - mnI2 x s.l = 0 then sl else s.l - mnI2 x s.l)
    split
    · exact hs
    · exact ⟨by omega, by omega⟩
  · show s.n ≤ (if s.l - mnI2 x s.l = 0 then s.n + 1 else s.n) ∧ (if s.l - mnI2 x s.l = 0 then s.n + 1 else s.n) ≤ s.n + 1
    split <;> omega
theorem sv_ok {w sl : Int} {s : SS} {L : List (List Int)} (hw : WT w) (hs : NS sl) (h : SR w s) : ∀ {k : Nat}, PT L k → SR w (sv w sl s L k) ∧ s.n ≤ (sv w sl s L k).n ∧ (sv w sl s L k).n ≤ s.n + k
  | 0, _ => ⟨h, by simp [sv], by simp [sv]⟩
  | k + 1, hp => by
    have hp := PT.succ.1 hp
    have i := sv_ok hw hs h hp.1
    have j := sstep_ok hw hs i.1 hp.2
    refine ⟨j.1, ?_⟩
    simp only [sv]
    omega
def RU (L : List (List Int)) : Prop := ∀ k : Nat, U64 (Sy.rowAt L k 0)
/-- Behind k parts: where a request is that began so. -/
def SVI (t0 r0 w0 id0 dt0 dr0 dw0 l0 s0 : Int) (a0 : Bool) (xs : List (List Int)) (t r w id dt dr dw l s : Int) (a : Bool) (n : Int) (k : Nat) : Prop :=
  w = w0 ∧ id = id0 ∧ s = s0 ∧ a = a0 ∧
  (RQ t0 r0 w0 id0 dt0 dr0 dw0 l0 s0 → PT xs k ∧ t = (sv w0 s0 ⟨t0, r0, l0, 0⟩ xs k).t ∧ r = (sv w0 s0 ⟨t0, r0, l0, 0⟩ xs k).r ∧ l = (sv w0 s0 ⟨t0, r0, l0, 0⟩ xs k).l ∧ n = (sv w0 s0 ⟨t0, r0, l0, 0⟩ xs k).n ∧ dt = mvt t r w0 l ∧ dr = mvr r w0 l ∧ dw = w0) ∧
  (¬ RQ t0 r0 w0 id0 dt0 dr0 dw0 l0 s0 → k = 0 ∧ t = t0 ∧ r = r0 ∧ dt = dt0 ∧ dr = dr0 ∧ dw = dw0 ∧ l = l0 ∧ n = 0)
def SVD (t0 r0 w0 id0 dt0 dr0 dw0 l0 s0 : Int) (a0 : Bool) (xs : List (List Int)) (t r w id dt dr dw l s : Int) (a : Bool) (n : Int) (ok : Bool) : Prop :=
  (ok = true ↔ xs.length = 0 ∨ RQ t0 r0 w0 id0 dt0 dr0 dw0 l0 s0 ∧ PT xs xs.length) ∧ (ok = true → SVI t0 r0 w0 id0 dt0 dr0 dw0 l0 s0 a0 xs t r w id dt dr dw l s a n xs.length) ∧
  (ok = false → t = 0 ∧ r = 0 ∧ w = 0 ∧ id = 0 ∧ dt = 0 ∧ dr = 0 ∧ dw = 0 ∧ l = 0 ∧ s = 0 ∧ a = false ∧ n = 0)
section
variable {t0 r0 w0 id0 dt0 dr0 dw0 l0 s0 : Int} {a0 : Bool} {xs : List (List Int)} {t r w id dt dr dw l s : Int} {a : Bool} {n : Int} {k : Nat}
theorem SVI.init : SVI t0 r0 w0 id0 dt0 dr0 dw0 l0 s0 a0 xs t0 r0 w0 id0 dt0 dr0 dw0 l0 s0 a0 0 0 :=
  ⟨rfl, rfl, rfl, rfl, fun h => ⟨PT.nil _, rfl, rfl, rfl, rfl, h.2.2.2.2.1, h.2.2.2.2.2.1, h.2.2.2.2.2.2⟩, fun _ => ⟨rfl, rfl, rfl, rfl, rfl, rfl, rfl, rfl⟩⟩
theorem SR_of (ht : U64 t0) (hr : 0 ≤ r0) (h : RQ t0 r0 w0 id0 dt0 dr0 dw0 l0 s0) : SR w0 ⟨t0, r0, l0, 0⟩ ∧ WT w0 ∧ NS s0 := ⟨⟨ht, hr, h.1.2.2, h.2.2.1⟩, ⟨h.1.1, h.1.2.1⟩, h.2.2.2.1⟩
/-- It may be just if the first one might. -/
theorem SVI.rq (ht : U64 t0) (hr : 0 ≤ r0) (h : SVI t0 r0 w0 id0 dt0 dr0 dw0 l0 s0 a0 xs t r w id dt dr dw l s a n k) : RQ t r w id dt dr dw l s ↔ RQ t0 r0 w0 id0 dt0 dr0 dw0 l0 s0 := by
  obtain ⟨rfl, rfl, rfl, rfl, h1, h2⟩ := h
  by_cases c : RQ t0 r0 w id dt0 dr0 dw0 l0 s
  · obtain ⟨p, e1, e2, e3, e4, e5, e6, e7⟩ := h1 c
    obtain ⟨q1, q2, q3⟩ := SR_of ht hr c
    obtain ⟨⟨g1, g2, g3, g4⟩, _⟩ := sv_ok q2 q3 q1 p
    rw [← e2] at g2 g3
    rw [← e3] at g4
    exact ⟨fun _ => c, fun _ => ⟨⟨c.1.1, c.1.2.1, g3⟩, c.2.1, g4, c.2.2.2.1, e5, e6, e7⟩⟩
  · obtain ⟨_, rfl, rfl, rfl, rfl, rfl, rfl, _⟩ := h2 c
    exact Iff.rfl
/-- Its numbers are of their kinds. -/
theorem SVI.kinds (hp : U64 t0 ∧ U32 r0 ∧ U32 w0 ∧ U64 dt0 ∧ U32 dr0 ∧ U32 dw0 ∧ U64 l0 ∧ U64 s0) (h : SVI t0 r0 w0 id0 dt0 dr0 dw0 l0 s0 a0 xs t r w id dt dr dw l s a n k) : U64 t ∧ U32 r ∧ U32 w ∧ U64 dt ∧ U32 dr ∧ U32 dw ∧ U64 l ∧ 0 ≤ n ∧ n ≤ k := by
  obtain ⟨ht, hr, hw, hd1, hd2, hd3, hl, hs⟩ := hp
  obtain ⟨rfl, rfl, rfl, rfl, h1, h2⟩ := h
  by_cases c : RQ t0 r0 w id dt0 dr0 dw0 l0 s
  · obtain ⟨p, e1, e2, e3, e4, e5, e6, e7⟩ := h1 c
    obtain ⟨q1, q2, q3⟩ := SR_of ht hr.1 c
    obtain ⟨⟨g1, g2, g3, g4⟩, g5, g6⟩ := sv_ok q2 q3 q1 p
    rw [← e1] at g1
    rw [← e2] at g2 g3
    rw [← e3] at g4
    rw [← e4] at g5 g6
    have m := mvt_u t r w l
    have m2 := mvr_u r l q2
    have := g4.2
    have := g4.1
    have := q2.2
    subst e7
    rw [e5, e6]
    simp only at g5 g6
    exact ⟨g1, ⟨g2, by omega⟩, hw, m, ⟨m2.1, m2.2.2⟩, hw, by omega, by omega, by omega⟩
  · obtain ⟨rfl, rfl, rfl, rfl, rfl, rfl, rfl, rfl⟩ := h2 c
    exact ⟨ht, hr, hw, hd1, hd2, hd3, hl, by omega, by omega⟩
theorem SVI.ns (ht : U64 t0) (hr : 0 ≤ r0) (h : SVI t0 r0 w0 id0 dt0 dr0 dw0 l0 s0 a0 xs t r w id dt dr dw l s a n k) (c : RQ t0 r0 w0 id0 dt0 dr0 dw0 l0 s0) : NS l ∧ PT xs k := ⟨((h.rq ht hr).2 c).2.2.1, (h.2.2.2.2.1 c).1⟩
/-- One part more. -/
theorem SVI.more (h : SVI t0 r0 w0 id0 dt0 dr0 dw0 l0 s0 a0 xs t r w id dt dr dw l s a n k) (c : RQ t0 r0 w0 id0 dt0 dr0 dw0 l0 s0) (hx : 1 ≤ Sy.rowAt xs k 0) {y t2 r2 dt2 dr2 dw2 l2 n2 : Int} (hy : y = mnI2 (Sy.rowAt xs k 0) l)
    (e1 : t2 = mvt t r w y) (e2 : r2 = mvr r w y) (e3 : l2 = if l - y = 0 then s else l - y) (e4 : dt2 = mvt t2 r2 w l2) (e5 : dr2 = mvr r2 w l2) (e6 : dw2 = w) (e7 : n2 = if l - y = 0 then n + 1 else n) :
    SVI t0 r0 w0 id0 dt0 dr0 dw0 l0 s0 a0 xs t2 r2 w id dt2 dr2 dw2 l2 s a n2 (k + 1) := by
  obtain ⟨rfl, rfl, rfl, rfl, h1, h2⟩ := h
  obtain ⟨p, f1, f2, f3, f4, f5, f6, f7⟩ := h1 c
  refine ⟨rfl, rfl, rfl, rfl, fun _ => ⟨PT.succ.2 ⟨p, hx⟩, ?_, ?_, ?_, ?_, e4, e5, e6⟩, fun n => absurd c n⟩
  · rw [e1, hy, f1, f2, f3]; rfl
  · rw [e2, hy, f2, f3]; rfl
  · rw [e3, hy, f3]; rfl
  · rw [e7, hy, f3, f4]; rfl
theorem SVD.eq {ok : Bool} {t3 r3 w3 id3 dt3 dr3 dw3 l3 s3 n3 : Int} {a3 ok3 : Bool} (h : SVD t0 r0 w0 id0 dt0 dr0 dw0 l0 s0 a0 xs t r w id dt dr dw l s a n ok) (k : SVD t0 r0 w0 id0 dt0 dr0 dw0 l0 s0 a0 xs t3 r3 w3 id3 dt3 dr3 dw3 l3 s3 a3 n3 ok3) :
    t = t3 ∧ r = r3 ∧ w = w3 ∧ id = id3 ∧ dt = dt3 ∧ dr = dr3 ∧ dw = dw3 ∧ l = l3 ∧ s = s3 ∧ a = a3 ∧ n = n3 ∧ ok = ok3 := by
  obtain ⟨h1, h2, h3⟩ := h
  obtain ⟨k1, k2, k3⟩ := k
  have e : ok = ok3 := Bool.eq_iff_iff.2 (h1.trans k1.symm)
  subst e
  cases ok with
  | true =>
    obtain ⟨e1, e2, e3, e4, g1, g2⟩ := h2 rfl
    obtain ⟨f1, f2, f3, f4, l1, l2⟩ := k2 rfl
    rw [e1, e2, e3, e4, f1, f2, f3, f4]
    by_cases c : RQ t0 r0 w0 id0 dt0 dr0 dw0 l0 s0
    · obtain ⟨_, rfl, rfl, rfl, rfl, rfl, rfl, rfl⟩ := g1 c
      obtain ⟨_, rfl, rfl, rfl, rfl, rfl, rfl, rfl⟩ := l1 c
      simp
    · obtain ⟨_, rfl, rfl, rfl, rfl, rfl, rfl, rfl⟩ := g2 c
      obtain ⟨_, rfl, rfl, rfl, rfl, rfl, rfl, rfl⟩ := l2 c
      simp
  | false =>
    obtain ⟨rfl, rfl, rfl, rfl, rfl, rfl, rfl, rfl, rfl, rfl, rfl⟩ := h3 rfl
    obtain ⟨rfl, rfl, rfl, rfl, rfl, rfl, rfl, rfl, rfl, rfl, rfl⟩ := k3 rfl
    simp
theorem SVD.kinds {ok : Bool} (hp : U64 t0 ∧ U32 r0 ∧ U32 w0 ∧ U64 dt0 ∧ U32 dr0 ∧ U32 dw0 ∧ U64 l0 ∧ U64 s0) (h : SVD t0 r0 w0 id0 dt0 dr0 dw0 l0 s0 a0 xs t r w id dt dr dw l s a n ok) : U64 t ∧ U32 r ∧ U32 w ∧ U64 dt ∧ U32 dr ∧ U32 dw ∧ U64 l := by
  cases ok with
  | true =>
    obtain ⟨h1, h2, h3, h4, h5, h6, h7, _⟩ := (h.2.1 rfl).kinds hp
    exact ⟨h1, h2, h3, h4, h5, h6, h7⟩
  | false =>
    obtain ⟨rfl, rfl, rfl, rfl, rfl, rfl, rfl, rfl, rfl, rfl, rfl⟩ := h.2.2 rfl
    exact ⟨by omega, by omega, by omega, by omega, by omega, by omega, by omega⟩
end
/-- Of all shifted alike. -/
def SH2 (d : Int) (a b : SS) : Prop := b.t = (a.t + d) % 18446744073709551616 ∧ b.r = a.r ∧ b.l = a.l ∧ b.n = a.n
theorem sv_shift {w sl d : Int} {a b : SS} (h : SH2 d a b) (L : List (List Int)) : ∀ k : Nat, SH2 d (sv w sl a L k) (sv w sl b L k)
  | 0 => h
  | k + 1 => by
    have i := sv_shift (w := w) (sl := sl) h L k
    obtain ⟨i0, i1, i2, i3⟩ := i
    simp only [sv, sstep, SH2, i0, i1, i2, i3, mvt, and_self, and_true]
    generalize (mnI2 (Sy.rowAt L k 0) (sv w sl a L k).l * 1048576 + (sv w sl a L k).r) / w = Q
    omega
theorem sv_parts {w s t r x y : Int} (hw : 1 ≤ w) (hx : 1 ≤ x) (hy : 1 ≤ y) (h : x + y ≤ s) : sv w s ⟨t, r, s, 0⟩ [[x], [y]] 2 = sv w s ⟨t, r, s, 0⟩ [[x + y]] 1 := by
  have e1 : mnI2 x s = x := by simp only [mnI2]; split <;> omega
  have e2 : mnI2 y (s - x) = y := by simp only [mnI2]; split <;> omega
  have e3 : mnI2 (x + y) s = x + y := by simp only [mnI2]; split <;> omega
  have n1 : ¬ s - x = 0 := by omega
  show sstep w s (sstep w s ⟨t, r, s, 0⟩ x) y = sstep w s ⟨t, r, s, 0⟩ (x + y)
  simp only [sstep, e1, if_neg n1, e2, e3, (mv_add (t := t) hw).1, (mv_add (t := t) hw).2, show s - x - y = s - (x + y) by omega]
theorem PT_two {x y : Int} (hx : 1 ≤ x) (hy : 1 ≤ y) : PT [[x], [y]] 2 := by
  intro j hj
  rcases (show j = 0 ∨ j = 1 by omega) with rfl | rfl
  · exact hx
  · exact hy
theorem PT_one {x : Int} (hx : 1 ≤ x) : PT [[x]] 1 := by
  intro j hj
  rcases (show j = 0 by omega) with rfl
  exact hx
theorem RU_two {x y : Int} (hx : U64 x) (hy : U64 y) : RU [[x], [y]] := by
  intro j
  match j with
  | 0 => exact hx
  | 1 => exact hy
  | j + 2 =>
    have : Sy.rowAt [[x], [y]] ((j + 2 : Nat) : Int) 0 = 0 := rowAt_out (by simp; omega) 0
    rw [this]; omega
theorem RU_one {x : Int} (hx : U64 x) : RU [[x]] := by
  intro j
  match j with
  | 0 => exact hx
  | j + 1 =>
    have : Sy.rowAt [[x]] ((j + 1 : Nat) : Int) 0 = 0 := rowAt_out (by simp; omega) 0
    rw [this]; omega
/-- What comes of a request that is made, moved or sliced. -/
def OUTQ (P : Prop) (t r w id dt dr dw l s : Int) (a : Bool) (t2 r2 w2 id2 dt2 dr2 dw2 l2 s2 : Int) (a2 ok : Bool) : Prop :=
  (ok = true ↔ P) ∧ (ok = true → t2 = t ∧ r2 = r ∧ w2 = w ∧ id2 = id ∧ dt2 = dt ∧ dr2 = dr ∧ dw2 = dw ∧ l2 = l ∧ s2 = s ∧ a2 = a) ∧ (ok = false → t2 = 0 ∧ r2 = 0 ∧ w2 = 0 ∧ id2 = 0 ∧ dt2 = 0 ∧ dr2 = 0 ∧ dw2 = 0 ∧ l2 = 0 ∧ s2 = 0 ∧ a2 = false)
section
variable {P : Prop} {t r w id dt dr dw l s : Int} {a : Bool} {t2 r2 w2 id2 dt2 dr2 dw2 l2 s2 : Int} {a2 ok : Bool} {t3 r3 w3 id3 dt3 dr3 dw3 l3 s3 : Int} {a3 ok3 : Bool}
theorem OUTQ.eq (h : OUTQ P t r w id dt dr dw l s a t2 r2 w2 id2 dt2 dr2 dw2 l2 s2 a2 ok) (k : OUTQ P t r w id dt dr dw l s a t3 r3 w3 id3 dt3 dr3 dw3 l3 s3 a3 ok3) :
    t2 = t3 ∧ r2 = r3 ∧ w2 = w3 ∧ id2 = id3 ∧ dt2 = dt3 ∧ dr2 = dr3 ∧ dw2 = dw3 ∧ l2 = l3 ∧ s2 = s3 ∧ a2 = a3 ∧ ok = ok3 := by
  obtain ⟨h1, h2, h3⟩ := h
  obtain ⟨k1, k2, k3⟩ := k
  have e : ok = ok3 := Bool.eq_iff_iff.2 (h1.trans k1.symm)
  subst e
  cases ok with
  | true =>
    obtain ⟨rfl, rfl, rfl, rfl, rfl, rfl, rfl, rfl, rfl, rfl⟩ := h2 rfl
    obtain ⟨rfl, rfl, rfl, rfl, rfl, rfl, rfl, rfl, rfl, rfl⟩ := k2 rfl
    simp
  | false =>
    obtain ⟨rfl, rfl, rfl, rfl, rfl, rfl, rfl, rfl, rfl, rfl⟩ := h3 rfl
    obtain ⟨rfl, rfl, rfl, rfl, rfl, rfl, rfl, rfl, rfl, rfl⟩ := k3 rfl
    simp
theorem OUTQ.kinds (h : OUTQ P t r w id dt dr dw l s a t2 r2 w2 id2 dt2 dr2 dw2 l2 s2 a2 ok) (k : P → U64 t ∧ U32 r ∧ U32 w ∧ U64 dt ∧ U32 dr ∧ U32 dw ∧ U64 l) : U64 t2 ∧ U32 r2 ∧ U32 w2 ∧ U64 dt2 ∧ U32 dr2 ∧ U32 dw2 ∧ U64 l2 := by
  obtain ⟨h1, h2, h3⟩ := h
  cases ok with
  | true =>
    obtain ⟨rfl, rfl, rfl, rfl, rfl, rfl, rfl, rfl, rfl, rfl⟩ := h2 rfl
    exact k (h1.1 rfl)
  | false =>
    obtain ⟨rfl, rfl, rfl, rfl, rfl, rfl, rfl, rfl, rfl, rfl⟩ := h3 rfl
    omega
end
theorem mv_kinds (t r x : Int) {w : Int} (h : PR r w) : U64 (mvt t r w x) ∧ U32 (mvr r w x) := by
  have m := mvr_u r x (w := w) ⟨h.1, h.2.1⟩
  exact ⟨mvt_u t r w x, m.1, m.2.2⟩
theorem mvt_shift (t r w x y : Int) : mvt ((t + y) % 18446744073709551616) r w x = (mvt t r w x + y) % 18446744073709551616 := by
  simp only [mvt]
  omega
theorem SVD_shift {t r w i s y : Int} {xs : List (List Int)} {a0 a1 a2 a3 a4 a5 a6 a7 a8 an b0 b1 b2 b3 b4 b5 b6 b7 b8 bn : Int} {a9 ao b9 bo : Bool} (hP : PR r w) (hi : 0 < i) (hs : NS s)
    (A : SVD t r w i (mvt t r w s) (mvr r w s) w s s false xs a0 a1 a2 a3 a4 a5 a6 a7 a8 a9 an ao) (B : SVD ((t + y) % 18446744073709551616) r w i (mvt ((t + y) % 18446744073709551616) r w s) (mvr r w s) w s s false xs b0 b1 b2 b3 b4 b5 b6 b7 b8 b9 bn bo) :
    ao = bo ∧ an = bn ∧ (ao = true → b0 = (a0 + y) % 18446744073709551616 ∧ b1 = a1 ∧ b2 = a2 ∧ b3 = a3 ∧ b4 = (a4 + y) % 18446744073709551616 ∧ b5 = a5 ∧ b6 = a6 ∧ b7 = a7) := by
  have RA : RQ t r w i (mvt t r w s) (mvr r w s) w s s := ⟨hP, hi, hs, hs, rfl, rfl, rfl⟩
  have RB : RQ ((t + y) % 18446744073709551616) r w i (mvt ((t + y) % 18446744073709551616) r w s) (mvr r w s) w s s := ⟨hP, hi, hs, hs, rfl, rfl, rfl⟩
  obtain ⟨A1, A2, A3⟩ := A
  obtain ⟨B1, B2, B3⟩ := B
  have e : ao = bo := by
    apply Bool.eq_iff_iff.2
    rw [A1, B1]
    simp only [RA, RB, true_and]
  subst e
  cases ao with
  | false =>
    obtain ⟨_, _, _, _, _, _, _, _, _, _, x⟩ := A3 rfl
    obtain ⟨_, _, _, _, _, _, _, _, _, _, y⟩ := B3 rfl
    exact ⟨rfl, by rw [x, y], fun h => (by cases h)⟩
  | true =>
    obtain ⟨g1, g2, g3, g4, g5, _⟩ := A2 rfl
    obtain ⟨h1, h2, h3, h4, h5, _⟩ := B2 rfl
    obtain ⟨_, g6, g7, g8, g9, g10, g11, g12⟩ := g5 RA
    obtain ⟨_, h6, h7, h8, h9, h10, h11, h12⟩ := h5 RB
    obtain ⟨s1, s2, s3, s4⟩ := sv_shift (w := w) (sl := s) (d := y) (a := ⟨t, r, s, 0⟩) (b := ⟨(t + y) % 18446744073709551616, r, s, 0⟩) ⟨rfl, rfl, rfl, rfl⟩ xs xs.length
    rw [s1, ← g6] at h6
    rw [s2, ← g7] at h7
    rw [s3, ← g8] at h8
    rw [s4, ← g9] at h9
    refine ⟨rfl, h9.symm, fun _ => ⟨h6, h7, by rw [h1, g1], by rw [h2, g2], ?_, ?_, by rw [h12, g12], h8⟩⟩
    · rw [h10, g10, h6, h7, h8, mvt_shift]
    · rw [h11, g11, h7, h8]
end Go.Proofs.Ytkepkjahbcddlaa.Fn
