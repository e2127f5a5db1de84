/- thirteenth part: a law's own lists, as they are handed to it, are rows of numbers. -/
import Derived.Test.YtkepkjahbcddlaaSyTree
import Derived.OpenShut
import Derived.Deep.Slices
namespace Go.Proofs.Ytkepkjahbcddlaa.Sy
open Go Go.RowKit
open Go.ChangeShapes Go.WideShapes
set_option linter.unusedVariables false
set_option linter.unusedSectionVars false
variable [Kinds]
/-- A list that is read off the memory. -/
structure RowIn (W : World) (a : Option Addr) (cap : Nat) (l : List (List Int)) (ks : List CK) : Prop where
  wfl : ∀ x ∈ l, x.length = ks.length
  len : l.length ≤ cap
  max : cap ≤ maxLen
  read : ∀ i u, (encL ks l)[i]? = some u → ∃ A, a = some A ∧ W.cell? (A.add i) = some u
theorem open_row {H : Type} {enc : TypeId × Value → H} {P : Program} {w : World} {base : Nat} {sp : Nat → Bool} {held : Bool} {t e : TypeId} (ks : List CK) (wf : List Int → Prop) (ht : P.underlying t = some (.slice e)) (hc : P.cellsOf e = ks.length) (h0 : 0 < ks.length)
    (hopen : ∀ (fuel : Nat) (cs : List Value) (x : DataW H × List MemPlace), DataW.trod enc P w base sp held fuel e cs = some x → ∃ y : List Int, cs = encR ks y ∧ y.length = ks.length ∧ wf y)
    {a : Option Addr} {len cap : Nat} {dd : DataW H} {ps : List MemPlace} (h : DataW.Trod enc P w base sp held t (.slice a len cap) dd ps) :
    ∃ l : List (List Int), l.length = len ∧ RowIn w a cap l ks ∧ (∀ y ∈ l, wf y) := by
  obtain ⟨fuel, hf⟩ := h
  rcases Go.Deep.open_slice ht hf with ⟨hcs, _⟩ | ⟨x, l, c, m, n, D, Pl, hcs, _, hl, hm, hmm, _, hx⟩
  · simp [Value.cells] at hcs
    obtain ⟨rfl, rfl, rfl⟩ := hcs
    exact ⟨[], rfl, ⟨by simp, Nat.le_refl _, Nat.zero_le _, fun i u h => by simp [encL] at h⟩, by simp⟩
  · simp [Value.cells] at hcs
    obtain ⟨rfl, rfl, rfl⟩ := hcs
    have hlm : len ≤ m := by rw [hmm]; split <;> omega
    obtain ⟨f, hf2⟩ := Go.Deep.choose_lt (n := len) (p := fun i y => (∃ cs', w.cells? base (x.add (i * P.cellsOf e)) (P.cellsOf e) = some cs' ∧ cs' = encR ks y ∧ y.length = ks.length) ∧ wf y) (fun i hi => by
      obtain ⟨cs', h1, h2⟩ := hx i (by omega)
      obtain ⟨y, h3, h4, h5⟩ := hopen _ _ _ h2
      exact ⟨y, ⟨cs', h1, h3, h4⟩, h5⟩)
    have hlen : ((List.range len).map f).length = len := by simp
    have hwf : ∀ x ∈ (List.range len).map f, x.length = ks.length := by
      intro y hy
      obtain ⟨i, hi, rfl⟩ := List.mem_map.1 hy
      obtain ⟨⟨cs', _, _, h3⟩, _⟩ := hf2 i (List.mem_range.1 hi)
      exact h3
    refine ⟨(List.range len).map f, hlen, ⟨hwf, by rw [hlen]; exact hl, hm, fun i u hu => ⟨x, rfl, ?_⟩⟩, fun y hy => ?_⟩
    · have hi : i < len * ks.length := by
        have := (List.getElem?_eq_some_iff.1 hu).1
        rw [encL_length ks _ hwf, hlen] at this
        exact this
      have hq : i / ks.length < len := Nat.div_lt_of_lt_mul (by rw [Nat.mul_comm]; exact hi)
      obtain ⟨⟨cs', h1, h2, h3⟩, _⟩ := hf2 _ hq
      obtain ⟨_, hcl, hcc⟩ := World.cells?_some h1
      have hp : i % ks.length < ks.length := Nat.mod_lt _ h0
      have hlR := encR_length ks _ h3
      have hu2 : (encR ks (f (i / ks.length)))[i % ks.length]? = some ((encR ks (f (i / ks.length)))[i % ks.length]'(by rw [hlR]; exact hp)) := List.getElem?_eq_getElem _
      have hx2 : ((List.range len).map f)[i / ks.length]? = some (f (i / ks.length)) := by simp [hq]
      have g := flat_get (encR ks) ks.length _ (fun x hx => encR_length ks x (hwf x hx)) _ _ _ _ hx2 hu2
      rw [Nat.div_add_mod'] at g
      have eu := hu.symm.trans g
      have hc2 := hcc (i % ks.length) (by rw [hc]; exact hp)
      rw [Go.Deep.add_add, hc, Nat.div_add_mod'] at hc2
      rw [hc2, h2, hu2, ← eu]
    · obtain ⟨i, hi, rfl⟩ := List.mem_map.1 hy
      exact (hf2 i (List.mem_range.1 hi)).2
/-- A row's numbers are of their kinds. -/
def KW : List CK → List Int → Prop
  | .int k :: ks, x :: xs => (Lit.int k x).wf = true ∧ KW ks xs
  | .bool :: ks, _ :: xs => KW ks xs
  | _, _ => True
theorem wf_u64 {n : Int} (h : (Lit.int .u64 n).wf = true) : 0 ≤ n ∧ n < 18446744073709551616 := by
  simp [Lit.wf, IntKind.min, IntKind.max, IntKind.bits, IntKind.signed] at h
  omega
theorem wf_i64 {n : Int} (h : (Lit.int .i64 n).wf = true) : -9223372036854775808 ≤ n ∧ n < 9223372036854775808 := by
  simp [Lit.wf, IntKind.min, IntKind.max, IntKind.bits, IntKind.signed] at h
  omega
theorem wf_u32 {n : Int} (h : (Lit.int .u32 n).wf = true) : 0 ≤ n ∧ n < 4294967296 := by
  simp [Lit.wf, IntKind.min, IntKind.max, IntKind.bits, IntKind.signed] at h
  omega
theorem wf_u8 {n : Int} (h : (Lit.int .u8 n).wf = true) : 0 ≤ n ∧ n < 256 := by
  simp [Lit.wf, IntKind.min, IntKind.max, IntKind.bits, IntKind.signed] at h
  omega
theorem row_wf {ks : List CK} {L : List (List Int)} (h : ∀ y ∈ L, KW ks y) (k : Nat) : L.getD k [] = [] ∨ KW ks (L.getD k []) := by
  rw [List.getD_eq_getElem?_getD]
  cases e : L[k]? with
  | none => exact .inl rfl
  | some y => exact .inr (h y (List.mem_of_getElem? e))
theorem rows_u64_u32_u32 {L : List (List Int)} (h : ∀ y ∈ L, KW [.int .u64, .int .u32, .int .u32] y) (k : Nat) :
    (0 ≤ rowAt L k 0 ∧ rowAt L k 0 < 18446744073709551616) ∧ (0 ≤ rowAt L k 1 ∧ rowAt L k 1 < 4294967296) ∧ (0 ≤ rowAt L k 2 ∧ rowAt L k 2 < 4294967296) := by
  simp only [rowAt, Int.toNat_natCast]
  have e := row_wf h k
  generalize L.getD k [] = y at *
  match y, e with
  | [], _ => simp
  | [a], .inr e => exact ⟨wf_u64 e.1, by simp, by simp⟩
  | [a, b], .inr e => exact ⟨wf_u64 e.1, wf_u32 e.2.1, by simp⟩
  | a :: b :: c :: r, .inr e => exact ⟨wf_u64 e.1, wf_u32 e.2.1, wf_u32 e.2.2.1⟩
theorem wf_zero (k : IntKind) : (Lit.int k 0).wf = true := by cases k <;> rfl
theorem kw_at : ∀ {ks : List CK} {y : List Int}, KW ks y → ∀ {c : Nat} {k : IntKind}, ks[c]? = some (.int k) → (Lit.int k (y.getD c 0)).wf = true
  | ks, [], _, c, k, _ => by simpa using wf_zero k
  | [], x :: xs, _, c, k, e => by simp at e
  | .int k0 :: ks, x :: xs, h, 0, k, e => by
    simp only [List.getElem?_cons_zero, Option.some.injEq, CK.int.injEq] at e
    subst e
    exact h.1
  | .bool :: ks, x :: xs, h, 0, k, e => by simp at e
  | .int k0 :: ks, x :: xs, h, c + 1, k, e => by
    have := kw_at (ks := ks) (y := xs) h.2 (c := c) (k := k) (by simpa using e)
    simpa using this
  | .bool :: ks, x :: xs, h, c + 1, k, e => by
    have := kw_at (ks := ks) (y := xs) h (c := c) (k := k) (by simpa using e)
    simpa using this
theorem rows_at {ks : List CK} {L : List (List Int)} (h : ∀ y ∈ L, KW ks y) (j : Nat) {c : Nat} {k : IntKind} (e : ks[c]? = some (.int k)) : (Lit.int k (rowAt L j c)).wf = true := by
  simp only [rowAt, Int.toNat_natCast]
  rcases row_wf h j with r | r
  · rw [r]; simpa using wf_zero k
  · exact kw_at r e
theorem rows_u64 {L : List (List Int)} (h : ∀ y ∈ L, KW [.int .u64] y) (j : Nat) : 0 ≤ rowAt L j 0 ∧ rowAt L j 0 < 18446744073709551616 := wf_u64 (rows_at h j rfl)
theorem rows_item {L : List (List Int)} (h : ∀ y ∈ L, KW [.int .u64, .int .u32, .int .u32, .int .i64, .int .u64, .int .u32, .int .u32] y) (j : Nat) :
    (0 ≤ rowAt L j 0 ∧ rowAt L j 0 < 18446744073709551616) ∧ (0 ≤ rowAt L j 1 ∧ rowAt L j 1 < 4294967296) ∧ (0 ≤ rowAt L j 2 ∧ rowAt L j 2 < 4294967296) ∧ (0 ≤ rowAt L j 4 ∧ rowAt L j 4 < 18446744073709551616) ∧ (0 ≤ rowAt L j 5 ∧ rowAt L j 5 < 4294967296) ∧ (0 ≤ rowAt L j 6 ∧ rowAt L j 6 < 4294967296) :=
  ⟨wf_u64 (rows_at h j rfl), wf_u32 (rows_at h j rfl), wf_u32 (rows_at h j rfl), wf_u64 (rows_at h j rfl), wf_u32 (rows_at h j rfl), wf_u32 (rows_at h j rfl)⟩
end Go.Proofs.Ytkepkjahbcddlaa.Sy
