/- Whole numbers of 64 and of 128 bits. -/
import Derived.Test.YtfbkamgdkdnpoaaGreatDoorBits
import Derived.Test.YtfbkamgdkdnpoaaGreatDoorPrint1000
namespace Go.Proofs.YtfbkamgdkdnpoaaGreatDoor.Th
open Go.RowKit Go.Proofs.YtfbkamgdkdnpoaaGreatDoor.Print Go.Proofs.YtfbkamgdkdnpoaaGreatDoorW.PrintWords Go.Proofs.YtfbkamgdkdnpoaaGreatDoorW.PrintLast Go.Proofs.YtfbkamgdkdnpoaaGreatDoorW.PrintMore Go.Proofs.YtfbkamgdkdnpoaaGreatDoor.Bits
set_option linter.unusedVariables false
set_option linter.unusedSimpArgs false
/-- A number of 128 bits. -/
def Big (x : Int) : Prop := -170141183460469231731687303715884105728 ≤ x ∧ x < 170141183460469231731687303715884105728
instance (x : Int) : Decidable (Big x) := inferInstanceAs (Decidable (_ ∧ _))
/-- A number of 64 bits, with a sign. -/
def Sm (x : Int) : Prop := -9223372036854775808 ≤ x ∧ x < 9223372036854775808
instance (x : Int) : Decidable (Sm x) := inferInstanceAs (Decidable (_ ∧ _))
theorem Sm.big {x : Int} (h : Sm x) : Big x := by unfold Sm at h; unfold Big; omega
/-- The answer: the number, or that it is none of 128 bits. -/
def told (z : Int) : Option (Int × Int × Bool) := if Big z then some (z / 18446744073709551616, z % 18446744073709551616, true) else some (0, 0, false)
theorem told_big {z : Int} (h : Big z) : told z = some (z / 18446744073709551616, z % 18446744073709551616, true) := if_pos h
theorem told_not {z : Int} (h : ¬ Big z) : told z = some (0, 0, false) := if_neg h
def ab (x : Int) : Int := if x < 0 then -x else x
theorem w64 (n : Int) : wrap64 n = (n + 9223372036854775808) % 18446744073709551616 - 9223372036854775808 := by unfold wrap64; rfl
theorem w_id {n : Int} (h0 : -9223372036854775808 ≤ n) (h1 : n < 9223372036854775808) : wrap64 n = n := by rw [w64]; omega
theorem u64w (n : Int) : IntKind.u64.wrap n = n % 18446744073709551616 := by
  simp [IntKind.wrap, IntKind.bits, IntKind.signed]
theorem addLo_eq {a b c : Int} (ha : 0 ≤ a) (hb : 0 ≤ b) (hc : 0 ≤ c) : addLo a b c = (a + b + c) % 18446744073709551616 := by unfold addLo; omega
theorem addHi_eq {a b c : Int} (ha : 0 ≤ a) (hb : 0 ≤ b) (hc : 0 ≤ c) : addHi a b c = (a + b + c) / 18446744073709551616 := by unfold addHi; omega
theorem subLo_eq {a b c : Int} (ha : 0 ≤ a) (hb : 0 ≤ b) (hb2 : b < 18446744073709551616) (hc : 0 ≤ c) (hc1 : c ≤ 1) : subLo a b c = (a - b - c) % 18446744073709551616 := by unfold subLo; omega
theorem subHi_eq {a b c : Int} (ha : 0 ≤ a) (hb : 0 ≤ b) (hc : 0 ≤ c) : subHi a b c = if a < b + c then 1 else 0 := by
  unfold subHi
  by_cases h : a < b + c
  · rw [if_pos h, if_pos (by omega)]; rfl
  · rw [if_neg h, if_neg (by omega)]; rfl
theorem u64_id {n : Int} (h : 0 ≤ n) (h' : n < 18446744073709551616) : IntKind.u64.wrap n = n := by rw [u64w]; omega
theorem mul_below {a b c d : Int} (ha : 0 ≤ a) (hac : a ≤ c) (hb : 0 ≤ b) (hbd : b ≤ d) : 0 ≤ a * b ∧ a * b ≤ c * d :=
  ⟨Int.mul_nonneg ha hb, Int.mul_le_mul hac hbd hb (by omega)⟩
theorem wf_u64 {n : Int} (h : (Lit.int .u64 n).wf = true) : 0 ≤ n ∧ n < 18446744073709551616 := by
  simp [Lit.wf, IntKind.min, IntKind.max, IntKind.bits, IntKind.signed] at h
  omega
theorem wf_i64 {n : Int} (h : (Lit.int .i64 n).wf = true) : Sm n := by
  simp [Lit.wf, IntKind.min, IntKind.max, IntKind.bits, IntKind.signed] at h
  unfold Sm; omega
theorem wf_u32 {n : Int} (h : (Lit.int .u32 n).wf = true) : 0 ≤ n ∧ n < 4294967296 := by
  simp [Lit.wf, IntKind.min, IntKind.max, IntKind.bits, IntKind.signed] at h
  omega
theorem Sm_wrap (x : Int) : Sm (wrap64 x) := by unfold Sm; rw [w64]; omega
end Go.Proofs.YtfbkamgdkdnpoaaGreatDoor.Th
