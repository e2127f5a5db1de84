/- The document's number of a wide one, and whether a number is a wide one, in whole numbers. -/
import Derived.Test.YtimgiiceipjpaaaThMul
import Derived.Test.YtimgiiceipjpaaaPrint1005
namespace Go.Proofs.Ytimgiiceipjpaaa.Th
open Go.RowKit Go.Proofs.Ytimgiiceipjpaaa.Print Go.Proofs.YtimgiiceipjpaaaW.PrintWords Go.Proofs.YtimgiiceipjpaaaW.PrintLast Go.Proofs.YtimgiiceipjpaaaW.PrintMore Go.Proofs.Ytimgiiceipjpaaa.Bits
set_option linter.unusedVariables false
set_option linter.unusedSimpArgs false
theorem Big.sz {x : Int} (h : Big x) : Sz x := by unfold Big at h; unfold Sz; omega
theorem bpow127 {k : Nat} (hk : 400 ≤ k) : turnstoneref01_Power.f k 127 = some (bn 170141183460469231731687303715884105728, bl 170141183460469231731687303715884105728) := by rw [← pow127]; exact bpow 127 (by omega) hk
theorem wide_eq {h l : Int} (hh : Sm h) (l0 : 0 ≤ l) (l1 : l < 18446744073709551616) {k : Nat} (hk : 2300 ≤ k) :
    turnstoneref01_Wide.f k h l = some (bn (h * 18446744073709551616 + l), bl (h * 18446744073709551616 + l)) := by
  unfold turnstoneref01_Wide.f
  have k1 : 100 ≤ k := by omega
  have k3 : 2000 ≤ k := by omega
  have z : Sz 4294967296 := by unfold Sz; decide
  have z2 : Sz 18446744073709551616 := by unfold Sz; decide
  have e2 : (4294967296 : Int) * 4294967296 = 18446744073709551616 := by decide
  have sh : Sz h := by unfold Sm at hh; unfold Sz; omega
  have sl : Sz l := by unfold Sz; omega
  have sp : Sz (h * 18446744073709551616) := by unfold Sm at hh; unfold Sz; omega
  rw [bU (by decide) (by decide) k1, Option.bind_some, Option.bind_some, bmul z z k3, Option.bind_some, bN hh k1, Option.bind_some, e2, bmul sh z2 k3, Option.bind_some, bU l0 l1 k1, Option.bind_some, badd sp sl k1, Option.bind_some]
theorem ofw_eq {x : Int} (hx : Big x) {k : Nat} (hk : 2300 ≤ k) : turnstonelaw01_Of.f k (x / 18446744073709551616) (x % 18446744073709551616) = some (bn x, bl x) := by
  unfold turnstonelaw01_Of.f
  have h : Sm (x / 18446744073709551616) := by unfold Big at hx; unfold Sm; omega
  have l0 : 0 ≤ x % 18446744073709551616 := by omega
  have l1 : x % 18446744073709551616 < 18446744073709551616 := by omega
  have e : x / 18446744073709551616 * 18446744073709551616 + x % 18446744073709551616 = x := by omega
  rw [wide_eq h l0 l1 hk, e, Option.bind_some]
end Go.Proofs.Ytimgiiceipjpaaa.Th
