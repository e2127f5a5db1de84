/- How many bits a number of 64 bits has; and the machine's own sum and difference of 64 bits with a carry, as laws that a walk uses: what a call of Add64 or Sub64 answers. For numbers of the kind uint64; the carry that is handed in is at most 1. -/
import Derived.Test.YtfbkamgdkdnpoaaGreatDoorProg
import Derived.Laws.Externs
import Derived.Lib.Strings
import Derived.Lib.Slices
import Derived.Lib.Small
import Derived.Lib.Walk
import Derived.Lib.BitFns
namespace Go.Proofs.YtfbkamgdkdnpoaaGreatDoor.Bits
/-- The sum's low 64 bits, and what is carried. -/
def addLo (a b c : Int) : Int := (((a.toNat + b.toNat + c.toNat) % 18446744073709551616 : Nat) : Int)
def addHi (a b c : Int) : Int := (((a.toNat + b.toNat + c.toNat) / 18446744073709551616 : Nat) : Int)
/-- The difference's low 64 bits, and what is borrowed. -/
def subLo (a b c : Int) : Int := (((a.toNat + 18446744073709551616 - b.toNat - c.toNat) % 18446744073709551616 : Nat) : Int)
def subHi (a b c : Int) : Int := ((if a.toNat < b.toNat + c.toNat then 1 else 0 : Nat) : Int)
def sub64Row : Array Value → Sem Value := fun args => do
  let (x, y, b) ← Extern.MathBitsCarry.three "Sub64" args
  pure (Extern.MathBitsCarry.pair ((x + Extern.MathBitsCarry.m64 - y - b) % Extern.MathBitsCarry.m64) (if x < y + b then 1 else 0))
theorem small_cases (c : Int) (hc : c ≤ 1) : c = Int.ofNat 0 ∨ c = Int.ofNat 1 ∨ ∃ n, c = Int.negSucc n := by
  cases c with
  | ofNat n => match n, hc with
    | 0, _ => exact .inl rfl
    | 1, _ => exact .inr (.inl rfl)
    | n + 2, h => exact absurd h (by simp only [Int.ofNat_eq_natCast]; omega)
  | negSucc n => exact .inr (.inr ⟨n, rfl⟩)
theorem add64_run (a b c : Int) (hc : decide (c ≤ 1) = true) (w : World) :
    (callFunc 80 #[.int .u64 a, .int .u64 b, .int .u64 c]).run Tryz.prog w = .ok (.value (.tuple #[.int .u64 (addLo a b c), .int .u64 (addHi a b c)])) w := by
  rw [run_callFunc_extern Tryz.func80 (by kernel_rfl) (by kernel_rfl) (by kernel_rfl) (e := add64Entry) (by kernel_rfl)]
  rcases small_cases c (of_decide_eq_true hc) with rfl | rfl | ⟨n, rfl⟩ <;> rfl
theorem sub64_run (a b c : Int) (hc : decide (c ≤ 1) = true) (w : World) :
    (callFunc 60 #[.int .u64 a, .int .u64 b, .int .u64 c]).run Tryz.prog w = .ok (.value (.tuple #[.int .u64 (subLo a b c), .int .u64 (subHi a b c)])) w := by
  rw [run_callFunc_extern Tryz.func60 (by kernel_rfl) (by kernel_rfl) (by kernel_rfl) (e := sub64Row) (by kernel_rfl)]
  rcases small_cases c (of_decide_eq_true hc) with rfl | rfl | ⟨n, rfl⟩ <;> rfl
theorem add64_run0 (a b : Int) (w : World) :
    (callFunc 80 #[.int .u64 a, .int .u64 b, .int .u64 0]).run Tryz.prog w = .ok (.value (.tuple #[.int .u64 (addLo a b 0), .int .u64 (addHi a b 0)])) w := add64_run a b 0 rfl w
theorem sub64_run0 (a b : Int) (w : World) :
    (callFunc 60 #[.int .u64 a, .int .u64 b, .int .u64 0]).run Tryz.prog w = .ok (.value (.tuple #[.int .u64 (subLo a b 0), .int .u64 (subHi a b 0)])) w := sub64_run a b 0 rfl w
set_option maxHeartbeats 4000000 in
set_option maxRecDepth 100000 in
theorem len64_calls (x : Int) (w : World) (h0 : 0 ≤ x) (h1 : x ≤ 18446744073709551615) :
    Calls Tryz.prog 97 #[.int .u64 x] w fun e w' => e = .returned (.int .i64 (Lib.bitLen x.toNat)) ∧ w' = w := by
  go_enter Tryz.func97, Tryz.ntmps97
  go_wp2
  all_goals (go_ret; refine ⟨congrArg Ending.returned (congrArg (Value.int IntKind.i64) ?_), rfl⟩)
  all_goals first
    | (rw [Lib.len8_of (x / 4294967296 / 65536 / 256 % 256) (by omega) (by omega)]
       have e : (x / 4294967296 / 65536 / 256 % 256).toNat = x.toNat / 72057594037927936 := by omega
       have l := Lib.bitLen_le8' (x / 4294967296 / 65536 / 256 % 256) (by omega) (by omega)
       have s := Lib.bitLen_shift56 x.toNat (by omega) (by omega)
       rw [e] at l ⊢
       omega)
    | (rw [Lib.len8_of (x / 4294967296 / 65536 % 256) (by omega) (by omega)]
       have e : (x / 4294967296 / 65536 % 256).toNat = x.toNat / 281474976710656 := by omega
       have l := Lib.bitLen_le8' (x / 4294967296 / 65536 % 256) (by omega) (by omega)
       have s := Lib.bitLen_shift48 x.toNat (by omega) (by omega)
       rw [e] at l ⊢
       omega)
    | (rw [Lib.len8_of (x / 4294967296 / 256 % 256) (by omega) (by omega)]
       have e : (x / 4294967296 / 256 % 256).toNat = x.toNat / 1099511627776 := by omega
       have l := Lib.bitLen_le8' (x / 4294967296 / 256 % 256) (by omega) (by omega)
       have s := Lib.bitLen_shift40 x.toNat (by omega) (by omega)
       rw [e] at l ⊢
       omega)
    | (rw [Lib.len8_of (x / 4294967296 % 256) (by omega) (by omega)]
       have e : (x / 4294967296 % 256).toNat = x.toNat / 4294967296 := by omega
       have l := Lib.bitLen_le8' (x / 4294967296 % 256) (by omega) (by omega)
       have s := Lib.bitLen_shift32 x.toNat (by omega) (by omega)
       rw [e] at l ⊢
       omega)
    | (rw [Lib.len8_of (x / 65536 / 256 % 256) (by omega) (by omega)]
       have e : (x / 65536 / 256 % 256).toNat = x.toNat / 16777216 := by omega
       have l := Lib.bitLen_le8' (x / 65536 / 256 % 256) (by omega) (by omega)
       have s := Lib.bitLen_shift24 x.toNat (by omega) (by omega)
       rw [e] at l ⊢
       omega)
    | (rw [Lib.len8_of (x / 65536 % 256) (by omega) (by omega)]
       have e : (x / 65536 % 256).toNat = x.toNat / 65536 := by omega
       have l := Lib.bitLen_le8' (x / 65536 % 256) (by omega) (by omega)
       have s := Lib.bitLen_shift16 x.toNat (by omega) (by omega)
       rw [e] at l ⊢
       omega)
    | (rw [Lib.len8_of (x / 256 % 256) (by omega) (by omega)]
       have e : (x / 256 % 256).toNat = x.toNat / 256 := by omega
       have l := Lib.bitLen_le8' (x / 256 % 256) (by omega) (by omega)
       have s := Lib.bitLen_shift8 x.toNat (by omega) (by omega)
       rw [e] at l ⊢
       omega)
    | (rw [Lib.len8_of (x % 256) (by omega) (by omega)]
       have e : (x % 256).toNat = x.toNat := by omega
       have l := Lib.bitLen_le8' (x % 256) (by omega) (by omega)
       rw [e] at l ⊢
       omega)
end Go.Proofs.YtfbkamgdkdnpoaaGreatDoor.Bits
