/- What is told of each function: what holds between what it takes and what it yields. -/
import Derived.Test.YtpccjjfcklplaaaGreatDoorSyTree
import Derived.Test.YtpccjjfcklplaaaGreatDoorProg
import Derived.Laws.Externs
import Derived.Lib.BitFns
import Derived.Test.YtpccjjfcklplaaaGreatDoorWords
import Derived.Test.YtpccjjfcklplaaaGreatDoorWords2
import Derived.Test.YtpccjjfcklplaaaGreatDoorWords3
import Derived.Test.YtpccjjfcklplaaaGreatDoorWords4
namespace Go.Proofs.YtpccjjfcklplaaaGreatDoor.Fn
open Go Go.RowKit Go.Proofs.YtpccjjfcklplaaaGreatDoor.Sy
set_option linter.unusedVariables false
/-- turnstone/pos.weight -/
def R88 : List DV → List DV → Prop
  | [.num w], [.tru ok] => (ok = true ↔ 1 ≤ w ∧ w ≤ 1048576)
  | _, _ => False
def C88 : Con := ⟨88, [(.one (.int .u32))], (.p (.one .bool)), true, true⟩
/-- (turnstone/pos.Pos).Right -/
def R40 : List DV → List DV → Prop
  | [.num t, .num r, .num w], [.tru ok] => (ok = true ↔ 1 ≤ w ∧ w ≤ 1048576 ∧ r < w)
  | _, _ => False
def C40 : Con := ⟨40, [(.agg [.int .u64, .int .u32, .int .u32])], (.p (.one .bool)), true, true⟩
/-- math/bits.Add64 -/
def R115 : List DV → List DV → Prop
  | [.num a, .num b, .num c], [.num lo, .num hi] => (lo = (a + b + c) % 18446744073709551616 ∧ hi = (a + b + c) / 18446744073709551616)
  | _, _ => False
def Q115 : List DV → Prop
  | [.num a, .num b, .num c] => U64 a ∧ U64 b ∧ 0 ≤ c ∧ c ≤ 1
  | _ => False
def C115 : Con := ⟨115, [(.one (.int .u64)), (.one (.int .u64)), (.one (.int .u64))], (.tup [(.one (.int .u64)), (.one (.int .u64))]), false, true⟩
/-- math/bits.Sub64 -/
def R89 : List DV → List DV → Prop
  | [.num a, .num b, .num c], [.num lo, .num hi] => (lo = (a - b - c) % 18446744073709551616 ∧ (a < b + c → hi = 1) ∧ (b + c ≤ a → hi = 0))
  | _, _ => False
def Q89 : List DV → Prop
  | [.num a, .num b, .num c] => U64 a ∧ U64 b ∧ 0 ≤ c ∧ c ≤ 1
  | _ => False
def C89 : Con := ⟨89, [(.one (.int .u64)), (.one (.int .u64)), (.one (.int .u64))], (.tup [(.one (.int .u64)), (.one (.int .u64))]), false, true⟩
/-- turnstone/wide.OfU -/
def R90 : List DV → List DV → Prop
  | [.num x], [.num h, .num l] => (h = 0 ∧ l = x)
  | _, _ => False
def C90 : Con := ⟨90, [(.one (.int .u64))], (.p (.agg [.int .i64, .int .u64])), true, true⟩
/-- turnstone/wide.Of -/
def R45 : List DV → List DV → Prop
  | [.num x], [.num h, .num l] => (W h l ∧ wv h l = x)
  | _, _ => False
def Q45 : List DV → Prop
  | [.num x] => I64 x
  | _ => False
def C45 : Con := ⟨45, [(.one (.int .i64))], (.p (.agg [.int .i64, .int .u64])), false, true⟩
/-- (turnstone/wide.Int).flip -/
def R98 : List DV → List DV → Prop
  | [.num h, .num l], [.num g, .num m] => (W g m ∧ (h = -9223372036854775808 ∧ l = 0 → g = h ∧ m = l) ∧ (¬ (h = -9223372036854775808 ∧ l = 0) → wv g m = - wv h l))
  | _, _ => False
def Q98 : List DV → Prop
  | [.num h, .num l] => W h l
  | _ => False
def C98 : Con := ⟨98, [(.agg [.int .i64, .int .u64])], (.p (.agg [.int .i64, .int .u64])), false, true⟩
/-- (turnstone/wide.Int).Add -/
def R84 : List DV → List DV → Prop
  | [.num ah, .num al, .num bh, .num bl], [.num h, .num l, .tru ok] => (Told (wv ah al + wv bh bl) h l ok)
  | _, _ => False
def Q84 : List DV → Prop
  | [.num ah, .num al, .num bh, .num bl] => W ah al ∧ W bh bl
  | _ => False
def C84 : Con := ⟨84, [(.agg [.int .i64, .int .u64]), (.agg [.int .i64, .int .u64])], (.tup [(.agg [.int .i64, .int .u64]), (.one .bool)]), false, true⟩
/-- (turnstone/wide.Int).Sub -/
def R41 : List DV → List DV → Prop
  | [.num ah, .num al, .num bh, .num bl], [.num h, .num l, .tru ok] => (Told (wv ah al - wv bh bl) h l ok)
  | _, _ => False
def Q41 : List DV → Prop
  | [.num ah, .num al, .num bh, .num bl] => W ah al ∧ W bh bl
  | _ => False
def C41 : Con := ⟨41, [(.agg [.int .i64, .int .u64]), (.agg [.int .i64, .int .u64])], (.tup [(.agg [.int .i64, .int .u64]), (.one .bool)]), false, true⟩
/-- (turnstone/wide.Int).size -/
def R80 : List DV → List DV → Prop
  | [.num h, .num l], [.num u, .num v] => (U64 u ∧ U64 v ∧ (h < 0 → u * 18446744073709551616 + v = - wv h l) ∧ (0 ≤ h → u * 18446744073709551616 + v = wv h l))
  | _, _ => False
def Q80 : List DV → Prop
  | [.num h, .num l] => W h l
  | _ => False
def C80 : Con := ⟨80, [(.agg [.int .i64, .int .u64])], (.tup [(.one (.int .u64)), (.one (.int .u64))]), false, true⟩
/-- turnstone/wide.signed -/
def R124 : List DV → List DV → Prop
  | [.num hi, .num lo, .tru below], [.num h, .num l, .tru ok] => ((below = true → Told (-(hi * 18446744073709551616 + lo)) h l ok) ∧ (below = false → Told (hi * 18446744073709551616 + lo) h l ok))
  | _, _ => False
def Q124 : List DV → Prop
  | [.num hi, .num lo, .tru below] => U64 hi ∧ U64 lo
  | _ => False
def C124 : Con := ⟨124, [(.one (.int .u64)), (.one (.int .u64)), (.one .bool)], (.tup [(.agg [.int .i64, .int .u64]), (.one .bool)]), false, true⟩
/-- (turnstone/wide.Int).Small -/
def R77 : List DV → List DV → Prop
  | [.num h, .num l], [.num x, .tru ok] => (I64 x ∧ (ok = true → x = wv h l) ∧ (ok = false → x = 0 ∧ ¬ I64 (wv h l)))
  | _, _ => False
def Q77 : List DV → Prop
  | [.num h, .num l] => W h l
  | _ => False
def C77 : Con := ⟨77, [(.agg [.int .i64, .int .u64])], (.tup [(.one (.int .i64)), (.one .bool)]), false, true⟩
/-- math/bits.Len64 -/
def R147 : List DV → List DV → Prop
  | [.num x], [.num n] => (n = (Lib.bitLen x.toNat : Int))
  | _, _ => False
def Q147 : List DV → Prop
  | [.num x] => U64 x
  | _ => False
def C147 : Con := ⟨147, [(.one (.int .u64))], (.p (.one (.int .i64))), false, true⟩
/-- math/bits.LeadingZeros64 -/
def R120 : List DV → List DV → Prop
  | [.num x], [.num n] => (n = 64 - (Lib.bitLen x.toNat : Int))
  | _, _ => False
def Q120 : List DV → Prop
  | [.num x] => U64 x
  | _ => False
def C120 : Con := ⟨120, [(.one (.int .u64))], (.p (.one (.int .i64))), false, true⟩
/-- math/bits.Mul64 -/
def R123 : List DV → List DV → Prop
  | [.num x, .num y], [.num hi, .num lo] => (U64 hi ∧ U64 lo ∧ hi * 18446744073709551616 + lo = x * y)
  | _, _ => False
def Q123 : List DV → Prop
  | [.num x, .num y] => U64 x ∧ U64 y
  | _ => False
def C123 : Con := ⟨123, [(.one (.int .u64)), (.one (.int .u64))], (.tup [(.one (.int .u64)), (.one (.int .u64))]), false, true⟩
/-- (turnstone/wide.Int).Mul -/
def R91 : List DV → List DV → Prop
  | [.num h, .num l, .num b], [.num g, .num m, .tru ok] => (Told (wv h l * b) g m ok)
  | _, _ => False
def Q91 : List DV → Prop
  | [.num h, .num l, .num b] => W h l ∧ I64 b
  | _ => False
def C91 : Con := ⟨91, [(.agg [.int .i64, .int .u64]), (.one (.int .i64))], (.tup [(.agg [.int .i64, .int .u64]), (.one .bool)]), false, true⟩
/-- (turnstone/wide.Int).Cmp -/
def R97 : List DV → List DV → Prop
  | [.num ah, .num al, .num bh, .num bl], [.num c] => ((wv ah al < wv bh bl → c = -1) ∧ (wv ah al = wv bh bl → c = 0) ∧ (wv bh bl < wv ah al → c = 1))
  | _, _ => False
def Q97 : List DV → Prop
  | [.num ah, .num al, .num bh, .num bl] => W ah al ∧ W bh bl
  | _ => False
def C97 : Con := ⟨97, [(.agg [.int .i64, .int .u64]), (.agg [.int .i64, .int .u64])], (.p (.one (.int .i64))), false, true⟩
/-- (turnstone/wide.Int).Sign -/
def R48 : List DV → List DV → Prop
  | [.num h, .num l], [.num c] => ((wv h l < 0 → c = -1) ∧ (wv h l = 0 → c = 0) ∧ (0 < wv h l → c = 1))
  | _, _ => False
def Q48 : List DV → Prop
  | [.num h, .num l] => W h l
  | _ => False
def C48 : Con := ⟨48, [(.agg [.int .i64, .int .u64])], (.p (.one (.int .i64))), false, true⟩
/-- (turnstone/wide.Int).Neg -/
def R49 : List DV → List DV → Prop
  | [.num h, .num l], [.num g, .num m, .tru ok] => (Told (- wv h l) g m ok)
  | _, _ => False
def Q49 : List DV → Prop
  | [.num h, .num l] => W h l
  | _ => False
def C49 : Con := ⟨49, [(.agg [.int .i64, .int .u64])], (.tup [(.agg [.int .i64, .int .u64]), (.one .bool)]), false, true⟩
/-- math/bits.Div64 -/
def R81 : List DV → List DV → Prop
  | [.num hi, .num lo, .num y], [.num q, .num r] => (q = (hi * 18446744073709551616 + lo) / y ∧ r = (hi * 18446744073709551616 + lo) % y)
  | _, _ => False
def Q81 : List DV → Prop
  | [.num hi, .num lo, .num y] => U64 hi ∧ U64 lo ∧ U64 y ∧ hi < y
  | _ => False
def C81 : Con := ⟨81, [(.one (.int .u64)), (.one (.int .u64)), (.one (.int .u64))], (.tup [(.one (.int .u64)), (.one (.int .u64))]), false, true⟩
def R108117 : List DV → List DV → Prop
  | [.num a, .num b, .num u, .num v, .num q0, .num h0], [.num q, .num h] => (DInv a b u v q h)
  | _, _ => False
def M108117 : List DV → List DV → Nat
  | [.num a, .num b, .num u, .num v, .num q0, .num h0], [.num q, .num h] => ((4294967296 - h).toNat)
  | _, _ => 0
def L108117 : FuncId × LCon := (81, ⟨17, 108117, [⟨true, 15, 0, (.int .u64), .gone⟩, ⟨true, 16, 0, (.int .u64), .gone⟩], [(true, 9, 0), (true, 10, 0), (true, 11, 0), (true, 13, 0)]⟩)
def R108124 : List DV → List DV → Prop
  | [.num a, .num b, .num u, .num v, .num q0, .num h0], [.num q, .num h] => (DInv a b u v q h)
  | _, _ => False
def M108124 : List DV → List DV → Nat
  | [.num a, .num b, .num u, .num v, .num q0, .num h0], [.num q, .num h] => ((4294967296 - h).toNat)
  | _, _ => 0
def L108124 : FuncId × LCon := (81, ⟨24, 108124, [⟨true, 18, 0, (.int .u64), .gone⟩, ⟨true, 16, 0, (.int .u64), .gone⟩], [(true, 9, 0), (true, 10, 0), (true, 17, 0), (true, 14, 0)]⟩)
/-- (turnstone/wide.Int).Div -/
def R76 : List DV → List DV → Prop
  | [.num h, .num l, .num b], [.num g, .num m, .num r, .tru ok] => (W g m ∧ (ok = true ↔ b ≠ 0) ∧ (b = 0 → g = 0 ∧ m = 0 ∧ r = 0) ∧ (b ≠ 0 → wv g m = wv h l / b ∧ r = wv h l % b ∧ 0 ≤ r ∧ r < b))
  | _, _ => False
def Q76 : List DV → Prop
  | [.num h, .num l, .num b] => W h l ∧ U64 b
  | _ => False
def C76 : Con := ⟨76, [(.agg [.int .i64, .int .u64]), (.one (.int .u64))], (.tup [(.agg [.int .i64, .int .u64]), (.one (.int .u64)), (.one .bool)]), false, true⟩
/-- (turnstone/vtime.Time).Add -/
def R78 : List DV → List DV → Prop
  | [.num t, .num d], [.num r] => (r = (t + d) % 18446744073709551616)
  | _, _ => False
def C78 : Con := ⟨78, [(.one (.int .u64)), (.one (.int .i64))], (.p (.one (.int .u64))), true, true⟩
/-- (turnstone/vtime.Time).Since -/
def R92 : List DV → List DV → Prop
  | [.num t, .num u], [.num d] => (d = s64 (t - u))
  | _, _ => False
def C92 : Con := ⟨92, [(.one (.int .u64)), (.one (.int .u64))], (.p (.one (.int .i64))), true, true⟩
/-- (turnstone/pos.Pos).Shift -/
def R140 : List DV → List DV → Prop
  | [.num t, .num r, .num w, .num by_], [.num u, .num q, .num v] => (u = (t + by_) % 18446744073709551616 ∧ q = r ∧ v = w)
  | _, _ => False
def C140 : Con := ⟨140, [(.agg [.int .u64, .int .u32, .int .u32]), (.one (.int .u64))], (.p (.agg [.int .u64, .int .u32, .int .u32])), true, true⟩
/-- (turnstone/pos.Pos).Distance -/
def R42 : List DV → List DV → Prop
  | [.num t, .num r, .num w, .num base], [.num h, .num l] => (W h l ∧ wv h l = w * s64 (t - base) + r)
  | _, _ => False
def Q42 : List DV → Prop
  | [.num t, .num r, .num w, .num base] => U32 r ∧ U32 w
  | _ => False
def C42 : Con := ⟨42, [(.agg [.int .u64, .int .u32, .int .u32]), (.one (.int .u64))], (.p (.agg [.int .i64, .int .u64])), false, true⟩
/-- turnstone/pos.At -/
def R152 : List DV → List DV → Prop
  | [.num base, .num h, .num l, .num w], [.num t, .num r, .num v, .tru ok] => ((ok = true ↔ WT w ∧ I64 (wv h l / w)) ∧ (ok = true → t = (base + wv h l / w) % 18446744073709551616 ∧ r = wv h l % w ∧ 0 ≤ r ∧ r < w ∧ v = w) ∧ (ok = false → t = 0 ∧ r = 0 ∧ v = 0))
  | _, _ => False
def Q152 : List DV → Prop
  | [.num base, .num h, .num l, .num w] => W h l ∧ U32 w
  | _ => False
def C152 : Con := ⟨152, [(.one (.int .u64)), (.agg [.int .i64, .int .u64]), (.one (.int .u32))], (.tup [(.agg [.int .u64, .int .u32, .int .u32]), (.one .bool)]), false, true⟩
/-- (turnstone/pos.Pos).Move -/
def R191 : List DV → List DV → Prop
  | [.num t, .num r, .num w, .num g], [.num u, .num q, .num v, .tru ok] => ((ok = true ↔ WT w ∧ I64 ((g + r) / w)) ∧ (ok = true → u = (t + (g + r) / w) % 18446744073709551616 ∧ q = (g + r) % w ∧ 0 ≤ q ∧ q < w ∧ v = w) ∧ (ok = false → u = 0 ∧ q = 0 ∧ v = 0))
  | _, _ => False
def Q191 : List DV → Prop
  | [.num t, .num r, .num w, .num g] => U32 r ∧ U32 w ∧ U64 g
  | _ => False
def C191 : Con := ⟨191, [(.agg [.int .u64, .int .u32, .int .u32]), (.one (.int .u64))], (.tup [(.agg [.int .u64, .int .u32, .int .u32]), (.one .bool)]), false, true⟩
/-- (turnstone/pos.Pos).Cmp -/
def R161 : List DV → List DV → Prop
  | [.num t, .num r, .num w, .num u, .num q, .num v], [.num c] => ((0 < s64 (u - t) → c = -1) ∧ (s64 (u - t) < 0 → c = 1) ∧ (s64 (u - t) = 0 → (r * v < q * w → c = -1) ∧ (r * v = q * w → c = 0) ∧ (q * w < r * v → c = 1)))
  | _, _ => False
def Q161 : List DV → Prop
  | [.num t, .num r, .num w, .num u, .num q, .num v] => U32 r ∧ U32 w ∧ U32 q ∧ U32 v
  | _ => False
def C161 : Con := ⟨161, [(.agg [.int .u64, .int .u32, .int .u32]), (.agg [.int .u64, .int .u32, .int .u32])], (.p (.one (.int .i64))), false, true⟩
/-- (turnstone/mean.Mean).Right -/
def R39 : List DV → List DV → Prop
  | [.num b, .num h, .num l, .num w, .num n], [.tru ok] => (ok = true ↔ MR h l w n)
  | _, _ => False
def Q39 : List DV → Prop
  | [.num b, .num h, .num l, .num w, .num n] => I64 n ∧ U64 w
  | _ => False
def C39 : Con := ⟨39, [(.agg [.int .u64, .int .i64, .int .u64, .int .u64, .int .i64])], (.p (.one .bool)), false, true⟩
/-- (turnstone/mean.Mean).Add -/
def R37 : List DV → List DV → Prop
  | [.num b, .num h, .num l, .num w, .num n, .num t, .num r, .num v], [.num b2, .num h2, .num l2, .num w2, .num n2, .tru ok] => ((ok = true ↔ MR h l w n ∧ PR r v ∧ n < 32 ∧ Big (wv h l + (v * s64 (t - b) + r))) ∧ (ok = true → b2 = b ∧ W h2 l2 ∧ wv h2 l2 = wv h l + (v * s64 (t - b) + r) ∧ w2 = w + v ∧ n2 = n + 1) ∧ (ok = false → b2 = 0 ∧ h2 = 0 ∧ l2 = 0 ∧ w2 = 0 ∧ n2 = 0))
  | _, _ => False
def Q37 : List DV → Prop
  | [.num b, .num h, .num l, .num w, .num n, .num t, .num r, .num v] => W h l ∧ U64 w ∧ I64 n ∧ U32 r ∧ U32 v
  | _ => False
def C37 : Con := ⟨37, [(.agg [.int .u64, .int .i64, .int .u64, .int .u64, .int .i64]), (.agg [.int .u64, .int .u32, .int .u32])], (.tup [(.agg [.int .u64, .int .i64, .int .u64, .int .u64, .int .i64]), (.one .bool)]), false, true⟩
/-- (turnstone/mean.Mean).Take -/
def R13 : List DV → List DV → Prop
  | [.num b, .num h, .num l, .num w, .num n, .num t, .num r, .num v], [.num b2, .num h2, .num l2, .num w2, .num n2, .tru ok] => ((ok = true → MR h l w n ∧ PR r v ∧ 0 < n ∧ v ≤ w ∧ b2 = b ∧ W h2 l2 ∧ wv h2 l2 = wv h l - (v * s64 (t - b) + r) ∧ w2 = w - v ∧ n2 = n - 1 ∧ MR h2 l2 w2 n2) ∧ (ok = false → b2 = 0 ∧ h2 = 0 ∧ l2 = 0 ∧ w2 = 0 ∧ n2 = 0) ∧ (ok = true ↔ MR h l w n ∧ PR r v ∧ 0 < n ∧ v ≤ w ∧ Big (wv h l - (v * s64 (t - b) + r)) ∧ ((n = 1 ∧ w = v ∧ wv h l = v * s64 (t - b) + r) ∨ (1 < n ∧ n - 1 ≤ w - v ∧ w - v ≤ (n - 1) * 1048576))))
  | _, _ => False
def Q13 : List DV → Prop
  | [.num b, .num h, .num l, .num w, .num n, .num t, .num r, .num v] => W h l ∧ U64 w ∧ I64 n ∧ U32 r ∧ U32 v
  | _ => False
def C13 : Con := ⟨13, [(.agg [.int .u64, .int .i64, .int .u64, .int .u64, .int .i64]), (.agg [.int .u64, .int .u32, .int .u32])], (.tup [(.agg [.int .u64, .int .i64, .int .u64, .int .u64, .int .i64]), (.one .bool)]), false, true⟩
/-- (turnstone/mean.Mean).Rebase -/
def R134 : List DV → List DV → Prop
  | [.num b, .num h, .num l, .num w, .num n, .num t], [.num b2, .num h2, .num l2, .num w2, .num n2, .tru ok] => ((ok = true ↔ MR h l w n ∧ Big (wv h l - w * s64 (t - b))) ∧ (ok = true → b2 = t ∧ W h2 l2 ∧ wv h2 l2 = wv h l - w * s64 (t - b) ∧ w2 = w ∧ n2 = n) ∧ (ok = false → b2 = 0 ∧ h2 = 0 ∧ l2 = 0 ∧ w2 = 0 ∧ n2 = 0))
  | _, _ => False
def Q134 : List DV → Prop
  | [.num b, .num h, .num l, .num w, .num n, .num t] => W h l ∧ U64 w ∧ I64 n
  | _ => False
def C134 : Con := ⟨134, [(.agg [.int .u64, .int .i64, .int .u64, .int .u64, .int .i64]), (.one (.int .u64))], (.tup [(.agg [.int .u64, .int .i64, .int .u64, .int .u64, .int .i64]), (.one .bool)]), false, true⟩
/-- (turnstone/mean.Mean).Floor -/
def R34 : List DV → List DV → Prop
  | [.num b, .num h, .num l, .num w, .num n], [.num t, .tru ok] => ((ok = true ↔ MR h l w n ∧ 0 < n ∧ I64 (wv h l / w)) ∧ (ok = true → t = (b + wv h l / w) % 18446744073709551616) ∧ (ok = false → t = 0))
  | _, _ => False
def Q34 : List DV → Prop
  | [.num b, .num h, .num l, .num w, .num n] => W h l ∧ U64 w ∧ I64 n
  | _ => False
def C34 : Con := ⟨34, [(.agg [.int .u64, .int .i64, .int .u64, .int .u64, .int .i64])], (.tup [(.one (.int .u64)), (.one .bool)]), false, true⟩
/-- turnstone/lag.over -/
def R106 : List DV → List DV → Prop
  | [.num b, .num h, .num l, .num w, .num n, .num t, .num r, .num v], [.num g, .num m, .tru ok] => (W g m ∧ (ok = true ↔ MR h l w n ∧ 0 < n ∧ PR r v ∧ Big (wv h l * v) ∧ Big ((v * s64 (t - b) + r) * w) ∧ Big (wv h l * v - (v * s64 (t - b) + r) * w)) ∧ (ok = true → wv g m = wv h l * v - (v * s64 (t - b) + r) * w) ∧ (ok = false → g = 0 ∧ m = 0))
  | _, _ => False
def Q106 : List DV → Prop
  | [.num b, .num h, .num l, .num w, .num n, .num t, .num r, .num v] => W h l ∧ U64 w ∧ I64 n ∧ U32 r ∧ U32 v
  | _ => False
def C106 : Con := ⟨106, [(.agg [.int .u64, .int .i64, .int .u64, .int .u64, .int .i64]), (.agg [.int .u64, .int .u32, .int .u32])], (.tup [(.agg [.int .i64, .int .u64]), (.one .bool)]), false, true⟩
/-- turnstone/lag.Sign -/
def R60 : List DV → List DV → Prop
  | [.num b, .num h, .num l, .num w, .num n, .num t, .num r, .num v], [.num c, .tru ok] => ((ok = true ↔ MR h l w n ∧ 0 < n ∧ PR r v ∧ Big (wv h l * v) ∧ Big ((v * s64 (t - b) + r) * w) ∧ Big (wv h l * v - (v * s64 (t - b) + r) * w)) ∧ (ok = false → c = 0) ∧ (ok = true → (wv h l * v < (v * s64 (t - b) + r) * w → c = -1) ∧ (wv h l * v = (v * s64 (t - b) + r) * w → c = 0) ∧ ((v * s64 (t - b) + r) * w < wv h l * v → c = 1)))
  | _, _ => False
def Q60 : List DV → Prop
  | [.num b, .num h, .num l, .num w, .num n, .num t, .num r, .num v] => W h l ∧ U64 w ∧ I64 n ∧ U32 r ∧ U32 v
  | _ => False
def C60 : Con := ⟨60, [(.agg [.int .u64, .int .i64, .int .u64, .int .u64, .int .i64]), (.agg [.int .u64, .int .u32, .int .u32])], (.tup [(.one (.int .i64)), (.one .bool)]), false, true⟩
/-- turnstone/lag.Eligible -/
def R63 : List DV → List DV → Prop
  | [.num b, .num h, .num l, .num w, .num n, .num t, .num r, .num v], [.tru ok] => (ok = true ↔ MR h l w n ∧ 0 < n ∧ PR r v ∧ Big (wv h l * v) ∧ Big ((v * s64 (t - b) + r) * w) ∧ Big (wv h l * v - (v * s64 (t - b) + r) * w) ∧ (v * s64 (t - b) + r) * w ≤ wv h l * v)
  | _, _ => False
def Q63 : List DV → Prop
  | [.num b, .num h, .num l, .num w, .num n, .num t, .num r, .num v] => W h l ∧ U64 w ∧ I64 n ∧ U32 r ∧ U32 v
  | _ => False
def C63 : Con := ⟨63, [(.agg [.int .u64, .int .i64, .int .u64, .int .u64, .int .i64]), (.agg [.int .u64, .int .u32, .int .u32])], (.p (.one .bool)), false, true⟩
/-- turnstone/lag.Read -/
def R59 : List DV → List DV → Prop
  | [.num b, .num h, .num l, .num w, .num n, .num t, .num r, .num v], [.num g, .num m, .tru ok] => (W g m ∧ (ok = true ↔ MR h l w n ∧ 0 < n ∧ PR r v ∧ Big (wv h l * v) ∧ Big ((v * s64 (t - b) + r) * w) ∧ Big (wv h l * v - (v * s64 (t - b) + r) * w)) ∧ (ok = true → wv g m = (wv h l * v - (v * s64 (t - b) + r) * w) / w) ∧ (ok = false → g = 0 ∧ m = 0))
  | _, _ => False
def Q59 : List DV → Prop
  | [.num b, .num h, .num l, .num w, .num n, .num t, .num r, .num v] => W h l ∧ U64 w ∧ I64 n ∧ U32 r ∧ U32 v
  | _ => False
def C59 : Con := ⟨59, [(.agg [.int .u64, .int .i64, .int .u64, .int .u64, .int .i64]), (.agg [.int .u64, .int .u32, .int .u32])], (.tup [(.agg [.int .i64, .int .u64]), (.one .bool)]), false, true⟩
/-- turnstone/weigh.Weigh -/
def R125 : List DV → List DV → Prop
  | [.num b, .num h, .num l, .num w, .num n, .num t, .num r, .num v, .num x], [.num u, .num q, .num y, .tru ok] => ((ok = true ↔ MR h l w n ∧ 0 < n ∧ PR r v ∧ WT x ∧ Big (wv h l * (x - v)) ∧ Big (v * s64 (t - b) + r + wv h l * (x - v) / w) ∧ I64 ((v * s64 (t - b) + r + wv h l * (x - v) / w) / x)) ∧ (ok = true → u = (b + (v * s64 (t - b) + r + wv h l * (x - v) / w) / x) % 18446744073709551616 ∧ q = (v * s64 (t - b) + r + wv h l * (x - v) / w) % x ∧ 0 ≤ q ∧ q < x ∧ y = x) ∧ (ok = false → u = 0 ∧ q = 0 ∧ y = 0))
  | _, _ => False
def Q125 : List DV → Prop
  | [.num b, .num h, .num l, .num w, .num n, .num t, .num r, .num v, .num x] => W h l ∧ U64 w ∧ I64 n ∧ U32 r ∧ U32 v ∧ U32 x
  | _ => False
def C125 : Con := ⟨125, [(.agg [.int .u64, .int .i64, .int .u64, .int .u64, .int .i64]), (.agg [.int .u64, .int .u32, .int .u32]), (.one (.int .u32))], (.tup [(.agg [.int .u64, .int .u32, .int .u32]), (.one .bool)]), false, true⟩
/-- turnstone/mean.Of -/
def R8 : List DV → List DV → Prop
  | [.num b, .lst xs], [.num b2, .num h, .num l, .num w, .num n, .tru ok] => ((ok = true ↔ xs.length ≤ 32 ∧ AP xs xs.length) ∧ (ok = true → b2 = b ∧ W h l ∧ wv h l = SA b xs xs.length ∧ w = SW xs xs.length ∧ n = xs.length) ∧ (ok = false → b2 = 0 ∧ h = 0 ∧ l = 0 ∧ w = 0 ∧ n = 0))
  | _, _ => False
def Q8 : List DV → Prop
  | [.num b, .lst xs] => RK xs
  | _ => False
def C8 : Con := ⟨8, [(.one (.int .u64)), (.one (.list [.int .u64, .int .u32, .int .u32]))], (.tup [(.agg [.int .u64, .int .i64, .int .u64, .int .u64, .int .i64]), (.one .bool)]), false, true⟩
def R100803 : List DV → List DV → Prop
  | [.num b, .lst xs, .num i0, .num b10, .num h0, .num l0, .num w0, .num n0], [.num i, .num b1, .num h, .num l, .num w, .num n] => (0 ≤ i ∧ i ≤ xs.length ∧ i ≤ 32 ∧ b1 = b ∧ W h l ∧ n = i ∧ w = SW xs i.toNat ∧ wv h l = SA b xs i.toNat ∧ AP xs i.toNat)
  | _, _ => False
def M100803 : List DV → List DV → Nat
  | [.num b, .lst xs, .num i0, .num b10, .num h0, .num l0, .num w0, .num n0], [.num i, .num b1, .num h, .num l, .num w, .num n] => ((xs.length - i).toNat)
  | _, _ => 0
def L100803 : FuncId × LCon := (8, ⟨3, 100803, [⟨true, 15, 0, (.int .i64), .gone⟩, ⟨false, 4, 0, (.int .u64), .gone⟩, ⟨false, 4, 1, (.int .i64), .gone⟩, ⟨false, 4, 2, (.int .u64), .gone⟩, ⟨false, 4, 3, (.int .u64), .gone⟩, ⟨false, 4, 4, (.int .i64), .gone⟩], [(true, 0, 0), (true, 1, 0)]⟩)
/-- turnstone/turnstoneref01.digit -/
def R127 : List DV → List DV → Prop
  | [.tru n, .lst l, .num i], [.num d] => (d = Sy.rowAt l i 0)
  | _, _ => False
def Q127 : List DV → Prop
  | [.tru n, .lst l, .num i] => 0 ≤ i
  | _ => False
def C127 : Con := ⟨127, [(.agg [.bool, .list [.int .i64]]), (.one (.int .i64))], (.p (.one (.int .i64))), false, true⟩
/-- turnstone/turnstoneref01.larger -/
def R102 : List DV → List DV → Prop
  | [.tru an, .lst al, .tru bn, .lst bl], [.num c] => ((dval al < dval bl → c = -1) ∧ (dval al = dval bl → c = 0) ∧ (dval bl < dval al → c = 1))
  | _, _ => False
def Q102 : List DV → Prop
  | [.tru an, .lst al, .tru bn, .lst bl] => dig al ∧ dig bl ∧ al.length ≤ 1000 ∧ bl.length ≤ 1000
  | _ => False
def C102 : Con := ⟨102, [(.agg [.bool, .list [.int .i64]]), (.agg [.bool, .list [.int .i64]])], (.p (.one (.int .i64))), false, true⟩
def R110202 : List DV → List DV → Prop
  | [.lst al, .lst bl, .num i0], [.num i] => (-1 ≤ i ∧ i ≤ 1000 ∧ dval (al.drop (i + 1).toNat) = dval (bl.drop (i + 1).toNat))
  | _, _ => False
def M110202 : List DV → List DV → Nat
  | [.lst al, .lst bl, .num i0], [.num i] => ((i + 1).toNat)
  | _, _ => 0
def L110202 : FuncId × LCon := (102, ⟨2, 110202, [⟨true, 5, 0, (.int .i64), .gone⟩], [(false, 0, 1), (false, 1, 1)]⟩)
/-- turnstone/turnstoneref01.plus -/
def R101 : List DV → List DV → Prop
  | [.tru an, .lst al, .tru bn, .lst bl], [.lst l] => (dig l ∧ dval l = dval al + dval bl ∧ l.length ≤ 2000)
  | _, _ => False
def Q101 : List DV → Prop
  | [.tru an, .lst al, .tru bn, .lst bl] => dig al ∧ dig bl ∧ al.length ≤ 1000 ∧ bl.length ≤ 1000
  | _ => False
def C101 : Con := ⟨101, [(.agg [.bool, .list [.int .i64]]), (.agg [.bool, .list [.int .i64]])], (.p (.one (.list [.int .i64]))), false, true⟩
def R110104 : List DV → List DV → Prop
  | [.lst al, .lst bl, .lst o0, .num c0, .num i0], [.lst o, .num c, .num i] => (0 ≤ i ∧ o.length = i ∧ dig o ∧ 0 ≤ c ∧ c ≤ 1 ∧ (i ≤ al.length ∨ i ≤ bl.length ∨ c = 0 ∧ (i ≤ al.length + 1 ∨ i ≤ bl.length + 1)) ∧ dval o + P4 i.toNat * (c + dval (al.drop i.toNat) + dval (bl.drop i.toNat)) = dval al + dval bl)
  | _, _ => False
def M110104 : List DV → List DV → Nat
  | [.lst al, .lst bl, .lst o0, .num c0, .num i0], [.lst o, .num c, .num i] => ((1002 - i).toNat)
  | _, _ => 0
def L110104 : FuncId × LCon := (101, ⟨4, 110104, [⟨true, 5, 0, (.list [.int .i64]), (.own [.int .i64] 3)⟩, ⟨true, 6, 0, (.int .i64), .gone⟩, ⟨true, 7, 0, (.int .i64), .gone⟩], [(false, 0, 1), (false, 1, 1)]⟩)
/-- turnstone/turnstoneref01.minus -/
def R103 : List DV → List DV → Prop
  | [.tru an, .lst al, .tru bn, .lst bl], [.lst l] => (dig l ∧ dval l = dval al - dval bl ∧ l.length ≤ 2000)
  | _, _ => False
def Q103 : List DV → Prop
  | [.tru an, .lst al, .tru bn, .lst bl] => dig al ∧ dig bl ∧ al.length ≤ 1000 ∧ bl.length ≤ 1000 ∧ dval bl ≤ dval al
  | _ => False
def C103 : Con := ⟨103, [(.agg [.bool, .list [.int .i64]]), (.agg [.bool, .list [.int .i64]])], (.p (.one (.list [.int .i64]))), false, true⟩
def R110304 : List DV → List DV → Prop
  | [.lst al, .lst bl, .lst o0, .num c0, .num i0], [.lst o, .num c, .num i] => (0 ≤ i ∧ i ≤ al.length ∧ o.length = i ∧ dig o ∧ 0 ≤ c ∧ c ≤ 1 ∧ dval o + P4 i.toNat * (dval (al.drop i.toNat) - dval (bl.drop i.toNat) - c) = dval al - dval bl)
  | _, _ => False
def M110304 : List DV → List DV → Nat
  | [.lst al, .lst bl, .lst o0, .num c0, .num i0], [.lst o, .num c, .num i] => ((al.length - i).toNat)
  | _, _ => 0
def L110304 : FuncId × LCon := (103, ⟨4, 110304, [⟨true, 5, 0, (.list [.int .i64]), (.own [.int .i64] 3)⟩, ⟨true, 6, 0, (.int .i64), .gone⟩, ⟨true, 7, 0, (.int .i64), .gone⟩], [(false, 0, 1), (false, 1, 1)]⟩)
/-- turnstone/turnstoneref01.trim -/
def R99 : List DV → List DV → Prop
  | [.tru n, .lst l], [.tru m, .lst k] => (BOK m k ∧ bval m k = bval n l)
  | _, _ => False
def Q99 : List DV → Prop
  | [.tru n, .lst l] => dig l ∧ l.length ≤ 3000
  | _ => False
def C99 : Con := ⟨99, [(.agg [.bool, .list [.int .i64]])], (.p (.agg [.bool, .list [.int .i64]])), false, false⟩
def R109901 : List DV → List DV → Prop
  | [.lst k0], [.lst k] => (dig k ∧ k.length ≤ 3000 ∧ dval k = dval k0)
  | _, _ => False
def M109901 : List DV → List DV → Nat
  | [.lst k0], [.lst k] => (k.length)
  | _, _ => 0
def L109901 : FuncId × LCon := (99, ⟨1, 109901, [⟨false, 0, 1, (.list [.int .i64]), (.rd [.int .i64] true)⟩], []⟩)
/-- turnstone/turnstoneref01.U -/
def R95 : List DV → List DV → Prop
  | [.num x], [.tru n, .lst l] => (BOK n l ∧ bval n l = x)
  | _, _ => False
def Q95 : List DV → Prop
  | [.num x] => U64 x
  | _ => False
def C95 : Con := ⟨95, [(.one (.int .u64))], (.p (.agg [.bool, .list [.int .i64]])), false, true⟩
def R109502 : List DV → List DV → Prop
  | [.num y0, .lst o0], [.num y, .lst o] => (0 ≤ y ∧ dig o ∧ dval o + P4 o.length * y = y0 + dval o0 ∧ (y = 0 → o.length ≠ 0 → Sy.rowAt o ((o.length : Int) - 1) 0 ≠ 0))
  | _, _ => False
def M109502 : List DV → List DV → Nat
  | [.num y0, .lst o0], [.num y, .lst o] => (y.toNat)
  | _, _ => 0
def L109502 : FuncId × LCon := (95, ⟨2, 109502, [⟨true, 0, 0, (.int .u64), .gone⟩, ⟨false, 1, 1, (.list [.int .i64]), (.own [.int .i64] 3)⟩], []⟩)
/-- turnstone/turnstoneref01.N -/
def R57 : List DV → List DV → Prop
  | [.num x], [.tru n, .lst l] => (BOK n l ∧ bval n l = x)
  | _, _ => False
def Q57 : List DV → Prop
  | [.num x] => I64 x
  | _ => False
def C57 : Con := ⟨57, [(.one (.int .i64))], (.p (.agg [.bool, .list [.int .i64]])), false, true⟩
/-- turnstone/turnstoneref01.Neg -/
def R52 : List DV → List DV → Prop
  | [.tru n, .lst l], [.tru m, .lst k] => (BOK m k ∧ bval m k = - bval n l)
  | _, _ => False
def Q52 : List DV → Prop
  | [.tru n, .lst l] => Bg n l
  | _ => False
def C52 : Con := ⟨52, [(.agg [.bool, .list [.int .i64]])], (.p (.agg [.bool, .list [.int .i64]])), false, false⟩
/-- turnstone/turnstoneref01.Add -/
def R56 : List DV → List DV → Prop
  | [.tru an, .lst al, .tru bn, .lst bl], [.tru n, .lst l] => (BOK n l ∧ bval n l = bval an al + bval bn bl)
  | _, _ => False
def Q56 : List DV → Prop
  | [.tru an, .lst al, .tru bn, .lst bl] => Bg an al ∧ Bg bn bl
  | _ => False
def C56 : Con := ⟨56, [(.agg [.bool, .list [.int .i64]]), (.agg [.bool, .list [.int .i64]])], (.p (.agg [.bool, .list [.int .i64]])), false, true⟩
/-- turnstone/turnstoneref01.Sub -/
def R96 : List DV → List DV → Prop
  | [.tru an, .lst al, .tru bn, .lst bl], [.tru n, .lst l] => (BOK n l ∧ bval n l = bval an al - bval bn bl)
  | _, _ => False
def Q96 : List DV → Prop
  | [.tru an, .lst al, .tru bn, .lst bl] => Bg an al ∧ Bg bn bl
  | _ => False
def C96 : Con := ⟨96, [(.agg [.bool, .list [.int .i64]]), (.agg [.bool, .list [.int .i64]])], (.p (.agg [.bool, .list [.int .i64]])), false, true⟩
/-- turnstone/turnstoneref01.Sign -/
def R51 : List DV → List DV → Prop
  | [.tru n, .lst l], [.num c] => ((bval n l < 0 → c = -1) ∧ (bval n l = 0 → c = 0) ∧ (0 < bval n l → c = 1))
  | _, _ => False
def Q51 : List DV → Prop
  | [.tru n, .lst l] => BOK n l
  | _ => False
def C51 : Con := ⟨51, [(.agg [.bool, .list [.int .i64]])], (.p (.one (.int .i64))), false, true⟩
/-- turnstone/turnstoneref01.Cmp -/
def R47 : List DV → List DV → Prop
  | [.tru an, .lst al, .tru bn, .lst bl], [.num c] => ((bval an al < bval bn bl → c = -1) ∧ (bval an al = bval bn bl → c = 0) ∧ (bval bn bl < bval an al → c = 1))
  | _, _ => False
def Q47 : List DV → Prop
  | [.tru an, .lst al, .tru bn, .lst bl] => Bg an al ∧ Bg bn bl
  | _ => False
def C47 : Con := ⟨47, [(.agg [.bool, .list [.int .i64]]), (.agg [.bool, .list [.int .i64]])], (.p (.one (.int .i64))), false, true⟩
/-- turnstone/turnstoneref01.Mul -/
def R94 : List DV → List DV → Prop
  | [.tru an, .lst al, .tru bn, .lst bl], [.tru n, .lst l] => (BOK n l ∧ bval n l = bval an al * bval bn bl)
  | _, _ => False
def Q94 : List DV → Prop
  | [.tru an, .lst al, .tru bn, .lst bl] => Bg an al ∧ Bg bn bl
  | _ => False
def C94 : Con := ⟨94, [(.agg [.bool, .list [.int .i64]]), (.agg [.bool, .list [.int .i64]])], (.p (.agg [.bool, .list [.int .i64]])), false, true⟩
def R109403 : List DV → List DV → Prop
  | [.lst al, .lst bl, .lst o0, .num i0], [.lst o, .num i] => (0 ≤ i ∧ i ≤ al.length ∧ o.length = al.length + bl.length + 1 ∧ dig o ∧ (∀ k : Nat, (i + bl.length : Int) ≤ k → Sy.rowAt o k 0 = 0) ∧ dval o + P4 i.toNat * (dval (al.drop i.toNat) * dval bl) = dval al * dval bl)
  | _, _ => False
def M109403 : List DV → List DV → Nat
  | [.lst al, .lst bl, .lst o0, .num i0], [.lst o, .num i] => ((al.length - i).toNat)
  | _, _ => 0
def L109403 : FuncId × LCon := (94, ⟨3, 109403, [⟨true, 5, 0, (.list [.int .i64]), (.own [.int .i64] 3)⟩, ⟨true, 23, 0, (.int .i64), .gone⟩], [(false, 0, 1), (false, 1, 1)]⟩)
def R109407 : List DV → List DV → Prop
  | [.lst bl, .num i, .num x, .lst o0, .num c0, .num k0], [.lst o, .num c, .num k] => (0 ≤ k ∧ 0 ≤ c ∧ c < 10000 ∧ o.length = o0.length ∧ dig o ∧ (k ≤ bl.length ∨ k ≤ bl.length + 1 ∧ c = 0) ∧ (∀ j : Nat, (i + k : Int) ≤ j → Sy.rowAt o j 0 = Sy.rowAt o0 j 0) ∧ dval o + P4 (i + k).toNat * (c + x * dval (bl.drop k.toNat)) = dval o0 + P4 i.toNat * (x * dval bl))
  | _, _ => False
def M109407 : List DV → List DV → Nat
  | [.lst bl, .num i, .num x, .lst o0, .num c0, .num k0], [.lst o, .num c, .num k] => ((bl.length + 1 - k).toNat)
  | _, _ => 0
def L109407 : FuncId × LCon := (94, ⟨7, 109407, [⟨true, 5, 0, (.list [.int .i64]), (.own [.int .i64] 3)⟩, ⟨true, 8, 0, (.int .i64), .gone⟩, ⟨true, 9, 0, (.int .i64), .gone⟩], [(false, 1, 1), (true, 6, 0), (true, 7, 0)]⟩)
/-- turnstone/turnstoneref01.Power -/
def R100 : List DV → List DV → Prop
  | [.num n], [.tru s, .lst l] => (BOK s l ∧ bval s l = 2 ^ n.toNat)
  | _, _ => False
def Q100 : List DV → Prop
  | [.num n] => 0 ≤ n ∧ n ≤ 200
  | _ => False
def C100 : Con := ⟨100, [(.one (.int .i64))], (.p (.agg [.bool, .list [.int .i64]])), false, true⟩
def R110003 : List DV → List DV → Prop
  | [.num n, .tru s0, .lst l0, .num k0], [.tru s, .lst l, .num k] => (0 ≤ k ∧ k ≤ n ∧ BOK s l ∧ bval s l = 2 ^ k.toNat)
  | _, _ => False
def M110003 : List DV → List DV → Nat
  | [.num n, .tru s0, .lst l0, .num k0], [.tru s, .lst l, .num k] => ((n - k).toNat)
  | _, _ => 0
def L110003 : FuncId × LCon := (100, ⟨3, 110003, [⟨false, 2, 0, .bool, .gone⟩, ⟨false, 2, 1, (.list [.int .i64]), (.rd [.int .i64] false)⟩, ⟨true, 4, 0, (.int .i64), .gone⟩], [(true, 0, 0)]⟩)
/-- turnstone/turnstoneref01.Wide -/
def R46 : List DV → List DV → Prop
  | [.num h, .num l], [.tru n, .lst d] => (BOK n d ∧ bval n d = wv h l)
  | _, _ => False
def Q46 : List DV → Prop
  | [.num h, .num l] => W h l
  | _ => False
def C46 : Con := ⟨46, [(.one (.int .i64)), (.one (.int .u64))], (.p (.agg [.bool, .list [.int .i64]])), false, true⟩
/-- turnstone/turnstoneref01.Is -/
def R53 : List DV → List DV → Prop
  | [.tru n, .lst l], [.tru ok] => (ok = true ↔ Bi (bval n l))
  | _, _ => False
def Q53 : List DV → Prop
  | [.tru n, .lst l] => Bg n l
  | _ => False
def C53 : Con := ⟨53, [(.agg [.bool, .list [.int .i64]])], (.p (.one .bool)), false, true⟩
/-- turnstone/turnstoneref03.Since -/
def R122 : List DV → List DV → Prop
  | [.num t, .num u], [.tru n, .lst l] => (BOK n l ∧ bval n l = s64 (t - u))
  | _, _ => False
def Q122 : List DV → Prop
  | [.num t, .num u] => U64 t ∧ U64 u
  | _ => False
def C122 : Con := ⟨122, [(.one (.int .u64)), (.one (.int .u64))], (.p (.agg [.bool, .list [.int .i64]])), false, true⟩
/-- turnstone/turnstoneref04.Right -/
def R87 : List DV → List DV → Prop
  | [.num t, .num r, .num w], [.tru ok] => (ok = true ↔ Pq r w)
  | _, _ => False
def C87 : Con := ⟨87, [(.agg [.int .u64, .int .u32, .int .u32])], (.p (.one .bool)), true, true⟩
/-- turnstone/turnstoneref04.Distance -/
def R85 : List DV → List DV → Prop
  | [.num t, .num r, .num w, .num base], [.tru n, .lst l] => (BOK n l ∧ bval n l = w * s64 (t - base) + r)
  | _, _ => False
def Q85 : List DV → Prop
  | [.num t, .num r, .num w, .num base] => U64 t ∧ U32 r ∧ U32 w ∧ U64 base
  | _ => False
def C85 : Con := ⟨85, [(.agg [.int .u64, .int .u32, .int .u32]), (.one (.int .u64))], (.p (.agg [.bool, .list [.int .i64]])), false, true⟩
/-- turnstone/turnstoneref08.Right -/
def R86 : List DV → List DV → Prop
  | [.num b, .tru an, .lst al, .num w, .num n], [.tru ok] => (ok = true ↔ Mq (bval an al) w n)
  | _, _ => False
def Q86 : List DV → Prop
  | [.num b, .tru an, .lst al, .num w, .num n] => BOK an al ∧ U64 w ∧ 0 ≤ n ∧ n ≤ 1000
  | _ => False
def C86 : Con := ⟨86, [(.agg [.int .u64, .bool, .list [.int .i64], .int .u64, .int .i64])], (.p (.one .bool)), false, true⟩
/-- turnstone/turnstonelaw04.Of -/
def R7 : List DV → List DV → Prop
  | [.num t, .num r, .num w], [.num t2, .num r2, .num w2] => (t2 = t ∧ r2 = r ∧ w2 = w)
  | _, _ => False
def Q7 : List DV → Prop
  | [.num t, .num r, .num w] => U64 t ∧ U32 r ∧ U32 w
  | _ => False
def C7 : Con := ⟨7, [(.agg [.int .u64, .int .u32, .int .u32])], (.p (.agg [.int .u64, .int .u32, .int .u32])), false, true⟩
/-- turnstone/turnstonelaw01.Of -/
def R15 : List DV → List DV → Prop
  | [.num h, .num l], [.tru n, .lst d] => (BOK n d ∧ bval n d = wv h l)
  | _, _ => False
def Q15 : List DV → Prop
  | [.num h, .num l] => W h l
  | _ => False
def C15 : Con := ⟨15, [(.agg [.int .i64, .int .u64])], (.p (.agg [.bool, .list [.int .i64]])), false, true⟩
/-- turnstone/turnstonelaw01.Same -/
def R16 : List DV → List DV → Prop
  | [.num h, .num l, .tru n, .lst d], [.tru ok] => (ok = true ↔ wv h l = bval n d)
  | _, _ => False
def Q16 : List DV → Prop
  | [.num h, .num l, .tru n, .lst d] => W h l ∧ Bg n d
  | _ => False
def C16 : Con := ⟨16, [(.agg [.int .i64, .int .u64]), (.agg [.bool, .list [.int .i64]])], (.p (.one .bool)), false, true⟩
/-- turnstone/clamp.Window -/
def R43 : List DV → List DV → Prop
  | [.num s, .num t], [.num w, .tru ok] => ((ok = true ↔ 1 ≤ s ∧ s ≤ 1099511627776 ∧ 1 ≤ t ∧ t ≤ 1099511627776) ∧ (ok = true → w = (2 * s + t) * 1048576) ∧ (ok = false → w = 0))
  | _, _ => False
def Q43 : List DV → Prop
  | [.num s, .num t] => U64 s ∧ U64 t
  | _ => False
def C43 : Con := ⟨43, [(.one (.int .u64)), (.one (.int .u64))], (.tup [(.one (.int .i64)), (.one .bool)]), false, true⟩
/-- turnstone/place.Place -/
def R174 : List DV → List DV → Prop
  | [.num b, .num h, .num l, .num w, .num n, .num c, .num x, .num g], [.num t, .num r, .num v, .tru ok] => ((ok = true ↔ MR h l w n ∧ WT x ∧ (n ≠ 0 → Big (wv h l * x) ∧ Big (g * (w + x)) ∧ Big (wv h l * x - g * (w + x)) ∧ I64 ((wv h l * x - g * (w + x)) / w / x))) ∧ (ok = true → v = x ∧ (n = 0 → t = c ∧ r = 0) ∧ (n ≠ 0 → t = (b + (wv h l * x - g * (w + x)) / w / x) % 18446744073709551616 ∧ r = (wv h l * x - g * (w + x)) / w % x)) ∧ (ok = false → t = 0 ∧ r = 0 ∧ v = 0))
  | _, _ => False
def Q174 : List DV → Prop
  | [.num b, .num h, .num l, .num w, .num n, .num c, .num x, .num g] => W h l ∧ U64 w ∧ I64 n ∧ U32 x ∧ I64 g
  | _ => False
def C174 : Con := ⟨174, [(.agg [.int .u64, .int .i64, .int .u64, .int .u64, .int .i64]), (.one (.int .u64)), (.one (.int .u32)), (.one (.int .i64))], (.tup [(.agg [.int .u64, .int .u32, .int .u32]), (.one .bool)]), false, true⟩
/-- turnstone/pos.Floors -/
def R112 : List DV → List DV → Prop
  | [.num base, .lst xs], [.num lo, .num hi] => (lo = mnF (tf 0 base xs) xs.length ∧ hi = mxF (tf 0 base xs) xs.length)
  | _, _ => False
def C112 : Con := ⟨112, [(.one (.int .u64)), (.one (.list [.int .u64, .int .u32, .int .u32]))], (.tup [(.one (.int .i64)), (.one (.int .i64))]), true, true⟩
def R111202 : List DV → List DV → Prop
  | [.num base, .lst xs, .num lo0, .num hi0, .num i0], [.num lo, .num hi, .num i] => (0 ≤ i ∧ i ≤ xs.length ∧ lo = mnF (tf 0 base xs) i.toNat ∧ hi = mxF (tf 0 base xs) i.toNat)
  | _, _ => False
def M111202 : List DV → List DV → Nat
  | [.num base, .lst xs, .num lo0, .num hi0, .num i0], [.num lo, .num hi, .num i] => ((xs.length - i).toNat)
  | _, _ => 0
def L111202 : FuncId × LCon := (112, ⟨2, 111202, [⟨true, 4, 0, (.int .i64), .gone⟩, ⟨true, 5, 0, (.int .i64), .gone⟩, ⟨true, 11, 0, (.int .i64), .gone⟩], [(true, 0, 0), (true, 1, 0)]⟩)
/-- turnstone/item.Spread -/
def R73 : List DV → List DV → Prop
  | [.num base, .lst xs], [.num s] => (s = SPR base xs)
  | _, _ => False
def Q73 : List DV → Prop
  | [.num base, .lst xs] => (xs.length : Int) ≤ 1000
  | _ => False
def C73 : Con := ⟨73, [(.one (.int .u64)), (.one (.list [.int .u64, .int .u32, .int .u32, .int .i64, .int .u64, .int .u32, .int .u32]))], (.p (.one (.int .u64))), false, true⟩
def R107303 : List DV → List DV → Prop
  | [.num base, .lst xs, .lst p0, .lst q0, .num i0], [.lst p, .lst q, .num i] => (0 ≤ i ∧ i ≤ xs.length ∧ p.length = i ∧ q.length = 2 * i ∧ PL xs p ∧ AL xs q)
  | _, _ => False
def M107303 : List DV → List DV → Nat
  | [.num base, .lst xs, .lst p0, .lst q0, .num i0], [.lst p, .lst q, .num i] => ((xs.length - i).toNat)
  | _, _ => 0
def L107303 : FuncId × LCon := (73, ⟨3, 107303, [⟨true, 5, 0, (.list [.int .u64, .int .u32, .int .u32]), (.own [.int .u64, .int .u32, .int .u32] 29)⟩, ⟨true, 6, 0, (.list [.int .u64, .int .u32, .int .u32]), (.own [.int .u64, .int .u32, .int .u32] 29)⟩, ⟨true, 15, 0, (.int .i64), .gone⟩], [(true, 0, 0), (true, 1, 0)]⟩)
/-- turnstone/span.Within -/
def R67 : List DV → List DV → Prop
  | [.num base, .lst xs], [.tru ok] => (ok = true ↔ SPR base xs ≤ 4611686018427387904)
  | _, _ => False
def Q67 : List DV → Prop
  | [.num base, .lst xs] => (xs.length : Int) ≤ 1000
  | _ => False
def C67 : Con := ⟨67, [(.one (.int .u64)), (.one (.list [.int .u64, .int .u32, .int .u32, .int .i64, .int .u64, .int .u32, .int .u32]))], (.p (.one .bool)), false, true⟩
/-- turnstone/span.Room -/
def R142 : List DV → List DV → Prop
  | [.num base, .lst xs], [.num s] => ((SPR base xs ≤ 4611686018427387904 → s = 4611686018427387904 - SPR base xs) ∧ (4611686018427387904 < SPR base xs → s = 0))
  | _, _ => False
def Q142 : List DV → Prop
  | [.num base, .lst xs] => (xs.length : Int) ≤ 1000
  | _ => False
def C142 : Con := ⟨142, [(.one (.int .u64)), (.one (.list [.int .u64, .int .u32, .int .u32, .int .i64, .int .u64, .int .u32, .int .u32]))], (.p (.one (.int .u64))), false, true⟩
/-- (turnstone/item.Item).Right -/
def R66 : List DV → List DV → Prop
  | [.num t, .num r, .num w, .num id, .num dt, .num dr, .num dw], [.tru ok] => (ok = true ↔ PR r w ∧ PR dr dw ∧ w = dw ∧ 0 < id ∧ 0 ≤ s64 (dt - t) ∧ s64 (dt - t) ≤ 1152921504606846976)
  | _, _ => False
def Q66 : List DV → Prop
  | [.num t, .num r, .num w, .num id, .num dt, .num dr, .num dw] => U64 t ∧ U32 r ∧ U32 w ∧ U64 dt ∧ U32 dr ∧ U32 dw
  | _ => False
def C66 : Con := ⟨66, [(.agg [.int .u64, .int .u32, .int .u32, .int .i64, .int .u64, .int .u32, .int .u32])], (.p (.one .bool)), false, true⟩
/-- slices.Equal[[]int,int] -/
def R167 : List DV → List DV → Prop
  | [.lst a, .lst c], [.tru ok] => (ok = true ↔ a.length = c.length ∧ ∀ j : Nat, j < a.length → Sy.rowAt a j 0 = Sy.rowAt c j 0)
  | _, _ => False
def C167 : Con := ⟨167, [(.one (.list [.int .i64])), (.one (.list [.int .i64]))], (.p (.one .bool)), true, true⟩
def R116704 : List DV → List DV → Prop
  | [.lst a, .lst c, .num i0], [.num i] => (0 ≤ i ∧ i ≤ a.length ∧ ∀ j : Nat, (j : Int) < i → Sy.rowAt a j 0 = Sy.rowAt c j 0)
  | _, _ => False
def M116704 : List DV → List DV → Nat
  | [.lst a, .lst c, .num i0], [.num i] => ((a.length - i).toNat)
  | _, _ => 0
def L116704 : FuncId × LCon := (167, ⟨4, 116704, [⟨true, 13, 0, (.int .i64), .gone⟩], [(true, 0, 0), (true, 1, 0)]⟩)
/-- turnstone/turnstoneref08.Add -/
def R38 : List DV → List DV → Prop
  | [.num b, .tru an, .lst al, .num w, .num n, .num t, .num r, .num v], [.num b2, .tru cn, .lst cl, .num w2, .num n2, .tru ok] => (BOK cn cl ∧ (ok = true ↔ Mq (bval an al) w n ∧ Pq r v ∧ n < 32 ∧ Bi (bval an al + (v * s64 (t - b) + r))) ∧ (ok = true → b2 = b ∧ bval cn cl = bval an al + (v * s64 (t - b) + r) ∧ w2 = w + v ∧ n2 = n + 1) ∧ (ok = false → b2 = 0 ∧ bval cn cl = 0 ∧ w2 = 0 ∧ n2 = 0))
  | _, _ => False
def Q38 : List DV → Prop
  | [.num b, .tru an, .lst al, .num w, .num n, .num t, .num r, .num v] => BOK an al ∧ Bi (bval an al) ∧ U64 b ∧ U64 w ∧ 0 ≤ n ∧ n ≤ 1000 ∧ U64 t ∧ U32 r ∧ U32 v
  | _ => False
def C38 : Con := ⟨38, [(.agg [.int .u64, .bool, .list [.int .i64], .int .u64, .int .i64]), (.agg [.int .u64, .int .u32, .int .u32])], (.tup [(.agg [.int .u64, .bool, .list [.int .i64], .int .u64, .int .i64]), (.one .bool)]), false, true⟩
/-- turnstone/turnstoneref08.Of -/
def R9 : List DV → List DV → Prop
  | [.num base, .lst xs], [.num b2, .tru an, .lst al, .num w, .num n, .tru ok] => ((ok = true ↔ xs.length ≤ 32 ∧ AP xs xs.length) ∧ (ok = true → b2 = base ∧ bval an al = SA base xs xs.length ∧ w = SW xs xs.length ∧ n = xs.length) ∧ (ok = false → b2 = 0 ∧ bval an al = 0 ∧ w = 0 ∧ n = 0) ∧ BOK an al)
  | _, _ => False
def Q9 : List DV → Prop
  | [.num base, .lst xs] => U64 base ∧ RK xs ∧ (xs.length : Int) ≤ 1000
  | _ => False
def C9 : Con := ⟨9, [(.one (.int .u64)), (.one (.list [.int .u64, .int .u32, .int .u32]))], (.tup [(.agg [.int .u64, .bool, .list [.int .i64], .int .u64, .int .i64]), (.one .bool)]), false, true⟩
def R100903 : List DV → List DV → Prop
  | [.num base, .lst xs, .num mb0, .tru mn0, .lst ml0, .num mw0, .num mk0, .num i0], [.num mb, .tru mn, .lst ml, .num mw, .num mk, .num i] => (0 ≤ i ∧ i ≤ xs.length ∧ i ≤ 32 ∧ mb = base ∧ BOK mn ml ∧ bval mn ml = SA base xs i.toNat ∧ mw = SW xs i.toNat ∧ mk = i ∧ AP xs i.toNat)
  | _, _ => False
def M100903 : List DV → List DV → Nat
  | [.num base, .lst xs, .num mb0, .tru mn0, .lst ml0, .num mw0, .num mk0, .num i0], [.num mb, .tru mn, .lst ml, .num mw, .num mk, .num i] => ((xs.length - i).toNat)
  | _, _ => 0
def L100903 : FuncId × LCon := (9, ⟨3, 100903, [⟨false, 4, 0, (.int .u64), .gone⟩, ⟨false, 4, 1, .bool, .gone⟩, ⟨false, 4, 2, (.list [.int .i64]), (.rd [.int .i64] false)⟩, ⟨false, 4, 3, (.int .u64), .gone⟩, ⟨false, 4, 4, (.int .i64), .gone⟩, ⟨true, 15, 0, (.int .i64), .gone⟩], [(true, 0, 0), (true, 1, 0)]⟩)
/-- turnstone/span.Anchor -/
def R70 : List DV → List DV → Prop
  | [.lst xs], [.num t, .tru ok] => ((ok = true ↔ 0 < xs.length ∧ xs.length ≤ 32 ∧ AP xs xs.length ∧ I64 (SA (Sy.rowAt xs 0 0) xs xs.length / SW xs xs.length)) ∧ (ok = true → t = (Sy.rowAt xs 0 0 + SA (Sy.rowAt xs 0 0) xs xs.length / SW xs xs.length) % 18446744073709551616) ∧ (ok = false → t = 0))
  | _, _ => False
def Q70 : List DV → Prop
  | [.lst xs] => RI xs ∧ (xs.length : Int) ≤ 1000
  | _ => False
def C70 : Con := ⟨70, [(.one (.list [.int .u64, .int .u32, .int .u32, .int .i64, .int .u64, .int .u32, .int .u32]))], (.tup [(.one (.int .u64)), (.one .bool)]), false, true⟩
def R107005 : List DV → List DV → Prop
  | [.lst xs, .lst p0, .num i0], [.lst p, .num i] => (0 ≤ i ∧ i ≤ xs.length ∧ p.length = i ∧ PQ xs p)
  | _, _ => False
def M107005 : List DV → List DV → Nat
  | [.lst xs, .lst p0, .num i0], [.lst p, .num i] => ((xs.length - i).toNat)
  | _, _ => 0
def L107005 : FuncId × LCon := (70, ⟨5, 107005, [⟨true, 4, 0, (.list [.int .u64, .int .u32, .int .u32]), (.own [.int .u64, .int .u32, .int .u32] 29)⟩, ⟨true, 14, 0, (.int .i64), .gone⟩], [(true, 0, 0)]⟩)
/-- turnstone/turnstonelaw14.QueueNone -/
def R5 : List DV → List DV → Prop
  | [], [.tru ok] => (ok = true)
  | _, _ => False
def C5 : Con := ⟨5, [], (.p (.one .bool)), true, true⟩
def Tr_ : Nat → List DV → List DV → Prop
  | 88 => R88
  | 40 => R40
  | 115 => R115
  | 89 => R89
  | 90 => R90
  | 45 => R45
  | 98 => R98
  | 84 => R84
  | 41 => R41
  | 80 => R80
  | 124 => R124
  | 77 => R77
  | 147 => R147
  | 120 => R120
  | 123 => R123
  | 91 => R91
  | 97 => R97
  | 48 => R48
  | 49 => R49
  | 81 => R81
  | 108117 => R108117
  | 108124 => R108124
  | 76 => R76
  | 78 => R78
  | 92 => R92
  | 140 => R140
  | 42 => R42
  | 152 => R152
  | 191 => R191
  | 161 => R161
  | 39 => R39
  | 37 => R37
  | 13 => R13
  | 134 => R134
  | 34 => R34
  | 106 => R106
  | 60 => R60
  | 63 => R63
  | 59 => R59
  | 125 => R125
  | 8 => R8
  | 100803 => R100803
  | 127 => R127
  | 102 => R102
  | 110202 => R110202
  | 101 => R101
  | 110104 => R110104
  | 103 => R103
  | 110304 => R110304
  | 99 => R99
  | 109901 => R109901
  | 95 => R95
  | 109502 => R109502
  | 57 => R57
  | 52 => R52
  | 56 => R56
  | 96 => R96
  | 51 => R51
  | 47 => R47
  | 94 => R94
  | 109403 => R109403
  | 109407 => R109407
  | 100 => R100
  | 110003 => R110003
  | 46 => R46
  | 53 => R53
  | 122 => R122
  | 87 => R87
  | 85 => R85
  | 86 => R86
  | 7 => R7
  | 15 => R15
  | 16 => R16
  | 43 => R43
  | 174 => R174
  | 112 => R112
  | 111202 => R111202
  | 73 => R73
  | 107303 => R107303
  | 67 => R67
  | 142 => R142
  | 66 => R66
  | 167 => R167
  | 116704 => R116704
  | 38 => R38
  | 9 => R9
  | 100903 => R100903
  | 70 => R70
  | 107005 => R107005
  | 5 => R5
  | _ => fun _ _ => True
def Tp_ : Nat → List DV → Prop
  | 115 => Q115
  | 89 => Q89
  | 45 => Q45
  | 98 => Q98
  | 84 => Q84
  | 41 => Q41
  | 80 => Q80
  | 124 => Q124
  | 77 => Q77
  | 147 => Q147
  | 120 => Q120
  | 123 => Q123
  | 91 => Q91
  | 97 => Q97
  | 48 => Q48
  | 49 => Q49
  | 81 => Q81
  | 76 => Q76
  | 42 => Q42
  | 152 => Q152
  | 191 => Q191
  | 161 => Q161
  | 39 => Q39
  | 37 => Q37
  | 13 => Q13
  | 134 => Q134
  | 34 => Q34
  | 106 => Q106
  | 60 => Q60
  | 63 => Q63
  | 59 => Q59
  | 125 => Q125
  | 8 => Q8
  | 127 => Q127
  | 102 => Q102
  | 101 => Q101
  | 103 => Q103
  | 99 => Q99
  | 95 => Q95
  | 57 => Q57
  | 52 => Q52
  | 56 => Q56
  | 96 => Q96
  | 51 => Q51
  | 47 => Q47
  | 94 => Q94
  | 100 => Q100
  | 46 => Q46
  | 53 => Q53
  | 122 => Q122
  | 85 => Q85
  | 86 => Q86
  | 7 => Q7
  | 15 => Q15
  | 16 => Q16
  | 43 => Q43
  | 174 => Q174
  | 73 => Q73
  | 67 => Q67
  | 142 => Q142
  | 66 => Q66
  | 38 => Q38
  | 9 => Q9
  | 70 => Q70
  | _ => fun _ => True
def Tm_ : Nat → List DV → List DV → Nat
  | 108117 => M108117
  | 108124 => M108124
  | 100803 => M100803
  | 110202 => M110202
  | 110104 => M110104
  | 110304 => M110304
  | 109901 => M109901
  | 109502 => M109502
  | 109403 => M109403
  | 109407 => M109407
  | 110003 => M110003
  | 111202 => M111202
  | 107303 => M107303
  | 116704 => M116704
  | 100903 => M100903
  | 107005 => M107005
  | _ => fun _ _ => 0
def T : Tab := ⟨Tr_, Tp_, Tm_⟩
end Go.Proofs.YtpccjjfcklplaaaGreatDoor.Fn
