/- What is told of each function: what holds between what it takes and what it yields. -/
import Derived.Test.YthlcpdjpnbbaeaaGreatDoorSyTree
import Derived.Test.YthlcpdjpnbbaeaaGreatDoorProg
import Derived.Laws.Externs
import Derived.Lib.BitFns
import Derived.Test.YthlcpdjpnbbaeaaGreatDoorWords
import Derived.Test.YthlcpdjpnbbaeaaGreatDoorWords2
import Derived.Test.YthlcpdjpnbbaeaaGreatDoorWords3
import Derived.Test.YthlcpdjpnbbaeaaGreatDoorWords4
namespace Go.Proofs.YthlcpdjpnbbaeaaGreatDoor.Fn
open Go Go.RowKit Go.Proofs.YthlcpdjpnbbaeaaGreatDoor.Sy
set_option linter.unusedVariables false
/-- turnstone/pos.weight -/
def R53 : List DV → List DV → Prop
  | [.num w], [.tru ok] => (ok = true ↔ 1 ≤ w ∧ w ≤ 1048576)
  | _, _ => False
def C53 : Con := ⟨53, [(.one (.int .u32))], (.p (.one .bool)), true, true⟩
/-- (turnstone/pos.Pos).Right -/
def R15 : List DV → List DV → Prop
  | [.num t, .num r, .num w], [.tru ok] => (ok = true ↔ 1 ≤ w ∧ w ≤ 1048576 ∧ r < w)
  | _, _ => False
def C15 : Con := ⟨15, [(.agg [.int .u64, .int .u32, .int .u32])], (.p (.one .bool)), true, true⟩
/-- math/bits.Add64 -/
def R94 : List DV → List DV → Prop
  | [.num a, .num b, .num c], [.num lo, .num hi] => (lo = (a + b + c) % 18446744073709551616 ∧ hi = (a + b + c) / 18446744073709551616)
  | _, _ => False
def Q94 : List DV → Prop
  | [.num a, .num b, .num c] => U64 a ∧ U64 b ∧ 0 ≤ c ∧ c ≤ 1
  | _ => False
def C94 : Con := ⟨94, [(.one (.int .u64)), (.one (.int .u64)), (.one (.int .u64))], (.tup [(.one (.int .u64)), (.one (.int .u64))]), false, true⟩
/-- math/bits.Sub64 -/
def R96 : List DV → List DV → Prop
  | [.num a, .num b, .num c], [.num lo, .num hi] => (lo = (a - b - c) % 18446744073709551616 ∧ (a < b + c → hi = 1) ∧ (b + c ≤ a → hi = 0))
  | _, _ => False
def Q96 : List DV → Prop
  | [.num a, .num b, .num c] => U64 a ∧ U64 b ∧ 0 ≤ c ∧ c ≤ 1
  | _ => False
def C96 : Con := ⟨96, [(.one (.int .u64)), (.one (.int .u64)), (.one (.int .u64))], (.tup [(.one (.int .u64)), (.one (.int .u64))]), false, true⟩
/-- turnstone/wide.OfU -/
def R112 : List DV → List DV → Prop
  | [.num x], [.num h, .num l] => (h = 0 ∧ l = x)
  | _, _ => False
def C112 : Con := ⟨112, [(.one (.int .u64))], (.p (.agg [.int .i64, .int .u64])), true, true⟩
/-- turnstone/wide.Of -/
def R45 : List DV → List DV → Prop
  | [.num x], [.num h, .num l] => (W h l ∧ wv h l = x)
  | _, _ => False
def Q45 : List DV → Prop
  | [.num x] => I64 x
  | _ => False
def C45 : Con := ⟨45, [(.one (.int .i64))], (.p (.agg [.int .i64, .int .u64])), false, true⟩
/-- (turnstone/wide.Int).flip -/
def R98 : List DV → List DV → Prop
  | [.num h, .num l], [.num g, .num m] => (W g m ∧ (h = -9223372036854775808 ∧ l = 0 → g = h ∧ m = l) ∧ (¬ (h = -9223372036854775808 ∧ l = 0) → wv g m = - wv h l))
  | _, _ => False
def Q98 : List DV → Prop
  | [.num h, .num l] => W h l
  | _ => False
def C98 : Con := ⟨98, [(.agg [.int .i64, .int .u64])], (.p (.agg [.int .i64, .int .u64])), false, true⟩
/-- (turnstone/wide.Int).Add -/
def R90 : List DV → List DV → Prop
  | [.num ah, .num al, .num bh, .num bl], [.num h, .num l, .tru ok] => (Told (wv ah al + wv bh bl) h l ok)
  | _, _ => False
def Q90 : List DV → Prop
  | [.num ah, .num al, .num bh, .num bl] => W ah al ∧ W bh bl
  | _ => False
def C90 : Con := ⟨90, [(.agg [.int .i64, .int .u64]), (.agg [.int .i64, .int .u64])], (.tup [(.agg [.int .i64, .int .u64]), (.one .bool)]), false, true⟩
/-- (turnstone/wide.Int).Sub -/
def R58 : List DV → List DV → Prop
  | [.num ah, .num al, .num bh, .num bl], [.num h, .num l, .tru ok] => (Told (wv ah al - wv bh bl) h l ok)
  | _, _ => False
def Q58 : List DV → Prop
  | [.num ah, .num al, .num bh, .num bl] => W ah al ∧ W bh bl
  | _ => False
def C58 : Con := ⟨58, [(.agg [.int .i64, .int .u64]), (.agg [.int .i64, .int .u64])], (.tup [(.agg [.int .i64, .int .u64]), (.one .bool)]), false, true⟩
/-- (turnstone/wide.Int).size -/
def R92 : List DV → List DV → Prop
  | [.num h, .num l], [.num u, .num v] => (U64 u ∧ U64 v ∧ (h < 0 → u * 18446744073709551616 + v = - wv h l) ∧ (0 ≤ h → u * 18446744073709551616 + v = wv h l))
  | _, _ => False
def Q92 : List DV → Prop
  | [.num h, .num l] => W h l
  | _ => False
def C92 : Con := ⟨92, [(.agg [.int .i64, .int .u64])], (.tup [(.one (.int .u64)), (.one (.int .u64))]), false, true⟩
/-- turnstone/wide.signed -/
def R95 : List DV → List DV → Prop
  | [.num hi, .num lo, .tru below], [.num h, .num l, .tru ok] => ((below = true → Told (-(hi * 18446744073709551616 + lo)) h l ok) ∧ (below = false → Told (hi * 18446744073709551616 + lo) h l ok))
  | _, _ => False
def Q95 : List DV → Prop
  | [.num hi, .num lo, .tru below] => U64 hi ∧ U64 lo
  | _ => False
def C95 : Con := ⟨95, [(.one (.int .u64)), (.one (.int .u64)), (.one .bool)], (.tup [(.agg [.int .i64, .int .u64]), (.one .bool)]), false, true⟩
/-- (turnstone/wide.Int).Small -/
def R99 : List DV → List DV → Prop
  | [.num h, .num l], [.num x, .tru ok] => (I64 x ∧ (ok = true → x = wv h l) ∧ (ok = false → x = 0 ∧ ¬ I64 (wv h l)))
  | _, _ => False
def Q99 : List DV → Prop
  | [.num h, .num l] => W h l
  | _ => False
def C99 : Con := ⟨99, [(.agg [.int .i64, .int .u64])], (.tup [(.one (.int .i64)), (.one .bool)]), false, true⟩
/-- math/bits.Len64 -/
def R123 : List DV → List DV → Prop
  | [.num x], [.num n] => (n = (Lib.bitLen x.toNat : Int))
  | _, _ => False
def Q123 : List DV → Prop
  | [.num x] => U64 x
  | _ => False
def C123 : Con := ⟨123, [(.one (.int .u64))], (.p (.one (.int .i64))), false, true⟩
/-- math/bits.LeadingZeros64 -/
def R113 : List DV → List DV → Prop
  | [.num x], [.num n] => (n = 64 - (Lib.bitLen x.toNat : Int))
  | _, _ => False
def Q113 : List DV → Prop
  | [.num x] => U64 x
  | _ => False
def C113 : Con := ⟨113, [(.one (.int .u64))], (.p (.one (.int .i64))), false, true⟩
/-- math/bits.Mul64 -/
def R93 : List DV → List DV → Prop
  | [.num x, .num y], [.num hi, .num lo] => (U64 hi ∧ U64 lo ∧ hi * 18446744073709551616 + lo = x * y)
  | _, _ => False
def Q93 : List DV → Prop
  | [.num x, .num y] => U64 x ∧ U64 y
  | _ => False
def C93 : Con := ⟨93, [(.one (.int .u64)), (.one (.int .u64))], (.tup [(.one (.int .u64)), (.one (.int .u64))]), false, true⟩
/-- (turnstone/wide.Int).Mul -/
def R57 : List DV → List DV → Prop
  | [.num h, .num l, .num b], [.num g, .num m, .tru ok] => (Told (wv h l * b) g m ok)
  | _, _ => False
def Q57 : List DV → Prop
  | [.num h, .num l, .num b] => W h l ∧ I64 b
  | _ => False
def C57 : Con := ⟨57, [(.agg [.int .i64, .int .u64]), (.one (.int .i64))], (.tup [(.agg [.int .i64, .int .u64]), (.one .bool)]), false, true⟩
/-- (turnstone/wide.Int).Cmp -/
def R105 : List DV → List DV → Prop
  | [.num ah, .num al, .num bh, .num bl], [.num c] => ((wv ah al < wv bh bl → c = -1) ∧ (wv ah al = wv bh bl → c = 0) ∧ (wv bh bl < wv ah al → c = 1))
  | _, _ => False
def Q105 : List DV → Prop
  | [.num ah, .num al, .num bh, .num bl] => W ah al ∧ W bh bl
  | _ => False
def C105 : Con := ⟨105, [(.agg [.int .i64, .int .u64]), (.agg [.int .i64, .int .u64])], (.p (.one (.int .i64))), false, true⟩
/-- (turnstone/wide.Int).Sign -/
def R67 : List DV → List DV → Prop
  | [.num h, .num l], [.num c] => ((wv h l < 0 → c = -1) ∧ (wv h l = 0 → c = 0) ∧ (0 < wv h l → c = 1))
  | _, _ => False
def Q67 : List DV → Prop
  | [.num h, .num l] => W h l
  | _ => False
def C67 : Con := ⟨67, [(.agg [.int .i64, .int .u64])], (.p (.one (.int .i64))), false, true⟩
/-- (turnstone/wide.Int).Neg -/
def R68 : List DV → List DV → Prop
  | [.num h, .num l], [.num g, .num m, .tru ok] => (Told (- wv h l) g m ok)
  | _, _ => False
def Q68 : List DV → Prop
  | [.num h, .num l] => W h l
  | _ => False
def C68 : Con := ⟨68, [(.agg [.int .i64, .int .u64])], (.tup [(.agg [.int .i64, .int .u64]), (.one .bool)]), false, true⟩
/-- math/bits.Div64 -/
def R97 : List DV → List DV → Prop
  | [.num hi, .num lo, .num y], [.num q, .num r] => (q = (hi * 18446744073709551616 + lo) / y ∧ r = (hi * 18446744073709551616 + lo) % y)
  | _, _ => False
def Q97 : List DV → Prop
  | [.num hi, .num lo, .num y] => U64 hi ∧ U64 lo ∧ U64 y ∧ hi < y
  | _ => False
def C97 : Con := ⟨97, [(.one (.int .u64)), (.one (.int .u64)), (.one (.int .u64))], (.tup [(.one (.int .u64)), (.one (.int .u64))]), false, true⟩
def R109717 : List DV → List DV → Prop
  | [.num a, .num b, .num u, .num v, .num q0, .num h0], [.num q, .num h] => (DInv a b u v q h)
  | _, _ => False
def M109717 : List DV → List DV → Nat
  | [.num a, .num b, .num u, .num v, .num q0, .num h0], [.num q, .num h] => ((4294967296 - h).toNat)
  | _, _ => 0
def L109717 : FuncId × LCon := (97, ⟨17, 109717, [⟨true, 15, 0, (.int .u64), .gone⟩, ⟨true, 16, 0, (.int .u64), .gone⟩], [(true, 9, 0), (true, 10, 0), (true, 11, 0), (true, 13, 0)]⟩)
def R109724 : List DV → List DV → Prop
  | [.num a, .num b, .num u, .num v, .num q0, .num h0], [.num q, .num h] => (DInv a b u v q h)
  | _, _ => False
def M109724 : List DV → List DV → Nat
  | [.num a, .num b, .num u, .num v, .num q0, .num h0], [.num q, .num h] => ((4294967296 - h).toNat)
  | _, _ => 0
def L109724 : FuncId × LCon := (97, ⟨24, 109724, [⟨true, 18, 0, (.int .u64), .gone⟩, ⟨true, 16, 0, (.int .u64), .gone⟩], [(true, 9, 0), (true, 10, 0), (true, 17, 0), (true, 14, 0)]⟩)
/-- (turnstone/wide.Int).Div -/
def R59 : List DV → List DV → Prop
  | [.num h, .num l, .num b], [.num g, .num m, .num r, .tru ok] => (W g m ∧ (ok = true ↔ b ≠ 0) ∧ (b = 0 → g = 0 ∧ m = 0 ∧ r = 0) ∧ (b ≠ 0 → wv g m = wv h l / b ∧ r = wv h l % b ∧ 0 ≤ r ∧ r < b))
  | _, _ => False
def Q59 : List DV → Prop
  | [.num h, .num l, .num b] => W h l ∧ U64 b
  | _ => False
def C59 : Con := ⟨59, [(.agg [.int .i64, .int .u64]), (.one (.int .u64))], (.tup [(.agg [.int .i64, .int .u64]), (.one (.int .u64)), (.one .bool)]), false, true⟩
/-- (turnstone/vtime.Time).Add -/
def R100 : List DV → List DV → Prop
  | [.num t, .num d], [.num r] => (r = (t + d) % 18446744073709551616)
  | _, _ => False
def C100 : Con := ⟨100, [(.one (.int .u64)), (.one (.int .i64))], (.p (.one (.int .u64))), true, true⟩
/-- (turnstone/vtime.Time).Since -/
def R14 : List DV → List DV → Prop
  | [.num t, .num u], [.num d] => (d = s64 (t - u))
  | _, _ => False
def C14 : Con := ⟨14, [(.one (.int .u64)), (.one (.int .u64))], (.p (.one (.int .i64))), true, true⟩
/-- (turnstone/vtime.Time).Before -/
def R82 : List DV → List DV → Prop
  | [.num t, .num u], [.tru b] => (b = true ↔ s64 (t - u) < 0)
  | _, _ => False
def C82 : Con := ⟨82, [(.one (.int .u64)), (.one (.int .u64))], (.p (.one .bool)), true, true⟩
/-- (turnstone/pos.Pos).Shift -/
def R74 : List DV → List DV → Prop
  | [.num t, .num r, .num w, .num by_], [.num u, .num q, .num v] => (u = (t + by_) % 18446744073709551616 ∧ q = r ∧ v = w)
  | _, _ => False
def C74 : Con := ⟨74, [(.agg [.int .u64, .int .u32, .int .u32]), (.one (.int .u64))], (.p (.agg [.int .u64, .int .u32, .int .u32])), true, true⟩
/-- (turnstone/pos.Pos).Distance -/
def R91 : List DV → List DV → Prop
  | [.num t, .num r, .num w, .num base], [.num h, .num l] => (W h l ∧ wv h l = w * s64 (t - base) + r)
  | _, _ => False
def Q91 : List DV → Prop
  | [.num t, .num r, .num w, .num base] => U32 r ∧ U32 w
  | _ => False
def C91 : Con := ⟨91, [(.agg [.int .u64, .int .u32, .int .u32]), (.one (.int .u64))], (.p (.agg [.int .i64, .int .u64])), false, true⟩
/-- turnstone/pos.At -/
def R60 : List DV → List DV → Prop
  | [.num base, .num h, .num l, .num w], [.num t, .num r, .num v, .tru ok] => ((ok = true ↔ WT w ∧ I64 (wv h l / w)) ∧ (ok = true → t = (base + wv h l / w) % 18446744073709551616 ∧ r = wv h l % w ∧ 0 ≤ r ∧ r < w ∧ v = w) ∧ (ok = false → t = 0 ∧ r = 0 ∧ v = 0))
  | _, _ => False
def Q60 : List DV → Prop
  | [.num base, .num h, .num l, .num w] => W h l ∧ U32 w
  | _ => False
def C60 : Con := ⟨60, [(.one (.int .u64)), (.agg [.int .i64, .int .u64]), (.one (.int .u32))], (.tup [(.agg [.int .u64, .int .u32, .int .u32]), (.one .bool)]), false, true⟩
/-- (turnstone/pos.Pos).Move -/
def R177 : List DV → List DV → Prop
  | [.num t, .num r, .num w, .num g], [.num u, .num q, .num v, .tru ok] => ((ok = true ↔ WT w ∧ I64 ((g + r) / w)) ∧ (ok = true → u = (t + (g + r) / w) % 18446744073709551616 ∧ q = (g + r) % w ∧ 0 ≤ q ∧ q < w ∧ v = w) ∧ (ok = false → u = 0 ∧ q = 0 ∧ v = 0))
  | _, _ => False
def Q177 : List DV → Prop
  | [.num t, .num r, .num w, .num g] => U32 r ∧ U32 w ∧ U64 g
  | _ => False
def C177 : Con := ⟨177, [(.agg [.int .u64, .int .u32, .int .u32]), (.one (.int .u64))], (.tup [(.agg [.int .u64, .int .u32, .int .u32]), (.one .bool)]), false, true⟩
/-- (turnstone/pos.Pos).Cmp -/
def R145 : List DV → List DV → Prop
  | [.num t, .num r, .num w, .num u, .num q, .num v], [.num c] => ((0 < s64 (u - t) → c = -1) ∧ (s64 (u - t) < 0 → c = 1) ∧ (s64 (u - t) = 0 → (r * v < q * w → c = -1) ∧ (r * v = q * w → c = 0) ∧ (q * w < r * v → c = 1)))
  | _, _ => False
def Q145 : List DV → Prop
  | [.num t, .num r, .num w, .num u, .num q, .num v] => U32 r ∧ U32 w ∧ U32 q ∧ U32 v
  | _ => False
def C145 : Con := ⟨145, [(.agg [.int .u64, .int .u32, .int .u32]), (.agg [.int .u64, .int .u32, .int .u32])], (.p (.one (.int .i64))), false, true⟩
/-- (turnstone/mean.Mean).Right -/
def R56 : List DV → List DV → Prop
  | [.num b, .num h, .num l, .num w, .num n], [.tru ok] => (ok = true ↔ MR h l w n)
  | _, _ => False
def Q56 : List DV → Prop
  | [.num b, .num h, .num l, .num w, .num n] => I64 n ∧ U64 w
  | _ => False
def C56 : Con := ⟨56, [(.agg [.int .u64, .int .i64, .int .u64, .int .u64, .int .i64])], (.p (.one .bool)), false, true⟩
/-- (turnstone/mean.Mean).Add -/
def R54 : List DV → List DV → Prop
  | [.num b, .num h, .num l, .num w, .num n, .num t, .num r, .num v], [.num b2, .num h2, .num l2, .num w2, .num n2, .tru ok] => ((ok = true ↔ MR h l w n ∧ PR r v ∧ n < 32 ∧ Big (wv h l + (v * s64 (t - b) + r))) ∧ (ok = true → b2 = b ∧ W h2 l2 ∧ wv h2 l2 = wv h l + (v * s64 (t - b) + r) ∧ w2 = w + v ∧ n2 = n + 1) ∧ (ok = false → b2 = 0 ∧ h2 = 0 ∧ l2 = 0 ∧ w2 = 0 ∧ n2 = 0))
  | _, _ => False
def Q54 : List DV → Prop
  | [.num b, .num h, .num l, .num w, .num n, .num t, .num r, .num v] => W h l ∧ U64 w ∧ I64 n ∧ U32 r ∧ U32 v
  | _ => False
def C54 : Con := ⟨54, [(.agg [.int .u64, .int .i64, .int .u64, .int .u64, .int .i64]), (.agg [.int .u64, .int .u32, .int .u32])], (.tup [(.agg [.int .u64, .int .i64, .int .u64, .int .u64, .int .i64]), (.one .bool)]), false, true⟩
/-- (turnstone/mean.Mean).Floor -/
def R76 : List DV → List DV → Prop
  | [.num b, .num h, .num l, .num w, .num n], [.num t, .tru ok] => ((ok = true ↔ MR h l w n ∧ 0 < n ∧ I64 (wv h l / w)) ∧ (ok = true → t = (b + wv h l / w) % 18446744073709551616) ∧ (ok = false → t = 0))
  | _, _ => False
def Q76 : List DV → Prop
  | [.num b, .num h, .num l, .num w, .num n] => W h l ∧ U64 w ∧ I64 n
  | _ => False
def C76 : Con := ⟨76, [(.agg [.int .u64, .int .i64, .int .u64, .int .u64, .int .i64])], (.tup [(.one (.int .u64)), (.one .bool)]), false, true⟩
/-- turnstone/lag.over -/
def R84 : List DV → List DV → Prop
  | [.num b, .num h, .num l, .num w, .num n, .num t, .num r, .num v], [.num g, .num m, .tru ok] => (W g m ∧ (ok = true ↔ MR h l w n ∧ 0 < n ∧ PR r v ∧ Big (wv h l * v) ∧ Big ((v * s64 (t - b) + r) * w) ∧ Big (wv h l * v - (v * s64 (t - b) + r) * w)) ∧ (ok = true → wv g m = wv h l * v - (v * s64 (t - b) + r) * w) ∧ (ok = false → g = 0 ∧ m = 0))
  | _, _ => False
def Q84 : List DV → Prop
  | [.num b, .num h, .num l, .num w, .num n, .num t, .num r, .num v] => W h l ∧ U64 w ∧ I64 n ∧ U32 r ∧ U32 v
  | _ => False
def C84 : Con := ⟨84, [(.agg [.int .u64, .int .i64, .int .u64, .int .u64, .int .i64]), (.agg [.int .u64, .int .u32, .int .u32])], (.tup [(.agg [.int .i64, .int .u64]), (.one .bool)]), false, true⟩
/-- turnstone/lag.Sign -/
def R86 : List DV → List DV → Prop
  | [.num b, .num h, .num l, .num w, .num n, .num t, .num r, .num v], [.num c, .tru ok] => ((ok = true ↔ MR h l w n ∧ 0 < n ∧ PR r v ∧ Big (wv h l * v) ∧ Big ((v * s64 (t - b) + r) * w) ∧ Big (wv h l * v - (v * s64 (t - b) + r) * w)) ∧ (ok = false → c = 0) ∧ (ok = true → (wv h l * v < (v * s64 (t - b) + r) * w → c = -1) ∧ (wv h l * v = (v * s64 (t - b) + r) * w → c = 0) ∧ ((v * s64 (t - b) + r) * w < wv h l * v → c = 1)))
  | _, _ => False
def Q86 : List DV → Prop
  | [.num b, .num h, .num l, .num w, .num n, .num t, .num r, .num v] => W h l ∧ U64 w ∧ I64 n ∧ U32 r ∧ U32 v
  | _ => False
def C86 : Con := ⟨86, [(.agg [.int .u64, .int .i64, .int .u64, .int .u64, .int .i64]), (.agg [.int .u64, .int .u32, .int .u32])], (.tup [(.one (.int .i64)), (.one .bool)]), false, true⟩
/-- turnstone/lag.Eligible -/
def R46 : List DV → List DV → Prop
  | [.num b, .num h, .num l, .num w, .num n, .num t, .num r, .num v], [.tru ok] => (ok = true ↔ MR h l w n ∧ 0 < n ∧ PR r v ∧ Big (wv h l * v) ∧ Big ((v * s64 (t - b) + r) * w) ∧ Big (wv h l * v - (v * s64 (t - b) + r) * w) ∧ (v * s64 (t - b) + r) * w ≤ wv h l * v)
  | _, _ => False
def Q46 : List DV → Prop
  | [.num b, .num h, .num l, .num w, .num n, .num t, .num r, .num v] => W h l ∧ U64 w ∧ I64 n ∧ U32 r ∧ U32 v
  | _ => False
def C46 : Con := ⟨46, [(.agg [.int .u64, .int .i64, .int .u64, .int .u64, .int .i64]), (.agg [.int .u64, .int .u32, .int .u32])], (.p (.one .bool)), false, true⟩
/-- turnstone/lag.Read -/
def R43 : List DV → List DV → Prop
  | [.num b, .num h, .num l, .num w, .num n, .num t, .num r, .num v], [.num g, .num m, .tru ok] => (W g m ∧ (ok = true ↔ MR h l w n ∧ 0 < n ∧ PR r v ∧ Big (wv h l * v) ∧ Big ((v * s64 (t - b) + r) * w) ∧ Big (wv h l * v - (v * s64 (t - b) + r) * w)) ∧ (ok = true → wv g m = (wv h l * v - (v * s64 (t - b) + r) * w) / w) ∧ (ok = false → g = 0 ∧ m = 0))
  | _, _ => False
def Q43 : List DV → Prop
  | [.num b, .num h, .num l, .num w, .num n, .num t, .num r, .num v] => W h l ∧ U64 w ∧ I64 n ∧ U32 r ∧ U32 v
  | _ => False
def C43 : Con := ⟨43, [(.agg [.int .u64, .int .i64, .int .u64, .int .u64, .int .i64]), (.agg [.int .u64, .int .u32, .int .u32])], (.tup [(.agg [.int .i64, .int .u64]), (.one .bool)]), false, true⟩
/-- turnstone/weigh.Weigh -/
def R114 : List DV → List DV → Prop
  | [.num b, .num h, .num l, .num w, .num n, .num t, .num r, .num v, .num x], [.num u, .num q, .num y, .tru ok] => ((ok = true ↔ MR h l w n ∧ 0 < n ∧ PR r v ∧ WT x ∧ Big (wv h l * (x - v)) ∧ Big (v * s64 (t - b) + r + wv h l * (x - v) / w) ∧ I64 ((v * s64 (t - b) + r + wv h l * (x - v) / w) / x)) ∧ (ok = true → u = (b + (v * s64 (t - b) + r + wv h l * (x - v) / w) / x) % 18446744073709551616 ∧ q = (v * s64 (t - b) + r + wv h l * (x - v) / w) % x ∧ 0 ≤ q ∧ q < x ∧ y = x) ∧ (ok = false → u = 0 ∧ q = 0 ∧ y = 0))
  | _, _ => False
def Q114 : List DV → Prop
  | [.num b, .num h, .num l, .num w, .num n, .num t, .num r, .num v, .num x] => W h l ∧ U64 w ∧ I64 n ∧ U32 r ∧ U32 v ∧ U32 x
  | _ => False
def C114 : Con := ⟨114, [(.agg [.int .u64, .int .i64, .int .u64, .int .u64, .int .i64]), (.agg [.int .u64, .int .u32, .int .u32]), (.one (.int .u32))], (.tup [(.agg [.int .u64, .int .u32, .int .u32]), (.one .bool)]), false, true⟩
/-- turnstone/mean.Of -/
def R16 : List DV → List DV → Prop
  | [.num b, .lst xs], [.num b2, .num h, .num l, .num w, .num n, .tru ok] => ((ok = true ↔ xs.length ≤ 32 ∧ AP xs xs.length) ∧ (ok = true → b2 = b ∧ W h l ∧ wv h l = SA b xs xs.length ∧ w = SW xs xs.length ∧ n = xs.length) ∧ (ok = false → b2 = 0 ∧ h = 0 ∧ l = 0 ∧ w = 0 ∧ n = 0))
  | _, _ => False
def Q16 : List DV → Prop
  | [.num b, .lst xs] => RK xs
  | _ => False
def C16 : Con := ⟨16, [(.one (.int .u64)), (.one (.list [.int .u64, .int .u32, .int .u32]))], (.tup [(.agg [.int .u64, .int .i64, .int .u64, .int .u64, .int .i64]), (.one .bool)]), false, true⟩
def R101603 : List DV → List DV → Prop
  | [.num b, .lst xs, .num i0, .num b10, .num h0, .num l0, .num w0, .num n0], [.num i, .num b1, .num h, .num l, .num w, .num n] => (0 ≤ i ∧ i ≤ xs.length ∧ i ≤ 32 ∧ b1 = b ∧ W h l ∧ n = i ∧ w = SW xs i.toNat ∧ wv h l = SA b xs i.toNat ∧ AP xs i.toNat)
  | _, _ => False
def M101603 : List DV → List DV → Nat
  | [.num b, .lst xs, .num i0, .num b10, .num h0, .num l0, .num w0, .num n0], [.num i, .num b1, .num h, .num l, .num w, .num n] => ((xs.length - i).toNat)
  | _, _ => 0
def L101603 : FuncId × LCon := (16, ⟨3, 101603, [⟨true, 15, 0, (.int .i64), .gone⟩, ⟨false, 4, 0, (.int .u64), .gone⟩, ⟨false, 4, 1, (.int .i64), .gone⟩, ⟨false, 4, 2, (.int .u64), .gone⟩, ⟨false, 4, 3, (.int .u64), .gone⟩, ⟨false, 4, 4, (.int .i64), .gone⟩], [(true, 0, 0), (true, 1, 0)]⟩)
/-- turnstone/turnstoneref01.digit -/
def R87 : List DV → List DV → Prop
  | [.tru n, .lst l, .num i], [.num d] => (d = Sy.rowAt l i 0)
  | _, _ => False
def Q87 : List DV → Prop
  | [.tru n, .lst l, .num i] => 0 ≤ i
  | _ => False
def C87 : Con := ⟨87, [(.agg [.bool, .list [.int .i64]]), (.one (.int .i64))], (.p (.one (.int .i64))), false, true⟩
/-- turnstone/turnstoneref01.larger -/
def R107 : List DV → List DV → Prop
  | [.tru an, .lst al, .tru bn, .lst bl], [.num c] => ((dval al < dval bl → c = -1) ∧ (dval al = dval bl → c = 0) ∧ (dval bl < dval al → c = 1))
  | _, _ => False
def Q107 : List DV → Prop
  | [.tru an, .lst al, .tru bn, .lst bl] => dig al ∧ dig bl ∧ al.length ≤ 1000 ∧ bl.length ≤ 1000
  | _ => False
def C107 : Con := ⟨107, [(.agg [.bool, .list [.int .i64]]), (.agg [.bool, .list [.int .i64]])], (.p (.one (.int .i64))), false, true⟩
def R110702 : List DV → List DV → Prop
  | [.lst al, .lst bl, .num i0], [.num i] => (-1 ≤ i ∧ i ≤ 1000 ∧ dval (al.drop (i + 1).toNat) = dval (bl.drop (i + 1).toNat))
  | _, _ => False
def M110702 : List DV → List DV → Nat
  | [.lst al, .lst bl, .num i0], [.num i] => ((i + 1).toNat)
  | _, _ => 0
def L110702 : FuncId × LCon := (107, ⟨2, 110702, [⟨true, 5, 0, (.int .i64), .gone⟩], [(false, 0, 1), (false, 1, 1)]⟩)
/-- turnstone/turnstoneref01.plus -/
def R106 : List DV → List DV → Prop
  | [.tru an, .lst al, .tru bn, .lst bl], [.lst l] => (dig l ∧ dval l = dval al + dval bl ∧ l.length ≤ 2000)
  | _, _ => False
def Q106 : List DV → Prop
  | [.tru an, .lst al, .tru bn, .lst bl] => dig al ∧ dig bl ∧ al.length ≤ 1000 ∧ bl.length ≤ 1000
  | _ => False
def C106 : Con := ⟨106, [(.agg [.bool, .list [.int .i64]]), (.agg [.bool, .list [.int .i64]])], (.p (.one (.list [.int .i64]))), false, true⟩
def R110604 : List DV → List DV → Prop
  | [.lst al, .lst bl, .lst o0, .num c0, .num i0], [.lst o, .num c, .num i] => (0 ≤ i ∧ o.length = i ∧ dig o ∧ 0 ≤ c ∧ c ≤ 1 ∧ (i ≤ al.length ∨ i ≤ bl.length ∨ c = 0 ∧ (i ≤ al.length + 1 ∨ i ≤ bl.length + 1)) ∧ dval o + P4 i.toNat * (c + dval (al.drop i.toNat) + dval (bl.drop i.toNat)) = dval al + dval bl)
  | _, _ => False
def M110604 : List DV → List DV → Nat
  | [.lst al, .lst bl, .lst o0, .num c0, .num i0], [.lst o, .num c, .num i] => ((1002 - i).toNat)
  | _, _ => 0
def L110604 : FuncId × LCon := (106, ⟨4, 110604, [⟨true, 5, 0, (.list [.int .i64]), (.own [.int .i64] 3)⟩, ⟨true, 6, 0, (.int .i64), .gone⟩, ⟨true, 7, 0, (.int .i64), .gone⟩], [(false, 0, 1), (false, 1, 1)]⟩)
/-- turnstone/turnstoneref01.minus -/
def R108 : List DV → List DV → Prop
  | [.tru an, .lst al, .tru bn, .lst bl], [.lst l] => (dig l ∧ dval l = dval al - dval bl ∧ l.length ≤ 2000)
  | _, _ => False
def Q108 : List DV → Prop
  | [.tru an, .lst al, .tru bn, .lst bl] => dig al ∧ dig bl ∧ al.length ≤ 1000 ∧ bl.length ≤ 1000 ∧ dval bl ≤ dval al
  | _ => False
def C108 : Con := ⟨108, [(.agg [.bool, .list [.int .i64]]), (.agg [.bool, .list [.int .i64]])], (.p (.one (.list [.int .i64]))), false, true⟩
def R110804 : List DV → List DV → Prop
  | [.lst al, .lst bl, .lst o0, .num c0, .num i0], [.lst o, .num c, .num i] => (0 ≤ i ∧ i ≤ al.length ∧ o.length = i ∧ dig o ∧ 0 ≤ c ∧ c ≤ 1 ∧ dval o + P4 i.toNat * (dval (al.drop i.toNat) - dval (bl.drop i.toNat) - c) = dval al - dval bl)
  | _, _ => False
def M110804 : List DV → List DV → Nat
  | [.lst al, .lst bl, .lst o0, .num c0, .num i0], [.lst o, .num c, .num i] => ((al.length - i).toNat)
  | _, _ => 0
def L110804 : FuncId × LCon := (108, ⟨4, 110804, [⟨true, 5, 0, (.list [.int .i64]), (.own [.int .i64] 3)⟩, ⟨true, 6, 0, (.int .i64), .gone⟩, ⟨true, 7, 0, (.int .i64), .gone⟩], [(false, 0, 1), (false, 1, 1)]⟩)
/-- turnstone/turnstoneref01.trim -/
def R88 : List DV → List DV → Prop
  | [.tru n, .lst l], [.tru m, .lst k] => (BOK m k ∧ bval m k = bval n l)
  | _, _ => False
def Q88 : List DV → Prop
  | [.tru n, .lst l] => dig l ∧ l.length ≤ 3000
  | _ => False
def C88 : Con := ⟨88, [(.agg [.bool, .list [.int .i64]])], (.p (.agg [.bool, .list [.int .i64]])), false, false⟩
def R108801 : List DV → List DV → Prop
  | [.lst k0], [.lst k] => (dig k ∧ k.length ≤ 3000 ∧ dval k = dval k0)
  | _, _ => False
def M108801 : List DV → List DV → Nat
  | [.lst k0], [.lst k] => (k.length)
  | _, _ => 0
def L108801 : FuncId × LCon := (88, ⟨1, 108801, [⟨false, 0, 1, (.list [.int .i64]), (.rd [.int .i64] true)⟩], []⟩)
/-- turnstone/turnstoneref01.U -/
def R38 : List DV → List DV → Prop
  | [.num x], [.tru n, .lst l] => (BOK n l ∧ bval n l = x)
  | _, _ => False
def Q38 : List DV → Prop
  | [.num x] => U64 x
  | _ => False
def C38 : Con := ⟨38, [(.one (.int .u64))], (.p (.agg [.bool, .list [.int .i64]])), false, true⟩
def R103802 : List DV → List DV → Prop
  | [.num y0, .lst o0], [.num y, .lst o] => (0 ≤ y ∧ dig o ∧ dval o + P4 o.length * y = y0 + dval o0 ∧ (y = 0 → o.length ≠ 0 → Sy.rowAt o ((o.length : Int) - 1) 0 ≠ 0))
  | _, _ => False
def M103802 : List DV → List DV → Nat
  | [.num y0, .lst o0], [.num y, .lst o] => (y.toNat)
  | _, _ => 0
def L103802 : FuncId × LCon := (38, ⟨2, 103802, [⟨true, 0, 0, (.int .u64), .gone⟩, ⟨false, 1, 1, (.list [.int .i64]), (.own [.int .i64] 3)⟩], []⟩)
/-- turnstone/turnstoneref01.N -/
def R61 : List DV → List DV → Prop
  | [.num x], [.tru n, .lst l] => (BOK n l ∧ bval n l = x)
  | _, _ => False
def Q61 : List DV → Prop
  | [.num x] => I64 x
  | _ => False
def C61 : Con := ⟨61, [(.one (.int .i64))], (.p (.agg [.bool, .list [.int .i64]])), false, true⟩
/-- turnstone/turnstoneref01.Neg -/
def R70 : List DV → List DV → Prop
  | [.tru n, .lst l], [.tru m, .lst k] => (BOK m k ∧ bval m k = - bval n l)
  | _, _ => False
def Q70 : List DV → Prop
  | [.tru n, .lst l] => Bg n l
  | _ => False
def C70 : Con := ⟨70, [(.agg [.bool, .list [.int .i64]])], (.p (.agg [.bool, .list [.int .i64]])), false, false⟩
/-- turnstone/turnstoneref01.Add -/
def R73 : List DV → List DV → Prop
  | [.tru an, .lst al, .tru bn, .lst bl], [.tru n, .lst l] => (BOK n l ∧ bval n l = bval an al + bval bn bl)
  | _, _ => False
def Q73 : List DV → Prop
  | [.tru an, .lst al, .tru bn, .lst bl] => Bg an al ∧ Bg bn bl
  | _ => False
def C73 : Con := ⟨73, [(.agg [.bool, .list [.int .i64]]), (.agg [.bool, .list [.int .i64]])], (.p (.agg [.bool, .list [.int .i64]])), false, true⟩
/-- turnstone/turnstoneref01.Sub -/
def R51 : List DV → List DV → Prop
  | [.tru an, .lst al, .tru bn, .lst bl], [.tru n, .lst l] => (BOK n l ∧ bval n l = bval an al - bval bn bl)
  | _, _ => False
def Q51 : List DV → Prop
  | [.tru an, .lst al, .tru bn, .lst bl] => Bg an al ∧ Bg bn bl
  | _ => False
def C51 : Con := ⟨51, [(.agg [.bool, .list [.int .i64]]), (.agg [.bool, .list [.int .i64]])], (.p (.agg [.bool, .list [.int .i64]])), false, true⟩
/-- turnstone/turnstoneref01.Sign -/
def R13 : List DV → List DV → Prop
  | [.tru n, .lst l], [.num c] => ((bval n l < 0 → c = -1) ∧ (bval n l = 0 → c = 0) ∧ (0 < bval n l → c = 1))
  | _, _ => False
def Q13 : List DV → Prop
  | [.tru n, .lst l] => BOK n l
  | _ => False
def C13 : Con := ⟨13, [(.agg [.bool, .list [.int .i64]])], (.p (.one (.int .i64))), false, true⟩
/-- turnstone/turnstoneref01.Cmp -/
def R37 : List DV → List DV → Prop
  | [.tru an, .lst al, .tru bn, .lst bl], [.num c] => ((bval an al < bval bn bl → c = -1) ∧ (bval an al = bval bn bl → c = 0) ∧ (bval bn bl < bval an al → c = 1))
  | _, _ => False
def Q37 : List DV → Prop
  | [.tru an, .lst al, .tru bn, .lst bl] => Bg an al ∧ Bg bn bl
  | _ => False
def C37 : Con := ⟨37, [(.agg [.bool, .list [.int .i64]]), (.agg [.bool, .list [.int .i64]])], (.p (.one (.int .i64))), false, true⟩
/-- turnstone/turnstoneref01.Mul -/
def R49 : List DV → List DV → Prop
  | [.tru an, .lst al, .tru bn, .lst bl], [.tru n, .lst l] => (BOK n l ∧ bval n l = bval an al * bval bn bl)
  | _, _ => False
def Q49 : List DV → Prop
  | [.tru an, .lst al, .tru bn, .lst bl] => Bg an al ∧ Bg bn bl
  | _ => False
def C49 : Con := ⟨49, [(.agg [.bool, .list [.int .i64]]), (.agg [.bool, .list [.int .i64]])], (.p (.agg [.bool, .list [.int .i64]])), false, true⟩
def R104903 : List DV → List DV → Prop
  | [.lst al, .lst bl, .lst o0, .num i0], [.lst o, .num i] => (0 ≤ i ∧ i ≤ al.length ∧ o.length = al.length + bl.length + 1 ∧ dig o ∧ (∀ k : Nat, (i + bl.length : Int) ≤ k → Sy.rowAt o k 0 = 0) ∧ dval o + P4 i.toNat * (dval (al.drop i.toNat) * dval bl) = dval al * dval bl)
  | _, _ => False
def M104903 : List DV → List DV → Nat
  | [.lst al, .lst bl, .lst o0, .num i0], [.lst o, .num i] => ((al.length - i).toNat)
  | _, _ => 0
def L104903 : FuncId × LCon := (49, ⟨3, 104903, [⟨true, 5, 0, (.list [.int .i64]), (.own [.int .i64] 3)⟩, ⟨true, 23, 0, (.int .i64), .gone⟩], [(false, 0, 1), (false, 1, 1)]⟩)
def R104907 : List DV → List DV → Prop
  | [.lst bl, .num i, .num x, .lst o0, .num c0, .num k0], [.lst o, .num c, .num k] => (0 ≤ k ∧ 0 ≤ c ∧ c < 10000 ∧ o.length = o0.length ∧ dig o ∧ (k ≤ bl.length ∨ k ≤ bl.length + 1 ∧ c = 0) ∧ (∀ j : Nat, (i + k : Int) ≤ j → Sy.rowAt o j 0 = Sy.rowAt o0 j 0) ∧ dval o + P4 (i + k).toNat * (c + x * dval (bl.drop k.toNat)) = dval o0 + P4 i.toNat * (x * dval bl))
  | _, _ => False
def M104907 : List DV → List DV → Nat
  | [.lst bl, .num i, .num x, .lst o0, .num c0, .num k0], [.lst o, .num c, .num k] => ((bl.length + 1 - k).toNat)
  | _, _ => 0
def L104907 : FuncId × LCon := (49, ⟨7, 104907, [⟨true, 5, 0, (.list [.int .i64]), (.own [.int .i64] 3)⟩, ⟨true, 8, 0, (.int .i64), .gone⟩, ⟨true, 9, 0, (.int .i64), .gone⟩], [(false, 1, 1), (true, 6, 0), (true, 7, 0)]⟩)
/-- turnstone/turnstoneref01.Div -/
def R62 : List DV → List DV → Prop
  | [.tru an, .lst al, .num b], [.tru n, .lst l, .num r] => (BOK n l ∧ bval n l = bval an al / b ∧ r = bval an al % b)
  | _, _ => False
def Q62 : List DV → Prop
  | [.tru an, .lst al, .num b] => Bg an al ∧ 0 < b ∧ b < 35184372088832
  | _ => False
def C62 : Con := ⟨62, [(.agg [.bool, .list [.int .i64]]), (.one (.int .i64))], (.tup [(.agg [.bool, .list [.int .i64]]), (.one (.int .i64))]), false, true⟩
def R106204 : List DV → List DV → Prop
  | [.lst al, .num b, .lst q0, .num r0, .num i0], [.lst q, .num r, .num i] => (-1 ≤ i ∧ i < al.length ∧ q.length = al.length ∧ dig q ∧ 0 ≤ r ∧ r < b ∧ (∀ j : Nat, (j : Int) ≤ i → Sy.rowAt q j 0 = 0) ∧ dval q * b + P4 (i + 1).toNat * r = P4 (i + 1).toNat * dval (al.drop (i + 1).toNat))
  | _, _ => False
def M106204 : List DV → List DV → Nat
  | [.lst al, .num b, .lst q0, .num r0, .num i0], [.lst q, .num r, .num i] => ((i + 1).toNat)
  | _, _ => 0
def L106204 : FuncId × LCon := (62, ⟨4, 106204, [⟨true, 6, 0, (.list [.int .i64]), (.own [.int .i64] 3)⟩, ⟨true, 7, 0, (.int .i64), .gone⟩, ⟨true, 8, 0, (.int .i64), .gone⟩], [(false, 0, 1), (true, 1, 0)]⟩)
/-- turnstone/turnstoneref01.Power -/
def R81 : List DV → List DV → Prop
  | [.num n], [.tru s, .lst l] => (BOK s l ∧ bval s l = 2 ^ n.toNat)
  | _, _ => False
def Q81 : List DV → Prop
  | [.num n] => 0 ≤ n ∧ n ≤ 200
  | _ => False
def C81 : Con := ⟨81, [(.one (.int .i64))], (.p (.agg [.bool, .list [.int .i64]])), false, true⟩
def R108103 : List DV → List DV → Prop
  | [.num n, .tru s0, .lst l0, .num k0], [.tru s, .lst l, .num k] => (0 ≤ k ∧ k ≤ n ∧ BOK s l ∧ bval s l = 2 ^ k.toNat)
  | _, _ => False
def M108103 : List DV → List DV → Nat
  | [.num n, .tru s0, .lst l0, .num k0], [.tru s, .lst l, .num k] => ((n - k).toNat)
  | _, _ => 0
def L108103 : FuncId × LCon := (81, ⟨3, 108103, [⟨false, 2, 0, .bool, .gone⟩, ⟨false, 2, 1, (.list [.int .i64]), (.rd [.int .i64] false)⟩, ⟨true, 4, 0, (.int .i64), .gone⟩], [(true, 0, 0)]⟩)
/-- turnstone/turnstoneref01.Wide -/
def R66 : List DV → List DV → Prop
  | [.num h, .num l], [.tru n, .lst d] => (BOK n d ∧ bval n d = wv h l)
  | _, _ => False
def Q66 : List DV → Prop
  | [.num h, .num l] => W h l
  | _ => False
def C66 : Con := ⟨66, [(.one (.int .i64)), (.one (.int .u64))], (.p (.agg [.bool, .list [.int .i64]])), false, true⟩
/-- turnstone/turnstoneref01.Is -/
def R52 : List DV → List DV → Prop
  | [.tru n, .lst l], [.tru ok] => (ok = true ↔ Bi (bval n l))
  | _, _ => False
def Q52 : List DV → Prop
  | [.tru n, .lst l] => Bg n l
  | _ => False
def C52 : Con := ⟨52, [(.agg [.bool, .list [.int .i64]])], (.p (.one .bool)), false, true⟩
/-- turnstone/turnstoneref01.Small -/
def R101 : List DV → List DV → Prop
  | [.tru n, .lst l], [.tru ok] => (ok = true ↔ I64 (bval n l))
  | _, _ => False
def Q101 : List DV → Prop
  | [.tru n, .lst l] => Bg n l
  | _ => False
def C101 : Con := ⟨101, [(.agg [.bool, .list [.int .i64]])], (.p (.one .bool)), false, true⟩
/-- turnstone/turnstoneref03.Since -/
def R89 : List DV → List DV → Prop
  | [.num t, .num u], [.tru n, .lst l] => (BOK n l ∧ bval n l = s64 (t - u))
  | _, _ => False
def Q89 : List DV → Prop
  | [.num t, .num u] => U64 t ∧ U64 u
  | _ => False
def C89 : Con := ⟨89, [(.one (.int .u64)), (.one (.int .u64))], (.p (.agg [.bool, .list [.int .i64]])), false, true⟩
/-- turnstone/turnstoneref04.Right -/
def R48 : List DV → List DV → Prop
  | [.num t, .num r, .num w], [.tru ok] => (ok = true ↔ Pq r w)
  | _, _ => False
def C48 : Con := ⟨48, [(.agg [.int .u64, .int .u32, .int .u32])], (.p (.one .bool)), true, true⟩
/-- turnstone/turnstoneref04.Distance -/
def R50 : List DV → List DV → Prop
  | [.num t, .num r, .num w, .num base], [.tru n, .lst l] => (BOK n l ∧ bval n l = w * s64 (t - base) + r)
  | _, _ => False
def Q50 : List DV → Prop
  | [.num t, .num r, .num w, .num base] => U64 t ∧ U32 r ∧ U32 w ∧ U64 base
  | _ => False
def C50 : Con := ⟨50, [(.agg [.int .u64, .int .u32, .int .u32]), (.one (.int .u64))], (.p (.agg [.bool, .list [.int .i64]])), false, true⟩
/-- turnstone/turnstoneref08.Right -/
def R47 : List DV → List DV → Prop
  | [.num b, .tru an, .lst al, .num w, .num n], [.tru ok] => (ok = true ↔ Mq (bval an al) w n)
  | _, _ => False
def Q47 : List DV → Prop
  | [.num b, .tru an, .lst al, .num w, .num n] => BOK an al ∧ U64 w ∧ 0 ≤ n ∧ n ≤ 1000
  | _ => False
def C47 : Con := ⟨47, [(.agg [.int .u64, .bool, .list [.int .i64], .int .u64, .int .i64])], (.p (.one .bool)), false, true⟩
/-- turnstone/turnstonelaw04.Of -/
def R12 : List DV → List DV → Prop
  | [.num t, .num r, .num w], [.num t2, .num r2, .num w2] => (t2 = t ∧ r2 = r ∧ w2 = w)
  | _, _ => False
def Q12 : List DV → Prop
  | [.num t, .num r, .num w] => U64 t ∧ U32 r ∧ U32 w
  | _ => False
def C12 : Con := ⟨12, [(.agg [.int .u64, .int .u32, .int .u32])], (.p (.agg [.int .u64, .int .u32, .int .u32])), false, true⟩
/-- turnstone/turnstonelaw01.Of -/
def R23 : List DV → List DV → Prop
  | [.num h, .num l], [.tru n, .lst d] => (BOK n d ∧ bval n d = wv h l)
  | _, _ => False
def Q23 : List DV → Prop
  | [.num h, .num l] => W h l
  | _ => False
def C23 : Con := ⟨23, [(.agg [.int .i64, .int .u64])], (.p (.agg [.bool, .list [.int .i64]])), false, true⟩
/-- turnstone/turnstonelaw01.Same -/
def R24 : List DV → List DV → Prop
  | [.num h, .num l, .tru n, .lst d], [.tru ok] => (ok = true ↔ wv h l = bval n d)
  | _, _ => False
def Q24 : List DV → Prop
  | [.num h, .num l, .tru n, .lst d] => W h l ∧ Bg n d
  | _ => False
def C24 : Con := ⟨24, [(.agg [.int .i64, .int .u64]), (.agg [.bool, .list [.int .i64]])], (.p (.one .bool)), false, true⟩
/-- turnstone/turnstonelaw08.Of -/
def R11 : List DV → List DV → Prop
  | [.num b, .num h, .num l, .num w, .num n], [.num b2, .tru an, .lst al, .num w2, .num n2] => (b2 = b ∧ BOK an al ∧ bval an al = wv h l ∧ w2 = w ∧ n2 = n)
  | _, _ => False
def Q11 : List DV → Prop
  | [.num b, .num h, .num l, .num w, .num n] => W h l ∧ U64 b
  | _ => False
def C11 : Con := ⟨11, [(.agg [.int .u64, .int .i64, .int .u64, .int .u64, .int .i64])], (.p (.agg [.int .u64, .bool, .list [.int .i64], .int .u64, .int .i64])), false, true⟩
/-- turnstone/turnstoneref09.Over -/
def R10 : List DV → List DV → Prop
  | [.num b, .tru an, .lst al, .num w, .num n, .num t, .num r, .num v], [.tru gn, .lst gl, .tru ok] => (BOK gn gl ∧ (ok = true ↔ Mq (bval an al) w n ∧ 0 < n ∧ Pq r v ∧ Bi (bval an al * v) ∧ Bi ((v * s64 (t - b) + r) * w) ∧ Bi (bval an al * v - (v * s64 (t - b) + r) * w)) ∧ (ok = true → bval gn gl = bval an al * v - (v * s64 (t - b) + r) * w) ∧ (ok = false → bval gn gl = 0))
  | _, _ => False
def Q10 : List DV → Prop
  | [.num b, .tru an, .lst al, .num w, .num n, .num t, .num r, .num v] => BOK an al ∧ Bi (bval an al) ∧ U64 b ∧ U64 w ∧ 0 ≤ n ∧ n ≤ 1000 ∧ U64 t ∧ U32 r ∧ U32 v
  | _ => False
def C10 : Con := ⟨10, [(.agg [.int .u64, .bool, .list [.int .i64], .int .u64, .int .i64]), (.agg [.int .u64, .int .u32, .int .u32])], (.tup [(.agg [.bool, .list [.int .i64]]), (.one .bool)]), false, true⟩
/-- turnstone/clamp.Window -/
def R64 : List DV → List DV → Prop
  | [.num s, .num t], [.num w, .tru ok] => ((ok = true ↔ 1 ≤ s ∧ s ≤ 1099511627776 ∧ 1 ≤ t ∧ t ≤ 1099511627776) ∧ (ok = true → w = (2 * s + t) * 1048576) ∧ (ok = false → w = 0))
  | _, _ => False
def Q64 : List DV → Prop
  | [.num s, .num t] => U64 s ∧ U64 t
  | _ => False
def C64 : Con := ⟨64, [(.one (.int .u64)), (.one (.int .u64))], (.tup [(.one (.int .i64)), (.one .bool)]), false, true⟩
/-- turnstone/turnstoneref04.Word -/
def R102 : List DV → List DV → Prop
  | [.tru n, .lst l], [.num x] => (x = bval n l)
  | _, _ => False
def Q102 : List DV → Prop
  | [.tru n, .lst l] => BOK n l ∧ 0 ≤ bval n l ∧ bval n l < 18446744073709551616
  | _ => False
def C102 : Con := ⟨102, [(.agg [.bool, .list [.int .i64]])], (.p (.one (.int .u64))), false, true⟩
def R110203 : List DV → List DV → Prop
  | [.lst l, .num y0, .num i0], [.num y, .num i] => (-1 ≤ i ∧ i < l.length ∧ y = dval (l.drop (i + 1).toNat))
  | _, _ => False
def M110203 : List DV → List DV → Nat
  | [.lst l, .num y0, .num i0], [.num y, .num i] => ((i + 1).toNat)
  | _, _ => 0
def L110203 : FuncId × LCon := (102, ⟨3, 110203, [⟨true, 3, 0, (.int .u64), .gone⟩, ⟨true, 4, 0, (.int .i64), .gone⟩], [(false, 0, 1)]⟩)
/-- turnstone/turnstoneref04.At -/
def R63 : List DV → List DV → Prop
  | [.num base, .tru dn, .lst dl, .num w], [.num t, .num r, .num v, .tru ok] => ((ok = true ↔ WT w ∧ I64 (bval dn dl / w)) ∧ (ok = true → t = (base + bval dn dl / w) % 18446744073709551616 ∧ r = bval dn dl % w ∧ 0 ≤ r ∧ r < w ∧ v = w) ∧ (ok = false → t = 0 ∧ r = 0 ∧ v = 0))
  | _, _ => False
def Q63 : List DV → Prop
  | [.num base, .tru dn, .lst dl, .num w] => U64 base ∧ Bg dn dl ∧ U32 w
  | _ => False
def C63 : Con := ⟨63, [(.one (.int .u64)), (.agg [.bool, .list [.int .i64]]), (.one (.int .u32))], (.tup [(.agg [.int .u64, .int .u32, .int .u32]), (.one .bool)]), false, true⟩
/-- turnstone/turnstoneref08.Floor -/
def R78 : List DV → List DV → Prop
  | [.num b, .tru an, .lst al, .num w, .num n], [.num t, .tru ok] => ((ok = true ↔ Mq (bval an al) w n ∧ 0 < n ∧ I64 (bval an al / w)) ∧ (ok = true → t = (b + bval an al / w) % 18446744073709551616) ∧ (ok = false → t = 0))
  | _, _ => False
def Q78 : List DV → Prop
  | [.num b, .tru an, .lst al, .num w, .num n] => BOK an al ∧ Bi (bval an al) ∧ U64 b ∧ U64 w ∧ 0 ≤ n ∧ n ≤ 1000
  | _ => False
def C78 : Con := ⟨78, [(.agg [.int .u64, .bool, .list [.int .i64], .int .u64, .int .i64])], (.tup [(.one (.int .u64)), (.one .bool)]), false, true⟩
/-- turnstone/turnstoneref03.Round -/
def R103 : List DV → List DV → Prop
  | [.tru an, .lst al], [.tru n, .lst l] => (BOK n l ∧ bval n l = bval an al % 18446744073709551616)
  | _, _ => False
def Q103 : List DV → Prop
  | [.tru an, .lst al] => BOK an al ∧ -1180591620717411303424 < bval an al ∧ bval an al < 1180591620717411303424
  | _ => False
def C103 : Con := ⟨103, [(.agg [.bool, .list [.int .i64]])], (.p (.agg [.bool, .list [.int .i64]])), false, false⟩
def R110302 : List DV → List DV → Prop
  | [.tru sn0, .lst sl0], [.tru sn, .lst sl] => (BOK sn sl ∧ -1180591620717411303424 < bval sn sl ∧ bval sn sl < 1180591620717411303424 ∧ bval sn sl % 18446744073709551616 = bval sn0 sl0 % 18446744073709551616)
  | _, _ => False
def M110302 : List DV → List DV → Nat
  | [.tru sn0, .lst sl0], [.tru sn, .lst sl] => ((0 - bval sn sl).toNat)
  | _, _ => 0
def L110302 : FuncId × LCon := (103, ⟨2, 110302, [⟨false, 0, 0, .bool, .gone⟩, ⟨false, 0, 1, (.list [.int .i64]), (.rd [.int .i64] false)⟩], []⟩)
def R110304 : List DV → List DV → Prop
  | [.tru sn0, .lst sl0], [.tru sn, .lst sl] => (BOK sn sl ∧ 0 ≤ bval sn sl ∧ bval sn sl < 1180591620717411303424 ∧ bval sn sl % 18446744073709551616 = bval sn0 sl0 % 18446744073709551616)
  | _, _ => False
def M110304 : List DV → List DV → Nat
  | [.tru sn0, .lst sl0], [.tru sn, .lst sl] => ((bval sn sl).toNat)
  | _, _ => 0
def L110304 : FuncId × LCon := (103, ⟨4, 110304, [⟨false, 0, 0, .bool, .gone⟩, ⟨false, 0, 1, (.list [.int .i64]), (.rd [.int .i64] false)⟩], []⟩)
/-- turnstone/place.Place -/
def R20 : List DV → List DV → Prop
  | [.num b, .num h, .num l, .num w, .num n, .num c, .num x, .num g], [.num t, .num r, .num v, .tru ok] => ((ok = true ↔ MR h l w n ∧ WT x ∧ (n ≠ 0 → Big (wv h l * x) ∧ Big (g * (w + x)) ∧ Big (wv h l * x - g * (w + x)) ∧ I64 ((wv h l * x - g * (w + x)) / w / x))) ∧ (ok = true → v = x ∧ (n = 0 → t = c ∧ r = 0) ∧ (n ≠ 0 → t = (b + (wv h l * x - g * (w + x)) / w / x) % 18446744073709551616 ∧ r = (wv h l * x - g * (w + x)) / w % x)) ∧ (ok = false → t = 0 ∧ r = 0 ∧ v = 0))
  | _, _ => False
def Q20 : List DV → Prop
  | [.num b, .num h, .num l, .num w, .num n, .num c, .num x, .num g] => W h l ∧ U64 w ∧ I64 n ∧ U32 x ∧ I64 g
  | _ => False
def C20 : Con := ⟨20, [(.agg [.int .u64, .int .i64, .int .u64, .int .u64, .int .i64]), (.one (.int .u64)), (.one (.int .u32)), (.one (.int .i64))], (.tup [(.agg [.int .u64, .int .u32, .int .u32]), (.one .bool)]), false, true⟩
/-- turnstone/turnstoneref10.Place -/
def R21 : List DV → List DV → Prop
  | [.num b, .tru an, .lst al, .num w, .num n, .num c, .num x, .num g], [.num t, .num r, .num v, .tru ok] => ((ok = true ↔ Mq (bval an al) w n ∧ WT x ∧ (n ≠ 0 → Bi (bval an al * x) ∧ Bi (g * (w + x)) ∧ Bi (bval an al * x - g * (w + x)) ∧ I64 ((bval an al * x - g * (w + x)) / w / x))) ∧ (ok = true → v = x ∧ (n = 0 → t = c ∧ r = 0) ∧ (n ≠ 0 → t = (b + (bval an al * x - g * (w + x)) / w / x) % 18446744073709551616 ∧ r = (bval an al * x - g * (w + x)) / w % x)) ∧ (ok = false → t = 0 ∧ r = 0 ∧ v = 0))
  | _, _ => False
def Q21 : List DV → Prop
  | [.num b, .tru an, .lst al, .num w, .num n, .num c, .num x, .num g] => BOK an al ∧ Bi (bval an al) ∧ U64 b ∧ U64 w ∧ 0 ≤ n ∧ n ≤ 1000 ∧ U64 c ∧ U32 x ∧ I64 g
  | _ => False
def C21 : Con := ⟨21, [(.agg [.int .u64, .bool, .list [.int .i64], .int .u64, .int .i64]), (.one (.int .u64)), (.one (.int .u32)), (.one (.int .i64))], (.tup [(.agg [.int .u64, .int .u32, .int .u32]), (.one .bool)]), false, true⟩
/-- turnstone/turnstonelaw10.PlacePlays -/
def R4 : List DV → List DV → Prop
  | [.num b, .num h, .num l, .num w, .num n, .num c, .num x, .num g], [.tru ok] => (ok = true)
  | _, _ => False
def Q4 : List DV → Prop
  | [.num b, .num h, .num l, .num w, .num n, .num c, .num x, .num g] => W h l ∧ U64 b ∧ U64 w ∧ I64 n ∧ U64 c ∧ U32 x ∧ I64 g
  | _ => False
def C4 : Con := ⟨4, [(.agg [.int .u64, .int .i64, .int .u64, .int .u64, .int .i64]), (.one (.int .u64)), (.one (.int .u32)), (.one (.int .i64))], (.p (.one .bool)), false, true⟩
/-- turnstone/pos.Floors -/
def R83 : List DV → List DV → Prop
  | [.num base, .lst xs], [.num lo, .num hi] => (lo = mnF (tf 0 base xs) xs.length ∧ hi = mxF (tf 0 base xs) xs.length)
  | _, _ => False
def C83 : Con := ⟨83, [(.one (.int .u64)), (.one (.list [.int .u64, .int .u32, .int .u32]))], (.tup [(.one (.int .i64)), (.one (.int .i64))]), true, true⟩
def R108302 : List DV → List DV → Prop
  | [.num base, .lst xs, .num lo0, .num hi0, .num i0], [.num lo, .num hi, .num i] => (0 ≤ i ∧ i ≤ xs.length ∧ lo = mnF (tf 0 base xs) i.toNat ∧ hi = mxF (tf 0 base xs) i.toNat)
  | _, _ => False
def M108302 : List DV → List DV → Nat
  | [.num base, .lst xs, .num lo0, .num hi0, .num i0], [.num lo, .num hi, .num i] => ((xs.length - i).toNat)
  | _, _ => 0
def L108302 : FuncId × LCon := (83, ⟨2, 108302, [⟨true, 4, 0, (.int .i64), .gone⟩, ⟨true, 5, 0, (.int .i64), .gone⟩, ⟨true, 11, 0, (.int .i64), .gone⟩], [(true, 0, 0), (true, 1, 0)]⟩)
/-- turnstone/item.Spread -/
def R41 : List DV → List DV → Prop
  | [.num base, .lst xs], [.num s] => (s = SPR base xs)
  | _, _ => False
def Q41 : List DV → Prop
  | [.num base, .lst xs] => (xs.length : Int) ≤ 1000
  | _ => False
def C41 : Con := ⟨41, [(.one (.int .u64)), (.one (.list [.int .u64, .int .u32, .int .u32, .int .i64, .int .u64, .int .u32, .int .u32]))], (.p (.one (.int .u64))), false, true⟩
def R104103 : List DV → List DV → Prop
  | [.num base, .lst xs, .lst p0, .lst q0, .num i0], [.lst p, .lst q, .num i] => (0 ≤ i ∧ i ≤ xs.length ∧ p.length = i ∧ q.length = 2 * i ∧ PL xs p ∧ AL xs q)
  | _, _ => False
def M104103 : List DV → List DV → Nat
  | [.num base, .lst xs, .lst p0, .lst q0, .num i0], [.lst p, .lst q, .num i] => ((xs.length - i).toNat)
  | _, _ => 0
def L104103 : FuncId × LCon := (41, ⟨3, 104103, [⟨true, 5, 0, (.list [.int .u64, .int .u32, .int .u32]), (.own [.int .u64, .int .u32, .int .u32] 33)⟩, ⟨true, 6, 0, (.list [.int .u64, .int .u32, .int .u32]), (.own [.int .u64, .int .u32, .int .u32] 33)⟩, ⟨true, 15, 0, (.int .i64), .gone⟩], [(true, 0, 0), (true, 1, 0)]⟩)
/-- turnstone/span.Within -/
def R31 : List DV → List DV → Prop
  | [.num base, .lst xs], [.tru ok] => (ok = true ↔ SPR base xs ≤ 4611686018427387904)
  | _, _ => False
def Q31 : List DV → Prop
  | [.num base, .lst xs] => (xs.length : Int) ≤ 1000
  | _ => False
def C31 : Con := ⟨31, [(.one (.int .u64)), (.one (.list [.int .u64, .int .u32, .int .u32, .int .i64, .int .u64, .int .u32, .int .u32]))], (.p (.one .bool)), false, true⟩
/-- turnstone/span.Room -/
def R30 : List DV → List DV → Prop
  | [.num base, .lst xs], [.num s] => ((SPR base xs ≤ 4611686018427387904 → s = 4611686018427387904 - SPR base xs) ∧ (4611686018427387904 < SPR base xs → s = 0))
  | _, _ => False
def Q30 : List DV → Prop
  | [.num base, .lst xs] => (xs.length : Int) ≤ 1000
  | _ => False
def C30 : Con := ⟨30, [(.one (.int .u64)), (.one (.list [.int .u64, .int .u32, .int .u32, .int .i64, .int .u64, .int .u32, .int .u32]))], (.p (.one (.int .u64))), false, true⟩
/-- (turnstone/item.Item).Right -/
def R32 : List DV → List DV → Prop
  | [.num t, .num r, .num w, .num id, .num dt, .num dr, .num dw], [.tru ok] => (ok = true ↔ PR r w ∧ PR dr dw ∧ w = dw ∧ 0 < id ∧ 0 ≤ s64 (dt - t) ∧ s64 (dt - t) ≤ 1152921504606846976)
  | _, _ => False
def Q32 : List DV → Prop
  | [.num t, .num r, .num w, .num id, .num dt, .num dr, .num dw] => U64 t ∧ U32 r ∧ U32 w ∧ U64 dt ∧ U32 dr ∧ U32 dw
  | _ => False
def C32 : Con := ⟨32, [(.agg [.int .u64, .int .u32, .int .u32, .int .i64, .int .u64, .int .u32, .int .u32])], (.p (.one .bool)), false, true⟩
/-- turnstone/turnstonelaw13.SpanGrows -/
def R6 : List DV → List DV → Prop
  | [.num base, .lst xs, .num t, .num r, .num w, .num id, .num dt, .num dr, .num dw], [.tru ok] => (ok = true)
  | _, _ => False
def Q6 : List DV → Prop
  | [.num base, .lst xs, .num t, .num r, .num w, .num id, .num dt, .num dr, .num dw] => U64 t ∧ U32 r ∧ U32 w ∧ U64 dt ∧ U32 dr ∧ U32 dw
  | _ => False
def C6 : Con := ⟨6, [(.one (.int .u64)), (.one (.list [.int .u64, .int .u32, .int .u32, .int .i64, .int .u64, .int .u32, .int .u32])), (.agg [.int .u64, .int .u32, .int .u32, .int .i64, .int .u64, .int .u32, .int .u32])], (.p (.one .bool)), false, true⟩
/-- turnstone/lag.Owed -/
def R18 : List DV → List DV → Prop
  | [.num b, .num h, .num l, .num w, .num n, .lst xs], [.lst os] => (OW (EL b h l w n xs) os xs.length)
  | _, _ => False
def Q18 : List DV → Prop
  | [.num b, .num h, .num l, .num w, .num n, .lst xs] => W h l ∧ U64 w ∧ I64 n ∧ RK xs ∧ (xs.length : Int) ≤ 1000
  | _ => False
def C18 : Con := ⟨18, [(.agg [.int .u64, .int .i64, .int .u64, .int .u64, .int .i64]), (.one (.list [.int .u64, .int .u32, .int .u32]))], (.p (.one (.list [.int .i64]))), false, true⟩
def R101803 : List DV → List DV → Prop
  | [.num b, .num h, .num l, .num w, .num n, .lst xs, .lst os0, .num i0], [.lst os, .num i] => (0 ≤ i ∧ i ≤ xs.length ∧ OW (EL b h l w n xs) os i.toNat)
  | _, _ => False
def M101803 : List DV → List DV → Nat
  | [.num b, .num h, .num l, .num w, .num n, .lst xs, .lst os0, .num i0], [.lst os, .num i] => ((xs.length - i).toNat)
  | _, _ => 0
def L101803 : FuncId × LCon := (18, ⟨3, 101803, [⟨true, 5, 0, (.list [.int .i64]), (.own [.int .i64] 3)⟩, ⟨true, 10, 0, (.int .i64), .gone⟩], [(false, 0, 0), (false, 0, 1), (false, 0, 2), (false, 0, 3), (false, 0, 4), (true, 1, 0)]⟩)
/-- slices.Equal[[]int,int] -/
def R17 : List DV → List DV → Prop
  | [.lst a, .lst c], [.tru ok] => (ok = true ↔ a.length = c.length ∧ ∀ j : Nat, j < a.length → Sy.rowAt a j 0 = Sy.rowAt c j 0)
  | _, _ => False
def C17 : Con := ⟨17, [(.one (.list [.int .i64])), (.one (.list [.int .i64]))], (.p (.one .bool)), true, true⟩
def R101704 : List DV → List DV → Prop
  | [.lst a, .lst c, .num i0], [.num i] => (0 ≤ i ∧ i ≤ a.length ∧ ∀ j : Nat, (j : Int) < i → Sy.rowAt a j 0 = Sy.rowAt c j 0)
  | _, _ => False
def M101704 : List DV → List DV → Nat
  | [.lst a, .lst c, .num i0], [.num i] => ((a.length - i).toNat)
  | _, _ => 0
def L101704 : FuncId × LCon := (17, ⟨4, 101704, [⟨true, 13, 0, (.int .i64), .gone⟩], [(true, 0, 0), (true, 1, 0)]⟩)
/-- turnstone/turnstonelaw09.LagOwed -/
def R3 : List DV → List DV → Prop
  | [.num b, .num h, .num l, .num w, .num n, .num base, .lst xs], [.tru ok] => (ok = true)
  | _, _ => False
def Q3 : List DV → Prop
  | [.num b, .num h, .num l, .num w, .num n, .num base, .lst xs] => W h l ∧ U64 b ∧ U64 w ∧ I64 n ∧ U64 base ∧ RK xs
  | _ => False
def C3 : Con := ⟨3, [(.agg [.int .u64, .int .i64, .int .u64, .int .u64, .int .i64]), (.one (.int .u64)), (.one (.list [.int .u64, .int .u32, .int .u32]))], (.p (.one .bool)), false, true⟩
def R100308 : List DV → List DV → Prop
  | [.num b, .num h, .num l, .num w, .num n, .num base, .lst xs, .lst os0, .tru near0, .num i0], [.lst os, .tru near, .num i] => (0 ≤ i ∧ i ≤ xs.length ∧ OW (EL b h l w n xs) os i.toNat ∧ (near = true ↔ 0 < xs.length ∧ xs.length ≤ 32 ∧ AP xs i.toNat ∧ AQ 1152921504606846976 base xs i.toNat))
  | _, _ => False
def M100308 : List DV → List DV → Nat
  | [.num b, .num h, .num l, .num w, .num n, .num base, .lst xs, .lst os0, .tru near0, .num i0], [.lst os, .tru near, .num i] => ((xs.length - i).toNat)
  | _, _ => 0
def L100308 : FuncId × LCon := (3, ⟨8, 100308, [⟨true, 7, 0, (.list [.int .i64]), (.own [.int .i64] 3)⟩, ⟨true, 8, 0, .bool, .gone⟩, ⟨true, 41, 0, (.int .i64), .gone⟩], [(false, 0, 0), (false, 0, 1), (false, 0, 2), (false, 0, 3), (false, 0, 4), (true, 1, 0), (true, 2, 0)]⟩)
/-- turnstone/turnstonelaw05.Of -/
def R79 : List DV → List DV → Prop
  | [.num t, .num r, .num w, .num id, .num dt, .num dr, .num dw], [.num t2, .num r2, .num w2, .num id2, .num dt2, .num dr2, .num dw2] => (t2 = t ∧ r2 = r ∧ w2 = w ∧ id2 = id ∧ dt2 = dt ∧ dr2 = dr ∧ dw2 = dw)
  | _, _ => False
def Q79 : List DV → Prop
  | [.num t, .num r, .num w, .num id, .num dt, .num dr, .num dw] => U64 t ∧ U32 r ∧ U32 w ∧ U64 dt ∧ U32 dr ∧ U32 dw
  | _ => False
def C79 : Con := ⟨79, [(.agg [.int .u64, .int .u32, .int .u32, .int .i64, .int .u64, .int .u32, .int .u32])], (.p (.agg [.int .u64, .int .u32, .int .u32, .int .i64, .int .u64, .int .u32, .int .u32])), false, true⟩
/-- turnstone/turnstonelaw13.items -/
def R35 : List DV → List DV → Prop
  | [.lst xs], [.lst os] => (os = xs)
  | _, _ => False
def Q35 : List DV → Prop
  | [.lst xs] => RI xs ∧ (xs.length : Int) ≤ 1000
  | _ => False
def C35 : Con := ⟨35, [(.one (.list [.int .u64, .int .u32, .int .u32, .int .i64, .int .u64, .int .u32, .int .u32]))], (.p (.one (.list [.int .u64, .int .u32, .int .u32, .int .i64, .int .u64, .int .u32, .int .u32]))), false, true⟩
def R103503 : List DV → List DV → Prop
  | [.lst xs, .lst os0, .num i0], [.lst os, .num i] => (0 ≤ i ∧ i ≤ xs.length ∧ os = xs.take i.toNat)
  | _, _ => False
def M103503 : List DV → List DV → Nat
  | [.lst xs, .lst os0, .num i0], [.lst os, .num i] => ((xs.length - i).toNat)
  | _, _ => 0
def L103503 : FuncId × LCon := (35, ⟨3, 103503, [⟨true, 3, 0, (.list [.int .u64, .int .u32, .int .u32, .int .i64, .int .u64, .int .u32, .int .u32]), (.own [.int .u64, .int .u32, .int .u32, .int .i64, .int .u64, .int .u32, .int .u32] 118)⟩, ⟨true, 8, 0, (.int .i64), .gone⟩], [(true, 0, 0)]⟩)
/-- turnstone/turnstoneref05.Spread -/
def R80 : List DV → List DV → Prop
  | [.num base, .lst xs], [.tru n, .lst d] => (BOK n d ∧ bval n d = SPR base xs)
  | _, _ => False
def Q80 : List DV → Prop
  | [.num base, .lst xs] => U64 base ∧ RI xs ∧ (xs.length : Int) ≤ 1000
  | _ => False
def C80 : Con := ⟨80, [(.one (.int .u64)), (.one (.list [.int .u64, .int .u32, .int .u32, .int .i64, .int .u64, .int .u32, .int .u32]))], (.p (.agg [.bool, .list [.int .i64]])), false, true⟩
def R108003 : List DV → List DV → Prop
  | [.num base, .lst xs, .tru ln0, .lst ll0, .tru hn0, .lst hl0, .num i0], [.tru ln, .lst ll, .tru hn, .lst hl, .num i] => (0 ≤ i ∧ i ≤ xs.length ∧ BOK ln ll ∧ BOK hn hl ∧ bval ln ll = mnF (tf 0 base xs) i.toNat ∧ bval hn hl = mxF (tg base xs) (2 * i.toNat))
  | _, _ => False
def M108003 : List DV → List DV → Nat
  | [.num base, .lst xs, .tru ln0, .lst ll0, .tru hn0, .lst hl0, .num i0], [.tru ln, .lst ll, .tru hn, .lst hl, .num i] => ((xs.length - i).toNat)
  | _, _ => 0
def L108003 : FuncId × LCon := (80, ⟨3, 108003, [⟨false, 1, 0, .bool, .gone⟩, ⟨false, 1, 1, (.list [.int .i64]), (.rd [.int .i64] false)⟩, ⟨false, 2, 0, .bool, .gone⟩, ⟨false, 2, 1, (.list [.int .i64]), (.rd [.int .i64] false)⟩, ⟨true, 13, 0, (.int .i64), .gone⟩], [(true, 0, 0), (true, 1, 0)]⟩)
/-- turnstone/turnstoneref13.Within -/
def R36 : List DV → List DV → Prop
  | [.num base, .lst xs], [.tru ok] => (ok = true ↔ SPR base xs ≤ 4611686018427387904)
  | _, _ => False
def Q36 : List DV → Prop
  | [.num base, .lst xs] => U64 base ∧ RI xs ∧ (xs.length : Int) ≤ 1000
  | _ => False
def C36 : Con := ⟨36, [(.one (.int .u64)), (.one (.list [.int .u64, .int .u32, .int .u32, .int .i64, .int .u64, .int .u32, .int .u32]))], (.p (.one .bool)), false, true⟩
/-- turnstone/turnstoneref13.Room -/
def R39 : List DV → List DV → Prop
  | [.num base, .lst xs], [.tru n, .lst d] => (BOK n d ∧ (SPR base xs ≤ 4611686018427387904 → bval n d = 4611686018427387904 - SPR base xs) ∧ (4611686018427387904 < SPR base xs → bval n d = 0))
  | _, _ => False
def Q39 : List DV → Prop
  | [.num base, .lst xs] => U64 base ∧ RI xs ∧ (xs.length : Int) ≤ 1000
  | _ => False
def C39 : Con := ⟨39, [(.one (.int .u64)), (.one (.list [.int .u64, .int .u32, .int .u32, .int .i64, .int .u64, .int .u32, .int .u32]))], (.p (.agg [.bool, .list [.int .i64]])), false, true⟩
/-- turnstone/turnstoneref08.Add -/
def R119 : List DV → List DV → Prop
  | [.num b, .tru an, .lst al, .num w, .num n, .num t, .num r, .num v], [.num b2, .tru cn, .lst cl, .num w2, .num n2, .tru ok] => (BOK cn cl ∧ (ok = true ↔ Mq (bval an al) w n ∧ Pq r v ∧ n < 32 ∧ Bi (bval an al + (v * s64 (t - b) + r))) ∧ (ok = true → b2 = b ∧ bval cn cl = bval an al + (v * s64 (t - b) + r) ∧ w2 = w + v ∧ n2 = n + 1) ∧ (ok = false → b2 = 0 ∧ bval cn cl = 0 ∧ w2 = 0 ∧ n2 = 0))
  | _, _ => False
def Q119 : List DV → Prop
  | [.num b, .tru an, .lst al, .num w, .num n, .num t, .num r, .num v] => BOK an al ∧ Bi (bval an al) ∧ U64 b ∧ U64 w ∧ 0 ≤ n ∧ n ≤ 1000 ∧ U64 t ∧ U32 r ∧ U32 v
  | _ => False
def C119 : Con := ⟨119, [(.agg [.int .u64, .bool, .list [.int .i64], .int .u64, .int .i64]), (.agg [.int .u64, .int .u32, .int .u32])], (.tup [(.agg [.int .u64, .bool, .list [.int .i64], .int .u64, .int .i64]), (.one .bool)]), false, true⟩
/-- turnstone/turnstoneref08.Of -/
def R109 : List DV → List DV → Prop
  | [.num base, .lst xs], [.num b2, .tru an, .lst al, .num w, .num n, .tru ok] => ((ok = true ↔ xs.length ≤ 32 ∧ AP xs xs.length) ∧ (ok = true → b2 = base ∧ bval an al = SA base xs xs.length ∧ w = SW xs xs.length ∧ n = xs.length) ∧ (ok = false → b2 = 0 ∧ bval an al = 0 ∧ w = 0 ∧ n = 0) ∧ BOK an al)
  | _, _ => False
def Q109 : List DV → Prop
  | [.num base, .lst xs] => U64 base ∧ RK xs ∧ (xs.length : Int) ≤ 1000
  | _ => False
def C109 : Con := ⟨109, [(.one (.int .u64)), (.one (.list [.int .u64, .int .u32, .int .u32]))], (.tup [(.agg [.int .u64, .bool, .list [.int .i64], .int .u64, .int .i64]), (.one .bool)]), false, true⟩
def R110903 : List DV → List DV → Prop
  | [.num base, .lst xs, .num mb0, .tru mn0, .lst ml0, .num mw0, .num mk0, .num i0], [.num mb, .tru mn, .lst ml, .num mw, .num mk, .num i] => (0 ≤ i ∧ i ≤ xs.length ∧ i ≤ 32 ∧ mb = base ∧ BOK mn ml ∧ bval mn ml = SA base xs i.toNat ∧ mw = SW xs i.toNat ∧ mk = i ∧ AP xs i.toNat)
  | _, _ => False
def M110903 : List DV → List DV → Nat
  | [.num base, .lst xs, .num mb0, .tru mn0, .lst ml0, .num mw0, .num mk0, .num i0], [.num mb, .tru mn, .lst ml, .num mw, .num mk, .num i] => ((xs.length - i).toNat)
  | _, _ => 0
def L110903 : FuncId × LCon := (109, ⟨3, 110903, [⟨false, 4, 0, (.int .u64), .gone⟩, ⟨false, 4, 1, .bool, .gone⟩, ⟨false, 4, 2, (.list [.int .i64]), (.rd [.int .i64] false)⟩, ⟨false, 4, 3, (.int .u64), .gone⟩, ⟨false, 4, 4, (.int .i64), .gone⟩, ⟨true, 15, 0, (.int .i64), .gone⟩], [(true, 0, 0), (true, 1, 0)]⟩)
/-- turnstone/turnstoneref13.Mean -/
def R77 : List DV → List DV → Prop
  | [.num base, .lst xs], [.num b2, .tru an, .lst al, .num w, .num n, .tru ok] => ((ok = true ↔ xs.length ≤ 32 ∧ AP xs xs.length) ∧ (ok = true → b2 = base ∧ bval an al = SA base xs xs.length ∧ w = SW xs xs.length ∧ n = xs.length) ∧ (ok = false → b2 = 0 ∧ bval an al = 0 ∧ w = 0 ∧ n = 0) ∧ BOK an al)
  | _, _ => False
def Q77 : List DV → Prop
  | [.num base, .lst xs] => U64 base ∧ RI xs ∧ (xs.length : Int) ≤ 1000
  | _ => False
def C77 : Con := ⟨77, [(.one (.int .u64)), (.one (.list [.int .u64, .int .u32, .int .u32, .int .i64, .int .u64, .int .u32, .int .u32]))], (.tup [(.agg [.int .u64, .bool, .list [.int .i64], .int .u64, .int .i64]), (.one .bool)]), false, true⟩
def R107703 : List DV → List DV → Prop
  | [.lst xs, .lst p0, .num i0], [.lst p, .num i] => (0 ≤ i ∧ i ≤ xs.length ∧ p.length = i ∧ PQ xs p)
  | _, _ => False
def M107703 : List DV → List DV → Nat
  | [.lst xs, .lst p0, .num i0], [.lst p, .num i] => ((xs.length - i).toNat)
  | _, _ => 0
def L107703 : FuncId × LCon := (77, ⟨3, 107703, [⟨true, 6, 0, (.list [.int .u64, .int .u32, .int .u32]), (.own [.int .u64, .int .u32, .int .u32] 42)⟩, ⟨true, 11, 0, (.int .i64), .gone⟩], [(true, 1, 0)]⟩)
/-- turnstone/turnstoneref13.Anchor -/
def R34 : List DV → List DV → Prop
  | [.lst xs], [.num t, .tru ok] => ((ok = true ↔ 0 < xs.length ∧ xs.length ≤ 32 ∧ AP xs xs.length ∧ I64 (SA (Sy.rowAt xs 0 0) xs xs.length / SW xs xs.length)) ∧ (ok = true → t = (Sy.rowAt xs 0 0 + SA (Sy.rowAt xs 0 0) xs xs.length / SW xs xs.length) % 18446744073709551616) ∧ (ok = false → t = 0))
  | _, _ => False
def Q34 : List DV → Prop
  | [.lst xs] => RI xs ∧ (xs.length : Int) ≤ 1000
  | _ => False
def C34 : Con := ⟨34, [(.one (.list [.int .u64, .int .u32, .int .u32, .int .i64, .int .u64, .int .u32, .int .u32]))], (.tup [(.one (.int .u64)), (.one .bool)]), false, true⟩
/-- turnstone/span.Anchor -/
def R33 : List DV → List DV → Prop
  | [.lst xs], [.num t, .tru ok] => ((ok = true ↔ 0 < xs.length ∧ xs.length ≤ 32 ∧ AP xs xs.length ∧ I64 (SA (Sy.rowAt xs 0 0) xs xs.length / SW xs xs.length)) ∧ (ok = true → t = (Sy.rowAt xs 0 0 + SA (Sy.rowAt xs 0 0) xs xs.length / SW xs xs.length) % 18446744073709551616) ∧ (ok = false → t = 0))
  | _, _ => False
def Q33 : List DV → Prop
  | [.lst xs] => RI xs ∧ (xs.length : Int) ≤ 1000
  | _ => False
def C33 : Con := ⟨33, [(.one (.list [.int .u64, .int .u32, .int .u32, .int .i64, .int .u64, .int .u32, .int .u32]))], (.tup [(.one (.int .u64)), (.one .bool)]), false, true⟩
def R103305 : List DV → List DV → Prop
  | [.lst xs, .lst p0, .num i0], [.lst p, .num i] => (0 ≤ i ∧ i ≤ xs.length ∧ p.length = i ∧ PQ xs p)
  | _, _ => False
def M103305 : List DV → List DV → Nat
  | [.lst xs, .lst p0, .num i0], [.lst p, .num i] => ((xs.length - i).toNat)
  | _, _ => 0
def L103305 : FuncId × LCon := (33, ⟨5, 103305, [⟨true, 4, 0, (.list [.int .u64, .int .u32, .int .u32]), (.own [.int .u64, .int .u32, .int .u32] 33)⟩, ⟨true, 14, 0, (.int .i64), .gone⟩], [(true, 0, 0)]⟩)
/-- turnstone/turnstonelaw13.SpanTells -/
def R7 : List DV → List DV → Prop
  | [.num base, .lst xs], [.tru ok] => (ok = true)
  | _, _ => False
def Q7 : List DV → Prop
  | [.num base, .lst xs] => U64 base ∧ RI xs
  | _ => False
def C7 : Con := ⟨7, [(.one (.int .u64)), (.one (.list [.int .u64, .int .u32, .int .u32, .int .i64, .int .u64, .int .u32, .int .u32]))], (.p (.one .bool)), false, true⟩
/-- turnstone/vtime.First -/
def R40 : List DV → List DV → Prop
  | [.num t, .lst us], [.num r] => (r = fstL t us us.length)
  | _, _ => False
def C40 : Con := ⟨40, [(.one (.int .u64)), (.one (.list [.int .u64]))], (.p (.one (.int .u64))), true, true⟩
def R104002 : List DV → List DV → Prop
  | [.lst us, .num y0, .num i0], [.num y, .num i] => (0 ≤ i ∧ i ≤ us.length ∧ y = fstL y0 us i.toNat)
  | _, _ => False
def M104002 : List DV → List DV → Nat
  | [.lst us, .num y0, .num i0], [.num y, .num i] => ((us.length - i).toNat)
  | _, _ => 0
def L104002 : FuncId × LCon := (40, ⟨2, 104002, [⟨true, 0, 0, (.int .u64), .gone⟩, ⟨true, 9, 0, (.int .i64), .gone⟩], [(true, 1, 0)]⟩)
/-- (turnstone/item.Item).Shift -/
def R42 : List DV → List DV → Prop
  | [.num t, .num r, .num w, .num id, .num dt, .num dr, .num dw, .num y], [.num t2, .num r2, .num w2, .num id2, .num dt2, .num dr2, .num dw2] => (t2 = (t + y) % 18446744073709551616 ∧ r2 = r ∧ w2 = w ∧ id2 = id ∧ dt2 = (dt + y) % 18446744073709551616 ∧ dr2 = dr ∧ dw2 = dw)
  | _, _ => False
def C42 : Con := ⟨42, [(.agg [.int .u64, .int .u32, .int .u32, .int .i64, .int .u64, .int .u32, .int .u32]), (.one (.int .u64))], (.p (.agg [.int .u64, .int .u32, .int .u32, .int .i64, .int .u64, .int .u32, .int .u32])), true, true⟩
/-- turnstone/turnstonelaw13.SpanBases -/
def R8 : List DV → List DV → Prop
  | [.lst xs, .num y], [.tru ok] => (ok = true)
  | _, _ => False
def Q8 : List DV → Prop
  | [.lst xs, .num y] => RI xs ∧ U64 y
  | _ => False
def C8 : Con := ⟨8, [(.one (.list [.int .u64, .int .u32, .int .u32, .int .i64, .int .u64, .int .u32, .int .u32])), (.one (.int .u64))], (.p (.one .bool)), false, true⟩
def R100807 : List DV → List DV → Prop
  | [.lst xs, .num fs0, .num i0], [.num fs, .num i] => (0 ≤ i ∧ i ≤ xs.length ∧ (∃ j : Nat, j < xs.length ∧ fs = Sy.rowAt xs j 0) ∧ IRR xs i.toNat)
  | _, _ => False
def M100807 : List DV → List DV → Nat
  | [.lst xs, .num fs0, .num i0], [.num fs, .num i] => ((xs.length - i).toNat)
  | _, _ => 0
def L100807 : FuncId × LCon := (8, ⟨7, 100807, [⟨true, 5, 0, (.int .u64), .gone⟩, ⟨true, 33, 0, (.int .i64), .gone⟩], [(true, 0, 0)]⟩)
def R100819 : List DV → List DV → Prop
  | [.lst xs, .num y, .lst ms0, .num i0], [.lst ms, .num i] => (0 ≤ i ∧ i ≤ xs.length ∧ ms.length = i ∧ SH y xs ms)
  | _, _ => False
def M100819 : List DV → List DV → Nat
  | [.lst xs, .num y, .lst ms0, .num i0], [.lst ms, .num i] => ((xs.length - i).toNat)
  | _, _ => 0
def L100819 : FuncId × LCon := (8, ⟨19, 100819, [⟨true, 11, 0, (.list [.int .u64, .int .u32, .int .u32, .int .i64, .int .u64, .int .u32, .int .u32]), (.own [.int .u64, .int .u32, .int .u32, .int .i64, .int .u64, .int .u32, .int .u32] 67)⟩, ⟨true, 93, 0, (.int .i64), .gone⟩], [(true, 0, 0), (true, 1, 0)]⟩)
def Tr_ : Nat → List DV → List DV → Prop
  | 53 => R53
  | 15 => R15
  | 94 => R94
  | 96 => R96
  | 112 => R112
  | 45 => R45
  | 98 => R98
  | 90 => R90
  | 58 => R58
  | 92 => R92
  | 95 => R95
  | 99 => R99
  | 123 => R123
  | 113 => R113
  | 93 => R93
  | 57 => R57
  | 105 => R105
  | 67 => R67
  | 68 => R68
  | 97 => R97
  | 109717 => R109717
  | 109724 => R109724
  | 59 => R59
  | 100 => R100
  | 14 => R14
  | 82 => R82
  | 74 => R74
  | 91 => R91
  | 60 => R60
  | 177 => R177
  | 145 => R145
  | 56 => R56
  | 54 => R54
  | 76 => R76
  | 84 => R84
  | 86 => R86
  | 46 => R46
  | 43 => R43
  | 114 => R114
  | 16 => R16
  | 101603 => R101603
  | 87 => R87
  | 107 => R107
  | 110702 => R110702
  | 106 => R106
  | 110604 => R110604
  | 108 => R108
  | 110804 => R110804
  | 88 => R88
  | 108801 => R108801
  | 38 => R38
  | 103802 => R103802
  | 61 => R61
  | 70 => R70
  | 73 => R73
  | 51 => R51
  | 13 => R13
  | 37 => R37
  | 49 => R49
  | 104903 => R104903
  | 104907 => R104907
  | 62 => R62
  | 106204 => R106204
  | 81 => R81
  | 108103 => R108103
  | 66 => R66
  | 52 => R52
  | 101 => R101
  | 89 => R89
  | 48 => R48
  | 50 => R50
  | 47 => R47
  | 12 => R12
  | 23 => R23
  | 24 => R24
  | 11 => R11
  | 10 => R10
  | 64 => R64
  | 102 => R102
  | 110203 => R110203
  | 63 => R63
  | 78 => R78
  | 103 => R103
  | 110302 => R110302
  | 110304 => R110304
  | 20 => R20
  | 21 => R21
  | 4 => R4
  | 83 => R83
  | 108302 => R108302
  | 41 => R41
  | 104103 => R104103
  | 31 => R31
  | 30 => R30
  | 32 => R32
  | 6 => R6
  | 18 => R18
  | 101803 => R101803
  | 17 => R17
  | 101704 => R101704
  | 3 => R3
  | 100308 => R100308
  | 79 => R79
  | 35 => R35
  | 103503 => R103503
  | 80 => R80
  | 108003 => R108003
  | 36 => R36
  | 39 => R39
  | 119 => R119
  | 109 => R109
  | 110903 => R110903
  | 77 => R77
  | 107703 => R107703
  | 34 => R34
  | 33 => R33
  | 103305 => R103305
  | 7 => R7
  | 40 => R40
  | 104002 => R104002
  | 42 => R42
  | 8 => R8
  | 100807 => R100807
  | 100819 => R100819
  | _ => fun _ _ => True
def Tp_ : Nat → List DV → Prop
  | 94 => Q94
  | 96 => Q96
  | 45 => Q45
  | 98 => Q98
  | 90 => Q90
  | 58 => Q58
  | 92 => Q92
  | 95 => Q95
  | 99 => Q99
  | 123 => Q123
  | 113 => Q113
  | 93 => Q93
  | 57 => Q57
  | 105 => Q105
  | 67 => Q67
  | 68 => Q68
  | 97 => Q97
  | 59 => Q59
  | 91 => Q91
  | 60 => Q60
  | 177 => Q177
  | 145 => Q145
  | 56 => Q56
  | 54 => Q54
  | 76 => Q76
  | 84 => Q84
  | 86 => Q86
  | 46 => Q46
  | 43 => Q43
  | 114 => Q114
  | 16 => Q16
  | 87 => Q87
  | 107 => Q107
  | 106 => Q106
  | 108 => Q108
  | 88 => Q88
  | 38 => Q38
  | 61 => Q61
  | 70 => Q70
  | 73 => Q73
  | 51 => Q51
  | 13 => Q13
  | 37 => Q37
  | 49 => Q49
  | 62 => Q62
  | 81 => Q81
  | 66 => Q66
  | 52 => Q52
  | 101 => Q101
  | 89 => Q89
  | 50 => Q50
  | 47 => Q47
  | 12 => Q12
  | 23 => Q23
  | 24 => Q24
  | 11 => Q11
  | 10 => Q10
  | 64 => Q64
  | 102 => Q102
  | 63 => Q63
  | 78 => Q78
  | 103 => Q103
  | 20 => Q20
  | 21 => Q21
  | 4 => Q4
  | 41 => Q41
  | 31 => Q31
  | 30 => Q30
  | 32 => Q32
  | 6 => Q6
  | 18 => Q18
  | 3 => Q3
  | 79 => Q79
  | 35 => Q35
  | 80 => Q80
  | 36 => Q36
  | 39 => Q39
  | 119 => Q119
  | 109 => Q109
  | 77 => Q77
  | 34 => Q34
  | 33 => Q33
  | 7 => Q7
  | 8 => Q8
  | _ => fun _ => True
def Tm_ : Nat → List DV → List DV → Nat
  | 109717 => M109717
  | 109724 => M109724
  | 101603 => M101603
  | 110702 => M110702
  | 110604 => M110604
  | 110804 => M110804
  | 108801 => M108801
  | 103802 => M103802
  | 104903 => M104903
  | 104907 => M104907
  | 106204 => M106204
  | 108103 => M108103
  | 110203 => M110203
  | 110302 => M110302
  | 110304 => M110304
  | 108302 => M108302
  | 104103 => M104103
  | 101803 => M101803
  | 101704 => M101704
  | 100308 => M100308
  | 103503 => M103503
  | 108003 => M108003
  | 110903 => M110903
  | 107703 => M107703
  | 103305 => M103305
  | 104002 => M104002
  | 100807 => M100807
  | 100819 => M100819
  | _ => fun _ _ => 0
def T : Tab := ⟨Tr_, Tp_, Tm_⟩
end Go.Proofs.YthlcpdjpnbbaeaaGreatDoor.Fn
