/- What is told of each function: what holds between what it takes and what it yields. -/
import Derived.Test.YtpccjjfcklplaaaSyTree
import Derived.Test.YtpccjjfcklplaaaProg
import Derived.Laws.Externs
import Derived.Lib.BitFns
import Derived.Test.YtpccjjfcklplaaaWords
import Derived.Test.YtpccjjfcklplaaaWords2
import Derived.Test.YtpccjjfcklplaaaWords3
import Derived.Test.YtpccjjfcklplaaaWords4
import Derived.Test.YtpccjjfcklplaaaWords5
import Derived.Test.YtpccjjfcklplaaaWords6
namespace Go.Proofs.Ytpccjjfcklplaaa.Fn
open Go Go.RowKit Go.Proofs.Ytpccjjfcklplaaa.Sy
set_option linter.unusedVariables false
/-- turnstone/pos.weight -/
def R80 : List DV → List DV → Prop
  | [.num w], [.tru ok] => (ok = true ↔ 1 ≤ w ∧ w ≤ 1048576)
  | _, _ => False
def C80 : Con := ⟨80, [(.one (.int .u32))], (.p (.one .bool)), true, true⟩
/-- (turnstone/pos.Pos).Right -/
def R60 : List DV → List DV → Prop
  | [.num t, .num r, .num w], [.tru ok] => (ok = true ↔ 1 ≤ w ∧ w ≤ 1048576 ∧ r < w)
  | _, _ => False
def C60 : Con := ⟨60, [(.agg [.int .u64, .int .u32, .int .u32])], (.p (.one .bool)), true, true⟩
/-- math/bits.Add64 -/
def R103 : List DV → List DV → Prop
  | [.num a, .num b, .num c], [.num lo, .num hi] => (lo = (a + b + c) % 18446744073709551616 ∧ hi = (a + b + c) / 18446744073709551616)
  | _, _ => False
def Q103 : List DV → Prop
  | [.num a, .num b, .num c] => U64 a ∧ U64 b ∧ 0 ≤ c ∧ c ≤ 1
  | _ => False
def C103 : Con := ⟨103, [(.one (.int .u64)), (.one (.int .u64)), (.one (.int .u64))], (.tup [(.one (.int .u64)), (.one (.int .u64))]), false, true⟩
/-- math/bits.Sub64 -/
def R123 : List DV → List DV → Prop
  | [.num a, .num b, .num c], [.num lo, .num hi] => (lo = (a - b - c) % 18446744073709551616 ∧ (a < b + c → hi = 1) ∧ (b + c ≤ a → hi = 0))
  | _, _ => False
def Q123 : List DV → Prop
  | [.num a, .num b, .num c] => U64 a ∧ U64 b ∧ 0 ≤ c ∧ c ≤ 1
  | _ => False
def C123 : Con := ⟨123, [(.one (.int .u64)), (.one (.int .u64)), (.one (.int .u64))], (.tup [(.one (.int .u64)), (.one (.int .u64))]), false, true⟩
/-- turnstone/wide.OfU -/
def R84 : List DV → List DV → Prop
  | [.num x], [.num h, .num l] => (h = 0 ∧ l = x)
  | _, _ => False
def C84 : Con := ⟨84, [(.one (.int .u64))], (.p (.agg [.int .i64, .int .u64])), true, true⟩
/-- turnstone/wide.Of -/
def R114 : List DV → List DV → Prop
  | [.num x], [.num h, .num l] => (W h l ∧ wv h l = x)
  | _, _ => False
def Q114 : List DV → Prop
  | [.num x] => I64 x
  | _ => False
def C114 : Con := ⟨114, [(.one (.int .i64))], (.p (.agg [.int .i64, .int .u64])), false, true⟩
/-- (turnstone/wide.Int).flip -/
def R113 : List DV → List DV → Prop
  | [.num h, .num l], [.num g, .num m] => (W g m ∧ (h = -9223372036854775808 ∧ l = 0 → g = h ∧ m = l) ∧ (¬ (h = -9223372036854775808 ∧ l = 0) → wv g m = - wv h l))
  | _, _ => False
def Q113 : List DV → Prop
  | [.num h, .num l] => W h l
  | _ => False
def C113 : Con := ⟨113, [(.agg [.int .i64, .int .u64])], (.p (.agg [.int .i64, .int .u64])), false, true⟩
/-- (turnstone/wide.Int).Add -/
def R85 : List DV → List DV → Prop
  | [.num ah, .num al, .num bh, .num bl], [.num h, .num l, .tru ok] => (Told (wv ah al + wv bh bl) h l ok)
  | _, _ => False
def Q85 : List DV → Prop
  | [.num ah, .num al, .num bh, .num bl] => W ah al ∧ W bh bl
  | _ => False
def C85 : Con := ⟨85, [(.agg [.int .i64, .int .u64]), (.agg [.int .i64, .int .u64])], (.tup [(.agg [.int .i64, .int .u64]), (.one .bool)]), false, true⟩
/-- (turnstone/wide.Int).size -/
def R111 : List DV → List DV → Prop
  | [.num h, .num l], [.num u, .num v] => (U64 u ∧ U64 v ∧ (h < 0 → u * 18446744073709551616 + v = - wv h l) ∧ (0 ≤ h → u * 18446744073709551616 + v = wv h l))
  | _, _ => False
def Q111 : List DV → Prop
  | [.num h, .num l] => W h l
  | _ => False
def C111 : Con := ⟨111, [(.agg [.int .i64, .int .u64])], (.tup [(.one (.int .u64)), (.one (.int .u64))]), false, true⟩
/-- turnstone/wide.signed -/
def R126 : List DV → List DV → Prop
  | [.num hi, .num lo, .tru below], [.num h, .num l, .tru ok] => ((below = true → Told (-(hi * 18446744073709551616 + lo)) h l ok) ∧ (below = false → Told (hi * 18446744073709551616 + lo) h l ok))
  | _, _ => False
def Q126 : List DV → Prop
  | [.num hi, .num lo, .tru below] => U64 hi ∧ U64 lo
  | _ => False
def C126 : Con := ⟨126, [(.one (.int .u64)), (.one (.int .u64)), (.one .bool)], (.tup [(.agg [.int .i64, .int .u64]), (.one .bool)]), false, true⟩
/-- (turnstone/wide.Int).Small -/
def R105 : List DV → List DV → Prop
  | [.num h, .num l], [.num x, .tru ok] => (I64 x ∧ (ok = true → x = wv h l) ∧ (ok = false → x = 0 ∧ ¬ I64 (wv h l)))
  | _, _ => False
def Q105 : List DV → Prop
  | [.num h, .num l] => W h l
  | _ => False
def C105 : Con := ⟨105, [(.agg [.int .i64, .int .u64])], (.tup [(.one (.int .i64)), (.one .bool)]), false, true⟩
/-- math/bits.Len64 -/
def R125 : List DV → List DV → Prop
  | [.num x], [.num n] => (n = (Lib.bitLen x.toNat : Int))
  | _, _ => False
def Q125 : List DV → Prop
  | [.num x] => U64 x
  | _ => False
def C125 : Con := ⟨125, [(.one (.int .u64))], (.p (.one (.int .i64))), false, true⟩
/-- math/bits.LeadingZeros64 -/
def R122 : List DV → List DV → Prop
  | [.num x], [.num n] => (n = 64 - (Lib.bitLen x.toNat : Int))
  | _, _ => False
def Q122 : List DV → Prop
  | [.num x] => U64 x
  | _ => False
def C122 : Con := ⟨122, [(.one (.int .u64))], (.p (.one (.int .i64))), false, true⟩
/-- math/bits.Mul64 -/
def R115 : List DV → List DV → Prop
  | [.num x, .num y], [.num hi, .num lo] => (U64 hi ∧ U64 lo ∧ hi * 18446744073709551616 + lo = x * y)
  | _, _ => False
def Q115 : List DV → Prop
  | [.num x, .num y] => U64 x ∧ U64 y
  | _ => False
def C115 : Con := ⟨115, [(.one (.int .u64)), (.one (.int .u64))], (.tup [(.one (.int .u64)), (.one (.int .u64))]), false, true⟩
/-- (turnstone/wide.Int).Mul -/
def R124 : List DV → List DV → Prop
  | [.num h, .num l, .num b], [.num g, .num m, .tru ok] => (Told (wv h l * b) g m ok)
  | _, _ => False
def Q124 : List DV → Prop
  | [.num h, .num l, .num b] => W h l ∧ I64 b
  | _ => False
def C124 : Con := ⟨124, [(.agg [.int .i64, .int .u64]), (.one (.int .i64))], (.tup [(.agg [.int .i64, .int .u64]), (.one .bool)]), false, true⟩
/-- (turnstone/wide.Int).Sign -/
def R146 : List DV → List DV → Prop
  | [.num h, .num l], [.num c] => ((wv h l < 0 → c = -1) ∧ (wv h l = 0 → c = 0) ∧ (0 < wv h l → c = 1))
  | _, _ => False
def Q146 : List DV → Prop
  | [.num h, .num l] => W h l
  | _ => False
def C146 : Con := ⟨146, [(.agg [.int .i64, .int .u64])], (.p (.one (.int .i64))), false, true⟩
/-- math/bits.Div64 -/
def R112 : List DV → List DV → Prop
  | [.num hi, .num lo, .num y], [.num q, .num r] => (q = (hi * 18446744073709551616 + lo) / y ∧ r = (hi * 18446744073709551616 + lo) % y)
  | _, _ => False
def Q112 : List DV → Prop
  | [.num hi, .num lo, .num y] => U64 hi ∧ U64 lo ∧ U64 y ∧ hi < y
  | _ => False
def C112 : Con := ⟨112, [(.one (.int .u64)), (.one (.int .u64)), (.one (.int .u64))], (.tup [(.one (.int .u64)), (.one (.int .u64))]), false, true⟩
def R111217 : List DV → List DV → Prop
  | [.num a, .num b, .num u, .num v, .num q0, .num h0], [.num q, .num h] => (DInv a b u v q h)
  | _, _ => False
def M111217 : List DV → List DV → Nat
  | [.num a, .num b, .num u, .num v, .num q0, .num h0], [.num q, .num h] => ((4294967296 - h).toNat)
  | _, _ => 0
def L111217 : FuncId × LCon := (112, ⟨17, 111217, [⟨true, 15, 0, (.int .u64), .gone⟩, ⟨true, 16, 0, (.int .u64), .gone⟩], [(true, 9, 0), (true, 10, 0), (true, 11, 0), (true, 13, 0)]⟩)
def R111224 : List DV → List DV → Prop
  | [.num a, .num b, .num u, .num v, .num q0, .num h0], [.num q, .num h] => (DInv a b u v q h)
  | _, _ => False
def M111224 : List DV → List DV → Nat
  | [.num a, .num b, .num u, .num v, .num q0, .num h0], [.num q, .num h] => ((4294967296 - h).toNat)
  | _, _ => 0
def L111224 : FuncId × LCon := (112, ⟨24, 111224, [⟨true, 18, 0, (.int .u64), .gone⟩, ⟨true, 16, 0, (.int .u64), .gone⟩], [(true, 9, 0), (true, 10, 0), (true, 17, 0), (true, 14, 0)]⟩)
/-- (turnstone/wide.Int).Div -/
def R104 : List DV → List DV → Prop
  | [.num h, .num l, .num b], [.num g, .num m, .num r, .tru ok] => (W g m ∧ (ok = true ↔ b ≠ 0) ∧ (b = 0 → g = 0 ∧ m = 0 ∧ r = 0) ∧ (b ≠ 0 → wv g m = wv h l / b ∧ r = wv h l % b ∧ 0 ≤ r ∧ r < b))
  | _, _ => False
def Q104 : List DV → Prop
  | [.num h, .num l, .num b] => W h l ∧ U64 b
  | _ => False
def C104 : Con := ⟨104, [(.agg [.int .i64, .int .u64]), (.one (.int .u64))], (.tup [(.agg [.int .i64, .int .u64]), (.one (.int .u64)), (.one .bool)]), false, true⟩
/-- (turnstone/vtime.Time).Add -/
def R106 : List DV → List DV → Prop
  | [.num t, .num d], [.num r] => (r = (t + d) % 18446744073709551616)
  | _, _ => False
def C106 : Con := ⟨106, [(.one (.int .u64)), (.one (.int .i64))], (.p (.one (.int .u64))), true, true⟩
/-- (turnstone/vtime.Time).Since -/
def R42 : List DV → List DV → Prop
  | [.num t, .num u], [.num d] => (d = s64 (t - u))
  | _, _ => False
def C42 : Con := ⟨42, [(.one (.int .u64)), (.one (.int .u64))], (.p (.one (.int .i64))), true, true⟩
/-- (turnstone/pos.Pos).Shift -/
def R52 : List DV → List DV → Prop
  | [.num t, .num r, .num w, .num by_], [.num u, .num q, .num v] => (u = (t + by_) % 18446744073709551616 ∧ q = r ∧ v = w)
  | _, _ => False
def C52 : Con := ⟨52, [(.agg [.int .u64, .int .u32, .int .u32]), (.one (.int .u64))], (.p (.agg [.int .u64, .int .u32, .int .u32])), true, true⟩
/-- turnstone/pos.At -/
def R86 : List DV → List DV → Prop
  | [.num base, .num h, .num l, .num w], [.num t, .num r, .num v, .tru ok] => ((ok = true ↔ WT w ∧ I64 (wv h l / w)) ∧ (ok = true → t = (base + wv h l / w) % 18446744073709551616 ∧ r = wv h l % w ∧ 0 ≤ r ∧ r < w ∧ v = w) ∧ (ok = false → t = 0 ∧ r = 0 ∧ v = 0))
  | _, _ => False
def Q86 : List DV → Prop
  | [.num base, .num h, .num l, .num w] => W h l ∧ U32 w
  | _ => False
def C86 : Con := ⟨86, [(.one (.int .u64)), (.agg [.int .i64, .int .u64]), (.one (.int .u32))], (.tup [(.agg [.int .u64, .int .u32, .int .u32]), (.one .bool)]), false, true⟩
/-- (turnstone/pos.Pos).Move -/
def R67 : List DV → List DV → Prop
  | [.num t, .num r, .num w, .num g], [.num u, .num q, .num v, .tru ok] => ((ok = true ↔ WT w ∧ I64 ((g + r) / w)) ∧ (ok = true → u = (t + (g + r) / w) % 18446744073709551616 ∧ q = (g + r) % w ∧ 0 ≤ q ∧ q < w ∧ v = w) ∧ (ok = false → u = 0 ∧ q = 0 ∧ v = 0))
  | _, _ => False
def Q67 : List DV → Prop
  | [.num t, .num r, .num w, .num g] => U32 r ∧ U32 w ∧ U64 g
  | _ => False
def C67 : Con := ⟨67, [(.agg [.int .u64, .int .u32, .int .u32]), (.one (.int .u64))], (.tup [(.agg [.int .u64, .int .u32, .int .u32]), (.one .bool)]), false, true⟩
/-- (turnstone/pos.Pos).Cmp -/
def R49 : List DV → List DV → Prop
  | [.num t, .num r, .num w, .num u, .num q, .num v], [.num c] => ((0 < s64 (u - t) → c = -1) ∧ (s64 (u - t) < 0 → c = 1) ∧ (s64 (u - t) = 0 → (r * v < q * w → c = -1) ∧ (r * v = q * w → c = 0) ∧ (q * w < r * v → c = 1)))
  | _, _ => False
def Q49 : List DV → Prop
  | [.num t, .num r, .num w, .num u, .num q, .num v] => U32 r ∧ U32 w ∧ U32 q ∧ U32 v
  | _ => False
def C49 : Con := ⟨49, [(.agg [.int .u64, .int .u32, .int .u32]), (.agg [.int .u64, .int .u32, .int .u32])], (.p (.one (.int .i64))), false, true⟩
/-- turnstone/turnstoneref01.digit -/
def R89 : List DV → List DV → Prop
  | [.tru n, .lst l, .num i], [.num d] => (d = Sy.rowAt l i 0)
  | _, _ => False
def Q89 : List DV → Prop
  | [.tru n, .lst l, .num i] => 0 ≤ i
  | _ => False
def C89 : Con := ⟨89, [(.agg [.bool, .list [.int .i64]]), (.one (.int .i64))], (.p (.one (.int .i64))), false, true⟩
/-- turnstone/turnstoneref01.larger -/
def R72 : List DV → List DV → Prop
  | [.tru an, .lst al, .tru bn, .lst bl], [.num c] => ((dval al < dval bl → c = -1) ∧ (dval al = dval bl → c = 0) ∧ (dval bl < dval al → c = 1))
  | _, _ => False
def Q72 : List DV → Prop
  | [.tru an, .lst al, .tru bn, .lst bl] => dig al ∧ dig bl ∧ al.length ≤ 1000 ∧ bl.length ≤ 1000
  | _ => False
def C72 : Con := ⟨72, [(.agg [.bool, .list [.int .i64]]), (.agg [.bool, .list [.int .i64]])], (.p (.one (.int .i64))), false, true⟩
def R107202 : List DV → List DV → Prop
  | [.lst al, .lst bl, .num i0], [.num i] => (-1 ≤ i ∧ i ≤ 1000 ∧ dval (al.drop (i + 1).toNat) = dval (bl.drop (i + 1).toNat))
  | _, _ => False
def M107202 : List DV → List DV → Nat
  | [.lst al, .lst bl, .num i0], [.num i] => ((i + 1).toNat)
  | _, _ => 0
def L107202 : FuncId × LCon := (72, ⟨2, 107202, [⟨true, 5, 0, (.int .i64), .gone⟩], [(false, 0, 1), (false, 1, 1)]⟩)
/-- turnstone/turnstoneref01.plus -/
def R71 : List DV → List DV → Prop
  | [.tru an, .lst al, .tru bn, .lst bl], [.lst l] => (dig l ∧ dval l = dval al + dval bl ∧ l.length ≤ 2000)
  | _, _ => False
def Q71 : List DV → Prop
  | [.tru an, .lst al, .tru bn, .lst bl] => dig al ∧ dig bl ∧ al.length ≤ 1000 ∧ bl.length ≤ 1000
  | _ => False
def C71 : Con := ⟨71, [(.agg [.bool, .list [.int .i64]]), (.agg [.bool, .list [.int .i64]])], (.p (.one (.list [.int .i64]))), false, true⟩
def R107104 : List DV → List DV → Prop
  | [.lst al, .lst bl, .lst o0, .num c0, .num i0], [.lst o, .num c, .num i] => (0 ≤ i ∧ o.length = i ∧ dig o ∧ 0 ≤ c ∧ c ≤ 1 ∧ (i ≤ al.length ∨ i ≤ bl.length ∨ c = 0 ∧ (i ≤ al.length + 1 ∨ i ≤ bl.length + 1)) ∧ dval o + P4 i.toNat * (c + dval (al.drop i.toNat) + dval (bl.drop i.toNat)) = dval al + dval bl)
  | _, _ => False
def M107104 : List DV → List DV → Nat
  | [.lst al, .lst bl, .lst o0, .num c0, .num i0], [.lst o, .num c, .num i] => ((1002 - i).toNat)
  | _, _ => 0
def L107104 : FuncId × LCon := (71, ⟨4, 107104, [⟨true, 5, 0, (.list [.int .i64]), (.own [.int .i64] 3)⟩, ⟨true, 6, 0, (.int .i64), .gone⟩, ⟨true, 7, 0, (.int .i64), .gone⟩], [(false, 0, 1), (false, 1, 1)]⟩)
/-- turnstone/turnstoneref01.minus -/
def R73 : List DV → List DV → Prop
  | [.tru an, .lst al, .tru bn, .lst bl], [.lst l] => (dig l ∧ dval l = dval al - dval bl ∧ l.length ≤ 2000)
  | _, _ => False
def Q73 : List DV → Prop
  | [.tru an, .lst al, .tru bn, .lst bl] => dig al ∧ dig bl ∧ al.length ≤ 1000 ∧ bl.length ≤ 1000 ∧ dval bl ≤ dval al
  | _ => False
def C73 : Con := ⟨73, [(.agg [.bool, .list [.int .i64]]), (.agg [.bool, .list [.int .i64]])], (.p (.one (.list [.int .i64]))), false, true⟩
def R107304 : List DV → List DV → Prop
  | [.lst al, .lst bl, .lst o0, .num c0, .num i0], [.lst o, .num c, .num i] => (0 ≤ i ∧ i ≤ al.length ∧ o.length = i ∧ dig o ∧ 0 ≤ c ∧ c ≤ 1 ∧ dval o + P4 i.toNat * (dval (al.drop i.toNat) - dval (bl.drop i.toNat) - c) = dval al - dval bl)
  | _, _ => False
def M107304 : List DV → List DV → Nat
  | [.lst al, .lst bl, .lst o0, .num c0, .num i0], [.lst o, .num c, .num i] => ((al.length - i).toNat)
  | _, _ => 0
def L107304 : FuncId × LCon := (73, ⟨4, 107304, [⟨true, 5, 0, (.list [.int .i64]), (.own [.int .i64] 3)⟩, ⟨true, 6, 0, (.int .i64), .gone⟩, ⟨true, 7, 0, (.int .i64), .gone⟩], [(false, 0, 1), (false, 1, 1)]⟩)
/-- turnstone/turnstoneref01.trim -/
def R70 : List DV → List DV → Prop
  | [.tru n, .lst l], [.tru m, .lst k] => (BOK m k ∧ bval m k = bval n l)
  | _, _ => False
def Q70 : List DV → Prop
  | [.tru n, .lst l] => dig l ∧ l.length ≤ 3000
  | _ => False
def C70 : Con := ⟨70, [(.agg [.bool, .list [.int .i64]])], (.p (.agg [.bool, .list [.int .i64]])), false, false⟩
def R107001 : List DV → List DV → Prop
  | [.lst k0], [.lst k] => (dig k ∧ k.length ≤ 3000 ∧ dval k = dval k0)
  | _, _ => False
def M107001 : List DV → List DV → Nat
  | [.lst k0], [.lst k] => (k.length)
  | _, _ => 0
def L107001 : FuncId × LCon := (70, ⟨1, 107001, [⟨false, 0, 1, (.list [.int .i64]), (.rd [.int .i64] true)⟩], []⟩)
/-- turnstone/turnstoneref01.U -/
def R11 : List DV → List DV → Prop
  | [.num x], [.tru n, .lst l] => (BOK n l ∧ bval n l = x)
  | _, _ => False
def Q11 : List DV → Prop
  | [.num x] => U64 x
  | _ => False
def C11 : Con := ⟨11, [(.one (.int .u64))], (.p (.agg [.bool, .list [.int .i64]])), false, true⟩
def R101102 : List DV → List DV → Prop
  | [.num y0, .lst o0], [.num y, .lst o] => (0 ≤ y ∧ dig o ∧ dval o + P4 o.length * y = y0 + dval o0 ∧ (y = 0 → o.length ≠ 0 → Sy.rowAt o ((o.length : Int) - 1) 0 ≠ 0))
  | _, _ => False
def M101102 : List DV → List DV → Nat
  | [.num y0, .lst o0], [.num y, .lst o] => (y.toNat)
  | _, _ => 0
def L101102 : FuncId × LCon := (11, ⟨2, 101102, [⟨true, 0, 0, (.int .u64), .gone⟩, ⟨false, 1, 1, (.list [.int .i64]), (.own [.int .i64] 3)⟩], []⟩)
/-- turnstone/turnstoneref01.N -/
def R56 : List DV → List DV → Prop
  | [.num x], [.tru n, .lst l] => (BOK n l ∧ bval n l = x)
  | _, _ => False
def Q56 : List DV → Prop
  | [.num x] => I64 x
  | _ => False
def C56 : Con := ⟨56, [(.one (.int .i64))], (.p (.agg [.bool, .list [.int .i64]])), false, true⟩
/-- turnstone/turnstoneref01.Neg -/
def R54 : List DV → List DV → Prop
  | [.tru n, .lst l], [.tru m, .lst k] => (BOK m k ∧ bval m k = - bval n l)
  | _, _ => False
def Q54 : List DV → Prop
  | [.tru n, .lst l] => Bg n l
  | _ => False
def C54 : Con := ⟨54, [(.agg [.bool, .list [.int .i64]])], (.p (.agg [.bool, .list [.int .i64]])), false, false⟩
/-- turnstone/turnstoneref01.Add -/
def R55 : List DV → List DV → Prop
  | [.tru an, .lst al, .tru bn, .lst bl], [.tru n, .lst l] => (BOK n l ∧ bval n l = bval an al + bval bn bl)
  | _, _ => False
def Q55 : List DV → Prop
  | [.tru an, .lst al, .tru bn, .lst bl] => Bg an al ∧ Bg bn bl
  | _ => False
def C55 : Con := ⟨55, [(.agg [.bool, .list [.int .i64]]), (.agg [.bool, .list [.int .i64]])], (.p (.agg [.bool, .list [.int .i64]])), false, true⟩
/-- turnstone/turnstoneref01.Sub -/
def R36 : List DV → List DV → Prop
  | [.tru an, .lst al, .tru bn, .lst bl], [.tru n, .lst l] => (BOK n l ∧ bval n l = bval an al - bval bn bl)
  | _, _ => False
def Q36 : List DV → Prop
  | [.tru an, .lst al, .tru bn, .lst bl] => Bg an al ∧ Bg bn bl
  | _ => False
def C36 : Con := ⟨36, [(.agg [.bool, .list [.int .i64]]), (.agg [.bool, .list [.int .i64]])], (.p (.agg [.bool, .list [.int .i64]])), false, true⟩
/-- turnstone/turnstoneref01.Sign -/
def R34 : List DV → List DV → Prop
  | [.tru n, .lst l], [.num c] => ((bval n l < 0 → c = -1) ∧ (bval n l = 0 → c = 0) ∧ (0 < bval n l → c = 1))
  | _, _ => False
def Q34 : List DV → Prop
  | [.tru n, .lst l] => BOK n l
  | _ => False
def C34 : Con := ⟨34, [(.agg [.bool, .list [.int .i64]])], (.p (.one (.int .i64))), false, true⟩
/-- turnstone/turnstoneref01.Cmp -/
def R10 : List DV → List DV → Prop
  | [.tru an, .lst al, .tru bn, .lst bl], [.num c] => ((bval an al < bval bn bl → c = -1) ∧ (bval an al = bval bn bl → c = 0) ∧ (bval bn bl < bval an al → c = 1))
  | _, _ => False
def Q10 : List DV → Prop
  | [.tru an, .lst al, .tru bn, .lst bl] => Bg an al ∧ Bg bn bl
  | _ => False
def C10 : Con := ⟨10, [(.agg [.bool, .list [.int .i64]]), (.agg [.bool, .list [.int .i64]])], (.p (.one (.int .i64))), false, true⟩
/-- turnstone/turnstoneref01.Mul -/
def R74 : List DV → List DV → Prop
  | [.tru an, .lst al, .tru bn, .lst bl], [.tru n, .lst l] => (BOK n l ∧ bval n l = bval an al * bval bn bl)
  | _, _ => False
def Q74 : List DV → Prop
  | [.tru an, .lst al, .tru bn, .lst bl] => Bg an al ∧ Bg bn bl
  | _ => False
def C74 : Con := ⟨74, [(.agg [.bool, .list [.int .i64]]), (.agg [.bool, .list [.int .i64]])], (.p (.agg [.bool, .list [.int .i64]])), false, true⟩
def R107403 : List DV → List DV → Prop
  | [.lst al, .lst bl, .lst o0, .num i0], [.lst o, .num i] => (0 ≤ i ∧ i ≤ al.length ∧ o.length = al.length + bl.length + 1 ∧ dig o ∧ (∀ k : Nat, (i + bl.length : Int) ≤ k → Sy.rowAt o k 0 = 0) ∧ dval o + P4 i.toNat * (dval (al.drop i.toNat) * dval bl) = dval al * dval bl)
  | _, _ => False
def M107403 : List DV → List DV → Nat
  | [.lst al, .lst bl, .lst o0, .num i0], [.lst o, .num i] => ((al.length - i).toNat)
  | _, _ => 0
def L107403 : FuncId × LCon := (74, ⟨3, 107403, [⟨true, 5, 0, (.list [.int .i64]), (.own [.int .i64] 3)⟩, ⟨true, 23, 0, (.int .i64), .gone⟩], [(false, 0, 1), (false, 1, 1)]⟩)
def R107407 : List DV → List DV → Prop
  | [.lst bl, .num i, .num x, .lst o0, .num c0, .num k0], [.lst o, .num c, .num k] => (0 ≤ k ∧ 0 ≤ c ∧ c < 10000 ∧ o.length = o0.length ∧ dig o ∧ (k ≤ bl.length ∨ k ≤ bl.length + 1 ∧ c = 0) ∧ (∀ j : Nat, (i + k : Int) ≤ j → Sy.rowAt o j 0 = Sy.rowAt o0 j 0) ∧ dval o + P4 (i + k).toNat * (c + x * dval (bl.drop k.toNat)) = dval o0 + P4 i.toNat * (x * dval bl))
  | _, _ => False
def M107407 : List DV → List DV → Nat
  | [.lst bl, .num i, .num x, .lst o0, .num c0, .num k0], [.lst o, .num c, .num k] => ((bl.length + 1 - k).toNat)
  | _, _ => 0
def L107407 : FuncId × LCon := (74, ⟨7, 107407, [⟨true, 5, 0, (.list [.int .i64]), (.own [.int .i64] 3)⟩, ⟨true, 8, 0, (.int .i64), .gone⟩, ⟨true, 9, 0, (.int .i64), .gone⟩], [(false, 1, 1), (true, 6, 0), (true, 7, 0)]⟩)
/-- turnstone/turnstoneref01.Power -/
def R35 : List DV → List DV → Prop
  | [.num n], [.tru s, .lst l] => (BOK s l ∧ bval s l = 2 ^ n.toNat)
  | _, _ => False
def Q35 : List DV → Prop
  | [.num n] => 0 ≤ n ∧ n ≤ 200
  | _ => False
def C35 : Con := ⟨35, [(.one (.int .i64))], (.p (.agg [.bool, .list [.int .i64]])), false, true⟩
def R103503 : List DV → List DV → Prop
  | [.num n, .tru s0, .lst l0, .num k0], [.tru s, .lst l, .num k] => (0 ≤ k ∧ k ≤ n ∧ BOK s l ∧ bval s l = 2 ^ k.toNat)
  | _, _ => False
def M103503 : List DV → List DV → Nat
  | [.num n, .tru s0, .lst l0, .num k0], [.tru s, .lst l, .num k] => ((n - k).toNat)
  | _, _ => 0
def L103503 : FuncId × LCon := (35, ⟨3, 103503, [⟨false, 2, 0, .bool, .gone⟩, ⟨false, 2, 1, (.list [.int .i64]), (.rd [.int .i64] false)⟩, ⟨true, 4, 0, (.int .i64), .gone⟩], [(true, 0, 0)]⟩)
/-- turnstone/turnstoneref03.Since -/
def R32 : List DV → List DV → Prop
  | [.num t, .num u], [.tru n, .lst l] => (BOK n l ∧ bval n l = s64 (t - u))
  | _, _ => False
def Q32 : List DV → Prop
  | [.num t, .num u] => U64 t ∧ U64 u
  | _ => False
def C32 : Con := ⟨32, [(.one (.int .u64)), (.one (.int .u64))], (.p (.agg [.bool, .list [.int .i64]])), false, true⟩
/-- turnstone/turnstoneref04.Right -/
def R33 : List DV → List DV → Prop
  | [.num t, .num r, .num w], [.tru ok] => (ok = true ↔ Pq r w)
  | _, _ => False
def C33 : Con := ⟨33, [(.agg [.int .u64, .int .u32, .int .u32])], (.p (.one .bool)), true, true⟩
/-- turnstone/turnstonelaw04.Of -/
def R31 : List DV → List DV → Prop
  | [.num t, .num r, .num w], [.num t2, .num r2, .num w2] => (t2 = t ∧ r2 = r ∧ w2 = w)
  | _, _ => False
def Q31 : List DV → Prop
  | [.num t, .num r, .num w] => U64 t ∧ U32 r ∧ U32 w
  | _ => False
def C31 : Con := ⟨31, [(.agg [.int .u64, .int .u32, .int .u32])], (.p (.agg [.int .u64, .int .u32, .int .u32])), false, true⟩
/-- turnstone/pos.Floors -/
def R30 : List DV → List DV → Prop
  | [.num base, .lst xs], [.num lo, .num hi] => (lo = mnF (tf 0 base xs) xs.length ∧ hi = mxF (tf 0 base xs) xs.length)
  | _, _ => False
def C30 : Con := ⟨30, [(.one (.int .u64)), (.one (.list [.int .u64, .int .u32, .int .u32]))], (.tup [(.one (.int .i64)), (.one (.int .i64))]), true, true⟩
def R103002 : List DV → List DV → Prop
  | [.num base, .lst xs, .num lo0, .num hi0, .num i0], [.num lo, .num hi, .num i] => (0 ≤ i ∧ i ≤ xs.length ∧ lo = mnF (tf 0 base xs) i.toNat ∧ hi = mxF (tf 0 base xs) i.toNat)
  | _, _ => False
def M103002 : List DV → List DV → Nat
  | [.num base, .lst xs, .num lo0, .num hi0, .num i0], [.num lo, .num hi, .num i] => ((xs.length - i).toNat)
  | _, _ => 0
def L103002 : FuncId × LCon := (30, ⟨2, 103002, [⟨true, 4, 0, (.int .i64), .gone⟩, ⟨true, 5, 0, (.int .i64), .gone⟩, ⟨true, 11, 0, (.int .i64), .gone⟩], [(true, 0, 0), (true, 1, 0)]⟩)
/-- turnstone/item.Spread -/
def R7 : List DV → List DV → Prop
  | [.num base, .lst xs], [.num s] => (s = SPR base xs)
  | _, _ => False
def Q7 : List DV → Prop
  | [.num base, .lst xs] => (xs.length : Int) ≤ 1000
  | _ => False
def C7 : Con := ⟨7, [(.one (.int .u64)), (.one (.list [.int .u64, .int .u32, .int .u32, .int .i64, .int .u64, .int .u32, .int .u32]))], (.p (.one (.int .u64))), false, true⟩
def R100703 : List DV → List DV → Prop
  | [.num base, .lst xs, .lst p0, .lst q0, .num i0], [.lst p, .lst q, .num i] => (0 ≤ i ∧ i ≤ xs.length ∧ p.length = i ∧ q.length = 2 * i ∧ PL xs p ∧ AL xs q)
  | _, _ => False
def M100703 : List DV → List DV → Nat
  | [.num base, .lst xs, .lst p0, .lst q0, .num i0], [.lst p, .lst q, .num i] => ((xs.length - i).toNat)
  | _, _ => 0
def L100703 : FuncId × LCon := (7, ⟨3, 100703, [⟨true, 5, 0, (.list [.int .u64, .int .u32, .int .u32]), (.own [.int .u64, .int .u32, .int .u32] 30)⟩, ⟨true, 6, 0, (.list [.int .u64, .int .u32, .int .u32]), (.own [.int .u64, .int .u32, .int .u32] 30)⟩, ⟨true, 15, 0, (.int .i64), .gone⟩], [(true, 0, 0), (true, 1, 0)]⟩)
/-- (turnstone/item.Item).Right -/
def R43 : List DV → List DV → Prop
  | [.num t, .num r, .num w, .num id, .num dt, .num dr, .num dw], [.tru ok] => (ok = true ↔ PR r w ∧ PR dr dw ∧ w = dw ∧ 0 < id ∧ 0 ≤ s64 (dt - t) ∧ s64 (dt - t) ≤ 1152921504606846976)
  | _, _ => False
def Q43 : List DV → Prop
  | [.num t, .num r, .num w, .num id, .num dt, .num dr, .num dw] => U64 t ∧ U32 r ∧ U32 w ∧ U64 dt ∧ U32 dr ∧ U32 dw
  | _ => False
def C43 : Con := ⟨43, [(.agg [.int .u64, .int .u32, .int .u32, .int .i64, .int .u64, .int .u32, .int .u32])], (.p (.one .bool)), false, true⟩
/-- slices.Equal[[]int,int] -/
def R77 : List DV → List DV → Prop
  | [.lst a, .lst c], [.tru ok] => (ok = true ↔ a.length = c.length ∧ ∀ j : Nat, j < a.length → Sy.rowAt a j 0 = Sy.rowAt c j 0)
  | _, _ => False
def C77 : Con := ⟨77, [(.one (.list [.int .i64])), (.one (.list [.int .i64]))], (.p (.one .bool)), true, true⟩
def R107704 : List DV → List DV → Prop
  | [.lst a, .lst c, .num i0], [.num i] => (0 ≤ i ∧ i ≤ a.length ∧ ∀ j : Nat, (j : Int) < i → Sy.rowAt a j 0 = Sy.rowAt c j 0)
  | _, _ => False
def M107704 : List DV → List DV → Nat
  | [.lst a, .lst c, .num i0], [.num i] => ((a.length - i).toNat)
  | _, _ => 0
def L107704 : FuncId × LCon := (77, ⟨4, 107704, [⟨true, 13, 0, (.int .i64), .gone⟩], [(true, 0, 0), (true, 1, 0)]⟩)
/-- turnstone/turnstonelaw05.Of -/
def R8 : List DV → List DV → Prop
  | [.num t, .num r, .num w, .num id, .num dt, .num dr, .num dw], [.num t2, .num r2, .num w2, .num id2, .num dt2, .num dr2, .num dw2] => (t2 = t ∧ r2 = r ∧ w2 = w ∧ id2 = id ∧ dt2 = dt ∧ dr2 = dr ∧ dw2 = dw)
  | _, _ => False
def Q8 : List DV → Prop
  | [.num t, .num r, .num w, .num id, .num dt, .num dr, .num dw] => U64 t ∧ U32 r ∧ U32 w ∧ U64 dt ∧ U32 dr ∧ U32 dw
  | _ => False
def C8 : Con := ⟨8, [(.agg [.int .u64, .int .u32, .int .u32, .int .i64, .int .u64, .int .u32, .int .u32])], (.p (.agg [.int .u64, .int .u32, .int .u32, .int .i64, .int .u64, .int .u32, .int .u32])), false, true⟩
/-- turnstone/turnstoneref05.Spread -/
def R12 : List DV → List DV → Prop
  | [.num base, .lst xs], [.tru n, .lst d] => (BOK n d ∧ bval n d = SPR base xs)
  | _, _ => False
def Q12 : List DV → Prop
  | [.num base, .lst xs] => U64 base ∧ RI xs ∧ (xs.length : Int) ≤ 1000
  | _ => False
def C12 : Con := ⟨12, [(.one (.int .u64)), (.one (.list [.int .u64, .int .u32, .int .u32, .int .i64, .int .u64, .int .u32, .int .u32]))], (.p (.agg [.bool, .list [.int .i64]])), false, true⟩
def R101203 : List DV → List DV → Prop
  | [.num base, .lst xs, .tru ln0, .lst ll0, .tru hn0, .lst hl0, .num i0], [.tru ln, .lst ll, .tru hn, .lst hl, .num i] => (0 ≤ i ∧ i ≤ xs.length ∧ BOK ln ll ∧ BOK hn hl ∧ bval ln ll = mnF (tf 0 base xs) i.toNat ∧ bval hn hl = mxF (tg base xs) (2 * i.toNat))
  | _, _ => False
def M101203 : List DV → List DV → Nat
  | [.num base, .lst xs, .tru ln0, .lst ll0, .tru hn0, .lst hl0, .num i0], [.tru ln, .lst ll, .tru hn, .lst hl, .num i] => ((xs.length - i).toNat)
  | _, _ => 0
def L101203 : FuncId × LCon := (12, ⟨3, 101203, [⟨false, 1, 0, .bool, .gone⟩, ⟨false, 1, 1, (.list [.int .i64]), (.rd [.int .i64] false)⟩, ⟨false, 2, 0, .bool, .gone⟩, ⟨false, 2, 1, (.list [.int .i64]), (.rd [.int .i64] false)⟩, ⟨true, 13, 0, (.int .i64), .gone⟩], [(true, 0, 0), (true, 1, 0)]⟩)
/-- (turnstone/item.Item).Shift -/
def R27 : List DV → List DV → Prop
  | [.num t, .num r, .num w, .num id, .num dt, .num dr, .num dw, .num y], [.num t2, .num r2, .num w2, .num id2, .num dt2, .num dr2, .num dw2] => (t2 = (t + y) % 18446744073709551616 ∧ r2 = r ∧ w2 = w ∧ id2 = id ∧ dt2 = (dt + y) % 18446744073709551616 ∧ dr2 = dr ∧ dw2 = dw)
  | _, _ => False
def C27 : Con := ⟨27, [(.agg [.int .u64, .int .u32, .int .u32, .int .i64, .int .u64, .int .u32, .int .u32]), (.one (.int .u64))], (.p (.agg [.int .u64, .int .u32, .int .u32, .int .i64, .int .u64, .int .u32, .int .u32])), true, true⟩
/-- turnstone/turnstoneref04.Cmp -/
def R57 : List DV → List DV → Prop
  | [.num t, .num r, .num w, .num u, .num q, .num v], [.num c] => (c = pcI t r w u q v)
  | _, _ => False
def Q57 : List DV → Prop
  | [.num t, .num r, .num w, .num u, .num q, .num v] => U64 t ∧ U32 r ∧ U32 w ∧ U64 u ∧ U32 q ∧ U32 v
  | _ => False
def C57 : Con := ⟨57, [(.agg [.int .u64, .int .u32, .int .u32]), (.agg [.int .u64, .int .u32, .int .u32])], (.p (.one (.int .i64))), false, true⟩
/-- turnstone/turnstoneref05.Right -/
def R9 : List DV → List DV → Prop
  | [.num t, .num r, .num w, .num id, .num dt, .num dr, .num dw], [.tru ok] => (ok = true ↔ PR r w ∧ PR dr dw ∧ w = dw ∧ 0 < id ∧ 0 ≤ s64 (dt - t) ∧ s64 (dt - t) ≤ 1152921504606846976)
  | _, _ => False
def Q9 : List DV → Prop
  | [.num t, .num r, .num w, .num id, .num dt, .num dr, .num dw] => U64 t ∧ U32 r ∧ U32 w ∧ U64 dt ∧ U32 dr ∧ U32 dw
  | _ => False
def C9 : Con := ⟨9, [(.agg [.int .u64, .int .u32, .int .u32, .int .i64, .int .u64, .int .u32, .int .u32])], (.p (.one .bool)), false, true⟩
/-- turnstone/turnstoneref05.Ahead -/
def R58 : List DV → List DV → Prop
  | [.num t, .num r, .num w, .num i, .num dt, .num dr, .num dw, .num u, .num q, .num v, .num j, .num du, .num dq, .num dv], [.tru ok] => (ok = true ↔ AHI t r w i u q v j)
  | _, _ => False
def Q58 : List DV → Prop
  | [.num t, .num r, .num w, .num i, .num dt, .num dr, .num dw, .num u, .num q, .num v, .num j, .num du, .num dq, .num dv] => U64 t ∧ U32 r ∧ U32 w ∧ U64 u ∧ U32 q ∧ U32 v
  | _ => False
def C58 : Con := ⟨58, [(.agg [.int .u64, .int .u32, .int .u32, .int .i64, .int .u64, .int .u32, .int .u32]), (.agg [.int .u64, .int .u32, .int .u32, .int .i64, .int .u64, .int .u32, .int .u32])], (.p (.one .bool)), false, true⟩
/-- turnstone/turnstoneref05.Due -/
def R37 : List DV → List DV → Prop
  | [.num t, .num r, .num w, .num i, .num dt, .num dr, .num dw, .num u, .num q, .num v, .num j, .num du, .num dq, .num dv], [.tru ok] => (ok = true ↔ DUI t r w i dt dr dw u q v j du dq dv)
  | _, _ => False
def Q37 : List DV → Prop
  | [.num t, .num r, .num w, .num i, .num dt, .num dr, .num dw, .num u, .num q, .num v, .num j, .num du, .num dq, .num dv] => U64 t ∧ U32 r ∧ U32 w ∧ U64 u ∧ U32 q ∧ U32 v ∧ U64 dt ∧ U32 dr ∧ U32 dw ∧ U64 du ∧ U32 dq ∧ U32 dv
  | _ => False
def C37 : Con := ⟨37, [(.agg [.int .u64, .int .u32, .int .u32, .int .i64, .int .u64, .int .u32, .int .u32]), (.agg [.int .u64, .int .u32, .int .u32, .int .i64, .int .u64, .int .u32, .int .u32])], (.p (.one .bool)), false, true⟩
/-- (turnstone/item.Item).Ahead -/
def R20 : List DV → List DV → Prop
  | [.num t, .num r, .num w, .num i, .num dt, .num dr, .num dw, .num u, .num q, .num v, .num j, .num du, .num dq, .num dv], [.tru ok] => (ok = true ↔ AHI t r w i u q v j)
  | _, _ => False
def Q20 : List DV → Prop
  | [.num t, .num r, .num w, .num i, .num dt, .num dr, .num dw, .num u, .num q, .num v, .num j, .num du, .num dq, .num dv] => U32 r ∧ U32 w ∧ U32 q ∧ U32 v
  | _ => False
def C20 : Con := ⟨20, [(.agg [.int .u64, .int .u32, .int .u32, .int .i64, .int .u64, .int .u32, .int .u32]), (.agg [.int .u64, .int .u32, .int .u32, .int .i64, .int .u64, .int .u32, .int .u32])], (.p (.one .bool)), false, true⟩
/-- (turnstone/item.Item).Due -/
def R22 : List DV → List DV → Prop
  | [.num t, .num r, .num w, .num i, .num dt, .num dr, .num dw, .num u, .num q, .num v, .num j, .num du, .num dq, .num dv], [.tru ok] => (ok = true ↔ DUI t r w i dt dr dw u q v j du dq dv)
  | _, _ => False
def Q22 : List DV → Prop
  | [.num t, .num r, .num w, .num i, .num dt, .num dr, .num dw, .num u, .num q, .num v, .num j, .num du, .num dq, .num dv] => U32 r ∧ U32 w ∧ U32 q ∧ U32 v ∧ U32 dr ∧ U32 dw ∧ U32 dq ∧ U32 dv
  | _ => False
def C22 : Con := ⟨22, [(.agg [.int .u64, .int .u32, .int .u32, .int .i64, .int .u64, .int .u32, .int .u32]), (.agg [.int .u64, .int .u32, .int .u32, .int .i64, .int .u64, .int .u32, .int .u32])], (.p (.one .bool)), false, true⟩
/-- turnstone/item.Soonest -/
def R13 : List DV → List DV → Prop
  | [.num t, .num r, .num w, .num i, .num dt, .num dr, .num dw, .lst xs], [.num t2, .num r2, .num w2, .num i2, .num dt2, .num dr2, .num dw2] => ([t2, r2, w2, i2, dt2, dr2, dw2] = sn (rw7 xs) [t, r, w, i, dt, dr, dw] xs.length)
  | _, _ => False
def Q13 : List DV → Prop
  | [.num t, .num r, .num w, .num i, .num dt, .num dr, .num dw, .lst xs] => U64 t ∧ U32 r ∧ U32 w ∧ U64 dt ∧ U32 dr ∧ U32 dw ∧ RI xs
  | _ => False
def C13 : Con := ⟨13, [(.agg [.int .u64, .int .u32, .int .u32, .int .i64, .int .u64, .int .u32, .int .u32]), (.one (.list [.int .u64, .int .u32, .int .u32, .int .i64, .int .u64, .int .u32, .int .u32]))], (.p (.agg [.int .u64, .int .u32, .int .u32, .int .i64, .int .u64, .int .u32, .int .u32])), false, true⟩
def R101302 : List DV → List DV → Prop
  | [.lst xs, .num t0, .num r0, .num w0, .num i0, .num dt0, .num dr0, .num dw0, .num j0], [.num t, .num r, .num w, .num i, .num dt, .num dr, .num dw, .num j] => (0 ≤ j ∧ j ≤ xs.length ∧ [t, r, w, i, dt, dr, dw] = sn (rw7 xs) [t0, r0, w0, i0, dt0, dr0, dw0] j.toNat)
  | _, _ => False
def M101302 : List DV → List DV → Nat
  | [.lst xs, .num t0, .num r0, .num w0, .num i0, .num dt0, .num dr0, .num dw0, .num j0], [.num t, .num r, .num w, .num i, .num dt, .num dr, .num dw, .num j] => ((xs.length - j).toNat)
  | _, _ => 0
def L101302 : FuncId × LCon := (13, ⟨2, 101302, [⟨false, 0, 0, (.int .u64), .gone⟩, ⟨false, 0, 1, (.int .u32), .gone⟩, ⟨false, 0, 2, (.int .u32), .gone⟩, ⟨false, 0, 3, (.int .i64), .gone⟩, ⟨false, 0, 4, (.int .u64), .gone⟩, ⟨false, 0, 5, (.int .u32), .gone⟩, ⟨false, 0, 6, (.int .u32), .gone⟩, ⟨true, 9, 0, (.int .i64), .gone⟩], [(true, 1, 0)]⟩)
/-- turnstone/turnstoneref05.Soonest -/
def R14 : List DV → List DV → Prop
  | [.lst xs], [.num t2, .num r2, .num w2, .num i2, .num dt2, .num dr2, .num dw2] => ([t2, r2, w2, i2, dt2, dr2, dw2] = sn (rw7 xs) (rw7 xs 0) xs.length)
  | _, _ => False
def Q14 : List DV → Prop
  | [.lst xs] => RI xs ∧ 0 < xs.length
  | _ => False
def C14 : Con := ⟨14, [(.one (.list [.int .u64, .int .u32, .int .u32, .int .i64, .int .u64, .int .u32, .int .u32]))], (.p (.agg [.int .u64, .int .u32, .int .u32, .int .i64, .int .u64, .int .u32, .int .u32])), false, true⟩
def R101403 : List DV → List DV → Prop
  | [.lst xs, .num t0, .num r0, .num w0, .num i0, .num dt0, .num dr0, .num dw0, .num j0], [.num t, .num r, .num w, .num i, .num dt, .num dr, .num dw, .num j] => (0 ≤ j ∧ j ≤ xs.length ∧ [t, r, w, i, dt, dr, dw] = sn (rw7 xs) (rw7 xs 0) j.toNat)
  | _, _ => False
def M101403 : List DV → List DV → Nat
  | [.lst xs, .num t0, .num r0, .num w0, .num i0, .num dt0, .num dr0, .num dw0, .num j0], [.num t, .num r, .num w, .num i, .num dt, .num dr, .num dw, .num j] => ((xs.length - j).toNat)
  | _, _ => 0
def L101403 : FuncId × LCon := (14, ⟨3, 101403, [⟨false, 4, 0, (.int .u64), .gone⟩, ⟨false, 4, 1, (.int .u32), .gone⟩, ⟨false, 4, 2, (.int .u32), .gone⟩, ⟨false, 4, 3, (.int .i64), .gone⟩, ⟨false, 4, 4, (.int .u64), .gone⟩, ⟨false, 4, 5, (.int .u32), .gone⟩, ⟨false, 4, 6, (.int .u32), .gone⟩, ⟨true, 11, 0, (.int .i64), .gone⟩], [(true, 0, 0)]⟩)
/-- turnstone/turnstonelaw05.ItemSoonest -/
def R3 : List DV → List DV → Prop
  | [.num base, .lst xs], [.tru ok] => (ok = true)
  | _, _ => False
def Q3 : List DV → Prop
  | [.num base, .lst xs] => U64 base ∧ RI xs
  | _ => False
def C3 : Con := ⟨3, [(.one (.int .u64)), (.one (.list [.int .u64, .int .u32, .int .u32, .int .i64, .int .u64, .int .u32, .int .u32]))], (.p (.one .bool)), false, true⟩
def R100308 : List DV → List DV → Prop
  | [.lst xs, .lst os0, .tru rt0, .num j0], [.lst os, .tru rt, .num j] => (0 ≤ j ∧ j ≤ xs.length ∧ os = xs.take j.toNat)
  | _, _ => False
def M100308 : List DV → List DV → Nat
  | [.lst xs, .lst os0, .tru rt0, .num j0], [.lst os, .tru rt, .num j] => ((xs.length - j).toNat)
  | _, _ => 0
def L100308 : FuncId × LCon := (3, ⟨8, 100308, [⟨true, 5, 0, (.list [.int .u64, .int .u32, .int .u32, .int .i64, .int .u64, .int .u32, .int .u32]), (.own [.int .u64, .int .u32, .int .u32, .int .i64, .int .u64, .int .u32, .int .u32] 36)⟩, ⟨true, 6, 0, .bool, .gone⟩, ⟨true, 23, 0, (.int .i64), .gone⟩], [(true, 1, 0)]⟩)
def Tr_ : Nat → List DV → List DV → Prop
  | 80 => R80
  | 60 => R60
  | 103 => R103
  | 123 => R123
  | 84 => R84
  | 114 => R114
  | 113 => R113
  | 85 => R85
  | 111 => R111
  | 126 => R126
  | 105 => R105
  | 125 => R125
  | 122 => R122
  | 115 => R115
  | 124 => R124
  | 146 => R146
  | 112 => R112
  | 111217 => R111217
  | 111224 => R111224
  | 104 => R104
  | 106 => R106
  | 42 => R42
  | 52 => R52
  | 86 => R86
  | 67 => R67
  | 49 => R49
  | 89 => R89
  | 72 => R72
  | 107202 => R107202
  | 71 => R71
  | 107104 => R107104
  | 73 => R73
  | 107304 => R107304
  | 70 => R70
  | 107001 => R107001
  | 11 => R11
  | 101102 => R101102
  | 56 => R56
  | 54 => R54
  | 55 => R55
  | 36 => R36
  | 34 => R34
  | 10 => R10
  | 74 => R74
  | 107403 => R107403
  | 107407 => R107407
  | 35 => R35
  | 103503 => R103503
  | 32 => R32
  | 33 => R33
  | 31 => R31
  | 30 => R30
  | 103002 => R103002
  | 7 => R7
  | 100703 => R100703
  | 43 => R43
  | 77 => R77
  | 107704 => R107704
  | 8 => R8
  | 12 => R12
  | 101203 => R101203
  | 27 => R27
  | 57 => R57
  | 9 => R9
  | 58 => R58
  | 37 => R37
  | 20 => R20
  | 22 => R22
  | 13 => R13
  | 101302 => R101302
  | 14 => R14
  | 101403 => R101403
  | 3 => R3
  | 100308 => R100308
  | _ => fun _ _ => True
def Tp_ : Nat → List DV → Prop
  | 103 => Q103
  | 123 => Q123
  | 114 => Q114
  | 113 => Q113
  | 85 => Q85
  | 111 => Q111
  | 126 => Q126
  | 105 => Q105
  | 125 => Q125
  | 122 => Q122
  | 115 => Q115
  | 124 => Q124
  | 146 => Q146
  | 112 => Q112
  | 104 => Q104
  | 86 => Q86
  | 67 => Q67
  | 49 => Q49
  | 89 => Q89
  | 72 => Q72
  | 71 => Q71
  | 73 => Q73
  | 70 => Q70
  | 11 => Q11
  | 56 => Q56
  | 54 => Q54
  | 55 => Q55
  | 36 => Q36
  | 34 => Q34
  | 10 => Q10
  | 74 => Q74
  | 35 => Q35
  | 32 => Q32
  | 31 => Q31
  | 7 => Q7
  | 43 => Q43
  | 8 => Q8
  | 12 => Q12
  | 57 => Q57
  | 9 => Q9
  | 58 => Q58
  | 37 => Q37
  | 20 => Q20
  | 22 => Q22
  | 13 => Q13
  | 14 => Q14
  | 3 => Q3
  | _ => fun _ => True
def Tm_ : Nat → List DV → List DV → Nat
  | 111217 => M111217
  | 111224 => M111224
  | 107202 => M107202
  | 107104 => M107104
  | 107304 => M107304
  | 107001 => M107001
  | 101102 => M101102
  | 107403 => M107403
  | 107407 => M107407
  | 103503 => M103503
  | 103002 => M103002
  | 100703 => M100703
  | 107704 => M107704
  | 101203 => M101203
  | 101302 => M101302
  | 101403 => M101403
  | 100308 => M100308
  | _ => fun _ _ => 0
def T : Tab := ⟨Tr_, Tp_, Tm_⟩
end Go.Proofs.Ytpccjjfcklplaaa.Fn
