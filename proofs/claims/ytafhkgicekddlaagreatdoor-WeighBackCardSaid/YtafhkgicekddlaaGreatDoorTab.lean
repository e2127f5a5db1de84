/- What is told of each function: what holds between what it takes and what it yields. -/
import Derived.Test.YtafhkgicekddlaaGreatDoorSyTree
import Derived.Test.YtafhkgicekddlaaGreatDoorProg
import Derived.Laws.Externs
import Derived.Lib.BitFns
import Derived.Test.YtafhkgicekddlaaGreatDoorWords
import Derived.Test.YtafhkgicekddlaaGreatDoorWords2
import Derived.Test.YtafhkgicekddlaaGreatDoorWords3
namespace Go.Proofs.YtafhkgicekddlaaGreatDoor.Fn
open Go Go.RowKit Go.Proofs.YtafhkgicekddlaaGreatDoor.Sy
set_option linter.unusedVariables false
/-- turnstone/pos.weight -/
def R44 : List DV → List DV → Prop
  | [.num w], [.tru ok] => (ok = true ↔ 1 ≤ w ∧ w ≤ 1048576)
  | _, _ => False
def C44 : Con := ⟨44, [(.one (.int .u32))], (.p (.one .bool)), true, true⟩
/-- (turnstone/pos.Pos).Right -/
def R11 : List DV → List DV → Prop
  | [.num t, .num r, .num w], [.tru ok] => (ok = true ↔ 1 ≤ w ∧ w ≤ 1048576 ∧ r < w)
  | _, _ => False
def C11 : Con := ⟨11, [(.agg [.int .u64, .int .u32, .int .u32])], (.p (.one .bool)), true, true⟩
/-- math/bits.Add64 -/
def R81 : List DV → List DV → Prop
  | [.num a, .num b, .num c], [.num lo, .num hi] => (lo = (a + b + c) % 18446744073709551616 ∧ hi = (a + b + c) / 18446744073709551616)
  | _, _ => False
def Q81 : List DV → Prop
  | [.num a, .num b, .num c] => U64 a ∧ U64 b ∧ 0 ≤ c ∧ c ≤ 1
  | _ => False
def C81 : Con := ⟨81, [(.one (.int .u64)), (.one (.int .u64)), (.one (.int .u64))], (.tup [(.one (.int .u64)), (.one (.int .u64))]), false, true⟩
/-- math/bits.Sub64 -/
def R53 : List DV → List DV → Prop
  | [.num a, .num b, .num c], [.num lo, .num hi] => (lo = (a - b - c) % 18446744073709551616 ∧ (a < b + c → hi = 1) ∧ (b + c ≤ a → hi = 0))
  | _, _ => False
def Q53 : List DV → Prop
  | [.num a, .num b, .num c] => U64 a ∧ U64 b ∧ 0 ≤ c ∧ c ≤ 1
  | _ => False
def C53 : Con := ⟨53, [(.one (.int .u64)), (.one (.int .u64)), (.one (.int .u64))], (.tup [(.one (.int .u64)), (.one (.int .u64))]), false, true⟩
/-- turnstone/wide.OfU -/
def R85 : List DV → List DV → Prop
  | [.num x], [.num h, .num l] => (h = 0 ∧ l = x)
  | _, _ => False
def C85 : Con := ⟨85, [(.one (.int .u64))], (.p (.agg [.int .i64, .int .u64])), true, true⟩
/-- turnstone/wide.Of -/
def R54 : List DV → List DV → Prop
  | [.num x], [.num h, .num l] => (W h l ∧ wv h l = x)
  | _, _ => False
def Q54 : List DV → Prop
  | [.num x] => I64 x
  | _ => False
def C54 : Con := ⟨54, [(.one (.int .i64))], (.p (.agg [.int .i64, .int .u64])), false, true⟩
/-- (turnstone/wide.Int).flip -/
def R84 : List DV → List DV → Prop
  | [.num h, .num l], [.num g, .num m] => (W g m ∧ (h = -9223372036854775808 ∧ l = 0 → g = h ∧ m = l) ∧ (¬ (h = -9223372036854775808 ∧ l = 0) → wv g m = - wv h l))
  | _, _ => False
def Q84 : List DV → Prop
  | [.num h, .num l] => W h l
  | _ => False
def C84 : Con := ⟨84, [(.agg [.int .i64, .int .u64])], (.p (.agg [.int .i64, .int .u64])), false, true⟩
/-- (turnstone/wide.Int).Add -/
def R50 : List DV → List DV → Prop
  | [.num ah, .num al, .num bh, .num bl], [.num h, .num l, .tru ok] => (Told (wv ah al + wv bh bl) h l ok)
  | _, _ => False
def Q50 : List DV → Prop
  | [.num ah, .num al, .num bh, .num bl] => W ah al ∧ W bh bl
  | _ => False
def C50 : Con := ⟨50, [(.agg [.int .i64, .int .u64]), (.agg [.int .i64, .int .u64])], (.tup [(.agg [.int .i64, .int .u64]), (.one .bool)]), false, true⟩
/-- (turnstone/wide.Int).Sub -/
def R16 : List DV → List DV → Prop
  | [.num ah, .num al, .num bh, .num bl], [.num h, .num l, .tru ok] => (Told (wv ah al - wv bh bl) h l ok)
  | _, _ => False
def Q16 : List DV → Prop
  | [.num ah, .num al, .num bh, .num bl] => W ah al ∧ W bh bl
  | _ => False
def C16 : Con := ⟨16, [(.agg [.int .i64, .int .u64]), (.agg [.int .i64, .int .u64])], (.tup [(.agg [.int .i64, .int .u64]), (.one .bool)]), false, true⟩
/-- (turnstone/wide.Int).size -/
def R79 : List DV → List DV → Prop
  | [.num h, .num l], [.num u, .num v] => (U64 u ∧ U64 v ∧ (h < 0 → u * 18446744073709551616 + v = - wv h l) ∧ (0 ≤ h → u * 18446744073709551616 + v = wv h l))
  | _, _ => False
def Q79 : List DV → Prop
  | [.num h, .num l] => W h l
  | _ => False
def C79 : Con := ⟨79, [(.agg [.int .i64, .int .u64])], (.tup [(.one (.int .u64)), (.one (.int .u64))]), false, true⟩
/-- turnstone/wide.signed -/
def R82 : List DV → List DV → Prop
  | [.num hi, .num lo, .tru below], [.num h, .num l, .tru ok] => ((below = true → Told (-(hi * 18446744073709551616 + lo)) h l ok) ∧ (below = false → Told (hi * 18446744073709551616 + lo) h l ok))
  | _, _ => False
def Q82 : List DV → Prop
  | [.num hi, .num lo, .tru below] => U64 hi ∧ U64 lo
  | _ => False
def C82 : Con := ⟨82, [(.one (.int .u64)), (.one (.int .u64)), (.one .bool)], (.tup [(.agg [.int .i64, .int .u64]), (.one .bool)]), false, true⟩
/-- (turnstone/wide.Int).Small -/
def R17 : List DV → List DV → Prop
  | [.num h, .num l], [.num x, .tru ok] => (I64 x ∧ (ok = true → x = wv h l) ∧ (ok = false → x = 0 ∧ ¬ I64 (wv h l)))
  | _, _ => False
def Q17 : List DV → Prop
  | [.num h, .num l] => W h l
  | _ => False
def C17 : Con := ⟨17, [(.agg [.int .i64, .int .u64])], (.tup [(.one (.int .i64)), (.one .bool)]), false, true⟩
/-- math/bits.Len64 -/
def R111 : List DV → List DV → Prop
  | [.num x], [.num n] => (n = (Lib.bitLen x.toNat : Int))
  | _, _ => False
def Q111 : List DV → Prop
  | [.num x] => U64 x
  | _ => False
def C111 : Con := ⟨111, [(.one (.int .u64))], (.p (.one (.int .i64))), false, true⟩
/-- math/bits.LeadingZeros64 -/
def R100 : List DV → List DV → Prop
  | [.num x], [.num n] => (n = 64 - (Lib.bitLen x.toNat : Int))
  | _, _ => False
def Q100 : List DV → Prop
  | [.num x] => U64 x
  | _ => False
def C100 : Con := ⟨100, [(.one (.int .u64))], (.p (.one (.int .i64))), false, true⟩
/-- math/bits.Mul64 -/
def R80 : List DV → List DV → Prop
  | [.num x, .num y], [.num hi, .num lo] => (U64 hi ∧ U64 lo ∧ hi * 18446744073709551616 + lo = x * y)
  | _, _ => False
def Q80 : List DV → Prop
  | [.num x, .num y] => U64 x ∧ U64 y
  | _ => False
def C80 : Con := ⟨80, [(.one (.int .u64)), (.one (.int .u64))], (.tup [(.one (.int .u64)), (.one (.int .u64))]), false, true⟩
/-- (turnstone/wide.Int).Mul -/
def R47 : List DV → List DV → Prop
  | [.num h, .num l, .num b], [.num g, .num m, .tru ok] => (Told (wv h l * b) g m ok)
  | _, _ => False
def Q47 : List DV → Prop
  | [.num h, .num l, .num b] => W h l ∧ I64 b
  | _ => False
def C47 : Con := ⟨47, [(.agg [.int .i64, .int .u64]), (.one (.int .i64))], (.tup [(.agg [.int .i64, .int .u64]), (.one .bool)]), false, true⟩
/-- (turnstone/wide.Int).Cmp -/
def R61 : List DV → List DV → Prop
  | [.num ah, .num al, .num bh, .num bl], [.num c] => ((wv ah al < wv bh bl → c = -1) ∧ (wv ah al = wv bh bl → c = 0) ∧ (wv bh bl < wv ah al → c = 1))
  | _, _ => False
def Q61 : List DV → Prop
  | [.num ah, .num al, .num bh, .num bl] => W ah al ∧ W bh bl
  | _ => False
def C61 : Con := ⟨61, [(.agg [.int .i64, .int .u64]), (.agg [.int .i64, .int .u64])], (.p (.one (.int .i64))), false, true⟩
/-- (turnstone/wide.Int).Sign -/
def R68 : List DV → List DV → Prop
  | [.num h, .num l], [.num c] => ((wv h l < 0 → c = -1) ∧ (wv h l = 0 → c = 0) ∧ (0 < wv h l → c = 1))
  | _, _ => False
def Q68 : List DV → Prop
  | [.num h, .num l] => W h l
  | _ => False
def C68 : Con := ⟨68, [(.agg [.int .i64, .int .u64])], (.p (.one (.int .i64))), false, true⟩
/-- (turnstone/wide.Int).Neg -/
def R101 : List DV → List DV → Prop
  | [.num h, .num l], [.num g, .num m, .tru ok] => (Told (- wv h l) g m ok)
  | _, _ => False
def Q101 : List DV → Prop
  | [.num h, .num l] => W h l
  | _ => False
def C101 : Con := ⟨101, [(.agg [.int .i64, .int .u64])], (.tup [(.agg [.int .i64, .int .u64]), (.one .bool)]), false, true⟩
/-- math/bits.Div64 -/
def R83 : List DV → List DV → Prop
  | [.num hi, .num lo, .num y], [.num q, .num r] => (q = (hi * 18446744073709551616 + lo) / y ∧ r = (hi * 18446744073709551616 + lo) % y)
  | _, _ => False
def Q83 : List DV → Prop
  | [.num hi, .num lo, .num y] => U64 hi ∧ U64 lo ∧ U64 y ∧ hi < y
  | _ => False
def C83 : Con := ⟨83, [(.one (.int .u64)), (.one (.int .u64)), (.one (.int .u64))], (.tup [(.one (.int .u64)), (.one (.int .u64))]), false, true⟩
def R108317 : List DV → List DV → Prop
  | [.num a, .num b, .num u, .num v, .num q0, .num h0], [.num q, .num h] => (DInv a b u v q h)
  | _, _ => False
def M108317 : List DV → List DV → Nat
  | [.num a, .num b, .num u, .num v, .num q0, .num h0], [.num q, .num h] => ((4294967296 - h).toNat)
  | _, _ => 0
def L108317 : FuncId × LCon := (83, ⟨17, 108317, [⟨true, 15, 0, (.int .u64), .gone⟩, ⟨true, 16, 0, (.int .u64), .gone⟩], [(true, 9, 0), (true, 10, 0), (true, 11, 0), (true, 13, 0)]⟩)
def R108324 : List DV → List DV → Prop
  | [.num a, .num b, .num u, .num v, .num q0, .num h0], [.num q, .num h] => (DInv a b u v q h)
  | _, _ => False
def M108324 : List DV → List DV → Nat
  | [.num a, .num b, .num u, .num v, .num q0, .num h0], [.num q, .num h] => ((4294967296 - h).toNat)
  | _, _ => 0
def L108324 : FuncId × LCon := (83, ⟨24, 108324, [⟨true, 18, 0, (.int .u64), .gone⟩, ⟨true, 16, 0, (.int .u64), .gone⟩], [(true, 9, 0), (true, 10, 0), (true, 17, 0), (true, 14, 0)]⟩)
/-- (turnstone/wide.Int).Div -/
def R48 : List DV → List DV → Prop
  | [.num h, .num l, .num b], [.num g, .num m, .num r, .tru ok] => (W g m ∧ (ok = true ↔ b ≠ 0) ∧ (b = 0 → g = 0 ∧ m = 0 ∧ r = 0) ∧ (b ≠ 0 → wv g m = wv h l / b ∧ r = wv h l % b ∧ 0 ≤ r ∧ r < b))
  | _, _ => False
def Q48 : List DV → Prop
  | [.num h, .num l, .num b] => W h l ∧ U64 b
  | _ => False
def C48 : Con := ⟨48, [(.agg [.int .i64, .int .u64]), (.one (.int .u64))], (.tup [(.agg [.int .i64, .int .u64]), (.one (.int .u64)), (.one .bool)]), false, true⟩
/-- (turnstone/vtime.Time).Add -/
def R55 : List DV → List DV → Prop
  | [.num t, .num d], [.num r] => (r = (t + d) % 18446744073709551616)
  | _, _ => False
def C55 : Con := ⟨55, [(.one (.int .u64)), (.one (.int .i64))], (.p (.one (.int .u64))), true, true⟩
/-- (turnstone/vtime.Time).Since -/
def R10 : List DV → List DV → Prop
  | [.num t, .num u], [.num d] => (d = s64 (t - u))
  | _, _ => False
def C10 : Con := ⟨10, [(.one (.int .u64)), (.one (.int .u64))], (.p (.one (.int .i64))), true, true⟩
/-- (turnstone/pos.Pos).Distance -/
def R49 : List DV → List DV → Prop
  | [.num t, .num r, .num w, .num base], [.num h, .num l] => (W h l ∧ wv h l = w * s64 (t - base) + r)
  | _, _ => False
def Q49 : List DV → Prop
  | [.num t, .num r, .num w, .num base] => U32 r ∧ U32 w
  | _ => False
def C49 : Con := ⟨49, [(.agg [.int .u64, .int .u32, .int .u32]), (.one (.int .u64))], (.p (.agg [.int .i64, .int .u64])), false, true⟩
/-- turnstone/pos.At -/
def R51 : List DV → List DV → Prop
  | [.num base, .num h, .num l, .num w], [.num t, .num r, .num v, .tru ok] => ((ok = true ↔ WT w ∧ I64 (wv h l / w)) ∧ (ok = true → t = (base + wv h l / w) % 18446744073709551616 ∧ r = wv h l % w ∧ 0 ≤ r ∧ r < w ∧ v = w) ∧ (ok = false → t = 0 ∧ r = 0 ∧ v = 0))
  | _, _ => False
def Q51 : List DV → Prop
  | [.num base, .num h, .num l, .num w] => W h l ∧ U32 w
  | _ => False
def C51 : Con := ⟨51, [(.one (.int .u64)), (.agg [.int .i64, .int .u64]), (.one (.int .u32))], (.tup [(.agg [.int .u64, .int .u32, .int .u32]), (.one .bool)]), false, true⟩
/-- (turnstone/pos.Pos).Move -/
def R157 : List DV → List DV → Prop
  | [.num t, .num r, .num w, .num g], [.num u, .num q, .num v, .tru ok] => ((ok = true ↔ WT w ∧ I64 ((g + r) / w)) ∧ (ok = true → u = (t + (g + r) / w) % 18446744073709551616 ∧ q = (g + r) % w ∧ 0 ≤ q ∧ q < w ∧ v = w) ∧ (ok = false → u = 0 ∧ q = 0 ∧ v = 0))
  | _, _ => False
def Q157 : List DV → Prop
  | [.num t, .num r, .num w, .num g] => U32 r ∧ U32 w ∧ U64 g
  | _ => False
def C157 : Con := ⟨157, [(.agg [.int .u64, .int .u32, .int .u32]), (.one (.int .u64))], (.tup [(.agg [.int .u64, .int .u32, .int .u32]), (.one .bool)]), false, true⟩
/-- (turnstone/pos.Pos).Cmp -/
def R124 : List DV → List DV → Prop
  | [.num t, .num r, .num w, .num u, .num q, .num v], [.num c] => ((0 < s64 (u - t) → c = -1) ∧ (s64 (u - t) < 0 → c = 1) ∧ (s64 (u - t) = 0 → (r * v < q * w → c = -1) ∧ (r * v = q * w → c = 0) ∧ (q * w < r * v → c = 1)))
  | _, _ => False
def Q124 : List DV → Prop
  | [.num t, .num r, .num w, .num u, .num q, .num v] => U32 r ∧ U32 w ∧ U32 q ∧ U32 v
  | _ => False
def C124 : Con := ⟨124, [(.agg [.int .u64, .int .u32, .int .u32]), (.agg [.int .u64, .int .u32, .int .u32])], (.p (.one (.int .i64))), false, true⟩
/-- (turnstone/mean.Mean).Right -/
def R46 : List DV → List DV → Prop
  | [.num b, .num h, .num l, .num w, .num n], [.tru ok] => (ok = true ↔ MR h l w n)
  | _, _ => False
def Q46 : List DV → Prop
  | [.num b, .num h, .num l, .num w, .num n] => I64 n ∧ U64 w
  | _ => False
def C46 : Con := ⟨46, [(.agg [.int .u64, .int .i64, .int .u64, .int .u64, .int .i64])], (.p (.one .bool)), false, true⟩
/-- (turnstone/mean.Mean).Add -/
def R45 : List DV → List DV → Prop
  | [.num b, .num h, .num l, .num w, .num n, .num t, .num r, .num v], [.num b2, .num h2, .num l2, .num w2, .num n2, .tru ok] => ((ok = true ↔ MR h l w n ∧ PR r v ∧ n < 32 ∧ Big (wv h l + (v * s64 (t - b) + r))) ∧ (ok = true → b2 = b ∧ W h2 l2 ∧ wv h2 l2 = wv h l + (v * s64 (t - b) + r) ∧ w2 = w + v ∧ n2 = n + 1) ∧ (ok = false → b2 = 0 ∧ h2 = 0 ∧ l2 = 0 ∧ w2 = 0 ∧ n2 = 0))
  | _, _ => False
def Q45 : List DV → Prop
  | [.num b, .num h, .num l, .num w, .num n, .num t, .num r, .num v] => W h l ∧ U64 w ∧ I64 n ∧ U32 r ∧ U32 v
  | _ => False
def C45 : Con := ⟨45, [(.agg [.int .u64, .int .i64, .int .u64, .int .u64, .int .i64]), (.agg [.int .u64, .int .u32, .int .u32])], (.tup [(.agg [.int .u64, .int .i64, .int .u64, .int .u64, .int .i64]), (.one .bool)]), false, true⟩
/-- (turnstone/mean.Mean).Take -/
def R33 : List DV → List DV → Prop
  | [.num b, .num h, .num l, .num w, .num n, .num t, .num r, .num v], [.num b2, .num h2, .num l2, .num w2, .num n2, .tru ok] => ((ok = true → MR h l w n ∧ PR r v ∧ 0 < n ∧ v ≤ w ∧ b2 = b ∧ W h2 l2 ∧ wv h2 l2 = wv h l - (v * s64 (t - b) + r) ∧ w2 = w - v ∧ n2 = n - 1 ∧ MR h2 l2 w2 n2) ∧ (ok = false → b2 = 0 ∧ h2 = 0 ∧ l2 = 0 ∧ w2 = 0 ∧ n2 = 0) ∧ (ok = true ↔ MR h l w n ∧ PR r v ∧ 0 < n ∧ v ≤ w ∧ Big (wv h l - (v * s64 (t - b) + r)) ∧ ((n = 1 ∧ w = v ∧ wv h l = v * s64 (t - b) + r) ∨ (1 < n ∧ n - 1 ≤ w - v ∧ w - v ≤ (n - 1) * 1048576))))
  | _, _ => False
def Q33 : List DV → Prop
  | [.num b, .num h, .num l, .num w, .num n, .num t, .num r, .num v] => W h l ∧ U64 w ∧ I64 n ∧ U32 r ∧ U32 v
  | _ => False
def C33 : Con := ⟨33, [(.agg [.int .u64, .int .i64, .int .u64, .int .u64, .int .i64]), (.agg [.int .u64, .int .u32, .int .u32])], (.tup [(.agg [.int .u64, .int .i64, .int .u64, .int .u64, .int .i64]), (.one .bool)]), false, true⟩
/-- (turnstone/mean.Mean).Floor -/
def R18 : List DV → List DV → Prop
  | [.num b, .num h, .num l, .num w, .num n], [.num t, .tru ok] => ((ok = true ↔ MR h l w n ∧ 0 < n ∧ I64 (wv h l / w)) ∧ (ok = true → t = (b + wv h l / w) % 18446744073709551616) ∧ (ok = false → t = 0))
  | _, _ => False
def Q18 : List DV → Prop
  | [.num b, .num h, .num l, .num w, .num n] => W h l ∧ U64 w ∧ I64 n
  | _ => False
def C18 : Con := ⟨18, [(.agg [.int .u64, .int .i64, .int .u64, .int .u64, .int .i64])], (.tup [(.one (.int .u64)), (.one .bool)]), false, true⟩
/-- turnstone/lag.over -/
def R52 : List DV → List DV → Prop
  | [.num b, .num h, .num l, .num w, .num n, .num t, .num r, .num v], [.num g, .num m, .tru ok] => (W g m ∧ (ok = true ↔ MR h l w n ∧ 0 < n ∧ PR r v ∧ Big (wv h l * v) ∧ Big ((v * s64 (t - b) + r) * w) ∧ Big (wv h l * v - (v * s64 (t - b) + r) * w)) ∧ (ok = true → wv g m = wv h l * v - (v * s64 (t - b) + r) * w) ∧ (ok = false → g = 0 ∧ m = 0))
  | _, _ => False
def Q52 : List DV → Prop
  | [.num b, .num h, .num l, .num w, .num n, .num t, .num r, .num v] => W h l ∧ U64 w ∧ I64 n ∧ U32 r ∧ U32 v
  | _ => False
def C52 : Con := ⟨52, [(.agg [.int .u64, .int .i64, .int .u64, .int .u64, .int .i64]), (.agg [.int .u64, .int .u32, .int .u32])], (.tup [(.agg [.int .i64, .int .u64]), (.one .bool)]), false, true⟩
/-- turnstone/lag.Sign -/
def R36 : List DV → List DV → Prop
  | [.num b, .num h, .num l, .num w, .num n, .num t, .num r, .num v], [.num c, .tru ok] => ((ok = true ↔ MR h l w n ∧ 0 < n ∧ PR r v ∧ Big (wv h l * v) ∧ Big ((v * s64 (t - b) + r) * w) ∧ Big (wv h l * v - (v * s64 (t - b) + r) * w)) ∧ (ok = false → c = 0) ∧ (ok = true → (wv h l * v < (v * s64 (t - b) + r) * w → c = -1) ∧ (wv h l * v = (v * s64 (t - b) + r) * w → c = 0) ∧ ((v * s64 (t - b) + r) * w < wv h l * v → c = 1)))
  | _, _ => False
def Q36 : List DV → Prop
  | [.num b, .num h, .num l, .num w, .num n, .num t, .num r, .num v] => W h l ∧ U64 w ∧ I64 n ∧ U32 r ∧ U32 v
  | _ => False
def C36 : Con := ⟨36, [(.agg [.int .u64, .int .i64, .int .u64, .int .u64, .int .i64]), (.agg [.int .u64, .int .u32, .int .u32])], (.tup [(.one (.int .i64)), (.one .bool)]), false, true⟩
/-- turnstone/lag.Eligible -/
def R35 : List DV → List DV → Prop
  | [.num b, .num h, .num l, .num w, .num n, .num t, .num r, .num v], [.tru ok] => (ok = true ↔ MR h l w n ∧ 0 < n ∧ PR r v ∧ Big (wv h l * v) ∧ Big ((v * s64 (t - b) + r) * w) ∧ Big (wv h l * v - (v * s64 (t - b) + r) * w) ∧ (v * s64 (t - b) + r) * w ≤ wv h l * v)
  | _, _ => False
def Q35 : List DV → Prop
  | [.num b, .num h, .num l, .num w, .num n, .num t, .num r, .num v] => W h l ∧ U64 w ∧ I64 n ∧ U32 r ∧ U32 v
  | _ => False
def C35 : Con := ⟨35, [(.agg [.int .u64, .int .i64, .int .u64, .int .u64, .int .i64]), (.agg [.int .u64, .int .u32, .int .u32])], (.p (.one .bool)), false, true⟩
/-- turnstone/lag.Read -/
def R15 : List DV → List DV → Prop
  | [.num b, .num h, .num l, .num w, .num n, .num t, .num r, .num v], [.num g, .num m, .tru ok] => (W g m ∧ (ok = true ↔ MR h l w n ∧ 0 < n ∧ PR r v ∧ Big (wv h l * v) ∧ Big ((v * s64 (t - b) + r) * w) ∧ Big (wv h l * v - (v * s64 (t - b) + r) * w)) ∧ (ok = true → wv g m = (wv h l * v - (v * s64 (t - b) + r) * w) / w) ∧ (ok = false → g = 0 ∧ m = 0))
  | _, _ => False
def Q15 : List DV → Prop
  | [.num b, .num h, .num l, .num w, .num n, .num t, .num r, .num v] => W h l ∧ U64 w ∧ I64 n ∧ U32 r ∧ U32 v
  | _ => False
def C15 : Con := ⟨15, [(.agg [.int .u64, .int .i64, .int .u64, .int .u64, .int .i64]), (.agg [.int .u64, .int .u32, .int .u32])], (.tup [(.agg [.int .i64, .int .u64]), (.one .bool)]), false, true⟩
/-- turnstone/weigh.Weigh -/
def R13 : List DV → List DV → Prop
  | [.num b, .num h, .num l, .num w, .num n, .num t, .num r, .num v, .num x], [.num u, .num q, .num y, .tru ok] => ((ok = true ↔ MR h l w n ∧ 0 < n ∧ PR r v ∧ WT x ∧ Big (wv h l * (x - v)) ∧ Big (v * s64 (t - b) + r + wv h l * (x - v) / w) ∧ I64 ((v * s64 (t - b) + r + wv h l * (x - v) / w) / x)) ∧ (ok = true → u = (b + (v * s64 (t - b) + r + wv h l * (x - v) / w) / x) % 18446744073709551616 ∧ q = (v * s64 (t - b) + r + wv h l * (x - v) / w) % x ∧ 0 ≤ q ∧ q < x ∧ y = x) ∧ (ok = false → u = 0 ∧ q = 0 ∧ y = 0))
  | _, _ => False
def Q13 : List DV → Prop
  | [.num b, .num h, .num l, .num w, .num n, .num t, .num r, .num v, .num x] => W h l ∧ U64 w ∧ I64 n ∧ U32 r ∧ U32 v ∧ U32 x
  | _ => False
def C13 : Con := ⟨13, [(.agg [.int .u64, .int .i64, .int .u64, .int .u64, .int .i64]), (.agg [.int .u64, .int .u32, .int .u32]), (.one (.int .u32))], (.tup [(.agg [.int .u64, .int .u32, .int .u32]), (.one .bool)]), false, true⟩
/-- turnstone/weigh.Shifted -/
def R14 : List DV → List DV → Prop
  | [.num b, .num h, .num l, .num w, .num n, .num t, .num r, .num v, .num u, .num q, .num x], [.num b2, .num h2, .num l2, .num w2, .num n2, .tru ok] => ((MR h l w n ∧ 2 ≤ n ∧ PR r v ∧ PR q x ∧ n - 1 ≤ w - v ∧ w - v ≤ (n - 1) * 1048576 ∧ Big (wv h l - (v * s64 (t - b) + r)) ∧ Big (wv h l - (v * s64 (t - b) + r) + (x * s64 (u - b) + q)) → ok = true) ∧ (MR h l w n ∧ n = 1 ∧ w = v ∧ PR r v ∧ PR q x ∧ wv h l = v * s64 (t - b) + r ∧ Big (x * s64 (u - b) + q) → ok = true) ∧ (ok = true → b2 = b ∧ W h2 l2 ∧ wv h2 l2 = wv h l - (v * s64 (t - b) + r) + (x * s64 (u - b) + q) ∧ w2 = w - v + x ∧ n2 = n ∧ MR h2 l2 w2 n2) ∧ (ok = false → b2 = 0 ∧ h2 = 0 ∧ l2 = 0 ∧ w2 = 0 ∧ n2 = 0))
  | _, _ => False
def Q14 : List DV → Prop
  | [.num b, .num h, .num l, .num w, .num n, .num t, .num r, .num v, .num u, .num q, .num x] => W h l ∧ U64 w ∧ I64 n ∧ U32 r ∧ U32 v ∧ U32 q ∧ U32 x
  | _ => False
def C14 : Con := ⟨14, [(.agg [.int .u64, .int .i64, .int .u64, .int .u64, .int .i64]), (.agg [.int .u64, .int .u32, .int .u32]), (.agg [.int .u64, .int .u32, .int .u32])], (.tup [(.agg [.int .u64, .int .i64, .int .u64, .int .u64, .int .i64]), (.one .bool)]), false, true⟩
/-- turnstone/mean.Of -/
def R12 : List DV → List DV → Prop
  | [.num b, .lst xs], [.num b2, .num h, .num l, .num w, .num n, .tru ok] => ((ok = true ↔ xs.length ≤ 32 ∧ AP xs xs.length) ∧ (ok = true → b2 = b ∧ W h l ∧ wv h l = SA b xs xs.length ∧ w = SW xs xs.length ∧ n = xs.length) ∧ (ok = false → b2 = 0 ∧ h = 0 ∧ l = 0 ∧ w = 0 ∧ n = 0))
  | _, _ => False
def Q12 : List DV → Prop
  | [.num b, .lst xs] => RK xs
  | _ => False
def C12 : Con := ⟨12, [(.one (.int .u64)), (.one (.list [.int .u64, .int .u32, .int .u32]))], (.tup [(.agg [.int .u64, .int .i64, .int .u64, .int .u64, .int .i64]), (.one .bool)]), false, true⟩
def R101203 : List DV → List DV → Prop
  | [.num b, .lst xs, .num i0, .num b10, .num h0, .num l0, .num w0, .num n0], [.num i, .num b1, .num h, .num l, .num w, .num n] => (0 ≤ i ∧ i ≤ xs.length ∧ i ≤ 32 ∧ b1 = b ∧ W h l ∧ n = i ∧ w = SW xs i.toNat ∧ wv h l = SA b xs i.toNat ∧ AP xs i.toNat)
  | _, _ => False
def M101203 : List DV → List DV → Nat
  | [.num b, .lst xs, .num i0, .num b10, .num h0, .num l0, .num w0, .num n0], [.num i, .num b1, .num h, .num l, .num w, .num n] => ((xs.length - i).toNat)
  | _, _ => 0
def L101203 : FuncId × LCon := (12, ⟨3, 101203, [⟨true, 15, 0, (.int .i64), .gone⟩, ⟨false, 4, 0, (.int .u64), .gone⟩, ⟨false, 4, 1, (.int .i64), .gone⟩, ⟨false, 4, 2, (.int .u64), .gone⟩, ⟨false, 4, 3, (.int .u64), .gone⟩, ⟨false, 4, 4, (.int .i64), .gone⟩], [(true, 0, 0), (true, 1, 0)]⟩)
/-- turnstone/turnstoneref01.digit -/
def R89 : List DV → List DV → Prop
  | [.tru n, .lst l, .num i], [.num d] => (d = Sy.rowAt l i 0)
  | _, _ => False
def Q89 : List DV → Prop
  | [.tru n, .lst l, .num i] => 0 ≤ i
  | _ => False
def C89 : Con := ⟨89, [(.agg [.bool, .list [.int .i64]]), (.one (.int .i64))], (.p (.one (.int .i64))), false, true⟩
/-- turnstone/turnstoneref01.larger -/
def R76 : List DV → List DV → Prop
  | [.tru an, .lst al, .tru bn, .lst bl], [.num c] => ((dval al < dval bl → c = -1) ∧ (dval al = dval bl → c = 0) ∧ (dval bl < dval al → c = 1))
  | _, _ => False
def Q76 : List DV → Prop
  | [.tru an, .lst al, .tru bn, .lst bl] => dig al ∧ dig bl ∧ al.length ≤ 1000 ∧ bl.length ≤ 1000
  | _ => False
def C76 : Con := ⟨76, [(.agg [.bool, .list [.int .i64]]), (.agg [.bool, .list [.int .i64]])], (.p (.one (.int .i64))), false, true⟩
def R107602 : List DV → List DV → Prop
  | [.lst al, .lst bl, .num i0], [.num i] => (-1 ≤ i ∧ i ≤ 1000 ∧ dval (al.drop (i + 1).toNat) = dval (bl.drop (i + 1).toNat))
  | _, _ => False
def M107602 : List DV → List DV → Nat
  | [.lst al, .lst bl, .num i0], [.num i] => ((i + 1).toNat)
  | _, _ => 0
def L107602 : FuncId × LCon := (76, ⟨2, 107602, [⟨true, 5, 0, (.int .i64), .gone⟩], [(false, 0, 1), (false, 1, 1)]⟩)
/-- turnstone/turnstoneref01.plus -/
def R75 : List DV → List DV → Prop
  | [.tru an, .lst al, .tru bn, .lst bl], [.lst l] => (dig l ∧ dval l = dval al + dval bl ∧ l.length ≤ 2000)
  | _, _ => False
def Q75 : List DV → Prop
  | [.tru an, .lst al, .tru bn, .lst bl] => dig al ∧ dig bl ∧ al.length ≤ 1000 ∧ bl.length ≤ 1000
  | _ => False
def C75 : Con := ⟨75, [(.agg [.bool, .list [.int .i64]]), (.agg [.bool, .list [.int .i64]])], (.p (.one (.list [.int .i64]))), false, true⟩
def R107504 : List DV → List DV → Prop
  | [.lst al, .lst bl, .lst o0, .num c0, .num i0], [.lst o, .num c, .num i] => (0 ≤ i ∧ o.length = i ∧ dig o ∧ 0 ≤ c ∧ c ≤ 1 ∧ (i ≤ al.length ∨ i ≤ bl.length ∨ c = 0 ∧ (i ≤ al.length + 1 ∨ i ≤ bl.length + 1)) ∧ dval o + P4 i.toNat * (c + dval (al.drop i.toNat) + dval (bl.drop i.toNat)) = dval al + dval bl)
  | _, _ => False
def M107504 : List DV → List DV → Nat
  | [.lst al, .lst bl, .lst o0, .num c0, .num i0], [.lst o, .num c, .num i] => ((1002 - i).toNat)
  | _, _ => 0
def L107504 : FuncId × LCon := (75, ⟨4, 107504, [⟨true, 5, 0, (.list [.int .i64]), (.own [.int .i64] 3)⟩, ⟨true, 6, 0, (.int .i64), .gone⟩, ⟨true, 7, 0, (.int .i64), .gone⟩], [(false, 0, 1), (false, 1, 1)]⟩)
/-- turnstone/turnstoneref01.minus -/
def R77 : List DV → List DV → Prop
  | [.tru an, .lst al, .tru bn, .lst bl], [.lst l] => (dig l ∧ dval l = dval al - dval bl ∧ l.length ≤ 2000)
  | _, _ => False
def Q77 : List DV → Prop
  | [.tru an, .lst al, .tru bn, .lst bl] => dig al ∧ dig bl ∧ al.length ≤ 1000 ∧ bl.length ≤ 1000 ∧ dval bl ≤ dval al
  | _ => False
def C77 : Con := ⟨77, [(.agg [.bool, .list [.int .i64]]), (.agg [.bool, .list [.int .i64]])], (.p (.one (.list [.int .i64]))), false, true⟩
def R107704 : List DV → List DV → Prop
  | [.lst al, .lst bl, .lst o0, .num c0, .num i0], [.lst o, .num c, .num i] => (0 ≤ i ∧ i ≤ al.length ∧ o.length = i ∧ dig o ∧ 0 ≤ c ∧ c ≤ 1 ∧ dval o + P4 i.toNat * (dval (al.drop i.toNat) - dval (bl.drop i.toNat) - c) = dval al - dval bl)
  | _, _ => False
def M107704 : List DV → List DV → Nat
  | [.lst al, .lst bl, .lst o0, .num c0, .num i0], [.lst o, .num c, .num i] => ((al.length - i).toNat)
  | _, _ => 0
def L107704 : FuncId × LCon := (77, ⟨4, 107704, [⟨true, 5, 0, (.list [.int .i64]), (.own [.int .i64] 3)⟩, ⟨true, 6, 0, (.int .i64), .gone⟩, ⟨true, 7, 0, (.int .i64), .gone⟩], [(false, 0, 1), (false, 1, 1)]⟩)
/-- turnstone/turnstoneref01.trim -/
def R74 : List DV → List DV → Prop
  | [.tru n, .lst l], [.tru m, .lst k] => (BOK m k ∧ bval m k = bval n l)
  | _, _ => False
def Q74 : List DV → Prop
  | [.tru n, .lst l] => dig l ∧ l.length ≤ 3000
  | _ => False
def C74 : Con := ⟨74, [(.agg [.bool, .list [.int .i64]])], (.p (.agg [.bool, .list [.int .i64]])), false, false⟩
def R107401 : List DV → List DV → Prop
  | [.lst k0], [.lst k] => (dig k ∧ k.length ≤ 3000 ∧ dval k = dval k0)
  | _, _ => False
def M107401 : List DV → List DV → Nat
  | [.lst k0], [.lst k] => (k.length)
  | _, _ => 0
def L107401 : FuncId × LCon := (74, ⟨1, 107401, [⟨false, 0, 1, (.list [.int .i64]), (.rd [.int .i64] true)⟩], []⟩)
/-- turnstone/turnstoneref01.U -/
def R59 : List DV → List DV → Prop
  | [.num x], [.tru n, .lst l] => (BOK n l ∧ bval n l = x)
  | _, _ => False
def Q59 : List DV → Prop
  | [.num x] => U64 x
  | _ => False
def C59 : Con := ⟨59, [(.one (.int .u64))], (.p (.agg [.bool, .list [.int .i64]])), false, true⟩
def R105902 : List DV → List DV → Prop
  | [.num y0, .lst o0], [.num y, .lst o] => (0 ≤ y ∧ dig o ∧ dval o + P4 o.length * y = y0 + dval o0 ∧ (y = 0 → o.length ≠ 0 → Sy.rowAt o ((o.length : Int) - 1) 0 ≠ 0))
  | _, _ => False
def M105902 : List DV → List DV → Nat
  | [.num y0, .lst o0], [.num y, .lst o] => (y.toNat)
  | _, _ => 0
def L105902 : FuncId × LCon := (59, ⟨2, 105902, [⟨true, 0, 0, (.int .u64), .gone⟩, ⟨false, 1, 1, (.list [.int .i64]), (.own [.int .i64] 3)⟩], []⟩)
/-- turnstone/turnstoneref01.N -/
def R23 : List DV → List DV → Prop
  | [.num x], [.tru n, .lst l] => (BOK n l ∧ bval n l = x)
  | _, _ => False
def Q23 : List DV → Prop
  | [.num x] => I64 x
  | _ => False
def C23 : Con := ⟨23, [(.one (.int .i64))], (.p (.agg [.bool, .list [.int .i64]])), false, true⟩
/-- turnstone/turnstoneref01.Neg -/
def R62 : List DV → List DV → Prop
  | [.tru n, .lst l], [.tru m, .lst k] => (BOK m k ∧ bval m k = - bval n l)
  | _, _ => False
def Q62 : List DV → Prop
  | [.tru n, .lst l] => Bg n l
  | _ => False
def C62 : Con := ⟨62, [(.agg [.bool, .list [.int .i64]])], (.p (.agg [.bool, .list [.int .i64]])), false, false⟩
/-- turnstone/turnstoneref01.Add -/
def R42 : List DV → List DV → Prop
  | [.tru an, .lst al, .tru bn, .lst bl], [.tru n, .lst l] => (BOK n l ∧ bval n l = bval an al + bval bn bl)
  | _, _ => False
def Q42 : List DV → Prop
  | [.tru an, .lst al, .tru bn, .lst bl] => Bg an al ∧ Bg bn bl
  | _ => False
def C42 : Con := ⟨42, [(.agg [.bool, .list [.int .i64]]), (.agg [.bool, .list [.int .i64]])], (.p (.agg [.bool, .list [.int .i64]])), false, true⟩
/-- turnstone/turnstoneref01.Sub -/
def R60 : List DV → List DV → Prop
  | [.tru an, .lst al, .tru bn, .lst bl], [.tru n, .lst l] => (BOK n l ∧ bval n l = bval an al - bval bn bl)
  | _, _ => False
def Q60 : List DV → Prop
  | [.tru an, .lst al, .tru bn, .lst bl] => Bg an al ∧ Bg bn bl
  | _ => False
def C60 : Con := ⟨60, [(.agg [.bool, .list [.int .i64]]), (.agg [.bool, .list [.int .i64]])], (.p (.agg [.bool, .list [.int .i64]])), false, true⟩
/-- turnstone/turnstoneref01.Sign -/
def R40 : List DV → List DV → Prop
  | [.tru n, .lst l], [.num c] => ((bval n l < 0 → c = -1) ∧ (bval n l = 0 → c = 0) ∧ (0 < bval n l → c = 1))
  | _, _ => False
def Q40 : List DV → Prop
  | [.tru n, .lst l] => BOK n l
  | _ => False
def C40 : Con := ⟨40, [(.agg [.bool, .list [.int .i64]])], (.p (.one (.int .i64))), false, true⟩
/-- turnstone/turnstoneref01.Cmp -/
def R22 : List DV → List DV → Prop
  | [.tru an, .lst al, .tru bn, .lst bl], [.num c] => ((bval an al < bval bn bl → c = -1) ∧ (bval an al = bval bn bl → c = 0) ∧ (bval bn bl < bval an al → c = 1))
  | _, _ => False
def Q22 : List DV → Prop
  | [.tru an, .lst al, .tru bn, .lst bl] => Bg an al ∧ Bg bn bl
  | _ => False
def C22 : Con := ⟨22, [(.agg [.bool, .list [.int .i64]]), (.agg [.bool, .list [.int .i64]])], (.p (.one (.int .i64))), false, true⟩
/-- turnstone/turnstoneref01.Mul -/
def R58 : List DV → List DV → Prop
  | [.tru an, .lst al, .tru bn, .lst bl], [.tru n, .lst l] => (BOK n l ∧ bval n l = bval an al * bval bn bl)
  | _, _ => False
def Q58 : List DV → Prop
  | [.tru an, .lst al, .tru bn, .lst bl] => Bg an al ∧ Bg bn bl
  | _ => False
def C58 : Con := ⟨58, [(.agg [.bool, .list [.int .i64]]), (.agg [.bool, .list [.int .i64]])], (.p (.agg [.bool, .list [.int .i64]])), false, true⟩
def R105803 : List DV → List DV → Prop
  | [.lst al, .lst bl, .lst o0, .num i0], [.lst o, .num i] => (0 ≤ i ∧ i ≤ al.length ∧ o.length = al.length + bl.length + 1 ∧ dig o ∧ (∀ k : Nat, (i + bl.length : Int) ≤ k → Sy.rowAt o k 0 = 0) ∧ dval o + P4 i.toNat * (dval (al.drop i.toNat) * dval bl) = dval al * dval bl)
  | _, _ => False
def M105803 : List DV → List DV → Nat
  | [.lst al, .lst bl, .lst o0, .num i0], [.lst o, .num i] => ((al.length - i).toNat)
  | _, _ => 0
def L105803 : FuncId × LCon := (58, ⟨3, 105803, [⟨true, 5, 0, (.list [.int .i64]), (.own [.int .i64] 3)⟩, ⟨true, 23, 0, (.int .i64), .gone⟩], [(false, 0, 1), (false, 1, 1)]⟩)
def R105807 : List DV → List DV → Prop
  | [.lst bl, .num i, .num x, .lst o0, .num c0, .num k0], [.lst o, .num c, .num k] => (0 ≤ k ∧ 0 ≤ c ∧ c < 10000 ∧ o.length = o0.length ∧ dig o ∧ (k ≤ bl.length ∨ k ≤ bl.length + 1 ∧ c = 0) ∧ (∀ j : Nat, (i + k : Int) ≤ j → Sy.rowAt o j 0 = Sy.rowAt o0 j 0) ∧ dval o + P4 (i + k).toNat * (c + x * dval (bl.drop k.toNat)) = dval o0 + P4 i.toNat * (x * dval bl))
  | _, _ => False
def M105807 : List DV → List DV → Nat
  | [.lst bl, .num i, .num x, .lst o0, .num c0, .num k0], [.lst o, .num c, .num k] => ((bl.length + 1 - k).toNat)
  | _, _ => 0
def L105807 : FuncId × LCon := (58, ⟨7, 105807, [⟨true, 5, 0, (.list [.int .i64]), (.own [.int .i64] 3)⟩, ⟨true, 8, 0, (.int .i64), .gone⟩, ⟨true, 9, 0, (.int .i64), .gone⟩], [(false, 1, 1), (true, 6, 0), (true, 7, 0)]⟩)
/-- turnstone/turnstoneref01.Div -/
def R73 : List DV → List DV → Prop
  | [.tru an, .lst al, .num b], [.tru n, .lst l, .num r] => (BOK n l ∧ bval n l = bval an al / b ∧ r = bval an al % b)
  | _, _ => False
def Q73 : List DV → Prop
  | [.tru an, .lst al, .num b] => Bg an al ∧ 0 < b ∧ b < 35184372088832
  | _ => False
def C73 : Con := ⟨73, [(.agg [.bool, .list [.int .i64]]), (.one (.int .i64))], (.tup [(.agg [.bool, .list [.int .i64]]), (.one (.int .i64))]), false, true⟩
def R107304 : List DV → List DV → Prop
  | [.lst al, .num b, .lst q0, .num r0, .num i0], [.lst q, .num r, .num i] => (-1 ≤ i ∧ i < al.length ∧ q.length = al.length ∧ dig q ∧ 0 ≤ r ∧ r < b ∧ (∀ j : Nat, (j : Int) ≤ i → Sy.rowAt q j 0 = 0) ∧ dval q * b + P4 (i + 1).toNat * r = P4 (i + 1).toNat * dval (al.drop (i + 1).toNat))
  | _, _ => False
def M107304 : List DV → List DV → Nat
  | [.lst al, .num b, .lst q0, .num r0, .num i0], [.lst q, .num r, .num i] => ((i + 1).toNat)
  | _, _ => 0
def L107304 : FuncId × LCon := (73, ⟨4, 107304, [⟨true, 6, 0, (.list [.int .i64]), (.own [.int .i64] 3)⟩, ⟨true, 7, 0, (.int .i64), .gone⟩, ⟨true, 8, 0, (.int .i64), .gone⟩], [(false, 0, 1), (true, 1, 0)]⟩)
/-- turnstone/turnstoneref01.Power -/
def R97 : List DV → List DV → Prop
  | [.num n], [.tru s, .lst l] => (BOK s l ∧ bval s l = 2 ^ n.toNat)
  | _, _ => False
def Q97 : List DV → Prop
  | [.num n] => 0 ≤ n ∧ n ≤ 200
  | _ => False
def C97 : Con := ⟨97, [(.one (.int .i64))], (.p (.agg [.bool, .list [.int .i64]])), false, true⟩
def R109703 : List DV → List DV → Prop
  | [.num n, .tru s0, .lst l0, .num k0], [.tru s, .lst l, .num k] => (0 ≤ k ∧ k ≤ n ∧ BOK s l ∧ bval s l = 2 ^ k.toNat)
  | _, _ => False
def M109703 : List DV → List DV → Nat
  | [.num n, .tru s0, .lst l0, .num k0], [.tru s, .lst l, .num k] => ((n - k).toNat)
  | _, _ => 0
def L109703 : FuncId × LCon := (97, ⟨3, 109703, [⟨false, 2, 0, .bool, .gone⟩, ⟨false, 2, 1, (.list [.int .i64]), (.rd [.int .i64] false)⟩, ⟨true, 4, 0, (.int .i64), .gone⟩], [(true, 0, 0)]⟩)
/-- turnstone/turnstoneref01.Wide -/
def R63 : List DV → List DV → Prop
  | [.num h, .num l], [.tru n, .lst d] => (BOK n d ∧ bval n d = wv h l)
  | _, _ => False
def Q63 : List DV → Prop
  | [.num h, .num l] => W h l
  | _ => False
def C63 : Con := ⟨63, [(.one (.int .i64)), (.one (.int .u64))], (.p (.agg [.bool, .list [.int .i64]])), false, true⟩
/-- turnstone/turnstoneref01.Is -/
def R72 : List DV → List DV → Prop
  | [.tru n, .lst l], [.tru ok] => (ok = true ↔ Bi (bval n l))
  | _, _ => False
def Q72 : List DV → Prop
  | [.tru n, .lst l] => Bg n l
  | _ => False
def C72 : Con := ⟨72, [(.agg [.bool, .list [.int .i64]])], (.p (.one .bool)), false, true⟩
/-- turnstone/turnstoneref03.Since -/
def R96 : List DV → List DV → Prop
  | [.num t, .num u], [.tru n, .lst l] => (BOK n l ∧ bval n l = s64 (t - u))
  | _, _ => False
def Q96 : List DV → Prop
  | [.num t, .num u] => U64 t ∧ U64 u
  | _ => False
def C96 : Con := ⟨96, [(.one (.int .u64)), (.one (.int .u64))], (.p (.agg [.bool, .list [.int .i64]])), false, true⟩
/-- turnstone/turnstoneref04.Right -/
def R70 : List DV → List DV → Prop
  | [.num t, .num r, .num w], [.tru ok] => (ok = true ↔ Pq r w)
  | _, _ => False
def C70 : Con := ⟨70, [(.agg [.int .u64, .int .u32, .int .u32])], (.p (.one .bool)), true, true⟩
/-- turnstone/turnstoneref04.Distance -/
def R71 : List DV → List DV → Prop
  | [.num t, .num r, .num w, .num base], [.tru n, .lst l] => (BOK n l ∧ bval n l = w * s64 (t - base) + r)
  | _, _ => False
def Q71 : List DV → Prop
  | [.num t, .num r, .num w, .num base] => U64 t ∧ U32 r ∧ U32 w ∧ U64 base
  | _ => False
def C71 : Con := ⟨71, [(.agg [.int .u64, .int .u32, .int .u32]), (.one (.int .u64))], (.p (.agg [.bool, .list [.int .i64]])), false, true⟩
/-- turnstone/turnstoneref08.Right -/
def R69 : List DV → List DV → Prop
  | [.num b, .tru an, .lst al, .num w, .num n], [.tru ok] => (ok = true ↔ Mq (bval an al) w n)
  | _, _ => False
def Q69 : List DV → Prop
  | [.num b, .tru an, .lst al, .num w, .num n] => BOK an al ∧ U64 w ∧ 0 ≤ n ∧ n ≤ 1000
  | _ => False
def C69 : Con := ⟨69, [(.agg [.int .u64, .bool, .list [.int .i64], .int .u64, .int .i64])], (.p (.one .bool)), false, true⟩
/-- turnstone/turnstonelaw04.Of -/
def R28 : List DV → List DV → Prop
  | [.num t, .num r, .num w], [.num t2, .num r2, .num w2] => (t2 = t ∧ r2 = r ∧ w2 = w)
  | _, _ => False
def Q28 : List DV → Prop
  | [.num t, .num r, .num w] => U64 t ∧ U32 r ∧ U32 w
  | _ => False
def C28 : Con := ⟨28, [(.agg [.int .u64, .int .u32, .int .u32])], (.p (.agg [.int .u64, .int .u32, .int .u32])), false, true⟩
/-- turnstone/turnstonelaw01.Of -/
def R26 : List DV → List DV → Prop
  | [.num h, .num l], [.tru n, .lst d] => (BOK n d ∧ bval n d = wv h l)
  | _, _ => False
def Q26 : List DV → Prop
  | [.num h, .num l] => W h l
  | _ => False
def C26 : Con := ⟨26, [(.agg [.int .i64, .int .u64])], (.p (.agg [.bool, .list [.int .i64]])), false, true⟩
/-- turnstone/turnstonelaw01.Same -/
def R41 : List DV → List DV → Prop
  | [.num h, .num l, .tru n, .lst d], [.tru ok] => (ok = true ↔ wv h l = bval n d)
  | _, _ => False
def Q41 : List DV → Prop
  | [.num h, .num l, .tru n, .lst d] => W h l ∧ Bg n d
  | _ => False
def C41 : Con := ⟨41, [(.agg [.int .i64, .int .u64]), (.agg [.bool, .list [.int .i64]])], (.p (.one .bool)), false, true⟩
/-- turnstone/turnstonelaw08.Of -/
def R38 : List DV → List DV → Prop
  | [.num b, .num h, .num l, .num w, .num n], [.num b2, .tru an, .lst al, .num w2, .num n2] => (b2 = b ∧ BOK an al ∧ bval an al = wv h l ∧ w2 = w ∧ n2 = n)
  | _, _ => False
def Q38 : List DV → Prop
  | [.num b, .num h, .num l, .num w, .num n] => W h l ∧ U64 b
  | _ => False
def C38 : Con := ⟨38, [(.agg [.int .u64, .int .i64, .int .u64, .int .u64, .int .i64])], (.p (.agg [.int .u64, .bool, .list [.int .i64], .int .u64, .int .i64])), false, true⟩
/-- turnstone/turnstoneref09.Over -/
def R37 : List DV → List DV → Prop
  | [.num b, .tru an, .lst al, .num w, .num n, .num t, .num r, .num v], [.tru gn, .lst gl, .tru ok] => (BOK gn gl ∧ (ok = true ↔ Mq (bval an al) w n ∧ 0 < n ∧ Pq r v ∧ Bi (bval an al * v) ∧ Bi ((v * s64 (t - b) + r) * w) ∧ Bi (bval an al * v - (v * s64 (t - b) + r) * w)) ∧ (ok = true → bval gn gl = bval an al * v - (v * s64 (t - b) + r) * w) ∧ (ok = false → bval gn gl = 0))
  | _, _ => False
def Q37 : List DV → Prop
  | [.num b, .tru an, .lst al, .num w, .num n, .num t, .num r, .num v] => BOK an al ∧ Bi (bval an al) ∧ U64 b ∧ U64 w ∧ 0 ≤ n ∧ n ≤ 1000 ∧ U64 t ∧ U32 r ∧ U32 v
  | _ => False
def C37 : Con := ⟨37, [(.agg [.int .u64, .bool, .list [.int .i64], .int .u64, .int .i64]), (.agg [.int .u64, .int .u32, .int .u32])], (.tup [(.agg [.bool, .list [.int .i64]]), (.one .bool)]), false, true⟩
/-- turnstone/turnstoneref09.Read -/
def R39 : List DV → List DV → Prop
  | [.num b, .tru an, .lst al, .num w, .num n, .num t, .num r, .num v], [.tru gn, .lst gl, .tru ok] => (BOK gn gl ∧ (ok = true ↔ Mq (bval an al) w n ∧ 0 < n ∧ Pq r v ∧ Bi (bval an al * v) ∧ Bi ((v * s64 (t - b) + r) * w) ∧ Bi (bval an al * v - (v * s64 (t - b) + r) * w)) ∧ (ok = true → bval gn gl = (bval an al * v - (v * s64 (t - b) + r) * w) / w) ∧ (ok = false → bval gn gl = 0))
  | _, _ => False
def Q39 : List DV → Prop
  | [.num b, .tru an, .lst al, .num w, .num n, .num t, .num r, .num v] => BOK an al ∧ Bi (bval an al) ∧ U64 b ∧ U64 w ∧ 0 ≤ n ∧ n ≤ 1000 ∧ U64 t ∧ U32 r ∧ U32 v
  | _ => False
def C39 : Con := ⟨39, [(.agg [.int .u64, .bool, .list [.int .i64], .int .u64, .int .i64]), (.agg [.int .u64, .int .u32, .int .u32])], (.tup [(.agg [.bool, .list [.int .i64]]), (.one .bool)]), false, true⟩
/-- turnstone/turnstonelaw09.LagReads -/
def R7 : List DV → List DV → Prop
  | [.num b, .num h, .num l, .num w, .num n, .num t, .num r, .num v], [.tru ok] => (ok = true)
  | _, _ => False
def Q7 : List DV → Prop
  | [.num b, .num h, .num l, .num w, .num n, .num t, .num r, .num v] => W h l ∧ U64 b ∧ U64 w ∧ I64 n ∧ U64 t ∧ U32 r ∧ U32 v
  | _ => False
def C7 : Con := ⟨7, [(.agg [.int .u64, .int .i64, .int .u64, .int .u64, .int .i64]), (.agg [.int .u64, .int .u32, .int .u32])], (.p (.one .bool)), false, true⟩
/-- turnstone/turnstonelaw09.LagNought -/
def R8 : List DV → List DV → Prop
  | [.num base, .lst xs], [.tru ok] => (ok = true)
  | _, _ => False
def Q8 : List DV → Prop
  | [.num base, .lst xs] => U64 base ∧ RK xs
  | _ => False
def C8 : Con := ⟨8, [(.one (.int .u64)), (.one (.list [.int .u64, .int .u32, .int .u32]))], (.p (.one .bool)), false, true⟩
def R100806 : List DV → List DV → Prop
  | [.num base, .lst xs, .num j0], [.num j] => (0 ≤ j ∧ j ≤ xs.length ∧ AP xs j.toNat ∧ AQ 1152921504606846976 base xs j.toNat)
  | _, _ => False
def M100806 : List DV → List DV → Nat
  | [.num base, .lst xs, .num j0], [.num j] => ((xs.length - j).toNat)
  | _, _ => 0
def L100806 : FuncId × LCon := (8, ⟨6, 100806, [⟨true, 34, 0, (.int .i64), .gone⟩], [(true, 0, 0), (true, 1, 0)]⟩)
def R100816 : List DV → List DV → Prop
  | [.num base, .lst xs, .num h, .num l, .num w, .tru an0, .lst al0, .tru dn0, .lst dl0, .num ow0, .num ha0, .num i0], [.tru an, .lst al, .tru dn, .lst dl, .num ow, .num ha, .num i] => (0 ≤ i ∧ i ≤ xs.length ∧ BOK an al ∧ BOK dn dl ∧ bval an al = wv h l * SW xs i.toNat - SA base xs i.toNat * w ∧ w * bval dn dl ≤ bval an al ∧ bval an al ≤ w * bval dn dl + i * (w - 1) ∧ 0 ≤ ow ∧ ow ≤ i ∧ 0 ≤ ha ∧ ha ≤ i ∧ (ow = 0 → bval an al ≤ -i) ∧ (ha = 0 → i ≤ bval an al))
  | _, _ => False
def M100816 : List DV → List DV → Nat
  | [.num base, .lst xs, .num h, .num l, .num w, .tru an0, .lst al0, .tru dn0, .lst dl0, .num ow0, .num ha0, .num i0], [.tru an, .lst al, .tru dn, .lst dl, .num ow, .num ha, .num i] => ((xs.length - i).toNat)
  | _, _ => 0
def L100816 : FuncId × LCon := (8, ⟨16, 100816, [⟨false, 25, 0, .bool, .gone⟩, ⟨false, 25, 1, (.list [.int .i64]), (.rd [.int .i64] false)⟩, ⟨false, 26, 0, .bool, .gone⟩, ⟨false, 26, 1, (.list [.int .i64]), (.rd [.int .i64] false)⟩, ⟨true, 12, 0, (.int .i64), .gone⟩, ⟨true, 13, 0, (.int .i64), .gone⟩, ⟨true, 62, 0, (.int .i64), .gone⟩], [(true, 0, 0), (true, 1, 0), (false, 22, 1), (false, 22, 2), (false, 22, 3)]⟩)
/-- turnstone/clamp.Window -/
def R20 : List DV → List DV → Prop
  | [.num s, .num t], [.num w, .tru ok] => ((ok = true ↔ 1 ≤ s ∧ s ≤ 1099511627776 ∧ 1 ≤ t ∧ t ≤ 1099511627776) ∧ (ok = true → w = (2 * s + t) * 1048576) ∧ (ok = false → w = 0))
  | _, _ => False
def Q20 : List DV → Prop
  | [.num s, .num t] => U64 s ∧ U64 t
  | _ => False
def C20 : Con := ⟨20, [(.one (.int .u64)), (.one (.int .u64))], (.tup [(.one (.int .i64)), (.one .bool)]), false, true⟩
/-- turnstone/clamp.Clamp -/
def R24 : List DV → List DV → Prop
  | [.num h, .num l, .num w], [.num x] => ((w < 0 → x = 0) ∧ (0 ≤ w → (w < wv h l → x = w) ∧ (wv h l < -w → x = -w) ∧ (-w ≤ wv h l → wv h l ≤ w → x = wv h l)))
  | _, _ => False
def Q24 : List DV → Prop
  | [.num h, .num l, .num w] => W h l ∧ I64 w
  | _ => False
def C24 : Con := ⟨24, [(.agg [.int .i64, .int .u64]), (.one (.int .i64))], (.p (.one (.int .i64))), false, true⟩
/-- turnstone/turnstoneref12.Window -/
def R21 : List DV → List DV → Prop
  | [.num s, .num t], [.tru n, .lst l, .tru ok] => (BOK n l ∧ (ok = true ↔ 1 ≤ s ∧ s ≤ 1099511627776 ∧ 1 ≤ t ∧ t ≤ 1099511627776) ∧ (ok = true → bval n l = (2 * s + t) * 1048576) ∧ (ok = false → bval n l = 0))
  | _, _ => False
def Q21 : List DV → Prop
  | [.num s, .num t] => U64 s ∧ U64 t
  | _ => False
def C21 : Con := ⟨21, [(.one (.int .u64)), (.one (.int .u64))], (.tup [(.agg [.bool, .list [.int .i64]]), (.one .bool)]), false, true⟩
/-- turnstone/turnstoneref12.Clamp -/
def R25 : List DV → List DV → Prop
  | [.tru xn, .lst xl, .tru wn, .lst wl], [.tru n, .lst l] => (BOK n l ∧ (bval wn wl < 0 → bval n l = 0) ∧ (0 ≤ bval wn wl → (bval wn wl < bval xn xl → bval n l = bval wn wl) ∧ (bval xn xl < - bval wn wl → bval n l = - bval wn wl) ∧ (- bval wn wl ≤ bval xn xl → bval xn xl ≤ bval wn wl → bval n l = bval xn xl)))
  | _, _ => False
def Q25 : List DV → Prop
  | [.tru xn, .lst xl, .tru wn, .lst wl] => Bg xn xl ∧ Bg wn wl
  | _ => False
def C25 : Con := ⟨25, [(.agg [.bool, .list [.int .i64]]), (.agg [.bool, .list [.int .i64]])], (.p (.agg [.bool, .list [.int .i64]])), false, false⟩
/-- turnstone/turnstonelaw12.ClampWindows -/
def R5 : List DV → List DV → Prop
  | [.num s, .num t, .num h, .num l, .num w], [.tru ok] => (ok = true)
  | _, _ => False
def Q5 : List DV → Prop
  | [.num s, .num t, .num h, .num l, .num w] => U64 s ∧ U64 t ∧ W h l ∧ I64 w
  | _ => False
def C5 : Con := ⟨5, [(.one (.int .u64)), (.one (.int .u64)), (.agg [.int .i64, .int .u64]), (.one (.int .i64))], (.p (.one .bool)), false, true⟩
/-- turnstone/turnstonelaw11.WeighKeeps -/
def R3 : List DV → List DV → Prop
  | [.num base, .lst xs, .num i, .num x], [.tru ok] => (ok = true)
  | _, _ => False
def Q3 : List DV → Prop
  | [.num base, .lst xs, .num i, .num x] => U64 base ∧ RK xs ∧ 0 ≤ i ∧ i < 256 ∧ U32 x
  | _ => False
def C3 : Con := ⟨3, [(.one (.int .u64)), (.one (.list [.int .u64, .int .u32, .int .u32])), (.one (.int .u8)), (.one (.int .u32))], (.p (.one .bool)), false, true⟩
def R100306 : List DV → List DV → Prop
  | [.num base, .lst xs, .num j0], [.num j] => (0 ≤ j ∧ j ≤ xs.length ∧ AP xs j.toNat ∧ AN base xs j.toNat)
  | _, _ => False
def M100306 : List DV → List DV → Nat
  | [.num base, .lst xs, .num j0], [.num j] => ((xs.length - j).toNat)
  | _, _ => 0
def L100306 : FuncId × LCon := (3, ⟨6, 100306, [⟨true, 54, 0, (.int .i64), .gone⟩], [(true, 0, 0), (true, 1, 0)]⟩)
def R100319 : List DV → List DV → Prop
  | [.lst xs, .num j0], [.num j] => (0 ≤ j ∧ j ≤ xs.length)
  | _, _ => False
def M100319 : List DV → List DV → Nat
  | [.lst xs, .num j0], [.num j] => ((xs.length - j).toNat)
  | _, _ => 0
def L100319 : FuncId × LCon := (3, ⟨19, 100319, [⟨true, 117, 0, (.int .i64), .gone⟩], [(true, 1, 0)]⟩)
/-- turnstone/turnstonelaw11.WeighBack -/
def R4 : List DV → List DV → Prop
  | [.num base, .lst xs, .num i, .num x], [.tru ok] => (ok = true)
  | _, _ => False
def Q4 : List DV → Prop
  | [.num base, .lst xs, .num i, .num x] => U64 base ∧ RK xs ∧ 0 ≤ i ∧ i < 256 ∧ U32 x
  | _ => False
def C4 : Con := ⟨4, [(.one (.int .u64)), (.one (.list [.int .u64, .int .u32, .int .u32])), (.one (.int .u8)), (.one (.int .u32))], (.p (.one .bool)), false, true⟩
def R100406 : List DV → List DV → Prop
  | [.num base, .lst xs, .num j0], [.num j] => (0 ≤ j ∧ j ≤ xs.length ∧ AP xs j.toNat ∧ AN base xs j.toNat)
  | _, _ => False
def M100406 : List DV → List DV → Nat
  | [.num base, .lst xs, .num j0], [.num j] => ((xs.length - j).toNat)
  | _, _ => 0
def L100406 : FuncId × LCon := (4, ⟨6, 100406, [⟨true, 54, 0, (.int .i64), .gone⟩], [(true, 0, 0), (true, 1, 0)]⟩)
def R100421 : List DV → List DV → Prop
  | [.lst xs, .num j0], [.num j] => (0 ≤ j ∧ j ≤ xs.length)
  | _, _ => False
def M100421 : List DV → List DV → Nat
  | [.lst xs, .num j0], [.num j] => ((xs.length - j).toNat)
  | _, _ => 0
def L100421 : FuncId × LCon := (4, ⟨21, 100421, [⟨true, 153, 0, (.int .i64), .gone⟩], [(true, 1, 0)]⟩)
def Tr_ : Nat → List DV → List DV → Prop
  | 44 => R44
  | 11 => R11
  | 81 => R81
  | 53 => R53
  | 85 => R85
  | 54 => R54
  | 84 => R84
  | 50 => R50
  | 16 => R16
  | 79 => R79
  | 82 => R82
  | 17 => R17
  | 111 => R111
  | 100 => R100
  | 80 => R80
  | 47 => R47
  | 61 => R61
  | 68 => R68
  | 101 => R101
  | 83 => R83
  | 108317 => R108317
  | 108324 => R108324
  | 48 => R48
  | 55 => R55
  | 10 => R10
  | 49 => R49
  | 51 => R51
  | 157 => R157
  | 124 => R124
  | 46 => R46
  | 45 => R45
  | 33 => R33
  | 18 => R18
  | 52 => R52
  | 36 => R36
  | 35 => R35
  | 15 => R15
  | 13 => R13
  | 14 => R14
  | 12 => R12
  | 101203 => R101203
  | 89 => R89
  | 76 => R76
  | 107602 => R107602
  | 75 => R75
  | 107504 => R107504
  | 77 => R77
  | 107704 => R107704
  | 74 => R74
  | 107401 => R107401
  | 59 => R59
  | 105902 => R105902
  | 23 => R23
  | 62 => R62
  | 42 => R42
  | 60 => R60
  | 40 => R40
  | 22 => R22
  | 58 => R58
  | 105803 => R105803
  | 105807 => R105807
  | 73 => R73
  | 107304 => R107304
  | 97 => R97
  | 109703 => R109703
  | 63 => R63
  | 72 => R72
  | 96 => R96
  | 70 => R70
  | 71 => R71
  | 69 => R69
  | 28 => R28
  | 26 => R26
  | 41 => R41
  | 38 => R38
  | 37 => R37
  | 39 => R39
  | 7 => R7
  | 8 => R8
  | 100806 => R100806
  | 100816 => R100816
  | 20 => R20
  | 24 => R24
  | 21 => R21
  | 25 => R25
  | 5 => R5
  | 3 => R3
  | 100306 => R100306
  | 100319 => R100319
  | 4 => R4
  | 100406 => R100406
  | 100421 => R100421
  | _ => fun _ _ => True
def Tp_ : Nat → List DV → Prop
  | 81 => Q81
  | 53 => Q53
  | 54 => Q54
  | 84 => Q84
  | 50 => Q50
  | 16 => Q16
  | 79 => Q79
  | 82 => Q82
  | 17 => Q17
  | 111 => Q111
  | 100 => Q100
  | 80 => Q80
  | 47 => Q47
  | 61 => Q61
  | 68 => Q68
  | 101 => Q101
  | 83 => Q83
  | 48 => Q48
  | 49 => Q49
  | 51 => Q51
  | 157 => Q157
  | 124 => Q124
  | 46 => Q46
  | 45 => Q45
  | 33 => Q33
  | 18 => Q18
  | 52 => Q52
  | 36 => Q36
  | 35 => Q35
  | 15 => Q15
  | 13 => Q13
  | 14 => Q14
  | 12 => Q12
  | 89 => Q89
  | 76 => Q76
  | 75 => Q75
  | 77 => Q77
  | 74 => Q74
  | 59 => Q59
  | 23 => Q23
  | 62 => Q62
  | 42 => Q42
  | 60 => Q60
  | 40 => Q40
  | 22 => Q22
  | 58 => Q58
  | 73 => Q73
  | 97 => Q97
  | 63 => Q63
  | 72 => Q72
  | 96 => Q96
  | 71 => Q71
  | 69 => Q69
  | 28 => Q28
  | 26 => Q26
  | 41 => Q41
  | 38 => Q38
  | 37 => Q37
  | 39 => Q39
  | 7 => Q7
  | 8 => Q8
  | 20 => Q20
  | 24 => Q24
  | 21 => Q21
  | 25 => Q25
  | 5 => Q5
  | 3 => Q3
  | 4 => Q4
  | _ => fun _ => True
def Tm_ : Nat → List DV → List DV → Nat
  | 108317 => M108317
  | 108324 => M108324
  | 101203 => M101203
  | 107602 => M107602
  | 107504 => M107504
  | 107704 => M107704
  | 107401 => M107401
  | 105902 => M105902
  | 105803 => M105803
  | 105807 => M105807
  | 107304 => M107304
  | 109703 => M109703
  | 100806 => M100806
  | 100816 => M100816
  | 100306 => M100306
  | 100319 => M100319
  | 100406 => M100406
  | 100421 => M100421
  | _ => fun _ _ => 0
def T : Tab := ⟨Tr_, Tp_, Tm_⟩
end Go.Proofs.YtafhkgicekddlaaGreatDoor.Fn
