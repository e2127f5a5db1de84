/- What is told of each function: what holds between what it takes and what it yields. -/
import Derived.Test.YtafhkgicekddlaaGreatDoorSyTree
import Derived.Test.YtafhkgicekddlaaGreatDoorProg
import Derived.Laws.Externs
import Derived.Lib.BitFns
import Derived.Test.YtafhkgicekddlaaGreatDoorWords
import Derived.Test.YtafhkgicekddlaaGreatDoorWords2
namespace Go.Proofs.YtafhkgicekddlaaGreatDoor.Fn
open Go Go.RowKit Go.Proofs.YtafhkgicekddlaaGreatDoor.Sy
set_option linter.unusedVariables false
/-- turnstone/pos.weight -/
def R44 : List DV → List DV → Prop
  | [.num w], [.tru ok] => (ok = true ↔ 1 ≤ w ∧ w ≤ 1048576)
  | _, _ => False
def C44 : Con := ⟨44, [(.one (.int .u32))], (.p (.one .bool)), true, true⟩
/-- (turnstone/pos.Pos).Right -/
def R11 : List DV → List DV → Prop
  | [.num t, .num r, .num w], [.tru ok] => (ok = true ↔ 1 ≤ w ∧ w ≤ 1048576 ∧ r < w)
  | _, _ => False
def C11 : Con := ⟨11, [(.agg [.int .u64, .int .u32, .int .u32])], (.p (.one .bool)), true, true⟩
/-- math/bits.Add64 -/
def R81 : List DV → List DV → Prop
  | [.num a, .num b, .num c], [.num lo, .num hi] => (lo = (a + b + c) % 18446744073709551616 ∧ hi = (a + b + c) / 18446744073709551616)
  | _, _ => False
def Q81 : List DV → Prop
  | [.num a, .num b, .num c] => U64 a ∧ U64 b ∧ 0 ≤ c ∧ c ≤ 1
  | _ => False
def C81 : Con := ⟨81, [(.one (.int .u64)), (.one (.int .u64)), (.one (.int .u64))], (.tup [(.one (.int .u64)), (.one (.int .u64))]), false, true⟩
/-- math/bits.Sub64 -/
def R53 : List DV → List DV → Prop
  | [.num a, .num b, .num c], [.num lo, .num hi] => (lo = (a - b - c) % 18446744073709551616 ∧ (a < b + c → hi = 1) ∧ (b + c ≤ a → hi = 0))
  | _, _ => False
def Q53 : List DV → Prop
  | [.num a, .num b, .num c] => U64 a ∧ U64 b ∧ 0 ≤ c ∧ c ≤ 1
  | _ => False
def C53 : Con := ⟨53, [(.one (.int .u64)), (.one (.int .u64)), (.one (.int .u64))], (.tup [(.one (.int .u64)), (.one (.int .u64))]), false, true⟩
/-- turnstone/wide.OfU -/
def R85 : List DV → List DV → Prop
  | [.num x], [.num h, .num l] => (h = 0 ∧ l = x)
  | _, _ => False
def C85 : Con := ⟨85, [(.one (.int .u64))], (.p (.agg [.int .i64, .int .u64])), true, true⟩
/-- turnstone/wide.Of -/
def R54 : List DV → List DV → Prop
  | [.num x], [.num h, .num l] => (W h l ∧ wv h l = x)
  | _, _ => False
def Q54 : List DV → Prop
  | [.num x] => I64 x
  | _ => False
def C54 : Con := ⟨54, [(.one (.int .i64))], (.p (.agg [.int .i64, .int .u64])), false, true⟩
/-- (turnstone/wide.Int).flip -/
def R84 : List DV → List DV → Prop
  | [.num h, .num l], [.num g, .num m] => (W g m ∧ (h = -9223372036854775808 ∧ l = 0 → g = h ∧ m = l) ∧ (¬ (h = -9223372036854775808 ∧ l = 0) → wv g m = - wv h l))
  | _, _ => False
def Q84 : List DV → Prop
  | [.num h, .num l] => W h l
  | _ => False
def C84 : Con := ⟨84, [(.agg [.int .i64, .int .u64])], (.p (.agg [.int .i64, .int .u64])), false, true⟩
/-- (turnstone/wide.Int).Add -/
def R50 : List DV → List DV → Prop
  | [.num ah, .num al, .num bh, .num bl], [.num h, .num l, .tru ok] => (Told (wv ah al + wv bh bl) h l ok)
  | _, _ => False
def Q50 : List DV → Prop
  | [.num ah, .num al, .num bh, .num bl] => W ah al ∧ W bh bl
  | _ => False
def C50 : Con := ⟨50, [(.agg [.int .i64, .int .u64]), (.agg [.int .i64, .int .u64])], (.tup [(.agg [.int .i64, .int .u64]), (.one .bool)]), false, true⟩
/-- (turnstone/wide.Int).Sub -/
def R16 : List DV → List DV → Prop
  | [.num ah, .num al, .num bh, .num bl], [.num h, .num l, .tru ok] => (Told (wv ah al - wv bh bl) h l ok)
  | _, _ => False
def Q16 : List DV → Prop
  | [.num ah, .num al, .num bh, .num bl] => W ah al ∧ W bh bl
  | _ => False
def C16 : Con := ⟨16, [(.agg [.int .i64, .int .u64]), (.agg [.int .i64, .int .u64])], (.tup [(.agg [.int .i64, .int .u64]), (.one .bool)]), false, true⟩
/-- (turnstone/wide.Int).size -/
def R79 : List DV → List DV → Prop
  | [.num h, .num l], [.num u, .num v] => (U64 u ∧ U64 v ∧ (h < 0 → u * 18446744073709551616 + v = - wv h l) ∧ (0 ≤ h → u * 18446744073709551616 + v = wv h l))
  | _, _ => False
def Q79 : List DV → Prop
  | [.num h, .num l] => W h l
  | _ => False
def C79 : Con := ⟨79, [(.agg [.int .i64, .int .u64])], (.tup [(.one (.int .u64)), (.one (.int .u64))]), false, true⟩
/-- turnstone/wide.signed -/
def R82 : List DV → List DV → Prop
  | [.num hi, .num lo, .tru below], [.num h, .num l, .tru ok] => ((below = true → Told (-(hi * 18446744073709551616 + lo)) h l ok) ∧ (below = false → Told (hi * 18446744073709551616 + lo) h l ok))
  | _, _ => False
def Q82 : List DV → Prop
  | [.num hi, .num lo, .tru below] => U64 hi ∧ U64 lo
  | _ => False
def C82 : Con := ⟨82, [(.one (.int .u64)), (.one (.int .u64)), (.one .bool)], (.tup [(.agg [.int .i64, .int .u64]), (.one .bool)]), false, true⟩
/-- (turnstone/wide.Int).Small -/
def R17 : List DV → List DV → Prop
  | [.num h, .num l], [.num x, .tru ok] => (I64 x ∧ (ok = true → x = wv h l) ∧ (ok = false → x = 0 ∧ ¬ I64 (wv h l)))
  | _, _ => False
def Q17 : List DV → Prop
  | [.num h, .num l] => W h l
  | _ => False
def C17 : Con := ⟨17, [(.agg [.int .i64, .int .u64])], (.tup [(.one (.int .i64)), (.one .bool)]), false, true⟩
/-- math/bits.Len64 -/
def R111 : List DV → List DV → Prop
  | [.num x], [.num n] => (n = (Lib.bitLen x.toNat : Int))
  | _, _ => False
def Q111 : List DV → Prop
  | [.num x] => U64 x
  | _ => False
def C111 : Con := ⟨111, [(.one (.int .u64))], (.p (.one (.int .i64))), false, true⟩
/-- math/bits.LeadingZeros64 -/
def R100 : List DV → List DV → Prop
  | [.num x], [.num n] => (n = 64 - (Lib.bitLen x.toNat : Int))
  | _, _ => False
def Q100 : List DV → Prop
  | [.num x] => U64 x
  | _ => False
def C100 : Con := ⟨100, [(.one (.int .u64))], (.p (.one (.int .i64))), false, true⟩
/-- math/bits.Mul64 -/
def R80 : List DV → List DV → Prop
  | [.num x, .num y], [.num hi, .num lo] => (U64 hi ∧ U64 lo ∧ hi * 18446744073709551616 + lo = x * y)
  | _, _ => False
def Q80 : List DV → Prop
  | [.num x, .num y] => U64 x ∧ U64 y
  | _ => False
def C80 : Con := ⟨80, [(.one (.int .u64)), (.one (.int .u64))], (.tup [(.one (.int .u64)), (.one (.int .u64))]), false, true⟩
/-- (turnstone/wide.Int).Mul -/
def R47 : List DV → List DV → Prop
  | [.num h, .num l, .num b], [.num g, .num m, .tru ok] => (Told (wv h l * b) g m ok)
  | _, _ => False
def Q47 : List DV → Prop
  | [.num h, .num l, .num b] => W h l ∧ I64 b
  | _ => False
def C47 : Con := ⟨47, [(.agg [.int .i64, .int .u64]), (.one (.int .i64))], (.tup [(.agg [.int .i64, .int .u64]), (.one .bool)]), false, true⟩
/-- (turnstone/wide.Int).Cmp -/
def R61 : List DV → List DV → Prop
  | [.num ah, .num al, .num bh, .num bl], [.num c] => ((wv ah al < wv bh bl → c = -1) ∧ (wv ah al = wv bh bl → c = 0) ∧ (wv bh bl < wv ah al → c = 1))
  | _, _ => False
def Q61 : List DV → Prop
  | [.num ah, .num al, .num bh, .num bl] => W ah al ∧ W bh bl
  | _ => False
def C61 : Con := ⟨61, [(.agg [.int .i64, .int .u64]), (.agg [.int .i64, .int .u64])], (.p (.one (.int .i64))), false, true⟩
/-- (turnstone/wide.Int).Sign -/
def R68 : List DV → List DV → Prop
  | [.num h, .num l], [.num c] => ((wv h l < 0 → c = -1) ∧ (wv h l = 0 → c = 0) ∧ (0 < wv h l → c = 1))
  | _, _ => False
def Q68 : List DV → Prop
  | [.num h, .num l] => W h l
  | _ => False
def C68 : Con := ⟨68, [(.agg [.int .i64, .int .u64])], (.p (.one (.int .i64))), false, true⟩
/-- (turnstone/wide.Int).Neg -/
def R101 : List DV → List DV → Prop
  | [.num h, .num l], [.num g, .num m, .tru ok] => (Told (- wv h l) g m ok)
  | _, _ => False
def Q101 : List DV → Prop
  | [.num h, .num l] => W h l
  | _ => False
def C101 : Con := ⟨101, [(.agg [.int .i64, .int .u64])], (.tup [(.agg [.int .i64, .int .u64]), (.one .bool)]), false, true⟩
/-- math/bits.Div64 -/
def R83 : List DV → List DV → Prop
  | [.num hi, .num lo, .num y], [.num q, .num r] => (q = (hi * 18446744073709551616 + lo) / y ∧ r = (hi * 18446744073709551616 + lo) % y)
  | _, _ => False
def Q83 : List DV → Prop
  | [.num hi, .num lo, .num y] => U64 hi ∧ U64 lo ∧ U64 y ∧ hi < y
  | _ => False
def C83 : Con := ⟨83, [(.one (.int .u64)), (.one (.int .u64)), (.one (.int .u64))], (.tup [(.one (.int .u64)), (.one (.int .u64))]), false, true⟩
def R108317 : List DV → List DV → Prop
  | [.num a, .num b, .num u, .num v, .num q0, .num h0], [.num q, .num h] => (DInv a b u v q h)
  | _, _ => False
def M108317 : List DV → List DV → Nat
  | [.num a, .num b, .num u, .num v, .num q0, .num h0], [.num q, .num h] => ((4294967296 - h).toNat)
  | _, _ => 0
def L108317 : FuncId × LCon := (83, ⟨17, 108317, [⟨true, 15, 0, (.int .u64), .gone⟩, ⟨true, 16, 0, (.int .u64), .gone⟩], [(true, 9, 0), (true, 10, 0), (true, 11, 0), (true, 13, 0)]⟩)
def R108324 : List DV → List DV → Prop
  | [.num a, .num b, .num u, .num v, .num q0, .num h0], [.num q, .num h] => (DInv a b u v q h)
  | _, _ => False
def M108324 : List DV → List DV → Nat
  | [.num a, .num b, .num u, .num v, .num q0, .num h0], [.num q, .num h] => ((4294967296 - h).toNat)
  | _, _ => 0
def L108324 : FuncId × LCon := (83, ⟨24, 108324, [⟨true, 18, 0, (.int .u64), .gone⟩, ⟨true, 16, 0, (.int .u64), .gone⟩], [(true, 9, 0), (true, 10, 0), (true, 17, 0), (true, 14, 0)]⟩)
/-- (turnstone/wide.Int).Div -/
def R48 : List DV → List DV → Prop
  | [.num h, .num l, .num b], [.num g, .num m, .num r, .tru ok] => (W g m ∧ (ok = true ↔ b ≠ 0) ∧ (b = 0 → g = 0 ∧ m = 0 ∧ r = 0) ∧ (b ≠ 0 → wv g m = wv h l / b ∧ r = wv h l % b ∧ 0 ≤ r ∧ r < b))
  | _, _ => False
def Q48 : List DV → Prop
  | [.num h, .num l, .num b] => W h l ∧ U64 b
  | _ => False
def C48 : Con := ⟨48, [(.agg [.int .i64, .int .u64]), (.one (.int .u64))], (.tup [(.agg [.int .i64, .int .u64]), (.one (.int .u64)), (.one .bool)]), false, true⟩
/-- (turnstone/vtime.Time).Add -/
def R55 : List DV → List DV → Prop
  | [.num t, .num d], [.num r] => (r = (t + d) % 18446744073709551616)
  | _, _ => False
def C55 : Con := ⟨55, [(.one (.int .u64)), (.one (.int .i64))], (.p (.one (.int .u64))), true, true⟩
/-- (turnstone/vtime.Time).Since -/
def R10 : List DV → List DV → Prop
  | [.num t, .num u], [.num d] => (d = s64 (t - u))
  | _, _ => False
def C10 : Con := ⟨10, [(.one (.int .u64)), (.one (.int .u64))], (.p (.one (.int .i64))), true, true⟩
/-- (turnstone/pos.Pos).Distance -/
def R49 : List DV → List DV → Prop
  | [.num t, .num r, .num w, .num base], [.num h, .num l] => (W h l ∧ wv h l = w * s64 (t - base) + r)
  | _, _ => False
def Q49 : List DV → Prop
  | [.num t, .num r, .num w, .num base] => U32 r ∧ U32 w
  | _ => False
def C49 : Con := ⟨49, [(.agg [.int .u64, .int .u32, .int .u32]), (.one (.int .u64))], (.p (.agg [.int .i64, .int .u64])), false, true⟩
/-- turnstone/pos.At -/
def R51 : List DV → List DV → Prop
  | [.num base, .num h, .num l, .num w], [.num t, .num r, .num v, .tru ok] => ((ok = true ↔ WT w ∧ I64 (wv h l / w)) ∧ (ok = true → t = (base + wv h l / w) % 18446744073709551616 ∧ r = wv h l % w ∧ 0 ≤ r ∧ r < w ∧ v = w) ∧ (ok = false → t = 0 ∧ r = 0 ∧ v = 0))
  | _, _ => False
def Q51 : List DV → Prop
  | [.num base, .num h, .num l, .num w] => W h l ∧ U32 w
  | _ => False
def C51 : Con := ⟨51, [(.one (.int .u64)), (.agg [.int .i64, .int .u64]), (.one (.int .u32))], (.tup [(.agg [.int .u64, .int .u32, .int .u32]), (.one .bool)]), false, true⟩
/-- (turnstone/pos.Pos).Move -/
def R157 : List DV → List DV → Prop
  | [.num t, .num r, .num w, .num g], [.num u, .num q, .num v, .tru ok] => ((ok = true ↔ WT w ∧ I64 ((g + r) / w)) ∧ (ok = true → u = (t + (g + r) / w) % 18446744073709551616 ∧ q = (g + r) % w ∧ 0 ≤ q ∧ q < w ∧ v = w) ∧ (ok = false → u = 0 ∧ q = 0 ∧ v = 0))
  | _, _ => False
def Q157 : List DV → Prop
  | [.num t, .num r, .num w, .num g] => U32 r ∧ U32 w ∧ U64 g
  | _ => False
def C157 : Con := ⟨157, [(.agg [.int .u64, .int .u32, .int .u32]), (.one (.int .u64))], (.tup [(.agg [.int .u64, .int .u32, .int .u32]), (.one .bool)]), false, true⟩
/-- (turnstone/pos.Pos).Cmp -/
def R124 : List DV → List DV → Prop
  | [.num t, .num r, .num w, .num u, .num q, .num v], [.num c] => ((0 < s64 (u - t) → c = -1) ∧ (s64 (u - t) < 0 → c = 1) ∧ (s64 (u - t) = 0 → (r * v < q * w → c = -1) ∧ (r * v = q * w → c = 0) ∧ (q * w < r * v → c = 1)))
  | _, _ => False
def Q124 : List DV → Prop
  | [.num t, .num r, .num w, .num u, .num q, .num v] => U32 r ∧ U32 w ∧ U32 q ∧ U32 v
  | _ => False
def C124 : Con := ⟨124, [(.agg [.int .u64, .int .u32, .int .u32]), (.agg [.int .u64, .int .u32, .int .u32])], (.p (.one (.int .i64))), false, true⟩
/-- (turnstone/mean.Mean).Right -/
def R46 : List DV → List DV → Prop
  | [.num b, .num h, .num l, .num w, .num n], [.tru ok] => (ok = true ↔ MR h l w n)
  | _, _ => False
def Q46 : List DV → Prop
  | [.num b, .num h, .num l, .num w, .num n] => I64 n ∧ U64 w
  | _ => False
def C46 : Con := ⟨46, [(.agg [.int .u64, .int .i64, .int .u64, .int .u64, .int .i64])], (.p (.one .bool)), false, true⟩
/-- (turnstone/mean.Mean).Add -/
def R45 : List DV → List DV → Prop
  | [.num b, .num h, .num l, .num w, .num n, .num t, .num r, .num v], [.num b2, .num h2, .num l2, .num w2, .num n2, .tru ok] => ((ok = true ↔ MR h l w n ∧ PR r v ∧ n < 32 ∧ Big (wv h l + (v * s64 (t - b) + r))) ∧ (ok = true → b2 = b ∧ W h2 l2 ∧ wv h2 l2 = wv h l + (v * s64 (t - b) + r) ∧ w2 = w + v ∧ n2 = n + 1) ∧ (ok = false → b2 = 0 ∧ h2 = 0 ∧ l2 = 0 ∧ w2 = 0 ∧ n2 = 0))
  | _, _ => False
def Q45 : List DV → Prop
  | [.num b, .num h, .num l, .num w, .num n, .num t, .num r, .num v] => W h l ∧ U64 w ∧ I64 n ∧ U32 r ∧ U32 v
  | _ => False
def C45 : Con := ⟨45, [(.agg [.int .u64, .int .i64, .int .u64, .int .u64, .int .i64]), (.agg [.int .u64, .int .u32, .int .u32])], (.tup [(.agg [.int .u64, .int .i64, .int .u64, .int .u64, .int .i64]), (.one .bool)]), false, true⟩
/-- (turnstone/mean.Mean).Take -/
def R33 : List DV → List DV → Prop
  | [.num b, .num h, .num l, .num w, .num n, .num t, .num r, .num v], [.num b2, .num h2, .num l2, .num w2, .num n2, .tru ok] => ((ok = true → MR h l w n ∧ PR r v ∧ 0 < n ∧ v ≤ w ∧ b2 = b ∧ W h2 l2 ∧ wv h2 l2 = wv h l - (v * s64 (t - b) + r) ∧ w2 = w - v ∧ n2 = n - 1 ∧ MR h2 l2 w2 n2) ∧ (ok = false → b2 = 0 ∧ h2 = 0 ∧ l2 = 0 ∧ w2 = 0 ∧ n2 = 0) ∧ (ok = true ↔ MR h l w n ∧ PR r v ∧ 0 < n ∧ v ≤ w ∧ Big (wv h l - (v * s64 (t - b) + r)) ∧ ((n = 1 ∧ w = v ∧ wv h l = v * s64 (t - b) + r) ∨ (1 < n ∧ n - 1 ≤ w - v ∧ w - v ≤ (n - 1) * 1048576))))
  | _, _ => False
def Q33 : List DV → Prop
  | [.num b, .num h, .num l, .num w, .num n, .num t, .num r, .num v] => W h l ∧ U64 w ∧ I64 n ∧ U32 r ∧ U32 v
  | _ => False
def C33 : Con := ⟨33, [(.agg [.int .u64, .int .i64, .int .u64, .int .u64, .int .i64]), (.agg [.int .u64, .int .u32, .int .u32])], (.tup [(.agg [.int .u64, .int .i64, .int .u64, .int .u64, .int .i64]), (.one .bool)]), false, true⟩
/-- (turnstone/mean.Mean).Floor -/
def R18 : List DV → List DV → Prop
  | [.num b, .num h, .num l, .num w, .num n], [.num t, .tru ok] => ((ok = true ↔ MR h l w n ∧ 0 < n ∧ I64 (wv h l / w)) ∧ (ok = true → t = (b + wv h l / w) % 18446744073709551616) ∧ (ok = false → t = 0))
  | _, _ => False
def Q18 : List DV → Prop
  | [.num b, .num h, .num l, .num w, .num n] => W h l ∧ U64 w ∧ I64 n
  | _ => False
def C18 : Con := ⟨18, [(.agg [.int .u64, .int .i64, .int .u64, .int .u64, .int .i64])], (.tup [(.one (.int .u64)), (.one .bool)]), false, true⟩
/-- turnstone/lag.over -/
def R52 : List DV → List DV → Prop
  | [.num b, .num h, .num l, .num w, .num n, .num t, .num r, .num v], [.num g, .num m, .tru ok] => (W g m ∧ (ok = true ↔ MR h l w n ∧ 0 < n ∧ PR r v ∧ Big (wv h l * v) ∧ Big ((v * s64 (t - b) + r) * w) ∧ Big (wv h l * v - (v * s64 (t - b) + r) * w)) ∧ (ok = true → wv g m = wv h l * v - (v * s64 (t - b) + r) * w) ∧ (ok = false → g = 0 ∧ m = 0))
  | _, _ => False
def Q52 : List DV → Prop
  | [.num b, .num h, .num l, .num w, .num n, .num t, .num r, .num v] => W h l ∧ U64 w ∧ I64 n ∧ U32 r ∧ U32 v
  | _ => False
def C52 : Con := ⟨52, [(.agg [.int .u64, .int .i64, .int .u64, .int .u64, .int .i64]), (.agg [.int .u64, .int .u32, .int .u32])], (.tup [(.agg [.int .i64, .int .u64]), (.one .bool)]), false, true⟩
/-- turnstone/lag.Sign -/
def R36 : List DV → List DV → Prop
  | [.num b, .num h, .num l, .num w, .num n, .num t, .num r, .num v], [.num c, .tru ok] => ((ok = true ↔ MR h l w n ∧ 0 < n ∧ PR r v ∧ Big (wv h l * v) ∧ Big ((v * s64 (t - b) + r) * w) ∧ Big (wv h l * v - (v * s64 (t - b) + r) * w)) ∧ (ok = false → c = 0) ∧ (ok = true → (wv h l * v < (v * s64 (t - b) + r) * w → c = -1) ∧ (wv h l * v = (v * s64 (t - b) + r) * w → c = 0) ∧ ((v * s64 (t - b) + r) * w < wv h l * v → c = 1)))
  | _, _ => False
def Q36 : List DV → Prop
  | [.num b, .num h, .num l, .num w, .num n, .num t, .num r, .num v] => W h l ∧ U64 w ∧ I64 n ∧ U32 r ∧ U32 v
  | _ => False
def C36 : Con := ⟨36, [(.agg [.int .u64, .int .i64, .int .u64, .int .u64, .int .i64]), (.agg [.int .u64, .int .u32, .int .u32])], (.tup [(.one (.int .i64)), (.one .bool)]), false, true⟩
/-- turnstone/lag.Eligible -/
def R35 : List DV → List DV → Prop
  | [.num b, .num h, .num l, .num w, .num n, .num t, .num r, .num v], [.tru ok] => (ok = true ↔ MR h l w n ∧ 0 < n ∧ PR r v ∧ Big (wv h l * v) ∧ Big ((v * s64 (t - b) + r) * w) ∧ Big (wv h l * v - (v * s64 (t - b) + r) * w) ∧ (v * s64 (t - b) + r) * w ≤ wv h l * v)
  | _, _ => False
def Q35 : List DV → Prop
  | [.num b, .num h, .num l, .num w, .num n, .num t, .num r, .num v] => W h l ∧ U64 w ∧ I64 n ∧ U32 r ∧ U32 v
  | _ => False
def C35 : Con := ⟨35, [(.agg [.int .u64, .int .i64, .int .u64, .int .u64, .int .i64]), (.agg [.int .u64, .int .u32, .int .u32])], (.p (.one .bool)), false, true⟩
/-- turnstone/lag.Read -/
def R15 : List DV → List DV → Prop
  | [.num b, .num h, .num l, .num w, .num n, .num t, .num r, .num v], [.num g, .num m, .tru ok] => (W g m ∧ (ok = true ↔ MR h l w n ∧ 0 < n ∧ PR r v ∧ Big (wv h l * v) ∧ Big ((v * s64 (t - b) + r) * w) ∧ Big (wv h l * v - (v * s64 (t - b) + r) * w)) ∧ (ok = true → wv g m = (wv h l * v - (v * s64 (t - b) + r) * w) / w) ∧ (ok = false → g = 0 ∧ m = 0))
  | _, _ => False
def Q15 : List DV → Prop
  | [.num b, .num h, .num l, .num w, .num n, .num t, .num r, .num v] => W h l ∧ U64 w ∧ I64 n ∧ U32 r ∧ U32 v
  | _ => False
def C15 : Con := ⟨15, [(.agg [.int .u64, .int .i64, .int .u64, .int .u64, .int .i64]), (.agg [.int .u64, .int .u32, .int .u32])], (.tup [(.agg [.int .i64, .int .u64]), (.one .bool)]), false, true⟩
/-- turnstone/weigh.Weigh -/
def R13 : List DV → List DV → Prop
  | [.num b, .num h, .num l, .num w, .num n, .num t, .num r, .num v, .num x], [.num u, .num q, .num y, .tru ok] => ((ok = true ↔ MR h l w n ∧ 0 < n ∧ PR r v ∧ WT x ∧ Big (wv h l * (x - v)) ∧ Big (v * s64 (t - b) + r + wv h l * (x - v) / w) ∧ I64 ((v * s64 (t - b) + r + wv h l * (x - v) / w) / x)) ∧ (ok = true → u = (b + (v * s64 (t - b) + r + wv h l * (x - v) / w) / x) % 18446744073709551616 ∧ q = (v * s64 (t - b) + r + wv h l * (x - v) / w) % x ∧ 0 ≤ q ∧ q < x ∧ y = x) ∧ (ok = false → u = 0 ∧ q = 0 ∧ y = 0))
  | _, _ => False
def Q13 : List DV → Prop
  | [.num b, .num h, .num l, .num w, .num n, .num t, .num r, .num v, .num x] => W h l ∧ U64 w ∧ I64 n ∧ U32 r ∧ U32 v ∧ U32 x
  | _ => False
def C13 : Con := ⟨13, [(.agg [.int .u64, .int .i64, .int .u64, .int .u64, .int .i64]), (.agg [.int .u64, .int .u32, .int .u32]), (.one (.int .u32))], (.tup [(.agg [.int .u64, .int .u32, .int .u32]), (.one .bool)]), false, true⟩
/-- turnstone/weigh.Shifted -/
def R14 : List DV → List DV → Prop
  | [.num b, .num h, .num l, .num w, .num n, .num t, .num r, .num v, .num u, .num q, .num x], [.num b2, .num h2, .num l2, .num w2, .num n2, .tru ok] => ((MR h l w n ∧ 2 ≤ n ∧ PR r v ∧ PR q x ∧ n - 1 ≤ w - v ∧ w - v ≤ (n - 1) * 1048576 ∧ Big (wv h l - (v * s64 (t - b) + r)) ∧ Big (wv h l - (v * s64 (t - b) + r) + (x * s64 (u - b) + q)) → ok = true) ∧ (MR h l w n ∧ n = 1 ∧ w = v ∧ PR r v ∧ PR q x ∧ wv h l = v * s64 (t - b) + r ∧ Big (x * s64 (u - b) + q) → ok = true) ∧ (ok = true → b2 = b ∧ W h2 l2 ∧ wv h2 l2 = wv h l - (v * s64 (t - b) + r) + (x * s64 (u - b) + q) ∧ w2 = w - v + x ∧ n2 = n ∧ MR h2 l2 w2 n2) ∧ (ok = false → b2 = 0 ∧ h2 = 0 ∧ l2 = 0 ∧ w2 = 0 ∧ n2 = 0))
  | _, _ => False
def Q14 : List DV → Prop
  | [.num b, .num h, .num l, .num w, .num n, .num t, .num r, .num v, .num u, .num q, .num x] => W h l ∧ U64 w ∧ I64 n ∧ U32 r ∧ U32 v ∧ U32 q ∧ U32 x
  | _ => False
def C14 : Con := ⟨14, [(.agg [.int .u64, .int .i64, .int .u64, .int .u64, .int .i64]), (.agg [.int .u64, .int .u32, .int .u32]), (.agg [.int .u64, .int .u32, .int .u32])], (.tup [(.agg [.int .u64, .int .i64, .int .u64, .int .u64, .int .i64]), (.one .bool)]), false, true⟩
/-- turnstone/mean.Of -/
def R12 : List DV → List DV → Prop
  | [.num b, .lst xs], [.num b2, .num h, .num l, .num w, .num n, .tru ok] => ((ok = true ↔ xs.length ≤ 32 ∧ AP xs xs.length) ∧ (ok = true → b2 = b ∧ W h l ∧ wv h l = SA b xs xs.length ∧ w = SW xs xs.length ∧ n = xs.length) ∧ (ok = false → b2 = 0 ∧ h = 0 ∧ l = 0 ∧ w = 0 ∧ n = 0))
  | _, _ => False
def Q12 : List DV → Prop
  | [.num b, .lst xs] => RK xs
  | _ => False
def C12 : Con := ⟨12, [(.one (.int .u64)), (.one (.list [.int .u64, .int .u32, .int .u32]))], (.tup [(.agg [.int .u64, .int .i64, .int .u64, .int .u64, .int .i64]), (.one .bool)]), false, true⟩
def R101203 : List DV → List DV → Prop
  | [.num b, .lst xs, .num i0, .num b10, .num h0, .num l0, .num w0, .num n0], [.num i, .num b1, .num h, .num l, .num w, .num n] => (0 ≤ i ∧ i ≤ xs.length ∧ i ≤ 32 ∧ b1 = b ∧ W h l ∧ n = i ∧ w = SW xs i.toNat ∧ wv h l = SA b xs i.toNat ∧ AP xs i.toNat)
  | _, _ => False
def M101203 : List DV → List DV → Nat
  | [.num b, .lst xs, .num i0, .num b10, .num h0, .num l0, .num w0, .num n0], [.num i, .num b1, .num h, .num l, .num w, .num n] => ((xs.length - i).toNat)
  | _, _ => 0
def L101203 : FuncId × LCon := (12, ⟨3, 101203, [⟨true, 15, 0, (.int .i64), .gone⟩, ⟨false, 4, 0, (.int .u64), .gone⟩, ⟨false, 4, 1, (.int .i64), .gone⟩, ⟨false, 4, 2, (.int .u64), .gone⟩, ⟨false, 4, 3, (.int .u64), .gone⟩, ⟨false, 4, 4, (.int .i64), .gone⟩], [(true, 0, 0), (true, 1, 0)]⟩)
/-- turnstone/turnstonelaw11.WeighKeeps -/
def R3 : List DV → List DV → Prop
  | [.num base, .lst xs, .num i, .num x], [.tru ok] => (ok = true)
  | _, _ => False
def Q3 : List DV → Prop
  | [.num base, .lst xs, .num i, .num x] => U64 base ∧ RK xs ∧ 0 ≤ i ∧ i < 256 ∧ U32 x
  | _ => False
def C3 : Con := ⟨3, [(.one (.int .u64)), (.one (.list [.int .u64, .int .u32, .int .u32])), (.one (.int .u8)), (.one (.int .u32))], (.p (.one .bool)), false, true⟩
def R100306 : List DV → List DV → Prop
  | [.num base, .lst xs, .num j0], [.num j] => (0 ≤ j ∧ j ≤ xs.length ∧ AP xs j.toNat ∧ AN base xs j.toNat)
  | _, _ => False
def M100306 : List DV → List DV → Nat
  | [.num base, .lst xs, .num j0], [.num j] => ((xs.length - j).toNat)
  | _, _ => 0
def L100306 : FuncId × LCon := (3, ⟨6, 100306, [⟨true, 54, 0, (.int .i64), .gone⟩], [(true, 0, 0), (true, 1, 0)]⟩)
def R100319 : List DV → List DV → Prop
  | [.lst xs, .num j0], [.num j] => (0 ≤ j ∧ j ≤ xs.length)
  | _, _ => False
def M100319 : List DV → List DV → Nat
  | [.lst xs, .num j0], [.num j] => ((xs.length - j).toNat)
  | _, _ => 0
def L100319 : FuncId × LCon := (3, ⟨19, 100319, [⟨true, 117, 0, (.int .i64), .gone⟩], [(true, 1, 0)]⟩)
def Tr_ : Nat → List DV → List DV → Prop
  | 44 => R44
  | 11 => R11
  | 81 => R81
  | 53 => R53
  | 85 => R85
  | 54 => R54
  | 84 => R84
  | 50 => R50
  | 16 => R16
  | 79 => R79
  | 82 => R82
  | 17 => R17
  | 111 => R111
  | 100 => R100
  | 80 => R80
  | 47 => R47
  | 61 => R61
  | 68 => R68
  | 101 => R101
  | 83 => R83
  | 108317 => R108317
  | 108324 => R108324
  | 48 => R48
  | 55 => R55
  | 10 => R10
  | 49 => R49
  | 51 => R51
  | 157 => R157
  | 124 => R124
  | 46 => R46
  | 45 => R45
  | 33 => R33
  | 18 => R18
  | 52 => R52
  | 36 => R36
  | 35 => R35
  | 15 => R15
  | 13 => R13
  | 14 => R14
  | 12 => R12
  | 101203 => R101203
  | 3 => R3
  | 100306 => R100306
  | 100319 => R100319
  | _ => fun _ _ => True
def Tp_ : Nat → List DV → Prop
  | 81 => Q81
  | 53 => Q53
  | 54 => Q54
  | 84 => Q84
  | 50 => Q50
  | 16 => Q16
  | 79 => Q79
  | 82 => Q82
  | 17 => Q17
  | 111 => Q111
  | 100 => Q100
  | 80 => Q80
  | 47 => Q47
  | 61 => Q61
  | 68 => Q68
  | 101 => Q101
  | 83 => Q83
  | 48 => Q48
  | 49 => Q49
  | 51 => Q51
  | 157 => Q157
  | 124 => Q124
  | 46 => Q46
  | 45 => Q45
  | 33 => Q33
  | 18 => Q18
  | 52 => Q52
  | 36 => Q36
  | 35 => Q35
  | 15 => Q15
  | 13 => Q13
  | 14 => Q14
  | 12 => Q12
  | 3 => Q3
  | _ => fun _ => True
def Tm_ : Nat → List DV → List DV → Nat
  | 108317 => M108317
  | 108324 => M108324
  | 101203 => M101203
  | 100306 => M100306
  | 100319 => M100319
  | _ => fun _ _ => 0
def T : Tab := ⟨Tr_, Tp_, Tm_⟩
end Go.Proofs.YtafhkgicekddlaaGreatDoor.Fn
