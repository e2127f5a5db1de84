/- What is told of each function: what holds between what it takes and what it yields. -/
import Derived.Test.YtjemohphaeiaiaaGreatDoorSyTree
import Derived.Test.YtjemohphaeiaiaaGreatDoorProg
import Derived.Laws.Externs
import Derived.Lib.BitFns
import Derived.Test.YtjemohphaeiaiaaGreatDoorWords
import Derived.Test.YtjemohphaeiaiaaGreatDoorWords2
import Derived.Test.YtjemohphaeiaiaaGreatDoorWords3
import Derived.Test.YtjemohphaeiaiaaGreatDoorWords4
import Derived.Test.YtjemohphaeiaiaaGreatDoorWords5
import Derived.Test.YtjemohphaeiaiaaGreatDoorWords6
namespace Go.Proofs.YtjemohphaeiaiaaGreatDoor.Fn
open Go Go.RowKit Go.Proofs.YtjemohphaeiaiaaGreatDoor.Sy
set_option linter.unusedVariables false
/-- turnstone/pos.weight -/
def R33 : List DV → List DV → Prop
  | [.num w], [.tru ok] => (ok = true ↔ 1 ≤ w ∧ w ≤ 1048576)
  | _, _ => False
def C33 : Con := ⟨33, [(.one (.int .u32))], (.p (.one .bool)), true, true⟩
/-- (turnstone/pos.Pos).Right -/
def R15 : List DV → List DV → Prop
  | [.num t, .num r, .num w], [.tru ok] => (ok = true ↔ 1 ≤ w ∧ w ≤ 1048576 ∧ r < w)
  | _, _ => False
def C15 : Con := ⟨15, [(.agg [.int .u64, .int .u32, .int .u32])], (.p (.one .bool)), true, true⟩
/-- math/bits.Add64 -/
def R47 : List DV → List DV → Prop
  | [.num a, .num b, .num c], [.num lo, .num hi] => (lo = (a + b + c) % 18446744073709551616 ∧ hi = (a + b + c) / 18446744073709551616)
  | _, _ => False
def Q47 : List DV → Prop
  | [.num a, .num b, .num c] => U64 a ∧ U64 b ∧ 0 ≤ c ∧ c ≤ 1
  | _ => False
def C47 : Con := ⟨47, [(.one (.int .u64)), (.one (.int .u64)), (.one (.int .u64))], (.tup [(.one (.int .u64)), (.one (.int .u64))]), false, true⟩
/-- math/bits.Sub64 -/
def R90 : List DV → List DV → Prop
  | [.num a, .num b, .num c], [.num lo, .num hi] => (lo = (a - b - c) % 18446744073709551616 ∧ (a < b + c → hi = 1) ∧ (b + c ≤ a → hi = 0))
  | _, _ => False
def Q90 : List DV → Prop
  | [.num a, .num b, .num c] => U64 a ∧ U64 b ∧ 0 ≤ c ∧ c ≤ 1
  | _ => False
def C90 : Con := ⟨90, [(.one (.int .u64)), (.one (.int .u64)), (.one (.int .u64))], (.tup [(.one (.int .u64)), (.one (.int .u64))]), false, true⟩
/-- turnstone/wide.OfU -/
def R34 : List DV → List DV → Prop
  | [.num x], [.num h, .num l] => (h = 0 ∧ l = x)
  | _, _ => False
def C34 : Con := ⟨34, [(.one (.int .u64))], (.p (.agg [.int .i64, .int .u64])), true, true⟩
/-- turnstone/wide.Of -/
def R74 : List DV → List DV → Prop
  | [.num x], [.num h, .num l] => (W h l ∧ wv h l = x)
  | _, _ => False
def Q74 : List DV → Prop
  | [.num x] => I64 x
  | _ => False
def C74 : Con := ⟨74, [(.one (.int .i64))], (.p (.agg [.int .i64, .int .u64])), false, true⟩
/-- (turnstone/wide.Int).flip -/
def R73 : List DV → List DV → Prop
  | [.num h, .num l], [.num g, .num m] => (W g m ∧ (h = -9223372036854775808 ∧ l = 0 → g = h ∧ m = l) ∧ (¬ (h = -9223372036854775808 ∧ l = 0) → wv g m = - wv h l))
  | _, _ => False
def Q73 : List DV → Prop
  | [.num h, .num l] => W h l
  | _ => False
def C73 : Con := ⟨73, [(.agg [.int .i64, .int .u64])], (.p (.agg [.int .i64, .int .u64])), false, true⟩
/-- (turnstone/wide.Int).Add -/
def R35 : List DV → List DV → Prop
  | [.num ah, .num al, .num bh, .num bl], [.num h, .num l, .tru ok] => (Told (wv ah al + wv bh bl) h l ok)
  | _, _ => False
def Q35 : List DV → Prop
  | [.num ah, .num al, .num bh, .num bl] => W ah al ∧ W bh bl
  | _ => False
def C35 : Con := ⟨35, [(.agg [.int .i64, .int .u64]), (.agg [.int .i64, .int .u64])], (.tup [(.agg [.int .i64, .int .u64]), (.one .bool)]), false, true⟩
/-- (turnstone/wide.Int).Sub -/
def R118 : List DV → List DV → Prop
  | [.num ah, .num al, .num bh, .num bl], [.num h, .num l, .tru ok] => (Told (wv ah al - wv bh bl) h l ok)
  | _, _ => False
def Q118 : List DV → Prop
  | [.num ah, .num al, .num bh, .num bl] => W ah al ∧ W bh bl
  | _ => False
def C118 : Con := ⟨118, [(.agg [.int .i64, .int .u64]), (.agg [.int .i64, .int .u64])], (.tup [(.agg [.int .i64, .int .u64]), (.one .bool)]), false, true⟩
/-- (turnstone/wide.Int).size -/
def R71 : List DV → List DV → Prop
  | [.num h, .num l], [.num u, .num v] => (U64 u ∧ U64 v ∧ (h < 0 → u * 18446744073709551616 + v = - wv h l) ∧ (0 ≤ h → u * 18446744073709551616 + v = wv h l))
  | _, _ => False
def Q71 : List DV → Prop
  | [.num h, .num l] => W h l
  | _ => False
def C71 : Con := ⟨71, [(.agg [.int .i64, .int .u64])], (.tup [(.one (.int .u64)), (.one (.int .u64))]), false, true⟩
/-- turnstone/wide.signed -/
def R128 : List DV → List DV → Prop
  | [.num hi, .num lo, .tru below], [.num h, .num l, .tru ok] => ((below = true → Told (-(hi * 18446744073709551616 + lo)) h l ok) ∧ (below = false → Told (hi * 18446744073709551616 + lo) h l ok))
  | _, _ => False
def Q128 : List DV → Prop
  | [.num hi, .num lo, .tru below] => U64 hi ∧ U64 lo
  | _ => False
def C128 : Con := ⟨128, [(.one (.int .u64)), (.one (.int .u64)), (.one .bool)], (.tup [(.agg [.int .i64, .int .u64]), (.one .bool)]), false, true⟩
/-- (turnstone/wide.Int).Small -/
def R49 : List DV → List DV → Prop
  | [.num h, .num l], [.num x, .tru ok] => (I64 x ∧ (ok = true → x = wv h l) ∧ (ok = false → x = 0 ∧ ¬ I64 (wv h l)))
  | _, _ => False
def Q49 : List DV → Prop
  | [.num h, .num l] => W h l
  | _ => False
def C49 : Con := ⟨49, [(.agg [.int .i64, .int .u64])], (.tup [(.one (.int .i64)), (.one .bool)]), false, true⟩
/-- math/bits.Len64 -/
def R107 : List DV → List DV → Prop
  | [.num x], [.num n] => (n = (Lib.bitLen x.toNat : Int))
  | _, _ => False
def Q107 : List DV → Prop
  | [.num x] => U64 x
  | _ => False
def C107 : Con := ⟨107, [(.one (.int .u64))], (.p (.one (.int .i64))), false, true⟩
/-- math/bits.LeadingZeros64 -/
def R89 : List DV → List DV → Prop
  | [.num x], [.num n] => (n = 64 - (Lib.bitLen x.toNat : Int))
  | _, _ => False
def Q89 : List DV → Prop
  | [.num x] => U64 x
  | _ => False
def C89 : Con := ⟨89, [(.one (.int .u64))], (.p (.one (.int .i64))), false, true⟩
/-- math/bits.Mul64 -/
def R127 : List DV → List DV → Prop
  | [.num x, .num y], [.num hi, .num lo] => (U64 hi ∧ U64 lo ∧ hi * 18446744073709551616 + lo = x * y)
  | _, _ => False
def Q127 : List DV → Prop
  | [.num x, .num y] => U64 x ∧ U64 y
  | _ => False
def C127 : Con := ⟨127, [(.one (.int .u64)), (.one (.int .u64))], (.tup [(.one (.int .u64)), (.one (.int .u64))]), false, true⟩
/-- (turnstone/wide.Int).Mul -/
def R117 : List DV → List DV → Prop
  | [.num h, .num l, .num b], [.num g, .num m, .tru ok] => (Told (wv h l * b) g m ok)
  | _, _ => False
def Q117 : List DV → Prop
  | [.num h, .num l, .num b] => W h l ∧ I64 b
  | _ => False
def C117 : Con := ⟨117, [(.agg [.int .i64, .int .u64]), (.one (.int .i64))], (.tup [(.agg [.int .i64, .int .u64]), (.one .bool)]), false, true⟩
/-- (turnstone/wide.Int).Cmp -/
def R119 : List DV → List DV → Prop
  | [.num ah, .num al, .num bh, .num bl], [.num c] => ((wv ah al < wv bh bl → c = -1) ∧ (wv ah al = wv bh bl → c = 0) ∧ (wv bh bl < wv ah al → c = 1))
  | _, _ => False
def Q119 : List DV → Prop
  | [.num ah, .num al, .num bh, .num bl] => W ah al ∧ W bh bl
  | _ => False
def C119 : Con := ⟨119, [(.agg [.int .i64, .int .u64]), (.agg [.int .i64, .int .u64])], (.p (.one (.int .i64))), false, true⟩
/-- (turnstone/wide.Int).Sign -/
def R103 : List DV → List DV → Prop
  | [.num h, .num l], [.num c] => ((wv h l < 0 → c = -1) ∧ (wv h l = 0 → c = 0) ∧ (0 < wv h l → c = 1))
  | _, _ => False
def Q103 : List DV → Prop
  | [.num h, .num l] => W h l
  | _ => False
def C103 : Con := ⟨103, [(.agg [.int .i64, .int .u64])], (.p (.one (.int .i64))), false, true⟩
/-- (turnstone/wide.Int).Neg -/
def R146 : List DV → List DV → Prop
  | [.num h, .num l], [.num g, .num m, .tru ok] => (Told (- wv h l) g m ok)
  | _, _ => False
def Q146 : List DV → Prop
  | [.num h, .num l] => W h l
  | _ => False
def C146 : Con := ⟨146, [(.agg [.int .i64, .int .u64])], (.tup [(.agg [.int .i64, .int .u64]), (.one .bool)]), false, true⟩
/-- math/bits.Div64 -/
def R72 : List DV → List DV → Prop
  | [.num hi, .num lo, .num y], [.num q, .num r] => (q = (hi * 18446744073709551616 + lo) / y ∧ r = (hi * 18446744073709551616 + lo) % y)
  | _, _ => False
def Q72 : List DV → Prop
  | [.num hi, .num lo, .num y] => U64 hi ∧ U64 lo ∧ U64 y ∧ hi < y
  | _ => False
def C72 : Con := ⟨72, [(.one (.int .u64)), (.one (.int .u64)), (.one (.int .u64))], (.tup [(.one (.int .u64)), (.one (.int .u64))]), false, true⟩
def R107217 : List DV → List DV → Prop
  | [.num a, .num b, .num u, .num v, .num q0, .num h0], [.num q, .num h] => (DInv a b u v q h)
  | _, _ => False
def M107217 : List DV → List DV → Nat
  | [.num a, .num b, .num u, .num v, .num q0, .num h0], [.num q, .num h] => ((4294967296 - h).toNat)
  | _, _ => 0
def L107217 : FuncId × LCon := (72, ⟨17, 107217, [⟨true, 15, 0, (.int .u64), .gone⟩, ⟨true, 16, 0, (.int .u64), .gone⟩], [(true, 9, 0), (true, 10, 0), (true, 11, 0), (true, 13, 0)]⟩)
def R107224 : List DV → List DV → Prop
  | [.num a, .num b, .num u, .num v, .num q0, .num h0], [.num q, .num h] => (DInv a b u v q h)
  | _, _ => False
def M107224 : List DV → List DV → Nat
  | [.num a, .num b, .num u, .num v, .num q0, .num h0], [.num q, .num h] => ((4294967296 - h).toNat)
  | _, _ => 0
def L107224 : FuncId × LCon := (72, ⟨24, 107224, [⟨true, 18, 0, (.int .u64), .gone⟩, ⟨true, 16, 0, (.int .u64), .gone⟩], [(true, 9, 0), (true, 10, 0), (true, 17, 0), (true, 14, 0)]⟩)
/-- (turnstone/wide.Int).Div -/
def R48 : List DV → List DV → Prop
  | [.num h, .num l, .num b], [.num g, .num m, .num r, .tru ok] => (W g m ∧ (ok = true ↔ b ≠ 0) ∧ (b = 0 → g = 0 ∧ m = 0 ∧ r = 0) ∧ (b ≠ 0 → wv g m = wv h l / b ∧ r = wv h l % b ∧ 0 ≤ r ∧ r < b))
  | _, _ => False
def Q48 : List DV → Prop
  | [.num h, .num l, .num b] => W h l ∧ U64 b
  | _ => False
def C48 : Con := ⟨48, [(.agg [.int .i64, .int .u64]), (.one (.int .u64))], (.tup [(.agg [.int .i64, .int .u64]), (.one (.int .u64)), (.one .bool)]), false, true⟩
/-- (turnstone/vtime.Time).Add -/
def R50 : List DV → List DV → Prop
  | [.num t, .num d], [.num r] => (r = (t + d) % 18446744073709551616)
  | _, _ => False
def C50 : Con := ⟨50, [(.one (.int .u64)), (.one (.int .i64))], (.p (.one (.int .u64))), true, true⟩
/-- (turnstone/vtime.Time).Since -/
def R51 : List DV → List DV → Prop
  | [.num t, .num u], [.num d] => (d = s64 (t - u))
  | _, _ => False
def C51 : Con := ⟨51, [(.one (.int .u64)), (.one (.int .u64))], (.p (.one (.int .i64))), true, true⟩
/-- (turnstone/pos.Pos).Shift -/
def R19 : List DV → List DV → Prop
  | [.num t, .num r, .num w, .num by_], [.num u, .num q, .num v] => (u = (t + by_) % 18446744073709551616 ∧ q = r ∧ v = w)
  | _, _ => False
def C19 : Con := ⟨19, [(.agg [.int .u64, .int .u32, .int .u32]), (.one (.int .u64))], (.p (.agg [.int .u64, .int .u32, .int .u32])), true, true⟩
/-- (turnstone/pos.Pos).Distance -/
def R115 : List DV → List DV → Prop
  | [.num t, .num r, .num w, .num base], [.num h, .num l] => (W h l ∧ wv h l = w * s64 (t - base) + r)
  | _, _ => False
def Q115 : List DV → Prop
  | [.num t, .num r, .num w, .num base] => U32 r ∧ U32 w
  | _ => False
def C115 : Con := ⟨115, [(.agg [.int .u64, .int .u32, .int .u32]), (.one (.int .u64))], (.p (.agg [.int .i64, .int .u64])), false, true⟩
/-- turnstone/pos.At -/
def R36 : List DV → List DV → Prop
  | [.num base, .num h, .num l, .num w], [.num t, .num r, .num v, .tru ok] => ((ok = true ↔ WT w ∧ I64 (wv h l / w)) ∧ (ok = true → t = (base + wv h l / w) % 18446744073709551616 ∧ r = wv h l % w ∧ 0 ≤ r ∧ r < w ∧ v = w) ∧ (ok = false → t = 0 ∧ r = 0 ∧ v = 0))
  | _, _ => False
def Q36 : List DV → Prop
  | [.num base, .num h, .num l, .num w] => W h l ∧ U32 w
  | _ => False
def C36 : Con := ⟨36, [(.one (.int .u64)), (.agg [.int .i64, .int .u64]), (.one (.int .u32))], (.tup [(.agg [.int .u64, .int .u32, .int .u32]), (.one .bool)]), false, true⟩
/-- (turnstone/pos.Pos).Move -/
def R17 : List DV → List DV → Prop
  | [.num t, .num r, .num w, .num g], [.num u, .num q, .num v, .tru ok] => ((ok = true ↔ WT w ∧ I64 ((g + r) / w)) ∧ (ok = true → u = (t + (g + r) / w) % 18446744073709551616 ∧ q = (g + r) % w ∧ 0 ≤ q ∧ q < w ∧ v = w) ∧ (ok = false → u = 0 ∧ q = 0 ∧ v = 0))
  | _, _ => False
def Q17 : List DV → Prop
  | [.num t, .num r, .num w, .num g] => U32 r ∧ U32 w ∧ U64 g
  | _ => False
def C17 : Con := ⟨17, [(.agg [.int .u64, .int .u32, .int .u32]), (.one (.int .u64))], (.tup [(.agg [.int .u64, .int .u32, .int .u32]), (.one .bool)]), false, true⟩
/-- (turnstone/pos.Pos).Cmp -/
def R108 : List DV → List DV → Prop
  | [.num t, .num r, .num w, .num u, .num q, .num v], [.num c] => ((0 < s64 (u - t) → c = -1) ∧ (s64 (u - t) < 0 → c = 1) ∧ (s64 (u - t) = 0 → (r * v < q * w → c = -1) ∧ (r * v = q * w → c = 0) ∧ (q * w < r * v → c = 1)))
  | _, _ => False
def Q108 : List DV → Prop
  | [.num t, .num r, .num w, .num u, .num q, .num v] => U32 r ∧ U32 w ∧ U32 q ∧ U32 v
  | _ => False
def C108 : Con := ⟨108, [(.agg [.int .u64, .int .u32, .int .u32]), (.agg [.int .u64, .int .u32, .int .u32])], (.p (.one (.int .i64))), false, true⟩
/-- (turnstone/mean.Mean).Right -/
def R112 : List DV → List DV → Prop
  | [.num b, .num h, .num l, .num w, .num n], [.tru ok] => (ok = true ↔ MR h l w n)
  | _, _ => False
def Q112 : List DV → Prop
  | [.num b, .num h, .num l, .num w, .num n] => I64 n ∧ U64 w
  | _ => False
def C112 : Con := ⟨112, [(.agg [.int .u64, .int .i64, .int .u64, .int .u64, .int .i64])], (.p (.one .bool)), false, true⟩
/-- (turnstone/mean.Mean).Add -/
def R100 : List DV → List DV → Prop
  | [.num b, .num h, .num l, .num w, .num n, .num t, .num r, .num v], [.num b2, .num h2, .num l2, .num w2, .num n2, .tru ok] => ((ok = true ↔ MR h l w n ∧ PR r v ∧ n < 32 ∧ Big (wv h l + (v * s64 (t - b) + r))) ∧ (ok = true → b2 = b ∧ W h2 l2 ∧ wv h2 l2 = wv h l + (v * s64 (t - b) + r) ∧ w2 = w + v ∧ n2 = n + 1) ∧ (ok = false → b2 = 0 ∧ h2 = 0 ∧ l2 = 0 ∧ w2 = 0 ∧ n2 = 0))
  | _, _ => False
def Q100 : List DV → Prop
  | [.num b, .num h, .num l, .num w, .num n, .num t, .num r, .num v] => W h l ∧ U64 w ∧ I64 n ∧ U32 r ∧ U32 v
  | _ => False
def C100 : Con := ⟨100, [(.agg [.int .u64, .int .i64, .int .u64, .int .u64, .int .i64]), (.agg [.int .u64, .int .u32, .int .u32])], (.tup [(.agg [.int .u64, .int .i64, .int .u64, .int .u64, .int .i64]), (.one .bool)]), false, true⟩
/-- (turnstone/mean.Mean).Rebase -/
def R116 : List DV → List DV → Prop
  | [.num b, .num h, .num l, .num w, .num n, .num t], [.num b2, .num h2, .num l2, .num w2, .num n2, .tru ok] => ((ok = true ↔ MR h l w n ∧ Big (wv h l - w * s64 (t - b))) ∧ (ok = true → b2 = t ∧ W h2 l2 ∧ wv h2 l2 = wv h l - w * s64 (t - b) ∧ w2 = w ∧ n2 = n) ∧ (ok = false → b2 = 0 ∧ h2 = 0 ∧ l2 = 0 ∧ w2 = 0 ∧ n2 = 0))
  | _, _ => False
def Q116 : List DV → Prop
  | [.num b, .num h, .num l, .num w, .num n, .num t] => W h l ∧ U64 w ∧ I64 n
  | _ => False
def C116 : Con := ⟨116, [(.agg [.int .u64, .int .i64, .int .u64, .int .u64, .int .i64]), (.one (.int .u64))], (.tup [(.agg [.int .u64, .int .i64, .int .u64, .int .u64, .int .i64]), (.one .bool)]), false, true⟩
/-- (turnstone/mean.Mean).Floor -/
def R96 : List DV → List DV → Prop
  | [.num b, .num h, .num l, .num w, .num n], [.num t, .tru ok] => ((ok = true ↔ MR h l w n ∧ 0 < n ∧ I64 (wv h l / w)) ∧ (ok = true → t = (b + wv h l / w) % 18446744073709551616) ∧ (ok = false → t = 0))
  | _, _ => False
def Q96 : List DV → Prop
  | [.num b, .num h, .num l, .num w, .num n] => W h l ∧ U64 w ∧ I64 n
  | _ => False
def C96 : Con := ⟨96, [(.agg [.int .u64, .int .i64, .int .u64, .int .u64, .int .i64])], (.tup [(.one (.int .u64)), (.one .bool)]), false, true⟩
/-- turnstone/lag.over -/
def R102 : List DV → List DV → Prop
  | [.num b, .num h, .num l, .num w, .num n, .num t, .num r, .num v], [.num g, .num m, .tru ok] => (W g m ∧ (ok = true ↔ MR h l w n ∧ 0 < n ∧ PR r v ∧ Big (wv h l * v) ∧ Big ((v * s64 (t - b) + r) * w) ∧ Big (wv h l * v - (v * s64 (t - b) + r) * w)) ∧ (ok = true → wv g m = wv h l * v - (v * s64 (t - b) + r) * w) ∧ (ok = false → g = 0 ∧ m = 0))
  | _, _ => False
def Q102 : List DV → Prop
  | [.num b, .num h, .num l, .num w, .num n, .num t, .num r, .num v] => W h l ∧ U64 w ∧ I64 n ∧ U32 r ∧ U32 v
  | _ => False
def C102 : Con := ⟨102, [(.agg [.int .u64, .int .i64, .int .u64, .int .u64, .int .i64]), (.agg [.int .u64, .int .u32, .int .u32])], (.tup [(.agg [.int .i64, .int .u64]), (.one .bool)]), false, true⟩
/-- turnstone/lag.Sign -/
def R84 : List DV → List DV → Prop
  | [.num b, .num h, .num l, .num w, .num n, .num t, .num r, .num v], [.num c, .tru ok] => ((ok = true ↔ MR h l w n ∧ 0 < n ∧ PR r v ∧ Big (wv h l * v) ∧ Big ((v * s64 (t - b) + r) * w) ∧ Big (wv h l * v - (v * s64 (t - b) + r) * w)) ∧ (ok = false → c = 0) ∧ (ok = true → (wv h l * v < (v * s64 (t - b) + r) * w → c = -1) ∧ (wv h l * v = (v * s64 (t - b) + r) * w → c = 0) ∧ ((v * s64 (t - b) + r) * w < wv h l * v → c = 1)))
  | _, _ => False
def Q84 : List DV → Prop
  | [.num b, .num h, .num l, .num w, .num n, .num t, .num r, .num v] => W h l ∧ U64 w ∧ I64 n ∧ U32 r ∧ U32 v
  | _ => False
def C84 : Con := ⟨84, [(.agg [.int .u64, .int .i64, .int .u64, .int .u64, .int .i64]), (.agg [.int .u64, .int .u32, .int .u32])], (.tup [(.one (.int .i64)), (.one .bool)]), false, true⟩
/-- turnstone/lag.Eligible -/
def R87 : List DV → List DV → Prop
  | [.num b, .num h, .num l, .num w, .num n, .num t, .num r, .num v], [.tru ok] => (ok = true ↔ MR h l w n ∧ 0 < n ∧ PR r v ∧ Big (wv h l * v) ∧ Big ((v * s64 (t - b) + r) * w) ∧ Big (wv h l * v - (v * s64 (t - b) + r) * w) ∧ (v * s64 (t - b) + r) * w ≤ wv h l * v)
  | _, _ => False
def Q87 : List DV → Prop
  | [.num b, .num h, .num l, .num w, .num n, .num t, .num r, .num v] => W h l ∧ U64 w ∧ I64 n ∧ U32 r ∧ U32 v
  | _ => False
def C87 : Con := ⟨87, [(.agg [.int .u64, .int .i64, .int .u64, .int .u64, .int .i64]), (.agg [.int .u64, .int .u32, .int .u32])], (.p (.one .bool)), false, true⟩
/-- turnstone/lag.Read -/
def R151 : List DV → List DV → Prop
  | [.num b, .num h, .num l, .num w, .num n, .num t, .num r, .num v], [.num g, .num m, .tru ok] => (W g m ∧ (ok = true ↔ MR h l w n ∧ 0 < n ∧ PR r v ∧ Big (wv h l * v) ∧ Big ((v * s64 (t - b) + r) * w) ∧ Big (wv h l * v - (v * s64 (t - b) + r) * w)) ∧ (ok = true → wv g m = (wv h l * v - (v * s64 (t - b) + r) * w) / w) ∧ (ok = false → g = 0 ∧ m = 0))
  | _, _ => False
def Q151 : List DV → Prop
  | [.num b, .num h, .num l, .num w, .num n, .num t, .num r, .num v] => W h l ∧ U64 w ∧ I64 n ∧ U32 r ∧ U32 v
  | _ => False
def C151 : Con := ⟨151, [(.agg [.int .u64, .int .i64, .int .u64, .int .u64, .int .i64]), (.agg [.int .u64, .int .u32, .int .u32])], (.tup [(.agg [.int .i64, .int .u64]), (.one .bool)]), false, true⟩
/-- turnstone/weigh.Weigh -/
def R144 : List DV → List DV → Prop
  | [.num b, .num h, .num l, .num w, .num n, .num t, .num r, .num v, .num x], [.num u, .num q, .num y, .tru ok] => ((ok = true ↔ MR h l w n ∧ 0 < n ∧ PR r v ∧ WT x ∧ Big (wv h l * (x - v)) ∧ Big (v * s64 (t - b) + r + wv h l * (x - v) / w) ∧ I64 ((v * s64 (t - b) + r + wv h l * (x - v) / w) / x)) ∧ (ok = true → u = (b + (v * s64 (t - b) + r + wv h l * (x - v) / w) / x) % 18446744073709551616 ∧ q = (v * s64 (t - b) + r + wv h l * (x - v) / w) % x ∧ 0 ≤ q ∧ q < x ∧ y = x) ∧ (ok = false → u = 0 ∧ q = 0 ∧ y = 0))
  | _, _ => False
def Q144 : List DV → Prop
  | [.num b, .num h, .num l, .num w, .num n, .num t, .num r, .num v, .num x] => W h l ∧ U64 w ∧ I64 n ∧ U32 r ∧ U32 v ∧ U32 x
  | _ => False
def C144 : Con := ⟨144, [(.agg [.int .u64, .int .i64, .int .u64, .int .u64, .int .i64]), (.agg [.int .u64, .int .u32, .int .u32]), (.one (.int .u32))], (.tup [(.agg [.int .u64, .int .u32, .int .u32]), (.one .bool)]), false, true⟩
/-- turnstone/mean.Of -/
def R143 : List DV → List DV → Prop
  | [.num b, .lst xs], [.num b2, .num h, .num l, .num w, .num n, .tru ok] => ((ok = true ↔ xs.length ≤ 32 ∧ AP xs xs.length) ∧ (ok = true → b2 = b ∧ W h l ∧ wv h l = SA b xs xs.length ∧ w = SW xs xs.length ∧ n = xs.length) ∧ (ok = false → b2 = 0 ∧ h = 0 ∧ l = 0 ∧ w = 0 ∧ n = 0))
  | _, _ => False
def Q143 : List DV → Prop
  | [.num b, .lst xs] => RK xs
  | _ => False
def C143 : Con := ⟨143, [(.one (.int .u64)), (.one (.list [.int .u64, .int .u32, .int .u32]))], (.tup [(.agg [.int .u64, .int .i64, .int .u64, .int .u64, .int .i64]), (.one .bool)]), false, true⟩
def R114303 : List DV → List DV → Prop
  | [.num b, .lst xs, .num i0, .num b10, .num h0, .num l0, .num w0, .num n0], [.num i, .num b1, .num h, .num l, .num w, .num n] => (0 ≤ i ∧ i ≤ xs.length ∧ i ≤ 32 ∧ b1 = b ∧ W h l ∧ n = i ∧ w = SW xs i.toNat ∧ wv h l = SA b xs i.toNat ∧ AP xs i.toNat)
  | _, _ => False
def M114303 : List DV → List DV → Nat
  | [.num b, .lst xs, .num i0, .num b10, .num h0, .num l0, .num w0, .num n0], [.num i, .num b1, .num h, .num l, .num w, .num n] => ((xs.length - i).toNat)
  | _, _ => 0
def L114303 : FuncId × LCon := (143, ⟨3, 114303, [⟨true, 15, 0, (.int .i64), .gone⟩, ⟨false, 4, 0, (.int .u64), .gone⟩, ⟨false, 4, 1, (.int .i64), .gone⟩, ⟨false, 4, 2, (.int .u64), .gone⟩, ⟨false, 4, 3, (.int .u64), .gone⟩, ⟨false, 4, 4, (.int .i64), .gone⟩], [(true, 0, 0), (true, 1, 0)]⟩)
/-- turnstone/turnstoneref01.digit -/
def R70 : List DV → List DV → Prop
  | [.tru n, .lst l, .num i], [.num d] => (d = Sy.rowAt l i 0)
  | _, _ => False
def Q70 : List DV → Prop
  | [.tru n, .lst l, .num i] => 0 ≤ i
  | _ => False
def C70 : Con := ⟨70, [(.agg [.bool, .list [.int .i64]]), (.one (.int .i64))], (.p (.one (.int .i64))), false, true⟩
/-- turnstone/turnstoneref01.larger -/
def R68 : List DV → List DV → Prop
  | [.tru an, .lst al, .tru bn, .lst bl], [.num c] => ((dval al < dval bl → c = -1) ∧ (dval al = dval bl → c = 0) ∧ (dval bl < dval al → c = 1))
  | _, _ => False
def Q68 : List DV → Prop
  | [.tru an, .lst al, .tru bn, .lst bl] => dig al ∧ dig bl ∧ al.length ≤ 1000 ∧ bl.length ≤ 1000
  | _ => False
def C68 : Con := ⟨68, [(.agg [.bool, .list [.int .i64]]), (.agg [.bool, .list [.int .i64]])], (.p (.one (.int .i64))), false, true⟩
def R106802 : List DV → List DV → Prop
  | [.lst al, .lst bl, .num i0], [.num i] => (-1 ≤ i ∧ i ≤ 1000 ∧ dval (al.drop (i + 1).toNat) = dval (bl.drop (i + 1).toNat))
  | _, _ => False
def M106802 : List DV → List DV → Nat
  | [.lst al, .lst bl, .num i0], [.num i] => ((i + 1).toNat)
  | _, _ => 0
def L106802 : FuncId × LCon := (68, ⟨2, 106802, [⟨true, 5, 0, (.int .i64), .gone⟩], [(false, 0, 1), (false, 1, 1)]⟩)
/-- turnstone/turnstoneref01.plus -/
def R67 : List DV → List DV → Prop
  | [.tru an, .lst al, .tru bn, .lst bl], [.lst l] => (dig l ∧ dval l = dval al + dval bl ∧ l.length ≤ 2000)
  | _, _ => False
def Q67 : List DV → Prop
  | [.tru an, .lst al, .tru bn, .lst bl] => dig al ∧ dig bl ∧ al.length ≤ 1000 ∧ bl.length ≤ 1000
  | _ => False
def C67 : Con := ⟨67, [(.agg [.bool, .list [.int .i64]]), (.agg [.bool, .list [.int .i64]])], (.p (.one (.list [.int .i64]))), false, true⟩
def R106704 : List DV → List DV → Prop
  | [.lst al, .lst bl, .lst o0, .num c0, .num i0], [.lst o, .num c, .num i] => (0 ≤ i ∧ o.length = i ∧ dig o ∧ 0 ≤ c ∧ c ≤ 1 ∧ (i ≤ al.length ∨ i ≤ bl.length ∨ c = 0 ∧ (i ≤ al.length + 1 ∨ i ≤ bl.length + 1)) ∧ dval o + P4 i.toNat * (c + dval (al.drop i.toNat) + dval (bl.drop i.toNat)) = dval al + dval bl)
  | _, _ => False
def M106704 : List DV → List DV → Nat
  | [.lst al, .lst bl, .lst o0, .num c0, .num i0], [.lst o, .num c, .num i] => ((1002 - i).toNat)
  | _, _ => 0
def L106704 : FuncId × LCon := (67, ⟨4, 106704, [⟨true, 5, 0, (.list [.int .i64]), (.own [.int .i64] 3)⟩, ⟨true, 6, 0, (.int .i64), .gone⟩, ⟨true, 7, 0, (.int .i64), .gone⟩], [(false, 0, 1), (false, 1, 1)]⟩)
/-- turnstone/turnstoneref01.minus -/
def R69 : List DV → List DV → Prop
  | [.tru an, .lst al, .tru bn, .lst bl], [.lst l] => (dig l ∧ dval l = dval al - dval bl ∧ l.length ≤ 2000)
  | _, _ => False
def Q69 : List DV → Prop
  | [.tru an, .lst al, .tru bn, .lst bl] => dig al ∧ dig bl ∧ al.length ≤ 1000 ∧ bl.length ≤ 1000 ∧ dval bl ≤ dval al
  | _ => False
def C69 : Con := ⟨69, [(.agg [.bool, .list [.int .i64]]), (.agg [.bool, .list [.int .i64]])], (.p (.one (.list [.int .i64]))), false, true⟩
def R106904 : List DV → List DV → Prop
  | [.lst al, .lst bl, .lst o0, .num c0, .num i0], [.lst o, .num c, .num i] => (0 ≤ i ∧ i ≤ al.length ∧ o.length = i ∧ dig o ∧ 0 ≤ c ∧ c ≤ 1 ∧ dval o + P4 i.toNat * (dval (al.drop i.toNat) - dval (bl.drop i.toNat) - c) = dval al - dval bl)
  | _, _ => False
def M106904 : List DV → List DV → Nat
  | [.lst al, .lst bl, .lst o0, .num c0, .num i0], [.lst o, .num c, .num i] => ((al.length - i).toNat)
  | _, _ => 0
def L106904 : FuncId × LCon := (69, ⟨4, 106904, [⟨true, 5, 0, (.list [.int .i64]), (.own [.int .i64] 3)⟩, ⟨true, 6, 0, (.int .i64), .gone⟩, ⟨true, 7, 0, (.int .i64), .gone⟩], [(false, 0, 1), (false, 1, 1)]⟩)
/-- turnstone/turnstoneref01.trim -/
def R66 : List DV → List DV → Prop
  | [.tru n, .lst l], [.tru m, .lst k] => (BOK m k ∧ bval m k = bval n l)
  | _, _ => False
def Q66 : List DV → Prop
  | [.tru n, .lst l] => dig l ∧ l.length ≤ 3000
  | _ => False
def C66 : Con := ⟨66, [(.agg [.bool, .list [.int .i64]])], (.p (.agg [.bool, .list [.int .i64]])), false, false⟩
def R106601 : List DV → List DV → Prop
  | [.lst k0], [.lst k] => (dig k ∧ k.length ≤ 3000 ∧ dval k = dval k0)
  | _, _ => False
def M106601 : List DV → List DV → Nat
  | [.lst k0], [.lst k] => (k.length)
  | _, _ => 0
def L106601 : FuncId × LCon := (66, ⟨1, 106601, [⟨false, 0, 1, (.list [.int .i64]), (.rd [.int .i64] true)⟩], []⟩)
/-- turnstone/turnstoneref01.U -/
def R45 : List DV → List DV → Prop
  | [.num x], [.tru n, .lst l] => (BOK n l ∧ bval n l = x)
  | _, _ => False
def Q45 : List DV → Prop
  | [.num x] => U64 x
  | _ => False
def C45 : Con := ⟨45, [(.one (.int .u64))], (.p (.agg [.bool, .list [.int .i64]])), false, true⟩
def R104502 : List DV → List DV → Prop
  | [.num y0, .lst o0], [.num y, .lst o] => (0 ≤ y ∧ dig o ∧ dval o + P4 o.length * y = y0 + dval o0 ∧ (y = 0 → o.length ≠ 0 → Sy.rowAt o ((o.length : Int) - 1) 0 ≠ 0))
  | _, _ => False
def M104502 : List DV → List DV → Nat
  | [.num y0, .lst o0], [.num y, .lst o] => (y.toNat)
  | _, _ => 0
def L104502 : FuncId × LCon := (45, ⟨2, 104502, [⟨true, 0, 0, (.int .u64), .gone⟩, ⟨false, 1, 1, (.list [.int .i64]), (.own [.int .i64] 3)⟩], []⟩)
/-- turnstone/turnstoneref01.N -/
def R77 : List DV → List DV → Prop
  | [.num x], [.tru n, .lst l] => (BOK n l ∧ bval n l = x)
  | _, _ => False
def Q77 : List DV → Prop
  | [.num x] => I64 x
  | _ => False
def C77 : Con := ⟨77, [(.one (.int .i64))], (.p (.agg [.bool, .list [.int .i64]])), false, true⟩
/-- turnstone/turnstoneref01.Neg -/
def R76 : List DV → List DV → Prop
  | [.tru n, .lst l], [.tru m, .lst k] => (BOK m k ∧ bval m k = - bval n l)
  | _, _ => False
def Q76 : List DV → Prop
  | [.tru n, .lst l] => Bg n l
  | _ => False
def C76 : Con := ⟨76, [(.agg [.bool, .list [.int .i64]])], (.p (.agg [.bool, .list [.int .i64]])), false, false⟩
/-- turnstone/turnstoneref01.Add -/
def R44 : List DV → List DV → Prop
  | [.tru an, .lst al, .tru bn, .lst bl], [.tru n, .lst l] => (BOK n l ∧ bval n l = bval an al + bval bn bl)
  | _, _ => False
def Q44 : List DV → Prop
  | [.tru an, .lst al, .tru bn, .lst bl] => Bg an al ∧ Bg bn bl
  | _ => False
def C44 : Con := ⟨44, [(.agg [.bool, .list [.int .i64]]), (.agg [.bool, .list [.int .i64]])], (.p (.agg [.bool, .list [.int .i64]])), false, true⟩
/-- turnstone/turnstoneref01.Sub -/
def R75 : List DV → List DV → Prop
  | [.tru an, .lst al, .tru bn, .lst bl], [.tru n, .lst l] => (BOK n l ∧ bval n l = bval an al - bval bn bl)
  | _, _ => False
def Q75 : List DV → Prop
  | [.tru an, .lst al, .tru bn, .lst bl] => Bg an al ∧ Bg bn bl
  | _ => False
def C75 : Con := ⟨75, [(.agg [.bool, .list [.int .i64]]), (.agg [.bool, .list [.int .i64]])], (.p (.agg [.bool, .list [.int .i64]])), false, true⟩
/-- turnstone/turnstoneref01.Sign -/
def R54 : List DV → List DV → Prop
  | [.tru n, .lst l], [.num c] => ((bval n l < 0 → c = -1) ∧ (bval n l = 0 → c = 0) ∧ (0 < bval n l → c = 1))
  | _, _ => False
def Q54 : List DV → Prop
  | [.tru n, .lst l] => BOK n l
  | _ => False
def C54 : Con := ⟨54, [(.agg [.bool, .list [.int .i64]])], (.p (.one (.int .i64))), false, true⟩
/-- turnstone/turnstoneref01.Cmp -/
def R55 : List DV → List DV → Prop
  | [.tru an, .lst al, .tru bn, .lst bl], [.num c] => ((bval an al < bval bn bl → c = -1) ∧ (bval an al = bval bn bl → c = 0) ∧ (bval bn bl < bval an al → c = 1))
  | _, _ => False
def Q55 : List DV → Prop
  | [.tru an, .lst al, .tru bn, .lst bl] => Bg an al ∧ Bg bn bl
  | _ => False
def C55 : Con := ⟨55, [(.agg [.bool, .list [.int .i64]]), (.agg [.bool, .list [.int .i64]])], (.p (.one (.int .i64))), false, true⟩
/-- turnstone/turnstoneref01.Mul -/
def R46 : List DV → List DV → Prop
  | [.tru an, .lst al, .tru bn, .lst bl], [.tru n, .lst l] => (BOK n l ∧ bval n l = bval an al * bval bn bl)
  | _, _ => False
def Q46 : List DV → Prop
  | [.tru an, .lst al, .tru bn, .lst bl] => Bg an al ∧ Bg bn bl
  | _ => False
def C46 : Con := ⟨46, [(.agg [.bool, .list [.int .i64]]), (.agg [.bool, .list [.int .i64]])], (.p (.agg [.bool, .list [.int .i64]])), false, true⟩
def R104603 : List DV → List DV → Prop
  | [.lst al, .lst bl, .lst o0, .num i0], [.lst o, .num i] => (0 ≤ i ∧ i ≤ al.length ∧ o.length = al.length + bl.length + 1 ∧ dig o ∧ (∀ k : Nat, (i + bl.length : Int) ≤ k → Sy.rowAt o k 0 = 0) ∧ dval o + P4 i.toNat * (dval (al.drop i.toNat) * dval bl) = dval al * dval bl)
  | _, _ => False
def M104603 : List DV → List DV → Nat
  | [.lst al, .lst bl, .lst o0, .num i0], [.lst o, .num i] => ((al.length - i).toNat)
  | _, _ => 0
def L104603 : FuncId × LCon := (46, ⟨3, 104603, [⟨true, 5, 0, (.list [.int .i64]), (.own [.int .i64] 3)⟩, ⟨true, 23, 0, (.int .i64), .gone⟩], [(false, 0, 1), (false, 1, 1)]⟩)
def R104607 : List DV → List DV → Prop
  | [.lst bl, .num i, .num x, .lst o0, .num c0, .num k0], [.lst o, .num c, .num k] => (0 ≤ k ∧ 0 ≤ c ∧ c < 10000 ∧ o.length = o0.length ∧ dig o ∧ (k ≤ bl.length ∨ k ≤ bl.length + 1 ∧ c = 0) ∧ (∀ j : Nat, (i + k : Int) ≤ j → Sy.rowAt o j 0 = Sy.rowAt o0 j 0) ∧ dval o + P4 (i + k).toNat * (c + x * dval (bl.drop k.toNat)) = dval o0 + P4 i.toNat * (x * dval bl))
  | _, _ => False
def M104607 : List DV → List DV → Nat
  | [.lst bl, .num i, .num x, .lst o0, .num c0, .num k0], [.lst o, .num c, .num k] => ((bl.length + 1 - k).toNat)
  | _, _ => 0
def L104607 : FuncId × LCon := (46, ⟨7, 104607, [⟨true, 5, 0, (.list [.int .i64]), (.own [.int .i64] 3)⟩, ⟨true, 8, 0, (.int .i64), .gone⟩, ⟨true, 9, 0, (.int .i64), .gone⟩], [(false, 1, 1), (true, 6, 0), (true, 7, 0)]⟩)
/-- turnstone/turnstoneref01.Div -/
def R62 : List DV → List DV → Prop
  | [.tru an, .lst al, .num b], [.tru n, .lst l, .num r] => (BOK n l ∧ bval n l = bval an al / b ∧ r = bval an al % b)
  | _, _ => False
def Q62 : List DV → Prop
  | [.tru an, .lst al, .num b] => Bg an al ∧ 0 < b ∧ b < 35184372088832
  | _ => False
def C62 : Con := ⟨62, [(.agg [.bool, .list [.int .i64]]), (.one (.int .i64))], (.tup [(.agg [.bool, .list [.int .i64]]), (.one (.int .i64))]), false, true⟩
def R106204 : List DV → List DV → Prop
  | [.lst al, .num b, .lst q0, .num r0, .num i0], [.lst q, .num r, .num i] => (-1 ≤ i ∧ i < al.length ∧ q.length = al.length ∧ dig q ∧ 0 ≤ r ∧ r < b ∧ (∀ j : Nat, (j : Int) ≤ i → Sy.rowAt q j 0 = 0) ∧ dval q * b + P4 (i + 1).toNat * r = P4 (i + 1).toNat * dval (al.drop (i + 1).toNat))
  | _, _ => False
def M106204 : List DV → List DV → Nat
  | [.lst al, .num b, .lst q0, .num r0, .num i0], [.lst q, .num r, .num i] => ((i + 1).toNat)
  | _, _ => 0
def L106204 : FuncId × LCon := (62, ⟨4, 106204, [⟨true, 6, 0, (.list [.int .i64]), (.own [.int .i64] 3)⟩, ⟨true, 7, 0, (.int .i64), .gone⟩, ⟨true, 8, 0, (.int .i64), .gone⟩], [(false, 0, 1), (true, 1, 0)]⟩)
/-- turnstone/turnstoneref01.Power -/
def R56 : List DV → List DV → Prop
  | [.num n], [.tru s, .lst l] => (BOK s l ∧ bval s l = 2 ^ n.toNat)
  | _, _ => False
def Q56 : List DV → Prop
  | [.num n] => 0 ≤ n ∧ n ≤ 200
  | _ => False
def C56 : Con := ⟨56, [(.one (.int .i64))], (.p (.agg [.bool, .list [.int .i64]])), false, true⟩
def R105603 : List DV → List DV → Prop
  | [.num n, .tru s0, .lst l0, .num k0], [.tru s, .lst l, .num k] => (0 ≤ k ∧ k ≤ n ∧ BOK s l ∧ bval s l = 2 ^ k.toNat)
  | _, _ => False
def M105603 : List DV → List DV → Nat
  | [.num n, .tru s0, .lst l0, .num k0], [.tru s, .lst l, .num k] => ((n - k).toNat)
  | _, _ => 0
def L105603 : FuncId × LCon := (56, ⟨3, 105603, [⟨false, 2, 0, .bool, .gone⟩, ⟨false, 2, 1, (.list [.int .i64]), (.rd [.int .i64] false)⟩, ⟨true, 4, 0, (.int .i64), .gone⟩], [(true, 0, 0)]⟩)
/-- turnstone/turnstoneref01.Small -/
def R63 : List DV → List DV → Prop
  | [.tru n, .lst l], [.tru ok] => (ok = true ↔ I64 (bval n l))
  | _, _ => False
def Q63 : List DV → Prop
  | [.tru n, .lst l] => Bg n l
  | _ => False
def C63 : Con := ⟨63, [(.agg [.bool, .list [.int .i64]])], (.p (.one .bool)), false, true⟩
/-- turnstone/turnstoneref03.Since -/
def R52 : List DV → List DV → Prop
  | [.num t, .num u], [.tru n, .lst l] => (BOK n l ∧ bval n l = s64 (t - u))
  | _, _ => False
def Q52 : List DV → Prop
  | [.num t, .num u] => U64 t ∧ U64 u
  | _ => False
def C52 : Con := ⟨52, [(.one (.int .u64)), (.one (.int .u64))], (.p (.agg [.bool, .list [.int .i64]])), false, true⟩
/-- turnstone/turnstoneref04.Right -/
def R53 : List DV → List DV → Prop
  | [.num t, .num r, .num w], [.tru ok] => (ok = true ↔ Pq r w)
  | _, _ => False
def C53 : Con := ⟨53, [(.agg [.int .u64, .int .u32, .int .u32])], (.p (.one .bool)), true, true⟩
/-- turnstone/turnstonelaw04.Of -/
def R24 : List DV → List DV → Prop
  | [.num t, .num r, .num w], [.num t2, .num r2, .num w2] => (t2 = t ∧ r2 = r ∧ w2 = w)
  | _, _ => False
def Q24 : List DV → Prop
  | [.num t, .num r, .num w] => U64 t ∧ U32 r ∧ U32 w
  | _ => False
def C24 : Con := ⟨24, [(.agg [.int .u64, .int .u32, .int .u32])], (.p (.agg [.int .u64, .int .u32, .int .u32])), false, true⟩
/-- turnstone/clamp.Window -/
def R129 : List DV → List DV → Prop
  | [.num s, .num t], [.num w, .tru ok] => ((ok = true ↔ 1 ≤ s ∧ s ≤ 1099511627776 ∧ 1 ≤ t ∧ t ≤ 1099511627776) ∧ (ok = true → w = (2 * s + t) * 1048576) ∧ (ok = false → w = 0))
  | _, _ => False
def Q129 : List DV → Prop
  | [.num s, .num t] => U64 s ∧ U64 t
  | _ => False
def C129 : Con := ⟨129, [(.one (.int .u64)), (.one (.int .u64))], (.tup [(.one (.int .i64)), (.one .bool)]), false, true⟩
/-- turnstone/turnstoneref04.Word -/
def R64 : List DV → List DV → Prop
  | [.tru n, .lst l], [.num x] => (x = bval n l)
  | _, _ => False
def Q64 : List DV → Prop
  | [.tru n, .lst l] => BOK n l ∧ 0 ≤ bval n l ∧ bval n l < 18446744073709551616
  | _ => False
def C64 : Con := ⟨64, [(.agg [.bool, .list [.int .i64]])], (.p (.one (.int .u64))), false, true⟩
def R106403 : List DV → List DV → Prop
  | [.lst l, .num y0, .num i0], [.num y, .num i] => (-1 ≤ i ∧ i < l.length ∧ y = dval (l.drop (i + 1).toNat))
  | _, _ => False
def M106403 : List DV → List DV → Nat
  | [.lst l, .num y0, .num i0], [.num y, .num i] => ((i + 1).toNat)
  | _, _ => 0
def L106403 : FuncId × LCon := (64, ⟨3, 106403, [⟨true, 3, 0, (.int .u64), .gone⟩, ⟨true, 4, 0, (.int .i64), .gone⟩], [(false, 0, 1)]⟩)
/-- turnstone/turnstoneref04.At -/
def R43 : List DV → List DV → Prop
  | [.num base, .tru dn, .lst dl, .num w], [.num t, .num r, .num v, .tru ok] => ((ok = true ↔ WT w ∧ I64 (bval dn dl / w)) ∧ (ok = true → t = (base + bval dn dl / w) % 18446744073709551616 ∧ r = bval dn dl % w ∧ 0 ≤ r ∧ r < w ∧ v = w) ∧ (ok = false → t = 0 ∧ r = 0 ∧ v = 0))
  | _, _ => False
def Q43 : List DV → Prop
  | [.num base, .tru dn, .lst dl, .num w] => U64 base ∧ Bg dn dl ∧ U32 w
  | _ => False
def C43 : Con := ⟨43, [(.one (.int .u64)), (.agg [.bool, .list [.int .i64]]), (.one (.int .u32))], (.tup [(.agg [.int .u64, .int .u32, .int .u32]), (.one .bool)]), false, true⟩
/-- turnstone/turnstoneref03.Round -/
def R65 : List DV → List DV → Prop
  | [.tru an, .lst al], [.tru n, .lst l] => (BOK n l ∧ bval n l = bval an al % 18446744073709551616)
  | _, _ => False
def Q65 : List DV → Prop
  | [.tru an, .lst al] => BOK an al ∧ -1180591620717411303424 < bval an al ∧ bval an al < 1180591620717411303424
  | _ => False
def C65 : Con := ⟨65, [(.agg [.bool, .list [.int .i64]])], (.p (.agg [.bool, .list [.int .i64]])), false, false⟩
def R106502 : List DV → List DV → Prop
  | [.tru sn0, .lst sl0], [.tru sn, .lst sl] => (BOK sn sl ∧ -1180591620717411303424 < bval sn sl ∧ bval sn sl < 1180591620717411303424 ∧ bval sn sl % 18446744073709551616 = bval sn0 sl0 % 18446744073709551616)
  | _, _ => False
def M106502 : List DV → List DV → Nat
  | [.tru sn0, .lst sl0], [.tru sn, .lst sl] => ((0 - bval sn sl).toNat)
  | _, _ => 0
def L106502 : FuncId × LCon := (65, ⟨2, 106502, [⟨false, 0, 0, .bool, .gone⟩, ⟨false, 0, 1, (.list [.int .i64]), (.rd [.int .i64] false)⟩], []⟩)
def R106504 : List DV → List DV → Prop
  | [.tru sn0, .lst sl0], [.tru sn, .lst sl] => (BOK sn sl ∧ 0 ≤ bval sn sl ∧ bval sn sl < 1180591620717411303424 ∧ bval sn sl % 18446744073709551616 = bval sn0 sl0 % 18446744073709551616)
  | _, _ => False
def M106504 : List DV → List DV → Nat
  | [.tru sn0, .lst sl0], [.tru sn, .lst sl] => ((bval sn sl).toNat)
  | _, _ => 0
def L106504 : FuncId × LCon := (65, ⟨4, 106504, [⟨false, 0, 0, .bool, .gone⟩, ⟨false, 0, 1, (.list [.int .i64]), (.rd [.int .i64] false)⟩], []⟩)
/-- turnstone/place.Place -/
def R148 : List DV → List DV → Prop
  | [.num b, .num h, .num l, .num w, .num n, .num c, .num x, .num g], [.num t, .num r, .num v, .tru ok] => ((ok = true ↔ MR h l w n ∧ WT x ∧ (n ≠ 0 → Big (wv h l * x) ∧ Big (g * (w + x)) ∧ Big (wv h l * x - g * (w + x)) ∧ I64 ((wv h l * x - g * (w + x)) / w / x))) ∧ (ok = true → v = x ∧ (n = 0 → t = c ∧ r = 0) ∧ (n ≠ 0 → t = (b + (wv h l * x - g * (w + x)) / w / x) % 18446744073709551616 ∧ r = (wv h l * x - g * (w + x)) / w % x)) ∧ (ok = false → t = 0 ∧ r = 0 ∧ v = 0))
  | _, _ => False
def Q148 : List DV → Prop
  | [.num b, .num h, .num l, .num w, .num n, .num c, .num x, .num g] => W h l ∧ U64 w ∧ I64 n ∧ U32 x ∧ I64 g
  | _ => False
def C148 : Con := ⟨148, [(.agg [.int .u64, .int .i64, .int .u64, .int .u64, .int .i64]), (.one (.int .u64)), (.one (.int .u32)), (.one (.int .i64))], (.tup [(.agg [.int .u64, .int .u32, .int .u32]), (.one .bool)]), false, true⟩
/-- turnstone/pos.Floors -/
def R113 : List DV → List DV → Prop
  | [.num base, .lst xs], [.num lo, .num hi] => (lo = mnF (tf 0 base xs) xs.length ∧ hi = mxF (tf 0 base xs) xs.length)
  | _, _ => False
def C113 : Con := ⟨113, [(.one (.int .u64)), (.one (.list [.int .u64, .int .u32, .int .u32]))], (.tup [(.one (.int .i64)), (.one (.int .i64))]), true, true⟩
def R111302 : List DV → List DV → Prop
  | [.num base, .lst xs, .num lo0, .num hi0, .num i0], [.num lo, .num hi, .num i] => (0 ≤ i ∧ i ≤ xs.length ∧ lo = mnF (tf 0 base xs) i.toNat ∧ hi = mxF (tf 0 base xs) i.toNat)
  | _, _ => False
def M111302 : List DV → List DV → Nat
  | [.num base, .lst xs, .num lo0, .num hi0, .num i0], [.num lo, .num hi, .num i] => ((xs.length - i).toNat)
  | _, _ => 0
def L111302 : FuncId × LCon := (113, ⟨2, 111302, [⟨true, 4, 0, (.int .i64), .gone⟩, ⟨true, 5, 0, (.int .i64), .gone⟩, ⟨true, 11, 0, (.int .i64), .gone⟩], [(true, 0, 0), (true, 1, 0)]⟩)
/-- turnstone/item.Spread -/
def R98 : List DV → List DV → Prop
  | [.num base, .lst xs], [.num s] => (s = SPR base xs)
  | _, _ => False
def Q98 : List DV → Prop
  | [.num base, .lst xs] => (xs.length : Int) ≤ 1000
  | _ => False
def C98 : Con := ⟨98, [(.one (.int .u64)), (.one (.list [.int .u64, .int .u32, .int .u32, .int .i64, .int .u64, .int .u32, .int .u32]))], (.p (.one (.int .u64))), false, true⟩
def R109803 : List DV → List DV → Prop
  | [.num base, .lst xs, .lst p0, .lst q0, .num i0], [.lst p, .lst q, .num i] => (0 ≤ i ∧ i ≤ xs.length ∧ p.length = i ∧ q.length = 2 * i ∧ PL xs p ∧ AL xs q)
  | _, _ => False
def M109803 : List DV → List DV → Nat
  | [.num base, .lst xs, .lst p0, .lst q0, .num i0], [.lst p, .lst q, .num i] => ((xs.length - i).toNat)
  | _, _ => 0
def L109803 : FuncId × LCon := (98, ⟨3, 109803, [⟨true, 5, 0, (.list [.int .u64, .int .u32, .int .u32]), (.own [.int .u64, .int .u32, .int .u32] 26)⟩, ⟨true, 6, 0, (.list [.int .u64, .int .u32, .int .u32]), (.own [.int .u64, .int .u32, .int .u32] 26)⟩, ⟨true, 15, 0, (.int .i64), .gone⟩], [(true, 0, 0), (true, 1, 0)]⟩)
/-- turnstone/span.Within -/
def R81 : List DV → List DV → Prop
  | [.num base, .lst xs], [.tru ok] => (ok = true ↔ SPR base xs ≤ 4611686018427387904)
  | _, _ => False
def Q81 : List DV → Prop
  | [.num base, .lst xs] => (xs.length : Int) ≤ 1000
  | _ => False
def C81 : Con := ⟨81, [(.one (.int .u64)), (.one (.list [.int .u64, .int .u32, .int .u32, .int .i64, .int .u64, .int .u32, .int .u32]))], (.p (.one .bool)), false, true⟩
/-- turnstone/span.Room -/
def R106 : List DV → List DV → Prop
  | [.num base, .lst xs], [.num s] => ((SPR base xs ≤ 4611686018427387904 → s = 4611686018427387904 - SPR base xs) ∧ (4611686018427387904 < SPR base xs → s = 0))
  | _, _ => False
def Q106 : List DV → Prop
  | [.num base, .lst xs] => (xs.length : Int) ≤ 1000
  | _ => False
def C106 : Con := ⟨106, [(.one (.int .u64)), (.one (.list [.int .u64, .int .u32, .int .u32, .int .i64, .int .u64, .int .u32, .int .u32]))], (.p (.one (.int .u64))), false, true⟩
/-- (turnstone/item.Item).Right -/
def R37 : List DV → List DV → Prop
  | [.num t, .num r, .num w, .num id, .num dt, .num dr, .num dw], [.tru ok] => (ok = true ↔ PR r w ∧ PR dr dw ∧ w = dw ∧ 0 < id ∧ 0 ≤ s64 (dt - t) ∧ s64 (dt - t) ≤ 1152921504606846976)
  | _, _ => False
def Q37 : List DV → Prop
  | [.num t, .num r, .num w, .num id, .num dt, .num dr, .num dw] => U64 t ∧ U32 r ∧ U32 w ∧ U64 dt ∧ U32 dr ∧ U32 dw
  | _ => False
def C37 : Con := ⟨37, [(.agg [.int .u64, .int .u32, .int .u32, .int .i64, .int .u64, .int .u32, .int .u32])], (.p (.one .bool)), false, true⟩
/-- slices.Equal[[]int,int] -/
def R173 : List DV → List DV → Prop
  | [.lst a, .lst c], [.tru ok] => (ok = true ↔ a.length = c.length ∧ ∀ j : Nat, j < a.length → Sy.rowAt a j 0 = Sy.rowAt c j 0)
  | _, _ => False
def C173 : Con := ⟨173, [(.one (.list [.int .i64])), (.one (.list [.int .i64]))], (.p (.one .bool)), true, true⟩
def R117304 : List DV → List DV → Prop
  | [.lst a, .lst c, .num i0], [.num i] => (0 ≤ i ∧ i ≤ a.length ∧ ∀ j : Nat, (j : Int) < i → Sy.rowAt a j 0 = Sy.rowAt c j 0)
  | _, _ => False
def M117304 : List DV → List DV → Nat
  | [.lst a, .lst c, .num i0], [.num i] => ((a.length - i).toNat)
  | _, _ => 0
def L117304 : FuncId × LCon := (173, ⟨4, 117304, [⟨true, 13, 0, (.int .i64), .gone⟩], [(true, 0, 0), (true, 1, 0)]⟩)
/-- turnstone/turnstonelaw05.Of -/
def R32 : List DV → List DV → Prop
  | [.num t, .num r, .num w, .num id, .num dt, .num dr, .num dw], [.num t2, .num r2, .num w2, .num id2, .num dt2, .num dr2, .num dw2] => (t2 = t ∧ r2 = r ∧ w2 = w ∧ id2 = id ∧ dt2 = dt ∧ dr2 = dr ∧ dw2 = dw)
  | _, _ => False
def Q32 : List DV → Prop
  | [.num t, .num r, .num w, .num id, .num dt, .num dr, .num dw] => U64 t ∧ U32 r ∧ U32 w ∧ U64 dt ∧ U32 dr ∧ U32 dw
  | _ => False
def C32 : Con := ⟨32, [(.agg [.int .u64, .int .u32, .int .u32, .int .i64, .int .u64, .int .u32, .int .u32])], (.p (.agg [.int .u64, .int .u32, .int .u32, .int .i64, .int .u64, .int .u32, .int .u32])), false, true⟩
/-- (turnstone/item.Item).Shift -/
def R20 : List DV → List DV → Prop
  | [.num t, .num r, .num w, .num id, .num dt, .num dr, .num dw, .num y], [.num t2, .num r2, .num w2, .num id2, .num dt2, .num dr2, .num dw2] => (t2 = (t + y) % 18446744073709551616 ∧ r2 = r ∧ w2 = w ∧ id2 = id ∧ dt2 = (dt + y) % 18446744073709551616 ∧ dr2 = dr ∧ dw2 = dw)
  | _, _ => False
def C20 : Con := ⟨20, [(.agg [.int .u64, .int .u32, .int .u32, .int .i64, .int .u64, .int .u32, .int .u32]), (.one (.int .u64))], (.p (.agg [.int .u64, .int .u32, .int .u32, .int .i64, .int .u64, .int .u32, .int .u32])), true, true⟩
/-- turnstone/turnstoneref05.Right -/
def R40 : List DV → List DV → Prop
  | [.num t, .num r, .num w, .num id, .num dt, .num dr, .num dw], [.tru ok] => (ok = true ↔ PR r w ∧ PR dr dw ∧ w = dw ∧ 0 < id ∧ 0 ≤ s64 (dt - t) ∧ s64 (dt - t) ≤ 1152921504606846976)
  | _, _ => False
def Q40 : List DV → Prop
  | [.num t, .num r, .num w, .num id, .num dt, .num dr, .num dw] => U64 t ∧ U32 r ∧ U32 w ∧ U64 dt ∧ U32 dr ∧ U32 dw
  | _ => False
def C40 : Con := ⟨40, [(.agg [.int .u64, .int .u32, .int .u32, .int .i64, .int .u64, .int .u32, .int .u32])], (.p (.one .bool)), false, true⟩
/-- (turnstone/item.Item).Ahead -/
def R92 : List DV → List DV → Prop
  | [.num t, .num r, .num w, .num i, .num dt, .num dr, .num dw, .num u, .num q, .num v, .num j, .num du, .num dq, .num dv], [.tru ok] => (ok = true ↔ AHI t r w i u q v j)
  | _, _ => False
def Q92 : List DV → Prop
  | [.num t, .num r, .num w, .num i, .num dt, .num dr, .num dw, .num u, .num q, .num v, .num j, .num du, .num dq, .num dv] => U32 r ∧ U32 w ∧ U32 q ∧ U32 v
  | _ => False
def C92 : Con := ⟨92, [(.agg [.int .u64, .int .u32, .int .u32, .int .i64, .int .u64, .int .u32, .int .u32]), (.agg [.int .u64, .int .u32, .int .u32, .int .i64, .int .u64, .int .u32, .int .u32])], (.p (.one .bool)), false, true⟩
/-- (turnstone/item.Item).Due -/
def R125 : List DV → List DV → Prop
  | [.num t, .num r, .num w, .num i, .num dt, .num dr, .num dw, .num u, .num q, .num v, .num j, .num du, .num dq, .num dv], [.tru ok] => (ok = true ↔ DUI t r w i dt dr dw u q v j du dq dv)
  | _, _ => False
def Q125 : List DV → Prop
  | [.num t, .num r, .num w, .num i, .num dt, .num dr, .num dw, .num u, .num q, .num v, .num j, .num du, .num dq, .num dv] => U32 r ∧ U32 w ∧ U32 q ∧ U32 v ∧ U32 dr ∧ U32 dw ∧ U32 dq ∧ U32 dv
  | _ => False
def C125 : Con := ⟨125, [(.agg [.int .u64, .int .u32, .int .u32, .int .i64, .int .u64, .int .u32, .int .u32]), (.agg [.int .u64, .int .u32, .int .u32, .int .i64, .int .u64, .int .u32, .int .u32])], (.p (.one .bool)), false, true⟩
/-- turnstone/req.may -/
def R38 : List DV → List DV → Prop
  | [.num ns], [.tru ok] => (ok = true ↔ NS ns)
  | _, _ => False
def C38 : Con := ⟨38, [(.one (.int .u64))], (.p (.one .bool)), true, true⟩
/-- turnstone/req.due -/
def R39 : List DV → List DV → Prop
  | [.num t, .num r, .num w, .num ns], [.num u, .num q, .num v] => ((WT w → u = mvt t r w ns ∧ q = mvr r w ns ∧ v = w) ∧ (¬ WT w → u = 0 ∧ q = 0 ∧ v = 0))
  | _, _ => False
def Q39 : List DV → Prop
  | [.num t, .num r, .num w, .num ns] => U32 r ∧ U32 w ∧ NS ns
  | _ => False
def C39 : Con := ⟨39, [(.agg [.int .u64, .int .u32, .int .u32]), (.one (.int .u64))], (.p (.agg [.int .u64, .int .u32, .int .u32])), false, true⟩
/-- (turnstone/req.Req).Right -/
def R18 : List DV → List DV → Prop
  | [.num t, .num r, .num w, .num id, .num dt, .num dr, .num dw, .num l, .num s, .tru a], [.tru ok] => (ok = true ↔ RQ t r w id dt dr dw l s)
  | _, _ => False
def Q18 : List DV → Prop
  | [.num t, .num r, .num w, .num id, .num dt, .num dr, .num dw, .num l, .num s, .tru a] => U64 t ∧ U32 r ∧ U32 w ∧ U64 dt ∧ U32 dr ∧ U32 dw
  | _ => False
def C18 : Con := ⟨18, [(.agg [.int .u64, .int .u32, .int .u32, .int .i64, .int .u64, .int .u32, .int .u32, .int .u64, .int .u64, .bool])], (.p (.one .bool)), false, true⟩
/-- turnstone/req.set -/
def R29 : List DV → List DV → Prop
  | [.num t, .num r, .num w, .num id, .num dt, .num dr, .num dw, .num l, .num s, .tru a], [.num t2, .num r2, .num w2, .num id2, .num dt2, .num dr2, .num dw2, .num l2, .num s2, .tru a2, .tru ok] => ((ok = true ↔ PR r w ∧ 0 < id ∧ NS l ∧ NS s) ∧ (ok = true → t2 = t ∧ r2 = r ∧ w2 = w ∧ id2 = id ∧ dt2 = mvt t r w l ∧ dr2 = mvr r w l ∧ dw2 = w ∧ l2 = l ∧ s2 = s ∧ a2 = a) ∧ (ok = false → t2 = 0 ∧ r2 = 0 ∧ w2 = 0 ∧ id2 = 0 ∧ dt2 = 0 ∧ dr2 = 0 ∧ dw2 = 0 ∧ l2 = 0 ∧ s2 = 0 ∧ a2 = false))
  | _, _ => False
def Q29 : List DV → Prop
  | [.num t, .num r, .num w, .num id, .num dt, .num dr, .num dw, .num l, .num s, .tru a] => U64 t ∧ U32 r ∧ U32 w ∧ U64 dt ∧ U32 dr ∧ U32 dw
  | _ => False
def C29 : Con := ⟨29, [(.agg [.int .u64, .int .u32, .int .u32, .int .i64, .int .u64, .int .u32, .int .u32, .int .u64, .int .u64, .bool])], (.tup [(.agg [.int .u64, .int .u32, .int .u32, .int .i64, .int .u64, .int .u32, .int .u32, .int .u64, .int .u64, .bool]), (.one .bool)]), false, true⟩
/-- turnstone/req.New -/
def R16 : List DV → List DV → Prop
  | [.num t, .num r, .num w, .num id, .num s], [.num t2, .num r2, .num w2, .num id2, .num dt2, .num dr2, .num dw2, .num l2, .num s2, .tru a2, .tru ok] => ((ok = true ↔ PR r w ∧ 0 < id ∧ NS s) ∧ (ok = true → t2 = t ∧ r2 = r ∧ w2 = w ∧ id2 = id ∧ dt2 = mvt t r w s ∧ dr2 = mvr r w s ∧ dw2 = w ∧ l2 = s ∧ s2 = s ∧ a2 = false) ∧ (ok = false → t2 = 0 ∧ r2 = 0 ∧ w2 = 0 ∧ id2 = 0 ∧ dt2 = 0 ∧ dr2 = 0 ∧ dw2 = 0 ∧ l2 = 0 ∧ s2 = 0 ∧ a2 = false))
  | _, _ => False
def Q16 : List DV → Prop
  | [.num t, .num r, .num w, .num id, .num s] => U64 t ∧ U32 r ∧ U32 w
  | _ => False
def C16 : Con := ⟨16, [(.agg [.int .u64, .int .u32, .int .u32]), (.one (.int .i64)), (.one (.int .u64))], (.tup [(.agg [.int .u64, .int .u32, .int .u32, .int .i64, .int .u64, .int .u32, .int .u32, .int .u64, .int .u64, .bool]), (.one .bool)]), false, true⟩
/-- (turnstone/req.Req).Moved -/
def R22 : List DV → List DV → Prop
  | [.num t, .num r, .num w, .num id, .num dt, .num dr, .num dw, .num l, .num s, .tru a, .num u, .num q, .num v], [.num t2, .num r2, .num w2, .num id2, .num dt2, .num dr2, .num dw2, .num l2, .num s2, .tru a2, .tru ok] => ((ok = true ↔ RQ t r w id dt dr dw l s ∧ PR q v) ∧ (ok = true → t2 = u ∧ r2 = q ∧ w2 = v ∧ id2 = id ∧ dt2 = mvt u q v l ∧ dr2 = mvr q v l ∧ dw2 = v ∧ l2 = l ∧ s2 = s ∧ a2 = a) ∧ (ok = false → t2 = 0 ∧ r2 = 0 ∧ w2 = 0 ∧ id2 = 0 ∧ dt2 = 0 ∧ dr2 = 0 ∧ dw2 = 0 ∧ l2 = 0 ∧ s2 = 0 ∧ a2 = false))
  | _, _ => False
def Q22 : List DV → Prop
  | [.num t, .num r, .num w, .num id, .num dt, .num dr, .num dw, .num l, .num s, .tru a, .num u, .num q, .num v] => U64 t ∧ U32 r ∧ U32 w ∧ U64 dt ∧ U32 dr ∧ U32 dw ∧ U64 u ∧ U32 q ∧ U32 v
  | _ => False
def C22 : Con := ⟨22, [(.agg [.int .u64, .int .u32, .int .u32, .int .i64, .int .u64, .int .u32, .int .u32, .int .u64, .int .u64, .bool]), (.agg [.int .u64, .int .u32, .int .u32])], (.tup [(.agg [.int .u64, .int .u32, .int .u32, .int .i64, .int .u64, .int .u32, .int .u32, .int .u64, .int .u64, .bool]), (.one .bool)]), false, true⟩
/-- (turnstone/req.Req).Sliced -/
def R21 : List DV → List DV → Prop
  | [.num t, .num r, .num w, .num id, .num dt, .num dr, .num dw, .num l, .num s, .tru a, .num y], [.num t2, .num r2, .num w2, .num id2, .num dt2, .num dr2, .num dw2, .num l2, .num s2, .tru a2, .tru ok] => ((ok = true ↔ RQ t r w id dt dr dw l s ∧ NS y) ∧ (ok = true → t2 = t ∧ r2 = r ∧ w2 = w ∧ id2 = id ∧ dt2 = dt ∧ dr2 = dr ∧ dw2 = dw ∧ l2 = l ∧ s2 = y ∧ a2 = a) ∧ (ok = false → t2 = 0 ∧ r2 = 0 ∧ w2 = 0 ∧ id2 = 0 ∧ dt2 = 0 ∧ dr2 = 0 ∧ dw2 = 0 ∧ l2 = 0 ∧ s2 = 0 ∧ a2 = false))
  | _, _ => False
def Q21 : List DV → Prop
  | [.num t, .num r, .num w, .num id, .num dt, .num dr, .num dw, .num l, .num s, .tru a, .num y] => U64 t ∧ U32 r ∧ U32 w ∧ U64 dt ∧ U32 dr ∧ U32 dw
  | _ => False
def C21 : Con := ⟨21, [(.agg [.int .u64, .int .u32, .int .u32, .int .i64, .int .u64, .int .u32, .int .u32, .int .u64, .int .u64, .bool]), (.one (.int .u64))], (.tup [(.agg [.int .u64, .int .u32, .int .u32, .int .i64, .int .u64, .int .u32, .int .u32, .int .u64, .int .u64, .bool]), (.one .bool)]), false, true⟩
/-- (turnstone/req.Req).Serve -/
def R10 : List DV → List DV → Prop
  | [.num t, .num r, .num w, .num id, .num dt, .num dr, .num dw, .num l, .num s, .tru a, .num x], [.num t2, .num r2, .num w2, .num id2, .num dt2, .num dr2, .num dw2, .num l2, .num s2, .tru a2, .tru rn, .tru ok] => (SRV t r w id dt dr dw l s a x t2 r2 w2 id2 dt2 dr2 dw2 l2 s2 a2 rn ok)
  | _, _ => False
def Q10 : List DV → Prop
  | [.num t, .num r, .num w, .num id, .num dt, .num dr, .num dw, .num l, .num s, .tru a, .num x] => U64 t ∧ U32 r ∧ U32 w ∧ U64 dt ∧ U32 dr ∧ U32 dw ∧ U64 x ∧ U64 l
  | _ => False
def C10 : Con := ⟨10, [(.agg [.int .u64, .int .u32, .int .u32, .int .i64, .int .u64, .int .u32, .int .u32, .int .u64, .int .u64, .bool]), (.one (.int .u64))], (.tup [(.agg [.int .u64, .int .u32, .int .u32, .int .i64, .int .u64, .int .u32, .int .u32, .int .u64, .int .u64, .bool]), (.one .bool), (.one .bool)]), false, true⟩
/-- turnstone/req.Served -/
def R13 : List DV → List DV → Prop
  | [.num t, .num r, .num w, .num id, .num dt, .num dr, .num dw, .num l, .num s, .tru a, .lst xs], [.num t2, .num r2, .num w2, .num id2, .num dt2, .num dr2, .num dw2, .num l2, .num s2, .tru a2, .num n, .tru ok] => (SVD t r w id dt dr dw l s a xs t2 r2 w2 id2 dt2 dr2 dw2 l2 s2 a2 n ok)
  | _, _ => False
def Q13 : List DV → Prop
  | [.num t, .num r, .num w, .num id, .num dt, .num dr, .num dw, .num l, .num s, .tru a, .lst xs] => U64 t ∧ U32 r ∧ U32 w ∧ U64 dt ∧ U32 dr ∧ U32 dw ∧ U64 l ∧ U64 s ∧ RU xs ∧ (xs.length : Int) ≤ 1000
  | _ => False
def C13 : Con := ⟨13, [(.agg [.int .u64, .int .u32, .int .u32, .int .i64, .int .u64, .int .u32, .int .u32, .int .u64, .int .u64, .bool]), (.one (.list [.int .u64]))], (.tup [(.agg [.int .u64, .int .u32, .int .u32, .int .i64, .int .u64, .int .u32, .int .u32, .int .u64, .int .u64, .bool]), (.one (.int .i64)), (.one .bool)]), false, true⟩
def R101303 : List DV → List DV → Prop
  | [.lst xs, .num t0, .num r0, .num w0, .num id0, .num dt0, .num dr0, .num dw0, .num l0, .num s0, .tru a0, .num n0, .num i0], [.num t, .num r, .num w, .num id, .num dt, .num dr, .num dw, .num l, .num s, .tru a, .num n, .num i] => (0 ≤ i ∧ i ≤ xs.length ∧ SVI t0 r0 w0 id0 dt0 dr0 dw0 l0 s0 a0 xs t r w id dt dr dw l s a n i.toNat)
  | _, _ => False
def M101303 : List DV → List DV → Nat
  | [.lst xs, .num t0, .num r0, .num w0, .num id0, .num dt0, .num dr0, .num dw0, .num l0, .num s0, .tru a0, .num n0, .num i0], [.num t, .num r, .num w, .num id, .num dt, .num dr, .num dw, .num l, .num s, .tru a, .num n, .num i] => ((xs.length - i).toNat)
  | _, _ => 0
def L101303 : FuncId × LCon := (13, ⟨3, 101303, [⟨false, 0, 0, (.int .u64), .gone⟩, ⟨false, 0, 1, (.int .u32), .gone⟩, ⟨false, 0, 2, (.int .u32), .gone⟩, ⟨false, 0, 3, (.int .i64), .gone⟩, ⟨false, 0, 4, (.int .u64), .gone⟩, ⟨false, 0, 5, (.int .u32), .gone⟩, ⟨false, 0, 6, (.int .u32), .gone⟩, ⟨false, 0, 7, (.int .u64), .gone⟩, ⟨false, 0, 8, (.int .u64), .gone⟩, ⟨false, 0, 9, .bool, .gone⟩, ⟨true, 7, 0, (.int .i64), .gone⟩, ⟨true, 15, 0, (.int .i64), .gone⟩], [(true, 1, 0)]⟩)
/-- turnstone/turnstoneref15.may -/
def R41 : List DV → List DV → Prop
  | [.num ns], [.tru ok] => (ok = true ↔ NS ns)
  | _, _ => False
def C41 : Con := ⟨41, [(.one (.int .u64))], (.p (.one .bool)), true, true⟩
/-- turnstone/turnstoneref15.Move -/
def R30 : List DV → List DV → Prop
  | [.num t, .num r, .num w, .num ns], [.num u, .num q, .num v, .tru ok] => ((ok = true ↔ WT w ∧ I64 ((ns * 1048576 + r) / w)) ∧ (ok = true → u = mvt t r w ns ∧ q = mvr r w ns ∧ v = w) ∧ (ok = false → u = 0 ∧ q = 0 ∧ v = 0))
  | _, _ => False
def Q30 : List DV → Prop
  | [.num t, .num r, .num w, .num ns] => U64 t ∧ U32 r ∧ U32 w ∧ U64 ns
  | _ => False
def C30 : Con := ⟨30, [(.agg [.int .u64, .int .u32, .int .u32]), (.one (.int .u64))], (.tup [(.agg [.int .u64, .int .u32, .int .u32]), (.one .bool)]), false, true⟩
/-- turnstone/turnstoneref15.Right -/
def R27 : List DV → List DV → Prop
  | [.num t, .num r, .num w, .num id, .num dt, .num dr, .num dw, .num l, .num s, .tru a], [.tru ok] => (ok = true ↔ RQ t r w id dt dr dw l s)
  | _, _ => False
def Q27 : List DV → Prop
  | [.num t, .num r, .num w, .num id, .num dt, .num dr, .num dw, .num l, .num s, .tru a] => U64 t ∧ U32 r ∧ U32 w ∧ U64 dt ∧ U32 dr ∧ U32 dw ∧ U64 l
  | _ => False
def C27 : Con := ⟨27, [(.agg [.int .u64, .int .u32, .int .u32, .int .i64, .int .u64, .int .u32, .int .u32, .int .u64, .int .u64, .bool])], (.p (.one .bool)), false, true⟩
/-- turnstone/turnstoneref15.Set -/
def R31 : List DV → List DV → Prop
  | [.num t, .num r, .num w, .num id, .num dt, .num dr, .num dw, .num l, .num s, .tru a], [.num t2, .num r2, .num w2, .num id2, .num dt2, .num dr2, .num dw2, .num l2, .num s2, .tru a2, .tru ok] => ((ok = true ↔ PR r w ∧ 0 < id ∧ NS l ∧ NS s) ∧ (ok = true → t2 = t ∧ r2 = r ∧ w2 = w ∧ id2 = id ∧ dt2 = mvt t r w l ∧ dr2 = mvr r w l ∧ dw2 = w ∧ l2 = l ∧ s2 = s ∧ a2 = a) ∧ (ok = false → t2 = 0 ∧ r2 = 0 ∧ w2 = 0 ∧ id2 = 0 ∧ dt2 = 0 ∧ dr2 = 0 ∧ dw2 = 0 ∧ l2 = 0 ∧ s2 = 0 ∧ a2 = false))
  | _, _ => False
def Q31 : List DV → Prop
  | [.num t, .num r, .num w, .num id, .num dt, .num dr, .num dw, .num l, .num s, .tru a] => U64 t ∧ U32 r ∧ U32 w ∧ U64 dt ∧ U32 dr ∧ U32 dw ∧ U64 l
  | _ => False
def C31 : Con := ⟨31, [(.agg [.int .u64, .int .u32, .int .u32, .int .i64, .int .u64, .int .u32, .int .u32, .int .u64, .int .u64, .bool])], (.tup [(.agg [.int .u64, .int .u32, .int .u32, .int .i64, .int .u64, .int .u32, .int .u32, .int .u64, .int .u64, .bool]), (.one .bool)]), false, true⟩
/-- turnstone/turnstoneref15.New -/
def R23 : List DV → List DV → Prop
  | [.num t, .num r, .num w, .num id, .num s], [.num t2, .num r2, .num w2, .num id2, .num dt2, .num dr2, .num dw2, .num l2, .num s2, .tru a2, .tru ok] => ((ok = true ↔ PR r w ∧ 0 < id ∧ NS s) ∧ (ok = true → t2 = t ∧ r2 = r ∧ w2 = w ∧ id2 = id ∧ dt2 = mvt t r w s ∧ dr2 = mvr r w s ∧ dw2 = w ∧ l2 = s ∧ s2 = s ∧ a2 = false) ∧ (ok = false → t2 = 0 ∧ r2 = 0 ∧ w2 = 0 ∧ id2 = 0 ∧ dt2 = 0 ∧ dr2 = 0 ∧ dw2 = 0 ∧ l2 = 0 ∧ s2 = 0 ∧ a2 = false))
  | _, _ => False
def Q23 : List DV → Prop
  | [.num t, .num r, .num w, .num id, .num s] => U64 t ∧ U32 r ∧ U32 w ∧ U64 s
  | _ => False
def C23 : Con := ⟨23, [(.agg [.int .u64, .int .u32, .int .u32]), (.one (.int .i64)), (.one (.int .u64))], (.tup [(.agg [.int .u64, .int .u32, .int .u32, .int .i64, .int .u64, .int .u32, .int .u32, .int .u64, .int .u64, .bool]), (.one .bool)]), false, true⟩
/-- turnstone/turnstoneref15.Moved -/
def R25 : List DV → List DV → Prop
  | [.num t, .num r, .num w, .num id, .num dt, .num dr, .num dw, .num l, .num s, .tru a, .num u, .num q, .num v], [.num t2, .num r2, .num w2, .num id2, .num dt2, .num dr2, .num dw2, .num l2, .num s2, .tru a2, .tru ok] => ((ok = true ↔ RQ t r w id dt dr dw l s ∧ PR q v) ∧ (ok = true → t2 = u ∧ r2 = q ∧ w2 = v ∧ id2 = id ∧ dt2 = mvt u q v l ∧ dr2 = mvr q v l ∧ dw2 = v ∧ l2 = l ∧ s2 = s ∧ a2 = a) ∧ (ok = false → t2 = 0 ∧ r2 = 0 ∧ w2 = 0 ∧ id2 = 0 ∧ dt2 = 0 ∧ dr2 = 0 ∧ dw2 = 0 ∧ l2 = 0 ∧ s2 = 0 ∧ a2 = false))
  | _, _ => False
def Q25 : List DV → Prop
  | [.num t, .num r, .num w, .num id, .num dt, .num dr, .num dw, .num l, .num s, .tru a, .num u, .num q, .num v] => U64 t ∧ U32 r ∧ U32 w ∧ U64 dt ∧ U32 dr ∧ U32 dw ∧ U64 u ∧ U32 q ∧ U32 v ∧ U64 l
  | _ => False
def C25 : Con := ⟨25, [(.agg [.int .u64, .int .u32, .int .u32, .int .i64, .int .u64, .int .u32, .int .u32, .int .u64, .int .u64, .bool]), (.agg [.int .u64, .int .u32, .int .u32])], (.tup [(.agg [.int .u64, .int .u32, .int .u32, .int .i64, .int .u64, .int .u32, .int .u32, .int .u64, .int .u64, .bool]), (.one .bool)]), false, true⟩
/-- turnstone/turnstoneref15.Sliced -/
def R26 : List DV → List DV → Prop
  | [.num t, .num r, .num w, .num id, .num dt, .num dr, .num dw, .num l, .num s, .tru a, .num y], [.num t2, .num r2, .num w2, .num id2, .num dt2, .num dr2, .num dw2, .num l2, .num s2, .tru a2, .tru ok] => ((ok = true ↔ RQ t r w id dt dr dw l s ∧ NS y) ∧ (ok = true → t2 = t ∧ r2 = r ∧ w2 = w ∧ id2 = id ∧ dt2 = dt ∧ dr2 = dr ∧ dw2 = dw ∧ l2 = l ∧ s2 = y ∧ a2 = a) ∧ (ok = false → t2 = 0 ∧ r2 = 0 ∧ w2 = 0 ∧ id2 = 0 ∧ dt2 = 0 ∧ dr2 = 0 ∧ dw2 = 0 ∧ l2 = 0 ∧ s2 = 0 ∧ a2 = false))
  | _, _ => False
def Q26 : List DV → Prop
  | [.num t, .num r, .num w, .num id, .num dt, .num dr, .num dw, .num l, .num s, .tru a, .num y] => U64 t ∧ U32 r ∧ U32 w ∧ U64 dt ∧ U32 dr ∧ U32 dw ∧ U64 l
  | _ => False
def C26 : Con := ⟨26, [(.agg [.int .u64, .int .u32, .int .u32, .int .i64, .int .u64, .int .u32, .int .u32, .int .u64, .int .u64, .bool]), (.one (.int .u64))], (.tup [(.agg [.int .u64, .int .u32, .int .u32, .int .i64, .int .u64, .int .u32, .int .u32, .int .u64, .int .u64, .bool]), (.one .bool)]), false, true⟩
/-- turnstone/turnstoneref15.Serve -/
def R11 : List DV → List DV → Prop
  | [.num t, .num r, .num w, .num id, .num dt, .num dr, .num dw, .num l, .num s, .tru a, .num x], [.num t2, .num r2, .num w2, .num id2, .num dt2, .num dr2, .num dw2, .num l2, .num s2, .tru a2, .tru rn, .tru ok] => (SRV t r w id dt dr dw l s a x t2 r2 w2 id2 dt2 dr2 dw2 l2 s2 a2 rn ok)
  | _, _ => False
def Q11 : List DV → Prop
  | [.num t, .num r, .num w, .num id, .num dt, .num dr, .num dw, .num l, .num s, .tru a, .num x] => U64 t ∧ U32 r ∧ U32 w ∧ U64 dt ∧ U32 dr ∧ U32 dw ∧ U64 x ∧ U64 l
  | _ => False
def C11 : Con := ⟨11, [(.agg [.int .u64, .int .u32, .int .u32, .int .i64, .int .u64, .int .u32, .int .u32, .int .u64, .int .u64, .bool]), (.one (.int .u64))], (.tup [(.agg [.int .u64, .int .u32, .int .u32, .int .i64, .int .u64, .int .u32, .int .u32, .int .u64, .int .u64, .bool]), (.one .bool), (.one .bool)]), false, true⟩
/-- turnstone/turnstoneref15.Served -/
def R14 : List DV → List DV → Prop
  | [.num t, .num r, .num w, .num id, .num dt, .num dr, .num dw, .num l, .num s, .tru a, .lst xs], [.num t2, .num r2, .num w2, .num id2, .num dt2, .num dr2, .num dw2, .num l2, .num s2, .tru a2, .num n, .tru ok] => (SVD t r w id dt dr dw l s a xs t2 r2 w2 id2 dt2 dr2 dw2 l2 s2 a2 n ok)
  | _, _ => False
def Q14 : List DV → Prop
  | [.num t, .num r, .num w, .num id, .num dt, .num dr, .num dw, .num l, .num s, .tru a, .lst xs] => U64 t ∧ U32 r ∧ U32 w ∧ U64 dt ∧ U32 dr ∧ U32 dw ∧ U64 l ∧ U64 s ∧ RU xs ∧ (xs.length : Int) ≤ 1000
  | _ => False
def C14 : Con := ⟨14, [(.agg [.int .u64, .int .u32, .int .u32, .int .i64, .int .u64, .int .u32, .int .u32, .int .u64, .int .u64, .bool]), (.one (.list [.int .u64]))], (.tup [(.agg [.int .u64, .int .u32, .int .u32, .int .i64, .int .u64, .int .u32, .int .u32, .int .u64, .int .u64, .bool]), (.one (.int .i64)), (.one .bool)]), false, true⟩
def R101403 : List DV → List DV → Prop
  | [.lst xs, .num t0, .num r0, .num w0, .num id0, .num dt0, .num dr0, .num dw0, .num l0, .num s0, .tru a0, .num n0, .num i0], [.num t, .num r, .num w, .num id, .num dt, .num dr, .num dw, .num l, .num s, .tru a, .num n, .num i] => (0 ≤ i ∧ i ≤ xs.length ∧ SVI t0 r0 w0 id0 dt0 dr0 dw0 l0 s0 a0 xs t r w id dt dr dw l s a n i.toNat)
  | _, _ => False
def M101403 : List DV → List DV → Nat
  | [.lst xs, .num t0, .num r0, .num w0, .num id0, .num dt0, .num dr0, .num dw0, .num l0, .num s0, .tru a0, .num n0, .num i0], [.num t, .num r, .num w, .num id, .num dt, .num dr, .num dw, .num l, .num s, .tru a, .num n, .num i] => ((xs.length - i).toNat)
  | _, _ => 0
def L101403 : FuncId × LCon := (14, ⟨3, 101403, [⟨false, 0, 0, (.int .u64), .gone⟩, ⟨false, 0, 1, (.int .u32), .gone⟩, ⟨false, 0, 2, (.int .u32), .gone⟩, ⟨false, 0, 3, (.int .i64), .gone⟩, ⟨false, 0, 4, (.int .u64), .gone⟩, ⟨false, 0, 5, (.int .u32), .gone⟩, ⟨false, 0, 6, (.int .u32), .gone⟩, ⟨false, 0, 7, (.int .u64), .gone⟩, ⟨false, 0, 8, (.int .u64), .gone⟩, ⟨false, 0, 9, .bool, .gone⟩, ⟨true, 7, 0, (.int .i64), .gone⟩, ⟨true, 15, 0, (.int .i64), .gone⟩], [(true, 1, 0)]⟩)
/-- turnstone/turnstonelaw15.Of -/
def R12 : List DV → List DV → Prop
  | [.num t, .num r, .num w, .num id, .num dt, .num dr, .num dw, .num l, .num s, .tru a], [.num t2, .num r2, .num w2, .num id2, .num dt2, .num dr2, .num dw2, .num l2, .num s2, .tru a2] => (t2 = t ∧ r2 = r ∧ w2 = w ∧ id2 = id ∧ dt2 = dt ∧ dr2 = dr ∧ dw2 = dw ∧ l2 = l ∧ s2 = s ∧ a2 = a)
  | _, _ => False
def Q12 : List DV → Prop
  | [.num t, .num r, .num w, .num id, .num dt, .num dr, .num dw, .num l, .num s, .tru a] => U64 t ∧ U32 r ∧ U32 w ∧ U64 dt ∧ U32 dr ∧ U32 dw
  | _ => False
def C12 : Con := ⟨12, [(.agg [.int .u64, .int .u32, .int .u32, .int .i64, .int .u64, .int .u32, .int .u32, .int .u64, .int .u64, .bool])], (.p (.agg [.int .u64, .int .u32, .int .u32, .int .i64, .int .u64, .int .u32, .int .u32, .int .u64, .int .u64, .bool])), false, true⟩
/-- turnstone/turnstonelaw15.ReqServes -/
def R3 : List DV → List DV → Prop
  | [.num t, .num r, .num w, .num id, .num dt, .num dr, .num dw, .num l, .num s, .tru a, .num x, .lst xs], [.tru ok] => (ok = true)
  | _, _ => False
def Q3 : List DV → Prop
  | [.num t, .num r, .num w, .num id, .num dt, .num dr, .num dw, .num l, .num s, .tru a, .num x, .lst xs] => U64 t ∧ U32 r ∧ U32 w ∧ U64 dt ∧ U32 dr ∧ U32 dw ∧ U64 l ∧ U64 s ∧ U64 x ∧ RU xs
  | _ => False
def C3 : Con := ⟨3, [(.agg [.int .u64, .int .u32, .int .u32, .int .i64, .int .u64, .int .u32, .int .u32, .int .u64, .int .u64, .bool]), (.one (.int .u64)), (.one (.list [.int .u64]))], (.p (.one .bool)), false, true⟩
/-- turnstone/turnstonelaw15.ReqMakes -/
def R8 : List DV → List DV → Prop
  | [.num t, .num r, .num w, .num id, .num y, .num t2, .num r2, .num w2, .num id2, .num dt, .num dr, .num dw, .num l, .num s, .tru a], [.tru ok] => (ok = true)
  | _, _ => False
def Q8 : List DV → Prop
  | [.num t, .num r, .num w, .num id, .num y, .num t2, .num r2, .num w2, .num id2, .num dt, .num dr, .num dw, .num l, .num s, .tru a] => U64 t ∧ U32 r ∧ U32 w ∧ U64 y ∧ U64 t2 ∧ U32 r2 ∧ U32 w2 ∧ U64 dt ∧ U32 dr ∧ U32 dw ∧ U64 l ∧ U64 s
  | _ => False
def C8 : Con := ⟨8, [(.agg [.int .u64, .int .u32, .int .u32]), (.one (.int .i64)), (.one (.int .u64)), (.agg [.int .u64, .int .u32, .int .u32, .int .i64, .int .u64, .int .u32, .int .u32, .int .u64, .int .u64, .bool])], (.p (.one .bool)), false, true⟩
/-- turnstone/turnstonelaw15.ReqMoves -/
def R7 : List DV → List DV → Prop
  | [.num t, .num r, .num w, .num u, .num q, .num v, .num s, .num y], [.tru ok] => (ok = true)
  | _, _ => False
def Q7 : List DV → Prop
  | [.num t, .num r, .num w, .num u, .num q, .num v, .num s, .num y] => U64 t ∧ U32 r ∧ U32 w ∧ U64 u ∧ U32 q ∧ U32 v ∧ U64 s ∧ U64 y
  | _ => False
def C7 : Con := ⟨7, [(.agg [.int .u64, .int .u32, .int .u32]), (.agg [.int .u64, .int .u32, .int .u32]), (.one (.int .u64)), (.one (.int .u64))], (.p (.one .bool)), false, true⟩
/-- turnstone/turnstonelaw15.ReqParts -/
def R6 : List DV → List DV → Prop
  | [.num t, .num r, .num w, .num s, .num nx, .num x, .num y], [.tru ok] => (ok = true)
  | _, _ => False
def Q6 : List DV → Prop
  | [.num t, .num r, .num w, .num s, .num nx, .num x, .num y] => U64 t ∧ U32 r ∧ U32 w ∧ U64 s ∧ U64 nx ∧ U64 x ∧ U64 y
  | _ => False
def C6 : Con := ⟨6, [(.agg [.int .u64, .int .u32, .int .u32]), (.one (.int .u64)), (.one (.int .u64)), (.one (.int .u64)), (.one (.int .u64))], (.p (.one .bool)), false, true⟩
/-- turnstone/turnstonelaw15.ReqShifts -/
def R5 : List DV → List DV → Prop
  | [.num t, .num r, .num w, .num s, .num y, .lst xs], [.tru ok] => (ok = true)
  | _, _ => False
def Q5 : List DV → Prop
  | [.num t, .num r, .num w, .num s, .num y, .lst xs] => U64 t ∧ U32 r ∧ U32 w ∧ U64 s ∧ U64 y ∧ RU xs
  | _ => False
def C5 : Con := ⟨5, [(.agg [.int .u64, .int .u32, .int .u32]), (.one (.int .u64)), (.one (.int .u64)), (.one (.list [.int .u64]))], (.p (.one .bool)), false, true⟩
/-- turnstone/turnstonelaw15.ReqDue -/
def R4 : List DV → List DV → Prop
  | [.num t, .num r, .num w, .num s, .lst xs], [.tru ok] => (ok = true)
  | _, _ => False
def Q4 : List DV → Prop
  | [.num t, .num r, .num w, .num s, .lst xs] => U64 t ∧ U32 r ∧ U32 w ∧ U64 s ∧ RU xs
  | _ => False
def C4 : Con := ⟨4, [(.agg [.int .u64, .int .u32, .int .u32]), (.one (.int .u64)), (.one (.list [.int .u64]))], (.p (.one .bool)), false, true⟩
def R100410 : List DV → List DV → Prop
  | [.num t, .num r, .num w, .num s, .lst xs, .num u0, .num q0, .num v0, .num id0, .num dt0, .num dr0, .num dw0, .num l0, .num z0, .tru a0, .num y0, .num i0], [.num u, .num q, .num v, .num id, .num dt, .num dr, .num dw, .num l, .num z, .tru a, .num y, .num i] => (0 ≤ i ∧ i ≤ xs.length ∧ RQ u q v id dt dr dw l z ∧ id = 7 ∧ v = w ∧ z = s ∧ a = false ∧ l ≤ s ∧ 0 ≤ y ∧ y ≤ i * 1073741824 ∧ u = mvt t r w y ∧ q = mvr r w y)
  | _, _ => False
def M100410 : List DV → List DV → Nat
  | [.num t, .num r, .num w, .num s, .lst xs, .num u0, .num q0, .num v0, .num id0, .num dt0, .num dr0, .num dw0, .num l0, .num z0, .tru a0, .num y0, .num i0], [.num u, .num q, .num v, .num id, .num dt, .num dr, .num dw, .num l, .num z, .tru a, .num y, .num i] => ((xs.length - i).toNat)
  | _, _ => 0
def L100410 : FuncId × LCon := (4, ⟨10, 100410, [⟨false, 26, 0, (.int .u64), .gone⟩, ⟨false, 26, 1, (.int .u32), .gone⟩, ⟨false, 26, 2, (.int .u32), .gone⟩, ⟨false, 26, 3, (.int .i64), .gone⟩, ⟨false, 26, 4, (.int .u64), .gone⟩, ⟨false, 26, 5, (.int .u32), .gone⟩, ⟨false, 26, 6, (.int .u32), .gone⟩, ⟨false, 26, 7, (.int .u64), .gone⟩, ⟨false, 26, 8, (.int .u64), .gone⟩, ⟨false, 26, 9, .bool, .gone⟩, ⟨true, 9, 0, (.int .u64), .gone⟩, ⟨true, 45, 0, (.int .i64), .gone⟩], [(false, 0, 0), (false, 0, 1), (false, 0, 2), (true, 1, 0), (true, 2, 0)]⟩)
def Tr_ : Nat → List DV → List DV → Prop
  | 33 => R33
  | 15 => R15
  | 47 => R47
  | 90 => R90
  | 34 => R34
  | 74 => R74
  | 73 => R73
  | 35 => R35
  | 118 => R118
  | 71 => R71
  | 128 => R128
  | 49 => R49
  | 107 => R107
  | 89 => R89
  | 127 => R127
  | 117 => R117
  | 119 => R119
  | 103 => R103
  | 146 => R146
  | 72 => R72
  | 107217 => R107217
  | 107224 => R107224
  | 48 => R48
  | 50 => R50
  | 51 => R51
  | 19 => R19
  | 115 => R115
  | 36 => R36
  | 17 => R17
  | 108 => R108
  | 112 => R112
  | 100 => R100
  | 116 => R116
  | 96 => R96
  | 102 => R102
  | 84 => R84
  | 87 => R87
  | 151 => R151
  | 144 => R144
  | 143 => R143
  | 114303 => R114303
  | 70 => R70
  | 68 => R68
  | 106802 => R106802
  | 67 => R67
  | 106704 => R106704
  | 69 => R69
  | 106904 => R106904
  | 66 => R66
  | 106601 => R106601
  | 45 => R45
  | 104502 => R104502
  | 77 => R77
  | 76 => R76
  | 44 => R44
  | 75 => R75
  | 54 => R54
  | 55 => R55
  | 46 => R46
  | 104603 => R104603
  | 104607 => R104607
  | 62 => R62
  | 106204 => R106204
  | 56 => R56
  | 105603 => R105603
  | 63 => R63
  | 52 => R52
  | 53 => R53
  | 24 => R24
  | 129 => R129
  | 64 => R64
  | 106403 => R106403
  | 43 => R43
  | 65 => R65
  | 106502 => R106502
  | 106504 => R106504
  | 148 => R148
  | 113 => R113
  | 111302 => R111302
  | 98 => R98
  | 109803 => R109803
  | 81 => R81
  | 106 => R106
  | 37 => R37
  | 173 => R173
  | 117304 => R117304
  | 32 => R32
  | 20 => R20
  | 40 => R40
  | 92 => R92
  | 125 => R125
  | 38 => R38
  | 39 => R39
  | 18 => R18
  | 29 => R29
  | 16 => R16
  | 22 => R22
  | 21 => R21
  | 10 => R10
  | 13 => R13
  | 101303 => R101303
  | 41 => R41
  | 30 => R30
  | 27 => R27
  | 31 => R31
  | 23 => R23
  | 25 => R25
  | 26 => R26
  | 11 => R11
  | 14 => R14
  | 101403 => R101403
  | 12 => R12
  | 3 => R3
  | 8 => R8
  | 7 => R7
  | 6 => R6
  | 5 => R5
  | 4 => R4
  | 100410 => R100410
  | _ => fun _ _ => True
def Tp_ : Nat → List DV → Prop
  | 47 => Q47
  | 90 => Q90
  | 74 => Q74
  | 73 => Q73
  | 35 => Q35
  | 118 => Q118
  | 71 => Q71
  | 128 => Q128
  | 49 => Q49
  | 107 => Q107
  | 89 => Q89
  | 127 => Q127
  | 117 => Q117
  | 119 => Q119
  | 103 => Q103
  | 146 => Q146
  | 72 => Q72
  | 48 => Q48
  | 115 => Q115
  | 36 => Q36
  | 17 => Q17
  | 108 => Q108
  | 112 => Q112
  | 100 => Q100
  | 116 => Q116
  | 96 => Q96
  | 102 => Q102
  | 84 => Q84
  | 87 => Q87
  | 151 => Q151
  | 144 => Q144
  | 143 => Q143
  | 70 => Q70
  | 68 => Q68
  | 67 => Q67
  | 69 => Q69
  | 66 => Q66
  | 45 => Q45
  | 77 => Q77
  | 76 => Q76
  | 44 => Q44
  | 75 => Q75
  | 54 => Q54
  | 55 => Q55
  | 46 => Q46
  | 62 => Q62
  | 56 => Q56
  | 63 => Q63
  | 52 => Q52
  | 24 => Q24
  | 129 => Q129
  | 64 => Q64
  | 43 => Q43
  | 65 => Q65
  | 148 => Q148
  | 98 => Q98
  | 81 => Q81
  | 106 => Q106
  | 37 => Q37
  | 32 => Q32
  | 40 => Q40
  | 92 => Q92
  | 125 => Q125
  | 39 => Q39
  | 18 => Q18
  | 29 => Q29
  | 16 => Q16
  | 22 => Q22
  | 21 => Q21
  | 10 => Q10
  | 13 => Q13
  | 30 => Q30
  | 27 => Q27
  | 31 => Q31
  | 23 => Q23
  | 25 => Q25
  | 26 => Q26
  | 11 => Q11
  | 14 => Q14
  | 12 => Q12
  | 3 => Q3
  | 8 => Q8
  | 7 => Q7
  | 6 => Q6
  | 5 => Q5
  | 4 => Q4
  | _ => fun _ => True
def Tm_ : Nat → List DV → List DV → Nat
  | 107217 => M107217
  | 107224 => M107224
  | 114303 => M114303
  | 106802 => M106802
  | 106704 => M106704
  | 106904 => M106904
  | 106601 => M106601
  | 104502 => M104502
  | 104603 => M104603
  | 104607 => M104607
  | 106204 => M106204
  | 105603 => M105603
  | 106403 => M106403
  | 106502 => M106502
  | 106504 => M106504
  | 111302 => M111302
  | 109803 => M109803
  | 117304 => M117304
  | 101303 => M101303
  | 101403 => M101403
  | 100410 => M100410
  | _ => fun _ _ => 0
def T : Tab := ⟨Tr_, Tp_, Tm_⟩
end Go.Proofs.YtjemohphaeiaiaaGreatDoor.Fn
