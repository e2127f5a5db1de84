/- What is told of each function: what holds between what it takes and what it yields. -/
import Derived.Test.YtkepkjahbcddlaaSyTree
import Derived.Test.YtkepkjahbcddlaaProg
import Derived.Laws.Externs
import Derived.Lib.BitFns
import Derived.Test.YtkepkjahbcddlaaWords
import Derived.Test.YtkepkjahbcddlaaWords2
import Derived.Test.YtkepkjahbcddlaaWords3
import Derived.Test.YtkepkjahbcddlaaWords4
import Derived.Test.YtkepkjahbcddlaaWords5
import Derived.Test.YtkepkjahbcddlaaWords6
import Derived.Test.YtkepkjahbcddlaaWords7
import Derived.Test.YtkepkjahbcddlaaWords8
import Derived.Test.YtkepkjahbcddlaaWords9
namespace Go.Proofs.Ytkepkjahbcddlaa.Fn
open Go Go.RowKit Go.Proofs.Ytkepkjahbcddlaa.Sy
set_option linter.unusedVariables false
/-- turnstone/pos.weight -/
def R50 : List DV → List DV → Prop
  | [.num w], [.tru ok] => (ok = true ↔ 1 ≤ w ∧ w ≤ 1048576)
  | _, _ => False
def C50 : Con := ⟨50, [(.one (.int .u32))], (.p (.one .bool)), true, true⟩
/-- (turnstone/pos.Pos).Right -/
def R36 : List DV → List DV → Prop
  | [.num t, .num r, .num w], [.tru ok] => (ok = true ↔ 1 ≤ w ∧ w ≤ 1048576 ∧ r < w)
  | _, _ => False
def C36 : Con := ⟨36, [(.agg [.int .u64, .int .u32, .int .u32])], (.p (.one .bool)), true, true⟩
/-- math/bits.Add64 -/
def R82 : List DV → List DV → Prop
  | [.num a, .num b, .num c], [.num lo, .num hi] => (lo = (a + b + c) % 18446744073709551616 ∧ hi = (a + b + c) / 18446744073709551616)
  | _, _ => False
def Q82 : List DV → Prop
  | [.num a, .num b, .num c] => U64 a ∧ U64 b ∧ 0 ≤ c ∧ c ≤ 1
  | _ => False
def C82 : Con := ⟨82, [(.one (.int .u64)), (.one (.int .u64)), (.one (.int .u64))], (.tup [(.one (.int .u64)), (.one (.int .u64))]), false, true⟩
/-- math/bits.Sub64 -/
def R96 : List DV → List DV → Prop
  | [.num a, .num b, .num c], [.num lo, .num hi] => (lo = (a - b - c) % 18446744073709551616 ∧ (a < b + c → hi = 1) ∧ (b + c ≤ a → hi = 0))
  | _, _ => False
def Q96 : List DV → Prop
  | [.num a, .num b, .num c] => U64 a ∧ U64 b ∧ 0 ≤ c ∧ c ≤ 1
  | _ => False
def C96 : Con := ⟨96, [(.one (.int .u64)), (.one (.int .u64)), (.one (.int .u64))], (.tup [(.one (.int .u64)), (.one (.int .u64))]), false, true⟩
/-- turnstone/wide.OfU -/
def R72 : List DV → List DV → Prop
  | [.num x], [.num h, .num l] => (h = 0 ∧ l = x)
  | _, _ => False
def C72 : Con := ⟨72, [(.one (.int .u64))], (.p (.agg [.int .i64, .int .u64])), true, true⟩
/-- turnstone/wide.Of -/
def R92 : List DV → List DV → Prop
  | [.num x], [.num h, .num l] => (W h l ∧ wv h l = x)
  | _, _ => False
def Q92 : List DV → Prop
  | [.num x] => I64 x
  | _ => False
def C92 : Con := ⟨92, [(.one (.int .i64))], (.p (.agg [.int .i64, .int .u64])), false, true⟩
/-- (turnstone/wide.Int).flip -/
def R91 : List DV → List DV → Prop
  | [.num h, .num l], [.num g, .num m] => (W g m ∧ (h = -9223372036854775808 ∧ l = 0 → g = h ∧ m = l) ∧ (¬ (h = -9223372036854775808 ∧ l = 0) → wv g m = - wv h l))
  | _, _ => False
def Q91 : List DV → Prop
  | [.num h, .num l] => W h l
  | _ => False
def C91 : Con := ⟨91, [(.agg [.int .i64, .int .u64])], (.p (.agg [.int .i64, .int .u64])), false, true⟩
/-- (turnstone/wide.Int).Add -/
def R73 : List DV → List DV → Prop
  | [.num ah, .num al, .num bh, .num bl], [.num h, .num l, .tru ok] => (Told (wv ah al + wv bh bl) h l ok)
  | _, _ => False
def Q73 : List DV → Prop
  | [.num ah, .num al, .num bh, .num bl] => W ah al ∧ W bh bl
  | _ => False
def C73 : Con := ⟨73, [(.agg [.int .i64, .int .u64]), (.agg [.int .i64, .int .u64])], (.tup [(.agg [.int .i64, .int .u64]), (.one .bool)]), false, true⟩
/-- (turnstone/wide.Int).size -/
def R89 : List DV → List DV → Prop
  | [.num h, .num l], [.num u, .num v] => (U64 u ∧ U64 v ∧ (h < 0 → u * 18446744073709551616 + v = - wv h l) ∧ (0 ≤ h → u * 18446744073709551616 + v = wv h l))
  | _, _ => False
def Q89 : List DV → Prop
  | [.num h, .num l] => W h l
  | _ => False
def C89 : Con := ⟨89, [(.agg [.int .i64, .int .u64])], (.tup [(.one (.int .u64)), (.one (.int .u64))]), false, true⟩
/-- turnstone/wide.signed -/
def R99 : List DV → List DV → Prop
  | [.num hi, .num lo, .tru below], [.num h, .num l, .tru ok] => ((below = true → Told (-(hi * 18446744073709551616 + lo)) h l ok) ∧ (below = false → Told (hi * 18446744073709551616 + lo) h l ok))
  | _, _ => False
def Q99 : List DV → Prop
  | [.num hi, .num lo, .tru below] => U64 hi ∧ U64 lo
  | _ => False
def C99 : Con := ⟨99, [(.one (.int .u64)), (.one (.int .u64)), (.one .bool)], (.tup [(.agg [.int .i64, .int .u64]), (.one .bool)]), false, true⟩
/-- (turnstone/wide.Int).Small -/
def R84 : List DV → List DV → Prop
  | [.num h, .num l], [.num x, .tru ok] => (I64 x ∧ (ok = true → x = wv h l) ∧ (ok = false → x = 0 ∧ ¬ I64 (wv h l)))
  | _, _ => False
def Q84 : List DV → Prop
  | [.num h, .num l] => W h l
  | _ => False
def C84 : Con := ⟨84, [(.agg [.int .i64, .int .u64])], (.tup [(.one (.int .i64)), (.one .bool)]), false, true⟩
/-- math/bits.Len64 -/
def R98 : List DV → List DV → Prop
  | [.num x], [.num n] => (n = (Lib.bitLen x.toNat : Int))
  | _, _ => False
def Q98 : List DV → Prop
  | [.num x] => U64 x
  | _ => False
def C98 : Con := ⟨98, [(.one (.int .u64))], (.p (.one (.int .i64))), false, true⟩
/-- math/bits.LeadingZeros64 -/
def R95 : List DV → List DV → Prop
  | [.num x], [.num n] => (n = 64 - (Lib.bitLen x.toNat : Int))
  | _, _ => False
def Q95 : List DV → Prop
  | [.num x] => U64 x
  | _ => False
def C95 : Con := ⟨95, [(.one (.int .u64))], (.p (.one (.int .i64))), false, true⟩
/-- math/bits.Mul64 -/
def R93 : List DV → List DV → Prop
  | [.num x, .num y], [.num hi, .num lo] => (U64 hi ∧ U64 lo ∧ hi * 18446744073709551616 + lo = x * y)
  | _, _ => False
def Q93 : List DV → Prop
  | [.num x, .num y] => U64 x ∧ U64 y
  | _ => False
def C93 : Con := ⟨93, [(.one (.int .u64)), (.one (.int .u64))], (.tup [(.one (.int .u64)), (.one (.int .u64))]), false, true⟩
/-- (turnstone/wide.Int).Mul -/
def R97 : List DV → List DV → Prop
  | [.num h, .num l, .num b], [.num g, .num m, .tru ok] => (Told (wv h l * b) g m ok)
  | _, _ => False
def Q97 : List DV → Prop
  | [.num h, .num l, .num b] => W h l ∧ I64 b
  | _ => False
def C97 : Con := ⟨97, [(.agg [.int .i64, .int .u64]), (.one (.int .i64))], (.tup [(.agg [.int .i64, .int .u64]), (.one .bool)]), false, true⟩
/-- (turnstone/wide.Int).Sign -/
def R119 : List DV → List DV → Prop
  | [.num h, .num l], [.num c] => ((wv h l < 0 → c = -1) ∧ (wv h l = 0 → c = 0) ∧ (0 < wv h l → c = 1))
  | _, _ => False
def Q119 : List DV → Prop
  | [.num h, .num l] => W h l
  | _ => False
def C119 : Con := ⟨119, [(.agg [.int .i64, .int .u64])], (.p (.one (.int .i64))), false, true⟩
/-- math/bits.Div64 -/
def R90 : List DV → List DV → Prop
  | [.num hi, .num lo, .num y], [.num q, .num r] => (q = (hi * 18446744073709551616 + lo) / y ∧ r = (hi * 18446744073709551616 + lo) % y)
  | _, _ => False
def Q90 : List DV → Prop
  | [.num hi, .num lo, .num y] => U64 hi ∧ U64 lo ∧ U64 y ∧ hi < y
  | _ => False
def C90 : Con := ⟨90, [(.one (.int .u64)), (.one (.int .u64)), (.one (.int .u64))], (.tup [(.one (.int .u64)), (.one (.int .u64))]), false, true⟩
def R109017 : List DV → List DV → Prop
  | [.num a, .num b, .num u, .num v, .num q0, .num h0], [.num q, .num h] => (DInv a b u v q h)
  | _, _ => False
def M109017 : List DV → List DV → Nat
  | [.num a, .num b, .num u, .num v, .num q0, .num h0], [.num q, .num h] => ((4294967296 - h).toNat)
  | _, _ => 0
def L109017 : FuncId × LCon := (90, ⟨17, 109017, [⟨true, 15, 0, (.int .u64), .gone⟩, ⟨true, 16, 0, (.int .u64), .gone⟩], [(true, 9, 0), (true, 10, 0), (true, 11, 0), (true, 13, 0)]⟩)
def R109024 : List DV → List DV → Prop
  | [.num a, .num b, .num u, .num v, .num q0, .num h0], [.num q, .num h] => (DInv a b u v q h)
  | _, _ => False
def M109024 : List DV → List DV → Nat
  | [.num a, .num b, .num u, .num v, .num q0, .num h0], [.num q, .num h] => ((4294967296 - h).toNat)
  | _, _ => 0
def L109024 : FuncId × LCon := (90, ⟨24, 109024, [⟨true, 18, 0, (.int .u64), .gone⟩, ⟨true, 16, 0, (.int .u64), .gone⟩], [(true, 9, 0), (true, 10, 0), (true, 17, 0), (true, 14, 0)]⟩)
/-- (turnstone/wide.Int).Div -/
def R83 : List DV → List DV → Prop
  | [.num h, .num l, .num b], [.num g, .num m, .num r, .tru ok] => (W g m ∧ (ok = true ↔ b ≠ 0) ∧ (b = 0 → g = 0 ∧ m = 0 ∧ r = 0) ∧ (b ≠ 0 → wv g m = wv h l / b ∧ r = wv h l % b ∧ 0 ≤ r ∧ r < b))
  | _, _ => False
def Q83 : List DV → Prop
  | [.num h, .num l, .num b] => W h l ∧ U64 b
  | _ => False
def C83 : Con := ⟨83, [(.agg [.int .i64, .int .u64]), (.one (.int .u64))], (.tup [(.agg [.int .i64, .int .u64]), (.one (.int .u64)), (.one .bool)]), false, true⟩
/-- (turnstone/vtime.Time).Add -/
def R85 : List DV → List DV → Prop
  | [.num t, .num d], [.num r] => (r = (t + d) % 18446744073709551616)
  | _, _ => False
def C85 : Con := ⟨85, [(.one (.int .u64)), (.one (.int .i64))], (.p (.one (.int .u64))), true, true⟩
/-- (turnstone/vtime.Time).Since -/
def R23 : List DV → List DV → Prop
  | [.num t, .num u], [.num d] => (d = s64 (t - u))
  | _, _ => False
def C23 : Con := ⟨23, [(.one (.int .u64)), (.one (.int .u64))], (.p (.one (.int .i64))), true, true⟩
/-- (turnstone/pos.Pos).Shift -/
def R33 : List DV → List DV → Prop
  | [.num t, .num r, .num w, .num by_], [.num u, .num q, .num v] => (u = (t + by_) % 18446744073709551616 ∧ q = r ∧ v = w)
  | _, _ => False
def C33 : Con := ⟨33, [(.agg [.int .u64, .int .u32, .int .u32]), (.one (.int .u64))], (.p (.agg [.int .u64, .int .u32, .int .u32])), true, true⟩
/-- turnstone/pos.At -/
def R74 : List DV → List DV → Prop
  | [.num base, .num h, .num l, .num w], [.num t, .num r, .num v, .tru ok] => ((ok = true ↔ WT w ∧ I64 (wv h l / w)) ∧ (ok = true → t = (base + wv h l / w) % 18446744073709551616 ∧ r = wv h l % w ∧ 0 ≤ r ∧ r < w ∧ v = w) ∧ (ok = false → t = 0 ∧ r = 0 ∧ v = 0))
  | _, _ => False
def Q74 : List DV → Prop
  | [.num base, .num h, .num l, .num w] => W h l ∧ U32 w
  | _ => False
def C74 : Con := ⟨74, [(.one (.int .u64)), (.agg [.int .i64, .int .u64]), (.one (.int .u32))], (.tup [(.agg [.int .u64, .int .u32, .int .u32]), (.one .bool)]), false, true⟩
/-- (turnstone/pos.Pos).Move -/
def R68 : List DV → List DV → Prop
  | [.num t, .num r, .num w, .num g], [.num u, .num q, .num v, .tru ok] => ((ok = true ↔ WT w ∧ I64 ((g + r) / w)) ∧ (ok = true → u = (t + (g + r) / w) % 18446744073709551616 ∧ q = (g + r) % w ∧ 0 ≤ q ∧ q < w ∧ v = w) ∧ (ok = false → u = 0 ∧ q = 0 ∧ v = 0))
  | _, _ => False
def Q68 : List DV → Prop
  | [.num t, .num r, .num w, .num g] => U32 r ∧ U32 w ∧ U64 g
  | _ => False
def C68 : Con := ⟨68, [(.agg [.int .u64, .int .u32, .int .u32]), (.one (.int .u64))], (.tup [(.agg [.int .u64, .int .u32, .int .u32]), (.one .bool)]), false, true⟩
/-- (turnstone/pos.Pos).Cmp -/
def R30 : List DV → List DV → Prop
  | [.num t, .num r, .num w, .num u, .num q, .num v], [.num c] => ((0 < s64 (u - t) → c = -1) ∧ (s64 (u - t) < 0 → c = 1) ∧ (s64 (u - t) = 0 → (r * v < q * w → c = -1) ∧ (r * v = q * w → c = 0) ∧ (q * w < r * v → c = 1)))
  | _, _ => False
def Q30 : List DV → Prop
  | [.num t, .num r, .num w, .num u, .num q, .num v] => U32 r ∧ U32 w ∧ U32 q ∧ U32 v
  | _ => False
def C30 : Con := ⟨30, [(.agg [.int .u64, .int .u32, .int .u32]), (.agg [.int .u64, .int .u32, .int .u32])], (.p (.one (.int .i64))), false, true⟩
/-- (turnstone/item.Item).Right -/
def R24 : List DV → List DV → Prop
  | [.num t, .num r, .num w, .num id, .num dt, .num dr, .num dw], [.tru ok] => (ok = true ↔ PR r w ∧ PR dr dw ∧ w = dw ∧ 0 < id ∧ 0 ≤ s64 (dt - t) ∧ s64 (dt - t) ≤ 1152921504606846976)
  | _, _ => False
def Q24 : List DV → Prop
  | [.num t, .num r, .num w, .num id, .num dt, .num dr, .num dw] => U64 t ∧ U32 r ∧ U32 w ∧ U64 dt ∧ U32 dr ∧ U32 dw
  | _ => False
def C24 : Con := ⟨24, [(.agg [.int .u64, .int .u32, .int .u32, .int .i64, .int .u64, .int .u32, .int .u32])], (.p (.one .bool)), false, true⟩
/-- slices.Equal[[]int,int] -/
def R47 : List DV → List DV → Prop
  | [.lst a, .lst c], [.tru ok] => (ok = true ↔ a.length = c.length ∧ ∀ j : Nat, j < a.length → Sy.rowAt a j 0 = Sy.rowAt c j 0)
  | _, _ => False
def C47 : Con := ⟨47, [(.one (.list [.int .i64])), (.one (.list [.int .i64]))], (.p (.one .bool)), true, true⟩
def R104704 : List DV → List DV → Prop
  | [.lst a, .lst c, .num i0], [.num i] => (0 ≤ i ∧ i ≤ a.length ∧ ∀ j : Nat, (j : Int) < i → Sy.rowAt a j 0 = Sy.rowAt c j 0)
  | _, _ => False
def M104704 : List DV → List DV → Nat
  | [.lst a, .lst c, .num i0], [.num i] => ((a.length - i).toNat)
  | _, _ => 0
def L104704 : FuncId × LCon := (47, ⟨4, 104704, [⟨true, 13, 0, (.int .i64), .gone⟩], [(true, 0, 0), (true, 1, 0)]⟩)
/-- (turnstone/item.Item).Shift -/
def R17 : List DV → List DV → Prop
  | [.num t, .num r, .num w, .num id, .num dt, .num dr, .num dw, .num y], [.num t2, .num r2, .num w2, .num id2, .num dt2, .num dr2, .num dw2] => (t2 = (t + y) % 18446744073709551616 ∧ r2 = r ∧ w2 = w ∧ id2 = id ∧ dt2 = (dt + y) % 18446744073709551616 ∧ dr2 = dr ∧ dw2 = dw)
  | _, _ => False
def C17 : Con := ⟨17, [(.agg [.int .u64, .int .u32, .int .u32, .int .i64, .int .u64, .int .u32, .int .u32]), (.one (.int .u64))], (.p (.agg [.int .u64, .int .u32, .int .u32, .int .i64, .int .u64, .int .u32, .int .u32])), true, true⟩
/-- (turnstone/item.Item).Ahead -/
def R10 : List DV → List DV → Prop
  | [.num t, .num r, .num w, .num i, .num dt, .num dr, .num dw, .num u, .num q, .num v, .num j, .num du, .num dq, .num dv], [.tru ok] => (ok = true ↔ AHI t r w i u q v j)
  | _, _ => False
def Q10 : List DV → Prop
  | [.num t, .num r, .num w, .num i, .num dt, .num dr, .num dw, .num u, .num q, .num v, .num j, .num du, .num dq, .num dv] => U32 r ∧ U32 w ∧ U32 q ∧ U32 v
  | _ => False
def C10 : Con := ⟨10, [(.agg [.int .u64, .int .u32, .int .u32, .int .i64, .int .u64, .int .u32, .int .u32]), (.agg [.int .u64, .int .u32, .int .u32, .int .i64, .int .u64, .int .u32, .int .u32])], (.p (.one .bool)), false, true⟩
/-- (turnstone/item.Item).Due -/
def R12 : List DV → List DV → Prop
  | [.num t, .num r, .num w, .num i, .num dt, .num dr, .num dw, .num u, .num q, .num v, .num j, .num du, .num dq, .num dv], [.tru ok] => (ok = true ↔ DUI t r w i dt dr dw u q v j du dq dv)
  | _, _ => False
def Q12 : List DV → Prop
  | [.num t, .num r, .num w, .num i, .num dt, .num dr, .num dw, .num u, .num q, .num v, .num j, .num du, .num dq, .num dv] => U32 r ∧ U32 w ∧ U32 q ∧ U32 v ∧ U32 dr ∧ U32 dw ∧ U32 dq ∧ U32 dv
  | _ => False
def C12 : Con := ⟨12, [(.agg [.int .u64, .int .u32, .int .u32, .int .i64, .int .u64, .int .u32, .int .u32]), (.agg [.int .u64, .int .u32, .int .u32, .int .i64, .int .u64, .int .u32, .int .u32])], (.p (.one .bool)), false, true⟩
/-- turnstone/item.Soonest -/
def R37 : List DV → List DV → Prop
  | [.num t, .num r, .num w, .num i, .num dt, .num dr, .num dw, .lst xs], [.num t2, .num r2, .num w2, .num i2, .num dt2, .num dr2, .num dw2] => ([t2, r2, w2, i2, dt2, dr2, dw2] = sn (rw7 xs) [t, r, w, i, dt, dr, dw] xs.length)
  | _, _ => False
def Q37 : List DV → Prop
  | [.num t, .num r, .num w, .num i, .num dt, .num dr, .num dw, .lst xs] => U64 t ∧ U32 r ∧ U32 w ∧ U64 dt ∧ U32 dr ∧ U32 dw ∧ RI xs
  | _ => False
def C37 : Con := ⟨37, [(.agg [.int .u64, .int .u32, .int .u32, .int .i64, .int .u64, .int .u32, .int .u32]), (.one (.list [.int .u64, .int .u32, .int .u32, .int .i64, .int .u64, .int .u32, .int .u32]))], (.p (.agg [.int .u64, .int .u32, .int .u32, .int .i64, .int .u64, .int .u32, .int .u32])), false, true⟩
def R103702 : List DV → List DV → Prop
  | [.lst xs, .num t0, .num r0, .num w0, .num i0, .num dt0, .num dr0, .num dw0, .num j0], [.num t, .num r, .num w, .num i, .num dt, .num dr, .num dw, .num j] => (0 ≤ j ∧ j ≤ xs.length ∧ [t, r, w, i, dt, dr, dw] = sn (rw7 xs) [t0, r0, w0, i0, dt0, dr0, dw0] j.toNat)
  | _, _ => False
def M103702 : List DV → List DV → Nat
  | [.lst xs, .num t0, .num r0, .num w0, .num i0, .num dt0, .num dr0, .num dw0, .num j0], [.num t, .num r, .num w, .num i, .num dt, .num dr, .num dw, .num j] => ((xs.length - j).toNat)
  | _, _ => 0
def L103702 : FuncId × LCon := (37, ⟨2, 103702, [⟨false, 0, 0, (.int .u64), .gone⟩, ⟨false, 0, 1, (.int .u32), .gone⟩, ⟨false, 0, 2, (.int .u32), .gone⟩, ⟨false, 0, 3, (.int .i64), .gone⟩, ⟨false, 0, 4, (.int .u64), .gone⟩, ⟨false, 0, 5, (.int .u32), .gone⟩, ⟨false, 0, 6, (.int .u32), .gone⟩, ⟨true, 9, 0, (.int .i64), .gone⟩], [(true, 1, 0)]⟩)
/-- turnstone/dtree.itself -/
def R26 : List DV → List DV → Prop
  | [.num t, .num r, .num w, .num i, .num dt, .num dr, .num dw], [.num t2, .num r2, .num w2, .num i2, .num dt2, .num dr2, .num dw2] => (t2 = t ∧ r2 = r ∧ w2 = w ∧ i2 = i ∧ dt2 = dt ∧ dr2 = dr ∧ dw2 = dw)
  | _, _ => False
def C26 : Con := ⟨26, [(.agg [.int .u64, .int .u32, .int .u32, .int .i64, .int .u64, .int .u32, .int .u32])], (.p (.agg [.int .u64, .int .u32, .int .u32, .int .i64, .int .u64, .int .u32, .int .u32])), true, true⟩
/-- turnstone/dtree.sooner -/
def R27 : List DV → List DV → Prop
  | [.num t, .num r, .num w, .num i, .num dt, .num dr, .num dw, .num u, .num q, .num v, .num j, .num du, .num dq, .num dv], [.num t2, .num r2, .num w2, .num i2, .num dt2, .num dr2, .num dw2] => ([t2, r2, w2, i2, dt2, dr2, dw2] = JN [t, r, w, i, dt, dr, dw] [u, q, v, j, du, dq, dv])
  | _, _ => False
def Q27 : List DV → Prop
  | [.num t, .num r, .num w, .num i, .num dt, .num dr, .num dw, .num u, .num q, .num v, .num j, .num du, .num dq, .num dv] => K7 [t, r, w, i, dt, dr, dw] ∧ K7 [u, q, v, j, du, dq, dv]
  | _ => False
def C27 : Con := ⟨27, [(.agg [.int .u64, .int .u32, .int .u32, .int .i64, .int .u64, .int .u32, .int .u32]), (.agg [.int .u64, .int .u32, .int .u32, .int .i64, .int .u64, .int .u32, .int .u32])], (.p (.agg [.int .u64, .int .u32, .int .u32, .int .i64, .int .u64, .int .u32, .int .u32])), false, true⟩
/-- (*turnstone/rbtree.node[turnstone/item.Item, turnstone/item.Item]).isRed -/
def R64 : List DV → List DV → Prop
  | [.obj n], [.tru c] => (c = (sh n).red)
  | _, _ => False
def C64 : Con := ⟨64, [(.one (.vw 0))], (.p (.one .bool)), true, true⟩
/-- (*turnstone/rbtree.Tree[turnstone/item.Item, turnstone/item.Item]).sum -/
def R63 : List DV → List DV → Prop
  | [_, .obj n], [.obj n1] => (sh n1 = (sh n).sum)
  | _, _ => False
def Q63 : List DV → Prop
  | [_, .obj n] => n.isLeaf = false ∧ (sh n).K
  | _ => False
def C63 : Con := ⟨63, [(.one (.fb [none, none, some 10, some 26, some 27])), (.one (.io 0))], (.tup []), false, true⟩
/-- (*turnstone/rbtree.Tree[turnstone/item.Item, turnstone/item.Item]).toLeft -/
def R65 : List DV → List DV → Prop
  | [_, .obj n], [.obj m] => (sh m = (sh n).toLeft)
  | _, _ => False
def Q65 : List DV → Prop
  | [_, .obj n] => n.isLeaf = false ∧ (n.kid true).isLeaf = false ∧ (sh n).K
  | _ => False
def C65 : Con := ⟨65, [(.one (.fb [none, none, some 10, some 26, some 27])), (.one (.obj 0))], (.p (.one (.obj 0))), false, true⟩
/-- (*turnstone/rbtree.Tree[turnstone/item.Item, turnstone/item.Item]).toRight -/
def R66 : List DV → List DV → Prop
  | [_, .obj n], [.obj m] => (sh m = (sh n).toRight)
  | _, _ => False
def Q66 : List DV → Prop
  | [_, .obj n] => n.isLeaf = false ∧ (n.kid false).isLeaf = false ∧ (sh n).K
  | _ => False
def C66 : Con := ⟨66, [(.one (.fb [none, none, some 10, some 26, some 27])), (.one (.obj 0))], (.p (.one (.obj 0))), false, true⟩
/-- (*turnstone/rbtree.node[turnstone/item.Item, turnstone/item.Item]).flip -/
def R67 : List DV → List DV → Prop
  | [.obj n], [.obj n1] => (sh n1 = (sh n).flip)
  | _, _ => False
def Q67 : List DV → Prop
  | [.obj n] => n.isLeaf = false ∧ (n.kid false).isLeaf = false ∧ (n.kid true).isLeaf = false
  | _ => False
def C67 : Con := ⟨67, [(.one (.io 0))], (.tup []), false, true⟩
/-- (*turnstone/rbtree.Tree[turnstone/item.Item, turnstone/item.Item]).mend -/
def R51 : List DV → List DV → Prop
  | [_, .obj n], [.obj m] => (sh m = (sh n).mend)
  | _, _ => False
def Q51 : List DV → Prop
  | [_, .obj n] => n.isLeaf = false ∧ (sh n).K
  | _ => False
def C51 : Con := ⟨51, [(.one (.fb [none, none, some 10, some 26, some 27])), (.one (.obj 0))], (.p (.one (.obj 0))), false, true⟩
/-- (*turnstone/rbtree.Tree[turnstone/item.Item, turnstone/item.Item]).insert -/
def R39 : List DV → List DV → Prop
  | [_, .obj n, .num x0, .num x1, .num x2, .num x3, .num x4, .num x5, .num x6], [.obj m] => (sh m = (sh n).ins [x0, x1, x2, x3, x4, x5, x6])
  | _, _ => False
def Q39 : List DV → Prop
  | [_, .obj n, .num x0, .num x1, .num x2, .num x3, .num x4, .num x5, .num x6] => (sh n).K ∧ K7 [x0, x1, x2, x3, x4, x5, x6]
  | _ => False
def C39 : Con := ⟨39, [(.one (.fb [none, none, some 10, some 26, some 27])), (.one (.obj 0)), (.agg [.int .u64, .int .u32, .int .u32, .int .i64, .int .u64, .int .u32, .int .u32])], (.p (.one (.obj 0))), false, true⟩
def S39 : List DV → Nat
  | [_, .obj n, .num x0, .num x1, .num x2, .num x3, .num x4, .num x5, .num x6] => (sh n).size
  | _ => 0
/-- (*turnstone/rbtree.node[turnstone/item.Item, turnstone/item.Item]).walk -/
def R31 : List DV → List DV → Prop
  | [.obj n, .lst l], [.lst m] => (m = l ++ (sh n).ord)
  | _, _ => False
def Q31 : List DV → Prop
  | [.obj n, .lst l] => l.length + (sh n).size ≤ 1000000
  | _ => False
def C31 : Con := ⟨31, [(.one (.vw 0)), (.one (.own [.int .u64, .int .u32, .int .u32, .int .i64, .int .u64, .int .u32, .int .u32] 29))], (.p (.one (.own [.int .u64, .int .u32, .int .u32, .int .i64, .int .u64, .int .u32, .int .u32] 29))), false, true⟩
def S31 : List DV → Nat
  | [.obj n, .lst l] => (sh n).size
  | _ => 0
/-- turnstone/rbtree.New[turnstone/item.Item,turnstone/item.Item] -/
def R25 : List DV → List DV → Prop
  | [_, _, _], [.obj t] => (t.isLeaf = false ∧ t.num 0 = 0 ∧ t.kid false = .leaf)
  | _, _ => False
def C25 : Con := ⟨25, [(.one (.fn 10)), (.one (.fn 26)), (.one (.fn 27))], (.p (.one (.obj 1))), true, true⟩
/-- (*turnstone/rbtree.Tree[turnstone/item.Item, turnstone/item.Item]).Len -/
def R18 : List DV → List DV → Prop
  | [.obj t], [.num n] => (n = t.num 0)
  | _, _ => False
def C18 : Con := ⟨18, [(.one (.vw 1))], (.p (.one (.int .i64))), true, true⟩
/-- (*turnstone/rbtree.Tree[turnstone/item.Item, turnstone/item.Item]).All -/
def R11 : List DV → List DV → Prop
  | [.obj t], [.lst l] => (l = (sh (t.kid false)).ord)
  | _, _ => False
def Q11 : List DV → Prop
  | [.obj t] => (sh (t.kid false)).size ≤ 1000000
  | _ => False
def C11 : Con := ⟨11, [(.one (.vw 1))], (.p (.one (.list [.int .u64, .int .u32, .int .u32, .int .i64, .int .u64, .int .u32, .int .u32]))), false, true⟩
/-- (*turnstone/rbtree.Tree[turnstone/item.Item, turnstone/item.Item]).Has -/
def R38 : List DV → List DV → Prop
  | [.obj t, .num x0, .num x1, .num x2, .num x3, .num x4, .num x5, .num x6], [.tru ok] => (ok = (sh (t.kid false)).has [x0, x1, x2, x3, x4, x5, x6])
  | _, _ => False
def Q38 : List DV → Prop
  | [.obj t, .num x0, .num x1, .num x2, .num x3, .num x4, .num x5, .num x6] => (sh (t.kid false)).K ∧ K7 [x0, x1, x2, x3, x4, x5, x6]
  | _ => False
def C38 : Con := ⟨38, [(.one (.vw 1)), (.agg [.int .u64, .int .u32, .int .u32, .int .i64, .int .u64, .int .u32, .int .u32])], (.p (.one .bool)), false, true⟩
def R103804 : List DV → List DV → Prop
  | [.num y0, .num y1, .num y2, .num y3, .num y4, .num y5, .num y6, .obj n0], [.obj n] => ((sh n).K ∧ (sh n).has [y0, y1, y2, y3, y4, y5, y6] = (sh n0).has [y0, y1, y2, y3, y4, y5, y6])
  | _, _ => False
def M103804 : List DV → List DV → Nat
  | [.num y0, .num y1, .num y2, .num y3, .num y4, .num y5, .num y6, .obj n0], [.obj n] => ((sh n).size)
  | _, _ => 0
def L103804 : FuncId × LCon := (38, ⟨4, 103804, [⟨true, 5, 0, (.vw 0), (.vw 0)⟩], [(false, 0, 0), (false, 0, 1), (false, 0, 2), (false, 0, 3), (false, 0, 4), (false, 0, 5), (false, 0, 6)]⟩)
/-- (*turnstone/rbtree.Tree[turnstone/item.Item, turnstone/item.Item]).Insert -/
def R28 : List DV → List DV → Prop
  | [.obj t, .num x0, .num x1, .num x2, .num x3, .num x4, .num x5, .num x6], [.tru ok, .obj t1] => (ok = !((sh (t.kid false)).has [x0, x1, x2, x3, x4, x5, x6]) ∧ TI t1 ∧ sh (t1.kid false) = (sh (t.kid false)).put [x0, x1, x2, x3, x4, x5, x6])
  | _, _ => False
def Q28 : List DV → Prop
  | [.obj t, .num x0, .num x1, .num x2, .num x3, .num x4, .num x5, .num x6] => TI t ∧ t.num 0 < 1000000 ∧ K7 [x0, x1, x2, x3, x4, x5, x6]
  | _ => False
def C28 : Con := ⟨28, [(.one (.io 1)), (.agg [.int .u64, .int .u32, .int .u32, .int .i64, .int .u64, .int .u32, .int .u32])], (.p (.one .bool)), false, true⟩
/-- turnstone/dtree.New -/
def R7 : List DV → List DV → Prop
  | [.lst xs], [.obj t] => (TI t ∧ sh (t.kid false) = putL xs .E)
  | _, _ => False
def Q7 : List DV → Prop
  | [.lst xs] => RI xs ∧ xs.length ≤ 1000
  | _ => False
def C7 : Con := ⟨7, [(.one (.list [.int .u64, .int .u32, .int .u32, .int .i64, .int .u64, .int .u32, .int .u32]))], (.p (.agg [.obj 1])), false, true⟩
def R100703 : List DV → List DV → Prop
  | [.lst xs, .obj t0, .num j0], [.obj t, .num j] => (0 ≤ j ∧ j ≤ xs.length ∧ TI t ∧ sh (t.kid false) = putL (xs.take j.toNat) .E)
  | _, _ => False
def M100703 : List DV → List DV → Nat
  | [.lst xs, .obj t0, .num j0], [.obj t, .num j] => ((xs.length - j).toNat)
  | _, _ => 0
def L100703 : FuncId × LCon := (7, ⟨3, 100703, [⟨false, 3, 0, (.obj 1), (.obj 1 [[]] [])⟩, ⟨true, 10, 0, (.int .i64), .gone⟩], [(true, 0, 0)]⟩)
/-- slices.Index[[]turnstone/item.Item,turnstone/item.Item] -/
def R32 : List DV → List DV → Prop
  | [.lst xs, .num x0, .num x1, .num x2, .num x3, .num x4, .num x5, .num x6], [.num i] => ((0 ≤ i ↔ ∃ k : Nat, k < xs.length ∧ rw7 xs k = [x0, x1, x2, x3, x4, x5, x6]))
  | _, _ => False
def C32 : Con := ⟨32, [(.one (.list [.int .u64, .int .u32, .int .u32, .int .i64, .int .u64, .int .u32, .int .u32])), (.agg [.int .u64, .int .u32, .int .u32, .int .i64, .int .u64, .int .u32, .int .u32])], (.p (.one (.int .i64))), true, true⟩
def R103202 : List DV → List DV → Prop
  | [.lst xs, .num y0, .num y1, .num y2, .num y3, .num y4, .num y5, .num y6, .num j0], [.num j] => (0 ≤ j ∧ j ≤ xs.length ∧ ∀ k : Nat, k < j.toNat → rw7 xs k ≠ [y0, y1, y2, y3, y4, y5, y6])
  | _, _ => False
def M103202 : List DV → List DV → Nat
  | [.lst xs, .num y0, .num y1, .num y2, .num y3, .num y4, .num y5, .num y6, .num j0], [.num j] => ((xs.length - j).toNat)
  | _, _ => 0
def L103202 : FuncId × LCon := (32, ⟨2, 103202, [⟨true, 8, 0, (.int .i64), .gone⟩], [(true, 0, 0), (true, 1, 0), (true, 1, 1), (true, 1, 2), (true, 1, 3), (true, 1, 4), (true, 1, 5), (true, 1, 6)]⟩)
/-- slices.Contains[[]turnstone/item.Item,turnstone/item.Item] -/
def R13 : List DV → List DV → Prop
  | [.lst xs, .num x0, .num x1, .num x2, .num x3, .num x4, .num x5, .num x6], [.tru ok] => (ok = true ↔ ∃ k : Nat, k < xs.length ∧ rw7 xs k = [x0, x1, x2, x3, x4, x5, x6])
  | _, _ => False
def C13 : Con := ⟨13, [(.one (.list [.int .u64, .int .u32, .int .u32, .int .i64, .int .u64, .int .u32, .int .u32])), (.agg [.int .u64, .int .u32, .int .u32, .int .i64, .int .u64, .int .u32, .int .u32])], (.p (.one .bool)), true, true⟩
/-- turnstone/turnstonelaw07.Near -/
def R6 : List DV → List DV → Prop
  | [.num at_, .num t, .num r, .num w, .num i, .num dt, .num dr, .num dw], [.tru ok] => (ok = true → NI at_ [t, r, w, i, dt, dr, dw])
  | _, _ => False
def Q6 : List DV → Prop
  | [.num at_, .num t, .num r, .num w, .num i, .num dt, .num dr, .num dw] => U64 at_ ∧ K7 [t, r, w, i, dt, dr, dw]
  | _ => False
def C6 : Con := ⟨6, [(.one (.int .u64)), (.agg [.int .u64, .int .u32, .int .u32, .int .i64, .int .u64, .int .u32, .int .u32])], (.p (.one .bool)), false, true⟩
/-- (turnstone/dtree.Tree).Shift -/
def R14 : List DV → List DV → Prop
  | [.obj t, .num y], [.obj u] => (TI u ∧ sh (u.kid false) = putL ((sh (t.kid false)).ord.map (shI y)) .E)
  | _, _ => False
def Q14 : List DV → Prop
  | [.obj t, .num y] => TI t ∧ (sh (t.kid false)).size ≤ 1000 ∧ U64 y
  | _ => False
def C14 : Con := ⟨14, [(.agg [.vw 1]), (.one (.int .u64))], (.p (.agg [.obj 1])), false, true⟩
def R101403 : List DV → List DV → Prop
  | [.lst xs, .num y, .obj u0, .num j0], [.obj u, .num j] => (0 ≤ j ∧ j ≤ xs.length ∧ TI u ∧ sh (u.kid false) = putL ((xs.take j.toNat).map (shI y)) .E)
  | _, _ => False
def M101403 : List DV → List DV → Nat
  | [.lst xs, .num y, .obj u0, .num j0], [.obj u, .num j] => ((xs.length - j).toNat)
  | _, _ => 0
def L101403 : FuncId × LCon := (14, ⟨3, 101403, [⟨false, 3, 0, (.obj 1), (.obj 1 [[]] [])⟩, ⟨true, 13, 0, (.int .i64), .gone⟩], [(true, 11, 0), (true, 1, 0)]⟩)
/-- turnstone/turnstonelaw07.DtreeFirst -/
def R3 : List DV → List DV → Prop
  | [.num at_, .lst xs, .num e0, .num e1, .num e2, .num e3, .num e4, .num e5, .num e6], [.tru ok] => (ok = true)
  | _, _ => False
def Q3 : List DV → Prop
  | [.num at_, .lst xs, .num e0, .num e1, .num e2, .num e3, .num e4, .num e5, .num e6] => U64 at_ ∧ RI xs ∧ K7 [e0, e1, e2, e3, e4, e5, e6]
  | _ => False
def C3 : Con := ⟨3, [(.one (.int .u64)), (.one (.list [.int .u64, .int .u32, .int .u32, .int .i64, .int .u64, .int .u32, .int .u32])), (.agg [.int .u64, .int .u32, .int .u32, .int .i64, .int .u64, .int .u32, .int .u32])], (.p (.one .bool)), false, true⟩
def R100306 : List DV → List DV → Prop
  | [.lst xs, .num a, .num j0], [.num j] => (0 ≤ j ∧ j ≤ xs.length ∧ ∀ k : Nat, k < j.toNat → NI a (rw7 xs k))
  | _, _ => False
def M100306 : List DV → List DV → Nat
  | [.lst xs, .num a, .num j0], [.num j] => ((xs.length - j).toNat)
  | _, _ => 0
def L100306 : FuncId × LCon := (3, ⟨6, 100306, [⟨true, 28, 0, (.int .i64), .gone⟩], [(true, 1, 0), (true, 0, 0)]⟩)
def R100315 : List DV → List DV → Prop
  | [.lst ys, .num e0, .num e1, .num e2, .num e3, .num e4, .num e5, .num e6, .tru sm0, .num j0], [.tru sm, .num j] => (0 ≤ j ∧ j ≤ ys.length ∧ (sm = true ↔ ∃ k : Nat, k < j.toNat ∧ AHR (rw7 ys k) [e0, e1, e2, e3, e4, e5, e6]))
  | _, _ => False
def M100315 : List DV → List DV → Nat
  | [.lst ys, .num e0, .num e1, .num e2, .num e3, .num e4, .num e5, .num e6, .tru sm0, .num j0], [.tru sm, .num j] => ((ys.length - j).toNat)
  | _, _ => 0
def L100315 : FuncId × LCon := (3, ⟨15, 100315, [⟨true, 12, 0, .bool, .gone⟩, ⟨true, 49, 0, (.int .i64), .gone⟩], [(true, 47, 0), (true, 2, 0), (true, 2, 1), (true, 2, 2), (true, 2, 3), (true, 2, 4), (true, 2, 5), (true, 2, 6)]⟩)
def R10102907 : List DV → List DV → Prop
  | [.num e0, .num e1, .num e2, .num e3, .num e4, .num e5, .num e6, .obj n0, .tru so0, .num a00, .num a10, .num a20, .num a30, .num a40, .num a50, .num a60], [.obj n, .tru so, .num a0, .num a1, .num a2, .num a3, .num a4, .num a5, .num a6] => ((sh n).K ∧ K7 [a0, a1, a2, a3, a4, a5, a6] ∧ (sh n).foldP (fun x => AHR x [e0, e1, e2, e3, e4, e5, e6]) (OP so [a0, a1, a2, a3, a4, a5, a6]) = (sh n0).foldP (fun x => AHR x [e0, e1, e2, e3, e4, e5, e6]) (OP so0 [a00, a10, a20, a30, a40, a50, a60]))
  | _, _ => False
def M10102907 : List DV → List DV → Nat
  | [.num e0, .num e1, .num e2, .num e3, .num e4, .num e5, .num e6, .obj n0, .tru so0, .num a00, .num a10, .num a20, .num a30, .num a40, .num a50, .num a60], [.obj n, .tru so, .num a0, .num a1, .num a2, .num a3, .num a4, .num a5, .num a6] => ((sh n).size)
  | _, _ => 0
def L10102907 : FuncId × LCon := (29, ⟨7, 10102907, [⟨true, 9, 0, (.vw 0), (.vw 0)⟩, ⟨false, 4, 0, .bool, .gone⟩, ⟨false, 3, 0, (.int .u64), .gone⟩, ⟨false, 3, 1, (.int .u32), .gone⟩, ⟨false, 3, 2, (.int .u32), .gone⟩, ⟨false, 3, 3, (.int .i64), .gone⟩, ⟨false, 3, 4, (.int .u64), .gone⟩, ⟨false, 3, 5, (.int .u32), .gone⟩, ⟨false, 3, 6, (.int .u32), .gone⟩], [(true, 1, 1000), (true, 1, 1001), (true, 1, 1002), (true, 1, 1003), (true, 1, 1004), (true, 1, 1005), (true, 1, 1006)]⟩)
def R20102907 : List DV → List DV → Prop
  | [.num e0, .num e1, .num e2, .num e3, .num e4, .num e5, .num e6, .num y, .obj n0, .tru so0, .num a00, .num a10, .num a20, .num a30, .num a40, .num a50, .num a60], [.obj n, .tru so, .num a0, .num a1, .num a2, .num a3, .num a4, .num a5, .num a6] => ((sh n).K ∧ K7 [a0, a1, a2, a3, a4, a5, a6] ∧ (sh n).foldP (fun x => AHR x (shI y [e0, e1, e2, e3, e4, e5, e6])) (OP so [a0, a1, a2, a3, a4, a5, a6]) = (sh n0).foldP (fun x => AHR x (shI y [e0, e1, e2, e3, e4, e5, e6])) (OP so0 [a00, a10, a20, a30, a40, a50, a60]))
  | _, _ => False
def M20102907 : List DV → List DV → Nat
  | [.num e0, .num e1, .num e2, .num e3, .num e4, .num e5, .num e6, .num y, .obj n0, .tru so0, .num a00, .num a10, .num a20, .num a30, .num a40, .num a50, .num a60], [.obj n, .tru so, .num a0, .num a1, .num a2, .num a3, .num a4, .num a5, .num a6] => ((sh n).size)
  | _, _ => 0
def L20102907 : FuncId × LCon := (29, ⟨7, 20102907, [⟨true, 9, 0, (.vw 0), (.vw 0)⟩, ⟨false, 4, 0, .bool, .gone⟩, ⟨false, 3, 0, (.int .u64), .gone⟩, ⟨false, 3, 1, (.int .u32), .gone⟩, ⟨false, 3, 2, (.int .u32), .gone⟩, ⟨false, 3, 3, (.int .i64), .gone⟩, ⟨false, 3, 4, (.int .u64), .gone⟩, ⟨false, 3, 5, (.int .u32), .gone⟩, ⟨false, 3, 6, (.int .u32), .gone⟩], [(true, 1, 1000), (true, 1, 1001), (true, 1, 1002), (true, 1, 1003), (true, 1, 1004), (true, 1, 1005), (true, 1, 1006), (true, 1, 1100)]⟩)
/-- turnstone/turnstonelaw07.DtreeShifts -/
def R4 : List DV → List DV → Prop
  | [.num at_, .num y, .lst xs, .num e0, .num e1, .num e2, .num e3, .num e4, .num e5, .num e6], [.tru ok] => (ok = true)
  | _, _ => False
def Q4 : List DV → Prop
  | [.num at_, .num y, .lst xs, .num e0, .num e1, .num e2, .num e3, .num e4, .num e5, .num e6] => U64 at_ ∧ U64 y ∧ RI xs ∧ K7 [e0, e1, e2, e3, e4, e5, e6]
  | _ => False
def C4 : Con := ⟨4, [(.one (.int .u64)), (.one (.int .u64)), (.one (.list [.int .u64, .int .u32, .int .u32, .int .i64, .int .u64, .int .u32, .int .u32])), (.agg [.int .u64, .int .u32, .int .u32, .int .i64, .int .u64, .int .u32, .int .u32])], (.p (.one .bool)), false, true⟩
def R100406 : List DV → List DV → Prop
  | [.lst xs, .num a, .num j0], [.num j] => (0 ≤ j ∧ j ≤ xs.length ∧ ∀ k : Nat, k < j.toNat → NI a (rw7 xs k))
  | _, _ => False
def M100406 : List DV → List DV → Nat
  | [.lst xs, .num a, .num j0], [.num j] => ((xs.length - j).toNat)
  | _, _ => 0
def L100406 : FuncId × LCon := (4, ⟨6, 100406, [⟨true, 30, 0, (.int .i64), .gone⟩], [(true, 2, 0), (true, 0, 0)]⟩)
def Tr_ : Nat → List DV → List DV → Prop
  | 50 => R50
  | 36 => R36
  | 82 => R82
  | 96 => R96
  | 72 => R72
  | 92 => R92
  | 91 => R91
  | 73 => R73
  | 89 => R89
  | 99 => R99
  | 84 => R84
  | 98 => R98
  | 95 => R95
  | 93 => R93
  | 97 => R97
  | 119 => R119
  | 90 => R90
  | 109017 => R109017
  | 109024 => R109024
  | 83 => R83
  | 85 => R85
  | 23 => R23
  | 33 => R33
  | 74 => R74
  | 68 => R68
  | 30 => R30
  | 24 => R24
  | 47 => R47
  | 104704 => R104704
  | 17 => R17
  | 10 => R10
  | 12 => R12
  | 37 => R37
  | 103702 => R103702
  | 26 => R26
  | 27 => R27
  | 64 => R64
  | 63 => R63
  | 65 => R65
  | 66 => R66
  | 67 => R67
  | 51 => R51
  | 39 => R39
  | 31 => R31
  | 25 => R25
  | 18 => R18
  | 11 => R11
  | 38 => R38
  | 103804 => R103804
  | 28 => R28
  | 7 => R7
  | 100703 => R100703
  | 32 => R32
  | 103202 => R103202
  | 13 => R13
  | 6 => R6
  | 14 => R14
  | 101403 => R101403
  | 3 => R3
  | 100306 => R100306
  | 100315 => R100315
  | 10102907 => R10102907
  | 20102907 => R20102907
  | 4 => R4
  | 100406 => R100406
  | _ => fun _ _ => True
def Tp_ : Nat → List DV → Prop
  | 82 => Q82
  | 96 => Q96
  | 92 => Q92
  | 91 => Q91
  | 73 => Q73
  | 89 => Q89
  | 99 => Q99
  | 84 => Q84
  | 98 => Q98
  | 95 => Q95
  | 93 => Q93
  | 97 => Q97
  | 119 => Q119
  | 90 => Q90
  | 83 => Q83
  | 74 => Q74
  | 68 => Q68
  | 30 => Q30
  | 24 => Q24
  | 10 => Q10
  | 12 => Q12
  | 37 => Q37
  | 27 => Q27
  | 63 => Q63
  | 65 => Q65
  | 66 => Q66
  | 67 => Q67
  | 51 => Q51
  | 39 => Q39
  | 31 => Q31
  | 11 => Q11
  | 38 => Q38
  | 28 => Q28
  | 7 => Q7
  | 6 => Q6
  | 14 => Q14
  | 3 => Q3
  | 4 => Q4
  | _ => fun _ => True
def Tm_ : Nat → List DV → List DV → Nat
  | 109017 => M109017
  | 109024 => M109024
  | 104704 => M104704
  | 103702 => M103702
  | 103804 => M103804
  | 100703 => M100703
  | 103202 => M103202
  | 101403 => M101403
  | 100306 => M100306
  | 100315 => M100315
  | 10102907 => M10102907
  | 20102907 => M20102907
  | 100406 => M100406
  | _ => fun _ _ => 0
def T : Tab := ⟨Tr_, Tp_, Tm_⟩
end Go.Proofs.Ytkepkjahbcddlaa.Fn
