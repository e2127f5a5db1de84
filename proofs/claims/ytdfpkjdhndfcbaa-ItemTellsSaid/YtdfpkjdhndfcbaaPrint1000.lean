/- What each Go function that is named below answers, as a Lean function, and that its walk comes to just that: for whatever arguments that function gives an answer for. Written by a program of this session (wip/mkpr.py, pr.sh). -/
import Derived.Test.YtdfpkjdhndfcbaaProg
import Derived.Below
import Derived.Deep.Draws
import Derived.Deep.AppendLies
import Derived.Maps.AppendAt
import Derived.OwnWalk
import Derived.Laws.BytesArg
import Derived.Laws.MakeOwn
import Derived.Laws.OwnMore
import Derived.Deep.OwnRows
import Derived.Tactics
import Derived.Lib.ConvBytes
import Derived.Laws.Slices
import Derived.WalkKit
import Derived.KernelRfl
import Derived.RowKit3
import Derived.Deep.LoopGhost
import Derived.Deep.QuietTactic
import Derived.BigQuiet
import Derived.WideLaws
import Derived.Deep.DeepCutAuto
import Derived.Deep.CutBlock
import Derived.Deep.RegionHeld3
import Derived.Laws.Rows
import Derived.Lib.AppendStr
import Derived.ArgAppend
import Derived.Laws.IdiomCopy
import Derived.OrdersHeld
import Derived.Laws.BitsLemmas
import Derived.RowKit
import Derived.Test.YtdfpkjdhndfcbaaBits
import Derived.Test.YtdfpkjdhndfcbaaShort
import Derived.Test.YtdfpkjdhndfcbaaAwake
import Derived.Test.YtdfpkjdhndfcbaaWAll
namespace Go.Proofs.Ytdfpkjdhndfcbaa.Print
open Go.RowKit Go.Proofs.YtdfpkjdhndfcbaaW.PrintWords Go.Proofs.YtdfpkjdhndfcbaaW.PrintLast Go.Proofs.YtdfpkjdhndfcbaaW.PrintMore
attribute [local go_sem] max2_int min2_int max_two min_two max_three min_three max_four min_four   -- for this text's walks alone
open Go.Proofs.Ytdfpkjdhndfcbaa.Bits Go.Proofs.Ytdfpkjdhndfcbaa.Short
attribute [local go_sem] add64_run0 sub64_run0 add64_run sub64_run
set_option linter.unusedVariables false
set_option linter.unusedSimpArgs false



def errW : Option Int → Value
 | none => .nilIface
 | some c => .iface 0 (.int .i64 c)
theorem errW_none : errW none = .nilIface := rfl
theorem errW_some (c : Int) : errW (some c) = .iface 0 (.int .i64 c) := rfl

theorem info3 : (Try.prog.info? 3).map (fun i => (i.zero, i.size, i.bytes)) = some (some (.int .i64 0), 1, 8) := by kernel_rfl
theorem info26 : (Try.prog.info? 26).map (fun i => (i.zero, i.size, i.bytes)) = some (some (.agg #[(.int .u64 0), (.int .u32 0), (.int .u32 0)]), 3, 16) := by kernel_rfl
theorem info28 : (Try.prog.info? 28).map (fun i => (i.zero, i.size, i.bytes)) = some (some (.agg #[(.int .u64 0), (.int .u32 0), (.int .u32 0), (.int .i64 0), (.int .u64 0), (.int .u32 0), (.int .u32 0)]), 7, 40) := by kernel_rfl
theorem info38 : (Try.prog.info? 38).map (fun i => (i.zero, i.size, i.bytes)) = some (some (.agg #[(.int .u64 0), (.int .u32 0), (.int .u32 0), (.int .i64 0), (.int .u64 0), (.int .u32 0), (.int .u32 0)]), 7, 40) := by kernel_rfl
-- the values' own types
/-! #### struct type 26 -/
structure S26 where
 f0 : Int
 f1 : Int
 f2 : Int
def z26 : S26 := ⟨(0 : Int), (0 : Int), (0 : Int)⟩
def k26 : Kd S26 := Kd.iso (Kd.pair (Kd.int .u64) (Kd.pair (Kd.int .u32) (Kd.int .u32))) (fun x : S26 => (x.f0, x.f1, x.f2))
theorem k26_heap : Kd.Heap k26 := Kd.heap_iso _ (Kd.heap_pair (Kd.heap_int .u64) (Kd.heap_pair (Kd.heap_int .u32) (Kd.heap_int .u32)))
theorem k26_open {w : World} {x : S26} {cs : List Value} (h : k26.K w x cs) : cs = [.int .u64 x.f0, .int .u32 x.f1, .int .u32 x.f2] := by
 obtain ⟨_, _, rfl, rfl, ⟨_, _, rfl, rfl, rfl⟩⟩ := h
 exact rfl
theorem k26_openM {w : World} {base : Nat} {ok : Nat → Prop} {x : S26} {cs : List Value} (h : k26.M w base ok x cs) : cs = [.int .u64 x.f0, .int .u32 x.f1, .int .u32 x.f2] := by
 obtain ⟨_, _, rfl, rfl, ⟨_, _, rfl, rfl, rfl⟩⟩ := h
 exact rfl
theorem k26_mk (w : World) (x : S26)  : k26.K w x [.int .u64 x.f0, .int .u32 x.f1, .int .u32 x.f2] := ⟨[.int .u64 x.f0], [.int .u32 x.f1, .int .u32 x.f2], rfl, rfl, ⟨[.int .u32 x.f1], [.int .u32 x.f2], rfl, rfl, rfl⟩⟩
theorem k26_mkM (w : World) (base : Nat) (ok : Nat → Prop) (x : S26)  : k26.M w base ok x [.int .u64 x.f0, .int .u32 x.f1, .int .u32 x.f2] := ⟨[.int .u64 x.f0], [.int .u32 x.f1, .int .u32 x.f2], rfl, rfl, ⟨[.int .u32 x.f1], [.int .u32 x.f2], rfl, rfl, rfl⟩⟩
theorem k26_mkF (W : World) (ok : Nat → Prop) (x : S26) : Kd.FK k26 W ok x [.int .u64 x.f0, .int .u32 x.f1, .int .u32 x.f2] := fun W2 _ => k26_mk W2 x
def rd_T26 (xs : List S26) (i : Int) : S26 := xs.getD i.toNat z26
theorem at_T26 {w : World} {A : Option Addr} {n : Nat} {xs : List S26} (h : Kd.C k26 w A n xs) (i : Int) (h0 : 0 ≤ i) (h1 : i < n) : ∃ ad , A = some ad ∧ w.cell? (ad.add (i.toNat * 3)) = some (.int .u64 (rd_T26 xs i).f0) ∧ w.cell? ⟨(ad.add (i.toNat * 3)).block, (ad.add (i.toNat * 3)).off + 1, none⟩ = some (.int .u32 (rd_T26 xs i).f1) ∧ w.cell? ⟨(ad.add (i.toNat * 3)).block, (ad.add (i.toNat * 3)).off + 2, none⟩ = some (.int .u32 (rd_T26 xs i).f2) := by
 obtain ⟨ad, c, e, _, hK, hc0⟩ := Kd.C_get h z26 i h0 h1
 have hc : ∀ j u, c[j]? = some u → w.cell? (ad.add (i.toNat * 3 + j)) = some u := hc0
 obtain rfl := k26_open hK
 exact ⟨ad, e, hc 0 _ rfl, by rw [← add_field _ _ 1 (by omega)]; exact hc 1 _ rfl, by rw [← add_field _ _ 2 (by omega)]; exact hc 2 _ rfl⟩

/-! #### struct type 28 -/
structure S28 where
 f0 : S26
 f1 : Int
 f2 : S26
def z28 : S28 := ⟨z26, (0 : Int), z26⟩
def k28 : Kd S28 := Kd.iso (Kd.pair k26 (Kd.pair (Kd.int .i64) k26)) (fun x : S28 => (x.f0, x.f1, x.f2))
theorem k28_heap : Kd.Heap k28 := Kd.heap_iso _ (Kd.heap_pair k26_heap (Kd.heap_pair (Kd.heap_int .i64) k26_heap))
theorem k28_open {w : World} {x : S28} {cs : List Value} (h : k28.K w x cs) : cs = [.int .u64 x.f0.f0, .int .u32 x.f0.f1, .int .u32 x.f0.f2, .int .i64 x.f1, .int .u64 x.f2.f0, .int .u32 x.f2.f1, .int .u32 x.f2.f2] := by
 obtain ⟨_, _, rfl, s0, ⟨_, _, rfl, rfl, s4⟩⟩ := h
 obtain rfl := k26_open s0
 obtain rfl := k26_open s4
 exact rfl
theorem k28_openM {w : World} {base : Nat} {ok : Nat → Prop} {x : S28} {cs : List Value} (h : k28.M w base ok x cs) : cs = [.int .u64 x.f0.f0, .int .u32 x.f0.f1, .int .u32 x.f0.f2, .int .i64 x.f1, .int .u64 x.f2.f0, .int .u32 x.f2.f1, .int .u32 x.f2.f2] := by
 obtain ⟨_, _, rfl, s0, ⟨_, _, rfl, rfl, s4⟩⟩ := h
 obtain rfl := k26_openM s0
 obtain rfl := k26_openM s4
 exact rfl
theorem k28_mk (w : World) (x : S28)  : k28.K w x [.int .u64 x.f0.f0, .int .u32 x.f0.f1, .int .u32 x.f0.f2, .int .i64 x.f1, .int .u64 x.f2.f0, .int .u32 x.f2.f1, .int .u32 x.f2.f2] := ⟨[.int .u64 x.f0.f0, .int .u32 x.f0.f1, .int .u32 x.f0.f2], [.int .i64 x.f1, .int .u64 x.f2.f0, .int .u32 x.f2.f1, .int .u32 x.f2.f2], rfl, (k26_mk w x.f0 ), ⟨[.int .i64 x.f1], [.int .u64 x.f2.f0, .int .u32 x.f2.f1, .int .u32 x.f2.f2], rfl, rfl, (k26_mk w x.f2 )⟩⟩
theorem k28_mkM (w : World) (base : Nat) (ok : Nat → Prop) (x : S28)  : k28.M w base ok x [.int .u64 x.f0.f0, .int .u32 x.f0.f1, .int .u32 x.f0.f2, .int .i64 x.f1, .int .u64 x.f2.f0, .int .u32 x.f2.f1, .int .u32 x.f2.f2] := ⟨[.int .u64 x.f0.f0, .int .u32 x.f0.f1, .int .u32 x.f0.f2], [.int .i64 x.f1, .int .u64 x.f2.f0, .int .u32 x.f2.f1, .int .u32 x.f2.f2], rfl, (k26_mkM w base ok x.f0 ), ⟨[.int .i64 x.f1], [.int .u64 x.f2.f0, .int .u32 x.f2.f1, .int .u32 x.f2.f2], rfl, rfl, (k26_mkM w base ok x.f2 )⟩⟩
theorem k28_mkF (W : World) (ok : Nat → Prop) (x : S28) : Kd.FK k28 W ok x [.int .u64 x.f0.f0, .int .u32 x.f0.f1, .int .u32 x.f0.f2, .int .i64 x.f1, .int .u64 x.f2.f0, .int .u32 x.f2.f1, .int .u32 x.f2.f2] := fun W2 _ => k28_mk W2 x
def rd_T28 (xs : List S28) (i : Int) : S28 := xs.getD i.toNat z28
theorem at_T28 {w : World} {A : Option Addr} {n : Nat} {xs : List S28} (h : Kd.C k28 w A n xs) (i : Int) (h0 : 0 ≤ i) (h1 : i < n) : ∃ ad , A = some ad ∧ w.cell? (ad.add (i.toNat * 7)) = some (.int .u64 (rd_T28 xs i).f0.f0) ∧ w.cell? ⟨(ad.add (i.toNat * 7)).block, (ad.add (i.toNat * 7)).off + 1, none⟩ = some (.int .u32 (rd_T28 xs i).f0.f1) ∧ w.cell? ⟨(ad.add (i.toNat * 7)).block, (ad.add (i.toNat * 7)).off + 2, none⟩ = some (.int .u32 (rd_T28 xs i).f0.f2) ∧ w.cell? ⟨(ad.add (i.toNat * 7)).block, (ad.add (i.toNat * 7)).off + 3, none⟩ = some (.int .i64 (rd_T28 xs i).f1) ∧ w.cell? ⟨(ad.add (i.toNat * 7)).block, (ad.add (i.toNat * 7)).off + 4, none⟩ = some (.int .u64 (rd_T28 xs i).f2.f0) ∧ w.cell? ⟨(ad.add (i.toNat * 7)).block, (ad.add (i.toNat * 7)).off + 5, none⟩ = some (.int .u32 (rd_T28 xs i).f2.f1) ∧ w.cell? ⟨(ad.add (i.toNat * 7)).block, (ad.add (i.toNat * 7)).off + 6, none⟩ = some (.int .u32 (rd_T28 xs i).f2.f2) := by
 obtain ⟨ad, c, e, _, hK, hc0⟩ := Kd.C_get h z28 i h0 h1
 have hc : ∀ j u, c[j]? = some u → w.cell? (ad.add (i.toNat * 7 + j)) = some u := hc0
 obtain rfl := k28_open hK
 exact ⟨ad, e, hc 0 _ rfl, by rw [← add_field _ _ 1 (by omega)]; exact hc 1 _ rfl, by rw [← add_field _ _ 2 (by omega)]; exact hc 2 _ rfl, by rw [← add_field _ _ 3 (by omega)]; exact hc 3 _ rfl, by rw [← add_field _ _ 4 (by omega)]; exact hc 4 _ rfl, by rw [← add_field _ _ 5 (by omega)]; exact hc 5 _ rfl, by rw [← add_field _ _ 6 (by omega)]; exact hc 6 _ rfl⟩

/-! #### struct type 36 -/
structure S36 where
 f0 : Int
 f1 : Int
 f2 : Int
def z36 : S36 := ⟨(0 : Int), (0 : Int), (0 : Int)⟩
def k36 : Kd S36 := Kd.iso (Kd.pair (Kd.int .u64) (Kd.pair (Kd.int .u32) (Kd.int .u32))) (fun x : S36 => (x.f0, x.f1, x.f2))
theorem k36_heap : Kd.Heap k36 := Kd.heap_iso _ (Kd.heap_pair (Kd.heap_int .u64) (Kd.heap_pair (Kd.heap_int .u32) (Kd.heap_int .u32)))
theorem k36_open {w : World} {x : S36} {cs : List Value} (h : k36.K w x cs) : cs = [.int .u64 x.f0, .int .u32 x.f1, .int .u32 x.f2] := by
 obtain ⟨_, _, rfl, rfl, ⟨_, _, rfl, rfl, rfl⟩⟩ := h
 exact rfl
theorem k36_openM {w : World} {base : Nat} {ok : Nat → Prop} {x : S36} {cs : List Value} (h : k36.M w base ok x cs) : cs = [.int .u64 x.f0, .int .u32 x.f1, .int .u32 x.f2] := by
 obtain ⟨_, _, rfl, rfl, ⟨_, _, rfl, rfl, rfl⟩⟩ := h
 exact rfl
theorem k36_mk (w : World) (x : S36)  : k36.K w x [.int .u64 x.f0, .int .u32 x.f1, .int .u32 x.f2] := ⟨[.int .u64 x.f0], [.int .u32 x.f1, .int .u32 x.f2], rfl, rfl, ⟨[.int .u32 x.f1], [.int .u32 x.f2], rfl, rfl, rfl⟩⟩
theorem k36_mkM (w : World) (base : Nat) (ok : Nat → Prop) (x : S36)  : k36.M w base ok x [.int .u64 x.f0, .int .u32 x.f1, .int .u32 x.f2] := ⟨[.int .u64 x.f0], [.int .u32 x.f1, .int .u32 x.f2], rfl, rfl, ⟨[.int .u32 x.f1], [.int .u32 x.f2], rfl, rfl, rfl⟩⟩
theorem k36_mkF (W : World) (ok : Nat → Prop) (x : S36) : Kd.FK k36 W ok x [.int .u64 x.f0, .int .u32 x.f1, .int .u32 x.f2] := fun W2 _ => k36_mk W2 x
def rd_T36 (xs : List S36) (i : Int) : S36 := xs.getD i.toNat z36
theorem at_T36 {w : World} {A : Option Addr} {n : Nat} {xs : List S36} (h : Kd.C k36 w A n xs) (i : Int) (h0 : 0 ≤ i) (h1 : i < n) : ∃ ad , A = some ad ∧ w.cell? (ad.add (i.toNat * 3)) = some (.int .u64 (rd_T36 xs i).f0) ∧ w.cell? ⟨(ad.add (i.toNat * 3)).block, (ad.add (i.toNat * 3)).off + 1, none⟩ = some (.int .u32 (rd_T36 xs i).f1) ∧ w.cell? ⟨(ad.add (i.toNat * 3)).block, (ad.add (i.toNat * 3)).off + 2, none⟩ = some (.int .u32 (rd_T36 xs i).f2) := by
 obtain ⟨ad, c, e, _, hK, hc0⟩ := Kd.C_get h z36 i h0 h1
 have hc : ∀ j u, c[j]? = some u → w.cell? (ad.add (i.toNat * 3 + j)) = some u := hc0
 obtain rfl := k36_open hK
 exact ⟨ad, e, hc 0 _ rfl, by rw [← add_field _ _ 1 (by omega)]; exact hc 1 _ rfl, by rw [← add_field _ _ 2 (by omega)]; exact hc 2 _ rfl⟩

/-! #### struct type 38 -/
structure S38 where
 f0 : S36
 f1 : Int
 f2 : S36
def z38 : S38 := ⟨z36, (0 : Int), z36⟩
def k38 : Kd S38 := Kd.iso (Kd.pair k36 (Kd.pair (Kd.int .i64) k36)) (fun x : S38 => (x.f0, x.f1, x.f2))
theorem k38_heap : Kd.Heap k38 := Kd.heap_iso _ (Kd.heap_pair k36_heap (Kd.heap_pair (Kd.heap_int .i64) k36_heap))
theorem k38_open {w : World} {x : S38} {cs : List Value} (h : k38.K w x cs) : cs = [.int .u64 x.f0.f0, .int .u32 x.f0.f1, .int .u32 x.f0.f2, .int .i64 x.f1, .int .u64 x.f2.f0, .int .u32 x.f2.f1, .int .u32 x.f2.f2] := by
 obtain ⟨_, _, rfl, s0, ⟨_, _, rfl, rfl, s4⟩⟩ := h
 obtain rfl := k36_open s0
 obtain rfl := k36_open s4
 exact rfl
theorem k38_openM {w : World} {base : Nat} {ok : Nat → Prop} {x : S38} {cs : List Value} (h : k38.M w base ok x cs) : cs = [.int .u64 x.f0.f0, .int .u32 x.f0.f1, .int .u32 x.f0.f2, .int .i64 x.f1, .int .u64 x.f2.f0, .int .u32 x.f2.f1, .int .u32 x.f2.f2] := by
 obtain ⟨_, _, rfl, s0, ⟨_, _, rfl, rfl, s4⟩⟩ := h
 obtain rfl := k36_openM s0
 obtain rfl := k36_openM s4
 exact rfl
theorem k38_mk (w : World) (x : S38)  : k38.K w x [.int .u64 x.f0.f0, .int .u32 x.f0.f1, .int .u32 x.f0.f2, .int .i64 x.f1, .int .u64 x.f2.f0, .int .u32 x.f2.f1, .int .u32 x.f2.f2] := ⟨[.int .u64 x.f0.f0, .int .u32 x.f0.f1, .int .u32 x.f0.f2], [.int .i64 x.f1, .int .u64 x.f2.f0, .int .u32 x.f2.f1, .int .u32 x.f2.f2], rfl, (k36_mk w x.f0 ), ⟨[.int .i64 x.f1], [.int .u64 x.f2.f0, .int .u32 x.f2.f1, .int .u32 x.f2.f2], rfl, rfl, (k36_mk w x.f2 )⟩⟩
theorem k38_mkM (w : World) (base : Nat) (ok : Nat → Prop) (x : S38)  : k38.M w base ok x [.int .u64 x.f0.f0, .int .u32 x.f0.f1, .int .u32 x.f0.f2, .int .i64 x.f1, .int .u64 x.f2.f0, .int .u32 x.f2.f1, .int .u32 x.f2.f2] := ⟨[.int .u64 x.f0.f0, .int .u32 x.f0.f1, .int .u32 x.f0.f2], [.int .i64 x.f1, .int .u64 x.f2.f0, .int .u32 x.f2.f1, .int .u32 x.f2.f2], rfl, (k36_mkM w base ok x.f0 ), ⟨[.int .i64 x.f1], [.int .u64 x.f2.f0, .int .u32 x.f2.f1, .int .u32 x.f2.f2], rfl, rfl, (k36_mkM w base ok x.f2 )⟩⟩
theorem k38_mkF (W : World) (ok : Nat → Prop) (x : S38) : Kd.FK k38 W ok x [.int .u64 x.f0.f0, .int .u32 x.f0.f1, .int .u32 x.f0.f2, .int .i64 x.f1, .int .u64 x.f2.f0, .int .u32 x.f2.f1, .int .u32 x.f2.f2] := fun W2 _ => k38_mk W2 x
def rd_T38 (xs : List S38) (i : Int) : S38 := xs.getD i.toNat z38
theorem at_T38 {w : World} {A : Option Addr} {n : Nat} {xs : List S38} (h : Kd.C k38 w A n xs) (i : Int) (h0 : 0 ≤ i) (h1 : i < n) : ∃ ad , A = some ad ∧ w.cell? (ad.add (i.toNat * 7)) = some (.int .u64 (rd_T38 xs i).f0.f0) ∧ w.cell? ⟨(ad.add (i.toNat * 7)).block, (ad.add (i.toNat * 7)).off + 1, none⟩ = some (.int .u32 (rd_T38 xs i).f0.f1) ∧ w.cell? ⟨(ad.add (i.toNat * 7)).block, (ad.add (i.toNat * 7)).off + 2, none⟩ = some (.int .u32 (rd_T38 xs i).f0.f2) ∧ w.cell? ⟨(ad.add (i.toNat * 7)).block, (ad.add (i.toNat * 7)).off + 3, none⟩ = some (.int .i64 (rd_T38 xs i).f1) ∧ w.cell? ⟨(ad.add (i.toNat * 7)).block, (ad.add (i.toNat * 7)).off + 4, none⟩ = some (.int .u64 (rd_T38 xs i).f2.f0) ∧ w.cell? ⟨(ad.add (i.toNat * 7)).block, (ad.add (i.toNat * 7)).off + 5, none⟩ = some (.int .u32 (rd_T38 xs i).f2.f1) ∧ w.cell? ⟨(ad.add (i.toNat * 7)).block, (ad.add (i.toNat * 7)).off + 6, none⟩ = some (.int .u32 (rd_T38 xs i).f2.f2) := by
 obtain ⟨ad, c, e, _, hK, hc0⟩ := Kd.C_get h z38 i h0 h1
 have hc : ∀ j u, c[j]? = some u → w.cell? (ad.add (i.toNat * 7 + j)) = some u := hc0
 obtain rfl := k38_open hK
 exact ⟨ad, e, hc 0 _ rfl, by rw [← add_field _ _ 1 (by omega)]; exact hc 1 _ rfl, by rw [← add_field _ _ 2 (by omega)]; exact hc 2 _ rfl, by rw [← add_field _ _ 3 (by omega)]; exact hc 3 _ rfl, by rw [← add_field _ _ 4 (by omega)]; exact hc 4 _ rfl, by rw [← add_field _ _ 5 (by omega)]; exact hc 5 _ rfl, by rw [← add_field _ _ 6 (by omega)]; exact hc 6 _ rfl⟩

def wfS28 (x : S28) : Prop := (Lit.int .u64 x.f0.f0).wf = true ∧ (Lit.int .u32 x.f0.f1).wf = true ∧ (Lit.int .u32 x.f0.f2).wf = true ∧ (Lit.int .i64 x.f1).wf = true ∧ (Lit.int .u64 x.f2.f0).wf = true ∧ (Lit.int .u32 x.f2.f1).wf = true ∧ (Lit.int .u32 x.f2.f2).wf = true

/-! ### vtime_Time_Since: function 24 -/
def vtime_Time_Since.f (a0 : Int) (a1 : Int) : Option (Int) := some (wrap64 (IntKind.u64.wrap (a0 - a1)))
set_option maxHeartbeats 8000000 in
set_option maxRecDepth 100000 in
theorem vtime_Time_Since.calls (a0 : Int) (a1 : Int) (r : Int) (w : World) (h : vtime_Time_Since.f a0 a1 = some r) :
  Calls Try.prog 24 #[.int .u64 a0, .int .u64 a1] w fun e w' => e = .returned (.int .i64 r) ∧ Drawn0 w w' := by
 have H : (some (wrap64 (IntKind.u64.wrap (a0 - a1)))) = some r := h
 clear h
 obtain rfl := Option.some.inj H
 go_enter Try.func24, Try.ntmps24
 go_wp2
 go_ret
 exact ⟨by first | rfl | (simp; done) | (simp [*]; done), by repeat (first | exact Drawn0.refl _ | apply Drawn0.step)⟩


/-! ### cmp_isNaN_int64: function 47 -/
def cmp_isNaN_int64.f (a0 : Int) : Option (Bool) := some (a0 != a0)
set_option maxHeartbeats 8000000 in
set_option maxRecDepth 100000 in
theorem cmp_isNaN_int64.calls (a0 : Int) (r : Bool) (w : World) (h : cmp_isNaN_int64.f a0 = some r) :
  Calls Try.prog 47 #[.int .i64 a0] w fun e w' => e = .returned (.bool r) ∧ Drawn0 w w' := by
 have H : (some (a0 != a0)) = some r := h
 clear h
 obtain rfl := Option.some.inj H
 go_enter Try.func47, Try.ntmps47
 go_wp2
 go_ret
 exact ⟨by first | rfl | (simp; done) | (simp [*]; done), by repeat (first | exact Drawn0.refl _ | apply Drawn0.step)⟩


/-! ### cmp_Compare_int64: function 37 -/
def cmp_Compare_int64.f (a0 : Int) (a1 : Int) : Option (Int) := (cmp_isNaN_int64.f a0).bind fun t101 => ((cmp_isNaN_int64.f a1).bind fun t102 => (if t101 = true then (if t102 = true then (some 0) else (some (-1))) else (if t102 = true then (some 1) else (if a0 < a1 then (some (-1)) else (if a0 > a1 then (some 1) else (some 0))))))
set_option maxHeartbeats 8000000 in
set_option maxRecDepth 100000 in
theorem cmp_Compare_int64.calls (a0 : Int) (a1 : Int) (r : Int) (w : World) (h : cmp_Compare_int64.f a0 a1 = some r) :
  Calls Try.prog 37 #[.int .i64 a0, .int .i64 a1] w fun e w' => e = .returned (.int .i64 r) ∧ Drawn0 w w' := by
 have H : ((cmp_isNaN_int64.f a0).bind fun t101 => ((cmp_isNaN_int64.f a1).bind fun t102 => (if t101 = true then (if t102 = true then (some 0) else (some (-1))) else (if t102 = true then (some 1) else (if a0 < a1 then (some (-1)) else (if a0 > a1 then (some 1) else (some 0))))))) = some r := h
 clear h
 replace H := Option.bind_eq_some_iff.mp H
 obtain ⟨t101, A30, H⟩ := H
 replace H : ((cmp_isNaN_int64.f a1).bind fun t102 => (if t101 = true then (if t102 = true then (some 0) else (some (-1))) else (if t102 = true then (some 1) else (if a0 < a1 then (some (-1)) else (if a0 > a1 then (some 1) else (some 0)))))) = some r := H
 have A3 := Aside0.mk A30
 clear A30
 replace H := Option.bind_eq_some_iff.mp H
 obtain ⟨t102, A40, H⟩ := H
 replace H : (if t101 = true then (if t102 = true then (some 0) else (some (-1))) else (if t102 = true then (some 1) else (if a0 < a1 then (some (-1)) else (if a0 > a1 then (some 1) else (some 0))))) = some r := H
 have A4 := Aside0.mk A40
 clear A40
 by_cases c5 : t101 = true
 ·subst c5
  have H1 : (if t102 = true then (some 0) else (some (-1))) = some r := by rw [if_pos rfl] at H; exact H
  clear H
  have H := H1
  clear H1
  by_cases c6 : t102 = true
  ·subst c6
   have H1 : (some 0) = some r := by rw [if_pos rfl] at H; exact H
   clear H
   have H := H1
   clear H1
   obtain rfl := Option.some.inj H
   go_enter Try.func37, Try.ntmps37
   go_wp2_with (first | ((with_reducible refine gate_callee (f := 47) rfl ?_); refine goesL_ (some 8) rfl rfl Try.func47 (by kernel_rfl) rfl #[.int .i64 a0] rfl argt ?_; (with_reducible refine (cmp_isNaN_int64.calls a0 true _ A3.out).mono ?_); rintro e w' ⟨rfl, ⟨nd, rfl⟩⟩; refine ⟨_, rfl, ?_⟩) | ((with_reducible refine gate_callee (f := 47) rfl ?_); refine goesL_ (some 10) rfl rfl Try.func47 (by kernel_rfl) rfl #[.int .i64 a1] rfl argt ?_; (with_reducible refine (cmp_isNaN_int64.calls a1 true _ A4.out).mono ?_); rintro e w' ⟨rfl, ⟨nd, rfl⟩⟩; refine ⟨_, rfl, ?_⟩))
   go_ret
   exact ⟨by first | rfl | (simp; done) | (simp [*]; done), by repeat (first | exact Drawn0.refl _ | apply Drawn0.step)⟩
  replace c6 := Bool.eq_false_iff.mpr c6
  subst c6
  have H1 : (some (-1)) = some r := by rw [if_neg (show ¬ (false = true) by decide)] at H; exact H
  clear H
  have H := H1
  clear H1
  obtain rfl := Option.some.inj H
  go_enter Try.func37, Try.ntmps37
  go_wp2_with (first | ((with_reducible refine gate_callee (f := 47) rfl ?_); refine goesL_ (some 8) rfl rfl Try.func47 (by kernel_rfl) rfl #[.int .i64 a0] rfl argt ?_; (with_reducible refine (cmp_isNaN_int64.calls a0 true _ A3.out).mono ?_); rintro e w' ⟨rfl, ⟨nd, rfl⟩⟩; refine ⟨_, rfl, ?_⟩) | ((with_reducible refine gate_callee (f := 47) rfl ?_); refine goesL_ (some 10) rfl rfl Try.func47 (by kernel_rfl) rfl #[.int .i64 a1] rfl argt ?_; (with_reducible refine (cmp_isNaN_int64.calls a1 false _ A4.out).mono ?_); rintro e w' ⟨rfl, ⟨nd, rfl⟩⟩; refine ⟨_, rfl, ?_⟩))
  go_ret
  exact ⟨by first | rfl | (simp; done) | (simp [*]; done), by repeat (first | exact Drawn0.refl _ | apply Drawn0.step)⟩
 replace c5 := Bool.eq_false_iff.mpr c5
 subst c5
 have H1 : (if t102 = true then (some 1) else (if a0 < a1 then (some (-1)) else (if a0 > a1 then (some 1) else (some 0)))) = some r := by rw [if_neg (show ¬ (false = true) by decide)] at H; exact H
 clear H
 have H := H1
 clear H1
 by_cases c7 : t102 = true
 ·subst c7
  have H1 : (some 1) = some r := by rw [if_pos rfl] at H; exact H
  clear H
  have H := H1
  clear H1
  obtain rfl := Option.some.inj H
  go_enter Try.func37, Try.ntmps37
  go_wp2_with (first | ((with_reducible refine gate_callee (f := 47) rfl ?_); refine goesL_ (some 8) rfl rfl Try.func47 (by kernel_rfl) rfl #[.int .i64 a0] rfl argt ?_; (with_reducible refine (cmp_isNaN_int64.calls a0 false _ A3.out).mono ?_); rintro e w' ⟨rfl, ⟨nd, rfl⟩⟩; refine ⟨_, rfl, ?_⟩) | ((with_reducible refine gate_callee (f := 47) rfl ?_); refine goesL_ (some 10) rfl rfl Try.func47 (by kernel_rfl) rfl #[.int .i64 a1] rfl argt ?_; (with_reducible refine (cmp_isNaN_int64.calls a1 true _ A4.out).mono ?_); rintro e w' ⟨rfl, ⟨nd, rfl⟩⟩; refine ⟨_, rfl, ?_⟩))
  go_ret
  exact ⟨by first | rfl | (simp; done) | (simp [*]; done), by repeat (first | exact Drawn0.refl _ | apply Drawn0.step)⟩
 replace c7 := Bool.eq_false_iff.mpr c7
 subst c7
 have H1 : (if a0 < a1 then (some (-1)) else (if a0 > a1 then (some 1) else (some 0))) = some r := by rw [if_neg (show ¬ (false = true) by decide)] at H; exact H
 clear H
 have H := H1
 clear H1
 by_cases c8 : a0 < a1
 ·rw [if_pos c8] at H
  have c8b0 : decide (a0 < a1) = true := decide_eq_true c8
  clear c8
  obtain rfl := Option.some.inj H
  go_enter Try.func37, Try.ntmps37
  go_wp2_with (first | ((with_reducible refine gate_callee (f := 47) rfl ?_); refine goesL_ (some 8) rfl rfl Try.func47 (by kernel_rfl) rfl #[.int .i64 a0] rfl argt ?_; (with_reducible refine (cmp_isNaN_int64.calls a0 false _ A3.out).mono ?_); rintro e w' ⟨rfl, ⟨nd, rfl⟩⟩; refine ⟨_, rfl, ?_⟩) | ((with_reducible refine gate_callee (f := 47) rfl ?_); refine goesL_ (some 10) rfl rfl Try.func47 (by kernel_rfl) rfl #[.int .i64 a1] rfl argt ?_; (with_reducible refine (cmp_isNaN_int64.calls a1 false _ A4.out).mono ?_); rintro e w' ⟨rfl, ⟨nd, rfl⟩⟩; refine ⟨_, rfl, ?_⟩))
  go_ret
  exact ⟨by first | rfl | (simp; done) | (simp [*]; done), by repeat (first | exact Drawn0.refl _ | apply Drawn0.step)⟩
 rw [if_neg c8] at H
 have c8b0 : decide (a0 < a1) = false := decide_eq_false c8
 clear c8
 by_cases c9 : a0 > a1
 ·rw [if_pos c9] at H
  have c9b0 : decide (a1 < a0) = true := decide_eq_true c9
  clear c9
  obtain rfl := Option.some.inj H
  go_enter Try.func37, Try.ntmps37
  go_wp2_with (first | ((with_reducible refine gate_callee (f := 47) rfl ?_); refine goesL_ (some 8) rfl rfl Try.func47 (by kernel_rfl) rfl #[.int .i64 a0] rfl argt ?_; (with_reducible refine (cmp_isNaN_int64.calls a0 false _ A3.out).mono ?_); rintro e w' ⟨rfl, ⟨nd, rfl⟩⟩; refine ⟨_, rfl, ?_⟩) | ((with_reducible refine gate_callee (f := 47) rfl ?_); refine goesL_ (some 10) rfl rfl Try.func47 (by kernel_rfl) rfl #[.int .i64 a1] rfl argt ?_; (with_reducible refine (cmp_isNaN_int64.calls a1 false _ A4.out).mono ?_); rintro e w' ⟨rfl, ⟨nd, rfl⟩⟩; refine ⟨_, rfl, ?_⟩))
  go_ret
  exact ⟨by first | rfl | (simp; done) | (simp [*]; done), by repeat (first | exact Drawn0.refl _ | apply Drawn0.step)⟩
 rw [if_neg c9] at H
 have c9b0 : decide (a1 < a0) = false := decide_eq_false c9
 clear c9
 obtain rfl := Option.some.inj H
 go_enter Try.func37, Try.ntmps37
 go_wp2_with (first | ((with_reducible refine gate_callee (f := 47) rfl ?_); refine goesL_ (some 8) rfl rfl Try.func47 (by kernel_rfl) rfl #[.int .i64 a0] rfl argt ?_; (with_reducible refine (cmp_isNaN_int64.calls a0 false _ A3.out).mono ?_); rintro e w' ⟨rfl, ⟨nd, rfl⟩⟩; refine ⟨_, rfl, ?_⟩) | ((with_reducible refine gate_callee (f := 47) rfl ?_); refine goesL_ (some 10) rfl rfl Try.func47 (by kernel_rfl) rfl #[.int .i64 a1] rfl argt ?_; (with_reducible refine (cmp_isNaN_int64.calls a1 false _ A4.out).mono ?_); rintro e w' ⟨rfl, ⟨nd, rfl⟩⟩; refine ⟨_, rfl, ?_⟩))
 go_ret
 exact ⟨by first | rfl | (simp; done) | (simp [*]; done), by repeat (first | exact Drawn0.refl _ | apply Drawn0.step)⟩


/-! ### cmp_isNaN_uint64: function 48 -/
def cmp_isNaN_uint64.f (a0 : Int) : Option (Bool) := some (a0 != a0)
set_option maxHeartbeats 8000000 in
set_option maxRecDepth 100000 in
theorem cmp_isNaN_uint64.calls (a0 : Int) (r : Bool) (w : World) (h : cmp_isNaN_uint64.f a0 = some r) :
  Calls Try.prog 48 #[.int .u64 a0] w fun e w' => e = .returned (.bool r) ∧ Drawn0 w w' := by
 have H : (some (a0 != a0)) = some r := h
 clear h
 obtain rfl := Option.some.inj H
 go_enter Try.func48, Try.ntmps48
 go_wp2
 go_ret
 exact ⟨by first | rfl | (simp; done) | (simp [*]; done), by repeat (first | exact Drawn0.refl _ | apply Drawn0.step)⟩


/-! ### cmp_Compare_uint64: function 38 -/
def cmp_Compare_uint64.f (a0 : Int) (a1 : Int) : Option (Int) := (cmp_isNaN_uint64.f a0).bind fun t103 => ((cmp_isNaN_uint64.f a1).bind fun t104 => (if t103 = true then (if t104 = true then (some 0) else (some (-1))) else (if t104 = true then (some 1) else (if a0 < a1 then (some (-1)) else (if a0 > a1 then (some 1) else (some 0))))))
set_option maxHeartbeats 8000000 in
set_option maxRecDepth 100000 in
theorem cmp_Compare_uint64.calls (a0 : Int) (a1 : Int) (r : Int) (w : World) (h : cmp_Compare_uint64.f a0 a1 = some r) :
  Calls Try.prog 38 #[.int .u64 a0, .int .u64 a1] w fun e w' => e = .returned (.int .i64 r) ∧ Drawn0 w w' := by
 have H : ((cmp_isNaN_uint64.f a0).bind fun t103 => ((cmp_isNaN_uint64.f a1).bind fun t104 => (if t103 = true then (if t104 = true then (some 0) else (some (-1))) else (if t104 = true then (some 1) else (if a0 < a1 then (some (-1)) else (if a0 > a1 then (some 1) else (some 0))))))) = some r := h
 clear h
 replace H := Option.bind_eq_some_iff.mp H
 obtain ⟨t103, A30, H⟩ := H
 replace H : ((cmp_isNaN_uint64.f a1).bind fun t104 => (if t103 = true then (if t104 = true then (some 0) else (some (-1))) else (if t104 = true then (some 1) else (if a0 < a1 then (some (-1)) else (if a0 > a1 then (some 1) else (some 0)))))) = some r := H
 have A3 := Aside0.mk A30
 clear A30
 replace H := Option.bind_eq_some_iff.mp H
 obtain ⟨t104, A40, H⟩ := H
 replace H : (if t103 = true then (if t104 = true then (some 0) else (some (-1))) else (if t104 = true then (some 1) else (if a0 < a1 then (some (-1)) else (if a0 > a1 then (some 1) else (some 0))))) = some r := H
 have A4 := Aside0.mk A40
 clear A40
 by_cases c5 : t103 = true
 ·subst c5
  have H1 : (if t104 = true then (some 0) else (some (-1))) = some r := by rw [if_pos rfl] at H; exact H
  clear H
  have H := H1
  clear H1
  by_cases c6 : t104 = true
  ·subst c6
   have H1 : (some 0) = some r := by rw [if_pos rfl] at H; exact H
   clear H
   have H := H1
   clear H1
   obtain rfl := Option.some.inj H
   go_enter Try.func38, Try.ntmps38
   go_wp2_with (first | ((with_reducible refine gate_callee (f := 48) rfl ?_); refine goesL_ (some 8) rfl rfl Try.func48 (by kernel_rfl) rfl #[.int .u64 a0] rfl argt ?_; (with_reducible refine (cmp_isNaN_uint64.calls a0 true _ A3.out).mono ?_); rintro e w' ⟨rfl, ⟨nd, rfl⟩⟩; refine ⟨_, rfl, ?_⟩) | ((with_reducible refine gate_callee (f := 48) rfl ?_); refine goesL_ (some 10) rfl rfl Try.func48 (by kernel_rfl) rfl #[.int .u64 a1] rfl argt ?_; (with_reducible refine (cmp_isNaN_uint64.calls a1 true _ A4.out).mono ?_); rintro e w' ⟨rfl, ⟨nd, rfl⟩⟩; refine ⟨_, rfl, ?_⟩))
   go_ret
   exact ⟨by first | rfl | (simp; done) | (simp [*]; done), by repeat (first | exact Drawn0.refl _ | apply Drawn0.step)⟩
  replace c6 := Bool.eq_false_iff.mpr c6
  subst c6
  have H1 : (some (-1)) = some r := by rw [if_neg (show ¬ (false = true) by decide)] at H; exact H
  clear H
  have H := H1
  clear H1
  obtain rfl := Option.some.inj H
  go_enter Try.func38, Try.ntmps38
  go_wp2_with (first | ((with_reducible refine gate_callee (f := 48) rfl ?_); refine goesL_ (some 8) rfl rfl Try.func48 (by kernel_rfl) rfl #[.int .u64 a0] rfl argt ?_; (with_reducible refine (cmp_isNaN_uint64.calls a0 true _ A3.out).mono ?_); rintro e w' ⟨rfl, ⟨nd, rfl⟩⟩; refine ⟨_, rfl, ?_⟩) | ((with_reducible refine gate_callee (f := 48) rfl ?_); refine goesL_ (some 10) rfl rfl Try.func48 (by kernel_rfl) rfl #[.int .u64 a1] rfl argt ?_; (with_reducible refine (cmp_isNaN_uint64.calls a1 false _ A4.out).mono ?_); rintro e w' ⟨rfl, ⟨nd, rfl⟩⟩; refine ⟨_, rfl, ?_⟩))
  go_ret
  exact ⟨by first | rfl | (simp; done) | (simp [*]; done), by repeat (first | exact Drawn0.refl _ | apply Drawn0.step)⟩
 replace c5 := Bool.eq_false_iff.mpr c5
 subst c5
 have H1 : (if t104 = true then (some 1) else (if a0 < a1 then (some (-1)) else (if a0 > a1 then (some 1) else (some 0)))) = some r := by rw [if_neg (show ¬ (false = true) by decide)] at H; exact H
 clear H
 have H := H1
 clear H1
 by_cases c7 : t104 = true
 ·subst c7
  have H1 : (some 1) = some r := by rw [if_pos rfl] at H; exact H
  clear H
  have H := H1
  clear H1
  obtain rfl := Option.some.inj H
  go_enter Try.func38, Try.ntmps38
  go_wp2_with (first | ((with_reducible refine gate_callee (f := 48) rfl ?_); refine goesL_ (some 8) rfl rfl Try.func48 (by kernel_rfl) rfl #[.int .u64 a0] rfl argt ?_; (with_reducible refine (cmp_isNaN_uint64.calls a0 false _ A3.out).mono ?_); rintro e w' ⟨rfl, ⟨nd, rfl⟩⟩; refine ⟨_, rfl, ?_⟩) | ((with_reducible refine gate_callee (f := 48) rfl ?_); refine goesL_ (some 10) rfl rfl Try.func48 (by kernel_rfl) rfl #[.int .u64 a1] rfl argt ?_; (with_reducible refine (cmp_isNaN_uint64.calls a1 true _ A4.out).mono ?_); rintro e w' ⟨rfl, ⟨nd, rfl⟩⟩; refine ⟨_, rfl, ?_⟩))
  go_ret
  exact ⟨by first | rfl | (simp; done) | (simp [*]; done), by repeat (first | exact Drawn0.refl _ | apply Drawn0.step)⟩
 replace c7 := Bool.eq_false_iff.mpr c7
 subst c7
 have H1 : (if a0 < a1 then (some (-1)) else (if a0 > a1 then (some 1) else (some 0))) = some r := by rw [if_neg (show ¬ (false = true) by decide)] at H; exact H
 clear H
 have H := H1
 clear H1
 by_cases c8 : a0 < a1
 ·rw [if_pos c8] at H
  have c8b0 : decide (a0 < a1) = true := decide_eq_true c8
  clear c8
  obtain rfl := Option.some.inj H
  go_enter Try.func38, Try.ntmps38
  go_wp2_with (first | ((with_reducible refine gate_callee (f := 48) rfl ?_); refine goesL_ (some 8) rfl rfl Try.func48 (by kernel_rfl) rfl #[.int .u64 a0] rfl argt ?_; (with_reducible refine (cmp_isNaN_uint64.calls a0 false _ A3.out).mono ?_); rintro e w' ⟨rfl, ⟨nd, rfl⟩⟩; refine ⟨_, rfl, ?_⟩) | ((with_reducible refine gate_callee (f := 48) rfl ?_); refine goesL_ (some 10) rfl rfl Try.func48 (by kernel_rfl) rfl #[.int .u64 a1] rfl argt ?_; (with_reducible refine (cmp_isNaN_uint64.calls a1 false _ A4.out).mono ?_); rintro e w' ⟨rfl, ⟨nd, rfl⟩⟩; refine ⟨_, rfl, ?_⟩))
  go_ret
  exact ⟨by first | rfl | (simp; done) | (simp [*]; done), by repeat (first | exact Drawn0.refl _ | apply Drawn0.step)⟩
 rw [if_neg c8] at H
 have c8b0 : decide (a0 < a1) = false := decide_eq_false c8
 clear c8
 by_cases c9 : a0 > a1
 ·rw [if_pos c9] at H
  have c9b0 : decide (a1 < a0) = true := decide_eq_true c9
  clear c9
  obtain rfl := Option.some.inj H
  go_enter Try.func38, Try.ntmps38
  go_wp2_with (first | ((with_reducible refine gate_callee (f := 48) rfl ?_); refine goesL_ (some 8) rfl rfl Try.func48 (by kernel_rfl) rfl #[.int .u64 a0] rfl argt ?_; (with_reducible refine (cmp_isNaN_uint64.calls a0 false _ A3.out).mono ?_); rintro e w' ⟨rfl, ⟨nd, rfl⟩⟩; refine ⟨_, rfl, ?_⟩) | ((with_reducible refine gate_callee (f := 48) rfl ?_); refine goesL_ (some 10) rfl rfl Try.func48 (by kernel_rfl) rfl #[.int .u64 a1] rfl argt ?_; (with_reducible refine (cmp_isNaN_uint64.calls a1 false _ A4.out).mono ?_); rintro e w' ⟨rfl, ⟨nd, rfl⟩⟩; refine ⟨_, rfl, ?_⟩))
  go_ret
  exact ⟨by first | rfl | (simp; done) | (simp [*]; done), by repeat (first | exact Drawn0.refl _ | apply Drawn0.step)⟩
 rw [if_neg c9] at H
 have c9b0 : decide (a1 < a0) = false := decide_eq_false c9
 clear c9
 obtain rfl := Option.some.inj H
 go_enter Try.func38, Try.ntmps38
 go_wp2_with (first | ((with_reducible refine gate_callee (f := 48) rfl ?_); refine goesL_ (some 8) rfl rfl Try.func48 (by kernel_rfl) rfl #[.int .u64 a0] rfl argt ?_; (with_reducible refine (cmp_isNaN_uint64.calls a0 false _ A3.out).mono ?_); rintro e w' ⟨rfl, ⟨nd, rfl⟩⟩; refine ⟨_, rfl, ?_⟩) | ((with_reducible refine gate_callee (f := 48) rfl ?_); refine goesL_ (some 10) rfl rfl Try.func48 (by kernel_rfl) rfl #[.int .u64 a1] rfl argt ?_; (with_reducible refine (cmp_isNaN_uint64.calls a1 false _ A4.out).mono ?_); rintro e w' ⟨rfl, ⟨nd, rfl⟩⟩; refine ⟨_, rfl, ?_⟩))
 go_ret
 exact ⟨by first | rfl | (simp; done) | (simp [*]; done), by repeat (first | exact Drawn0.refl _ | apply Drawn0.step)⟩


/-! ### cmp_Or_int: function 36 -/
def cmp_Or_int.l0 : Nat → Int → List Int → Int → Int → Option (Int)
 | 0, _, _, _, _ => none
 | k + 1, x3, x6, x7, x8 => if x8 < x7 then (if 0 ≤ x8 then (if x8 < (x6.length : Int) then (if (rd x6 x8) = x3 then (cmp_Or_int.l0 k x3 x6 x7 (wrap64 (x8 + 1))) else (some (rd x6 x8))) else (none)) else (none)) else (some x3)
def cmp_Or_int.f (k : Nat) (l0 : List Int) : Option (Int) := cmp_Or_int.l0 k 0 l0 (l0.length : Int) 0
theorem cmp_Or_int.mono_l : ∀ k, (∀ y0 y1 y2 y3, LeO (cmp_Or_int.l0 k y0 y1 y2 y3) (cmp_Or_int.l0 (k + 1) y0 y1 y2 y3))
 | 0 => fun _ _ _ _ r h => by simp [cmp_Or_int.l0] at h
 | k + 1 => by
  have ih0 := cmp_Or_int.mono_l k
  ·intro y0 y1 y2 y3
   unfold cmp_Or_int.l0
   repeat' first
   | (with_reducible exact ih0 _ _ _ _)
   | (with_reducible exact LeO.refl _)
   | (with_reducible exact LeO.none _)
   | (with_reducible refine LeO.ite ?_ ?_)
   | (with_reducible refine LeO.bind ?_ (fun _ => ?_))
   | exact ih0 _ _ _ _
   | exact LeO.none _
   | refine LeO.ite ?_ ?_
   | refine LeO.bind ?_ (fun _ => ?_)
theorem cmp_Or_int.mono : ∀ a0 k, LeO (cmp_Or_int.f k a0) (cmp_Or_int.f (k + 1) a0) := by
 intro a0 k
 have ih0 := cmp_Or_int.mono_l k
 unfold cmp_Or_int.f
 repeat' first
   | (with_reducible exact ih0 _ _ _ _)
   | (with_reducible exact LeO.refl _)
   | (with_reducible exact LeO.none _)
   | (with_reducible refine LeO.ite ?_ ?_)
   | (with_reducible refine LeO.bind ?_ (fun _ => ?_))
   | exact ih0 _ _ _ _
   | exact LeO.none _
   | refine LeO.ite ?_ ?_
   | refine LeO.bind ?_ (fun _ => ?_)
set_option maxHeartbeats 8000000 in
set_option maxRecDepth 100000 in
theorem cmp_Or_int.calls (k : Nat) (A0 : Option Addr) (c0 : Nat) (l0 : List Int) (r : Int) (w : World) (hr0 : Kd.C (Kd.int .i64) w A0 l0.length l0) (hc0 : l0.length ≤ c0) (h : cmp_Or_int.f k l0 = some r) :
  Calls Try.prog 36 #[.slice A0 l0.length c0] w fun e w' => e = .returned (.int .i64 r) ∧ Drawn0 w w' := by
 have HR0 := Aside0.mk hr0
 have HC0 := Aside0.mk hc0
 clear hr0 hc0
 have H : (cmp_Or_int.l0 k 0 l0 (l0.length : Int) 0) = some r := h
 clear h
 have H' := Aside0.mk H
 clear H
 go_enter Try.func36, Try.ntmps36
 go_wp2
 (try simp only [Act.put, List.setIfInBounds_toArray, List.set_cons_zero, List.set_cons_succ])
 go_loopg [8] k (fun kq v8 w' => ∃ (x8_1 : Int), v8 = .int .i64 x8_1 ∧ Aside0 (cmp_Or_int.l0 kq 0 l0 (l0.length : Int) x8_1 = some r) ∧ Aside0 (kq ≤ k) ∧ Drawn0 w w')
 case atStart => exact ⟨(0), (by first | rfl | (simp; done) | (simp [*]; done)), H', ⟨Nat.le_refl _⟩, by repeat (first | exact Drawn0.refl _ | apply Drawn0.step)⟩
 case round =>
  clear H'
  obtain ⟨x8_1, rfl, HA, HK1, ⟨m1, rfl⟩⟩ := hrel
  cases gk with
  | zero => exact absurd HA.out (by simp [cmp_Or_int.l0])
  | succ k1 =>
   have H := HA.out
   clear HA
   simp only [cmp_Or_int.l0] at H
   by_cases c2 : x8_1 < (l0.length : Int)
   ·rw [if_pos c2] at H
    have c2b0 : decide (x8_1 < (l0.length : Int)) = true := decide_eq_true c2
    clear c2
    by_cases c3 : 0 ≤ x8_1
    ·rw [if_pos c3] at H
     have c3b0 : decide (0 ≤ x8_1) = true := decide_eq_true c3
     clear c3
     by_cases c4 : x8_1 < (l0.length : Int)
     ·rw [if_pos c4] at H
      have c4b0 : decide (x8_1 < (l0.length : Int)) = true := decide_eq_true c4
      clear c4
      by_cases c5 : (rd l0 x8_1) = 0
      ·rw [if_pos c5] at H
       have c5b0 : ((rd l0 x8_1) == 0) = true := beq_iff_eq.mpr c5
       have c5b1 : ((rd l0 x8_1) != 0) = false := bne_eq_false_iff_eq.mpr c5
       clear c5
       have H' := Aside0.mk H
       clear H
       have p105 : 0 ≤ (x8_1 : Int) := of_decide_eq_true (by first | (with_reducible assumption) | assumption)
       have q105 : x8_1 < (l0.length : Int) := of_decide_eq_true (by first | (with_reducible assumption) | assumption)
       obtain ⟨ad105, e105, hx105_0⟩ := Kd.at_int HR0.out x8_1 p105 q105
       cases e105
       replace p105 := eq_true p105
       replace q105 := eq_true q105
       go_wp2
       go_roundg k1
       case measure => have := HK1.out; omega
       case rel => exact ⟨(wrap64 (x8_1 + 1)), (by first | rfl | (simp; done) | (simp [*]; done)), H', ⟨by have := HK1.out; omega⟩, by repeat (first | exact Drawn0.refl _ | apply Drawn0.step)⟩
      rw [if_neg c5] at H
      have c5b0 : ((rd l0 x8_1) == 0) = false := beq_eq_false_iff_ne.mpr c5
      have c5b1 : ((rd l0 x8_1) != 0) = true := bne_iff_ne.mpr c5
      obtain rfl := Option.some.inj H
      have p105 : 0 ≤ (x8_1 : Int) := of_decide_eq_true (by first | (with_reducible assumption) | assumption)
      have q105 : x8_1 < (l0.length : Int) := of_decide_eq_true (by first | (with_reducible assumption) | assumption)
      obtain ⟨ad105, e105, hx105_0⟩ := Kd.at_int HR0.out x8_1 p105 q105
      cases e105
      replace p105 := eq_true p105
      replace q105 := eq_true q105
      go_wp2
      go_ret
      exact ⟨by first | rfl | (simp; done) | (simp [*]; done), by repeat (first | exact Drawn0.refl _ | apply Drawn0.step)⟩
     rw [if_neg c4] at H
     exact absurd H (by simp)
    rw [if_neg c3] at H
    exact absurd H (by simp)
   rw [if_neg c2] at H
   have c2b0 : decide (x8_1 < (l0.length : Int)) = false := decide_eq_false c2
   clear c2
   obtain rfl := Option.some.inj H
   go_wp2
   go_ret
   exact ⟨by first | rfl | (simp; done) | (simp [*]; done), by repeat (first | exact Drawn0.refl _ | apply Drawn0.step)⟩


/-! ### pos_Pos_Cmp: function 25 -/
def pos_Pos_Cmp.f (k : Nat) (a0_0 : Int) (a0_1 : Int) (a0_2 : Int) (a1_0 : Int) (a1_1 : Int) (a1_2 : Int) : Option (Int) := (vtime_Time_Since.f a1_0 a0_0).bind fun t108 => ((cmp_Compare_int64.f 0 t108).bind fun t109 => ((cmp_Compare_uint64.f (IntKind.u64.wrap ((IntKind.u64.wrap (a0_1)) * (IntKind.u64.wrap (a1_2)))) (IntKind.u64.wrap ((IntKind.u64.wrap (a1_1)) * (IntKind.u64.wrap (a0_2))))).bind fun t110 => ((cmp_Or_int.f k (([t109, t110] : List Int))).bind fun t114 => (some t114))))
theorem pos_Pos_Cmp.mono : ∀ a0 a1 a2 a3 a4 a5 k, LeO (pos_Pos_Cmp.f k a0 a1 a2 a3 a4 a5) (pos_Pos_Cmp.f (k + 1) a0 a1 a2 a3 a4 a5) := by
 intro a0 a1 a2 a3 a4 a5 k
 unfold pos_Pos_Cmp.f
 repeat' first
   | (with_reducible exact cmp_Or_int.mono _ _)
   | (with_reducible exact LeO.refl _)
   | (with_reducible exact LeO.none _)
   | (with_reducible refine LeO.ite ?_ ?_)
   | (with_reducible refine LeO.bind ?_ (fun _ => ?_))
   | exact cmp_Or_int.mono _ _
   | exact LeO.none _
   | refine LeO.ite ?_ ?_
   | refine LeO.bind ?_ (fun _ => ?_)
def pos_Pos_Cmp.T1 : Bool × List (List Nat × List Nat) := (true, [([], []), ([0], [0]), ([], []), ([2], [2]), ([1, 3], [1, 3]), ([4, 4], [4]), ([], []), ([6], [6]), ([7], [7]), ([], []), ([9], [9]), ([10], [10]), ([8, 11], [8, 11]), ([], []), ([13], [13]), ([14], [14]), ([], []), ([16], [16]), ([17], [17]), ([15, 18], [15, 18]), ([12, 19, 5], [12, 19]), ([5, 20], [5, 20]), ([21, 20], [21]), ([22, 22, 0, 1, 2, 3, 4, 5, 6, 7, 8, 9, 10, 11, 12, 13, 14, 15, 16, 17, 18, 19, 20, 21, 22], [22])])
def pos_Pos_Cmp.B1 : List Nat := [0, 1, 0, 4, 15, 31, 0, 64, 192, 0, 512, 1536, 4032, 0, 8192, 24576, 0, 65536, 196608, 516096, 1048575, 2097151, 4194303, 8388607]
theorem pos_Pos_Cmp.tab1 : rtab .any (opsOf Try.f25 1) = pos_Pos_Cmp.T1 := by kernel_rfl
theorem pos_Pos_Cmp.bits1 : waitsOk pos_Pos_Cmp.T1.2 pos_Pos_Cmp.B1 = true := by kernel_rfl
set_option maxHeartbeats 8000000 in
set_option maxRecDepth 100000 in
theorem pos_Pos_Cmp.calls (k : Nat) (a0_0 : Int) (a0_1 : Int) (a0_2 : Int) (a1_0 : Int) (a1_1 : Int) (a1_2 : Int) (r : Int) (w : World) (h : pos_Pos_Cmp.f k a0_0 a0_1 a0_2 a1_0 a1_1 a1_2 = some r) :
  Calls Try.prog 25 #[.agg #[.int .u64 a0_0, .int .u32 a0_1, .int .u32 a0_2], .agg #[.int .u64 a1_0, .int .u32 a1_1, .int .u32 a1_2]] w fun e w' => e = .returned (.int .i64 r) ∧ Below w.heap.size w w' := by
 have hu26 := Try.underlying26
 have HB := Aside0.mk (Below.refl w.heap.size w)
 have H : ((vtime_Time_Since.f a1_0 a0_0).bind fun t108 => ((cmp_Compare_int64.f 0 t108).bind fun t109 => ((cmp_Compare_uint64.f (IntKind.u64.wrap ((IntKind.u64.wrap (a0_1)) * (IntKind.u64.wrap (a1_2)))) (IntKind.u64.wrap ((IntKind.u64.wrap (a1_1)) * (IntKind.u64.wrap (a0_2))))).bind fun t110 => ((cmp_Or_int.f k (([t109, t110] : List Int))).bind fun t114 => (some t114))))) = some r := h
 clear h
 replace H := Option.bind_eq_some_iff.mp H
 obtain ⟨t108, A30, H⟩ := H
 replace H : ((cmp_Compare_int64.f 0 t108).bind fun t109 => ((cmp_Compare_uint64.f (IntKind.u64.wrap ((IntKind.u64.wrap (a0_1)) * (IntKind.u64.wrap (a1_2)))) (IntKind.u64.wrap ((IntKind.u64.wrap (a1_1)) * (IntKind.u64.wrap (a0_2))))).bind fun t110 => ((cmp_Or_int.f k (([t109, t110] : List Int))).bind fun t114 => (some t114)))) = some r := H
 have A3 := Aside0.mk A30
 clear A30
 replace H := Option.bind_eq_some_iff.mp H
 obtain ⟨t109, A40, H⟩ := H
 replace H : ((cmp_Compare_uint64.f (IntKind.u64.wrap ((IntKind.u64.wrap (a0_1)) * (IntKind.u64.wrap (a1_2)))) (IntKind.u64.wrap ((IntKind.u64.wrap (a1_1)) * (IntKind.u64.wrap (a0_2))))).bind fun t110 => ((cmp_Or_int.f k (([t109, t110] : List Int))).bind fun t114 => (some t114))) = some r := H
 have A4 := Aside0.mk A40
 clear A40
 replace H := Option.bind_eq_some_iff.mp H
 obtain ⟨t110, A50, H⟩ := H
 replace H : ((cmp_Or_int.f k (([t109, t110] : List Int))).bind fun t114 => (some t114)) = some r := H
 have A5 := Aside0.mk A50
 clear A50
 obtain ⟨y111, hy111⟩ : ∃ y_ : List Int, y_ = (([t109, t110] : List Int)) := ⟨_, rfl⟩
 replace H : ((cmp_Or_int.f k y111).bind fun t114 => (some t114)) = some r := by first | (rw [hy111]; with_reducible exact H) | (have H2_ := (Option.bind_some _ _).symm.trans H; rw [hy111]; with_reducible exact H2_) | (have H2_ := (Option.bind_some _ _).symm.trans H; with_reducible exact H2_) | with_reducible exact H | (rw [hy111]; exact H) | exact H
 have Ny111 := Aside0.mk hy111
 clear hy111
 replace H := Option.bind_eq_some_iff.mp H
 obtain ⟨t114, A60, H⟩ := H
 replace H : (some t114) = some r := H
 have A6 := Aside0.mk A60
 clear A60
 obtain rfl := Option.some.inj H
 go_enter Try.func25, Try.ntmps25
 try go_wp2_with (first | ((with_reducible refine gate_dst (N := 2) rfl ?_); refine box_event ?hg (N := 2) ?hd (cs := #[.int .u64 a0_0, .int .u32 a0_1, .int .u32 a0_2]) (t := 26) ?hr ?_; (case hd => rfl); (case hg => rfl); (case hr => first | (go_simp; done) | (go_simp; rfl)); intro gb106 hg w7 hbox hb; have BK106 := Aside0.mk (hbox); have GW106 := bels HB hg; have GE106 := bels HB hg; replace HB := belb HB hb; clear hb hbox hg) | ((with_reducible refine gate_dst (N := 3) rfl ?_); refine box_event ?hg (N := 3) ?hd (cs := #[.int .u64 a1_0, .int .u32 a1_1, .int .u32 a1_2]) (t := 26) ?hr ?_; (case hd => rfl); (case hg => rfl); (case hr => first | (go_simp; done) | (go_simp; rfl)); intro gb107 hg w8 hbox hb; have BK107 := Aside0.mk (hbox); have GW107 := bels HB hg; have GE107 := bels HB hg; have NB106_107 := blkl BK106 hg; have NB107_106 := blkg BK106 hg; replace BK106 := blkb BK106 hb; replace HB := belb HB hb; clear hb hbox hg))
 replace BK106 := Aside0.mk (blk_drew BK106.out)
 replace BK107 := Aside0.mk (blk_drew BK107.out)
 replace HB := Aside0.mk (below_drew1 HB.out)
 refine start_ (n := 24) (S := fun w' => w'.cell? ⟨gb107, 0, none⟩ = some (.int .u64 a1_0) ∧ w'.cell? ⟨gb107, 1, none⟩ = some (.int .u32 a1_1) ∧ w'.cell? ⟨gb107, 2, none⟩ = some (.int .u32 a1_2) ∧ w'.cell? ⟨gb106, 0, none⟩ = some (.int .u64 a0_0) ∧ w'.cell? ⟨gb106, 1, none⟩ = some (.int .u32 a0_1) ∧ w'.cell? ⟨gb106, 2, none⟩ = some (.int .u32 a0_2)) (ds := []) #[false, false, false, false, false, false, false, false, false, false, false, false, false, false, false, false, false, false, false, false, false, false, false, false] (by kernel_rfl) rfl rfl ⟨bc BK107 0, bc BK107 1, bc BK107 2, bc BK106 0, bc BK106 1, bc BK106 2⟩ (fun hHeld => ?_); refine with_tabW pos_Pos_Cmp.tab1 pos_Pos_Cmp.bits1 (fun HT_ HW_ => ?_)
 generalize w8.drew = w9 at BK106 BK107 HB hHeld ⊢
 refine pure_ (i := 0) (N := some 5) (v := ?_) (a' := ?_) #[true, false, false, false, false, false, false, false, false, false, false, false, false, false, false, false, false, false, false, false, false, false, false, false] rfl rfl (any_of HT_.out (by kernel_rfl)) (fun _ _ _ h => h) (Or.inl ⟨by rfl, ?_⟩) ?_ ?_
 rotate_left
 ·intro w'
  go_simp
  with_reducible rfl
 rotate_left
 ·simp only [Act.put, List.setIfInBounds_toArray, List.set_cons_zero, List.set_cons_succ, i64_w, i32_w]
  rfl
 refine pure_ (i := 2) (N := some 7) (v := ?_) (a' := ?_) #[true, false, true, false, false, false, false, false, false, false, false, false, false, false, false, false, false, false, false, false, false, false, false, false] rfl rfl (any_of HT_.out (by kernel_rfl)) (fun _ _ _ h => h) (Or.inl ⟨by rfl, ?_⟩) ?_ ?_
 rotate_left
 ·intro w'
  go_simp
  with_reducible rfl
 rotate_left
 ·simp only [Act.put, List.setIfInBounds_toArray, List.set_cons_zero, List.set_cons_succ, i64_w, i32_w]
  rfl
 refine pure_ (i := 6) (N := some 11) (v := ?_) (a' := ?_) #[true, false, true, false, false, false, true, false, false, false, false, false, false, false, false, false, false, false, false, false, false, false, false, false] rfl rfl (any_of HT_.out (by kernel_rfl)) (fun _ _ _ h => h) (Or.inl ⟨by rfl, ?_⟩) ?_ ?_
 rotate_left
 ·intro w'
  go_simp
  with_reducible rfl
 rotate_left
 ·simp only [Act.put, List.setIfInBounds_toArray, List.set_cons_zero, List.set_cons_succ, i64_w, i32_w]
  rfl
 refine pure_ (i := 9) (N := some 14) (v := ?_) (a' := ?_) #[true, false, true, false, false, false, true, false, false, true, false, false, false, false, false, false, false, false, false, false, false, false, false, false] rfl rfl (any_of HT_.out (by kernel_rfl)) (fun _ _ _ h => h) (Or.inl ⟨by rfl, ?_⟩) ?_ ?_
 rotate_left
 ·intro w'
  go_simp
  with_reducible rfl
 rotate_left
 ·simp only [Act.put, List.setIfInBounds_toArray, List.set_cons_zero, List.set_cons_succ, i64_w, i32_w]
  rfl
 refine pure_ (i := 13) (N := some 18) (v := ?_) (a' := ?_) #[true, false, true, false, false, false, true, false, false, true, false, false, false, true, false, false, false, false, false, false, false, false, false, false] rfl rfl (any_of HT_.out (by kernel_rfl)) (fun _ _ _ h => h) (Or.inl ⟨by rfl, ?_⟩) ?_ ?_
 rotate_left
 ·intro w'
  go_simp
  with_reducible rfl
 rotate_left
 ·simp only [Act.put, List.setIfInBounds_toArray, List.set_cons_zero, List.set_cons_succ, i64_w, i32_w]
  rfl
 refine pure_ (i := 16) (N := some 21) (v := ?_) (a' := ?_) #[true, false, true, false, false, false, true, false, false, true, false, false, false, true, false, false, true, false, false, false, false, false, false, false] rfl rfl (any_of HT_.out (by kernel_rfl)) (fun _ _ _ h => h) (Or.inl ⟨by rfl, ?_⟩) ?_ ?_
 rotate_left
 ·intro w'
  go_simp
  with_reducible rfl
 rotate_left
 ·simp only [Act.put, List.setIfInBounds_toArray, List.set_cons_zero, List.set_cons_succ, i64_w, i32_w]
  rfl
 refine take_ (i := 1) (N := some 6) (v := ?_) (a' := ?_) #[true, true, true, false, false, false, true, false, false, true, false, false, false, true, false, false, true, false, false, false, false, false, false, false] rfl rfl (take_ofW HT_.out HW_.out (by kernel_rfl)) (fun _ _ _ h => h) (Or.inl ⟨by rfl, ?_⟩) hHeld ?_ ?_
 rotate_left
 ·rintro w' ⟨s0, s1, s2, s3, s4, s5⟩
  go_simp
  with_reducible rfl
 rotate_left
 ·simp only [Act.put, List.setIfInBounds_toArray, List.set_cons_zero, List.set_cons_succ, i64_w, i32_w]
  rfl
 refine take_ (i := 3) (N := some 8) (v := ?_) (a' := ?_) #[true, true, true, true, false, false, true, false, false, true, false, false, false, true, false, false, true, false, false, false, false, false, false, false] rfl rfl (take_ofW HT_.out HW_.out (by kernel_rfl)) (fun _ _ _ h => h) (Or.inl ⟨by rfl, ?_⟩) hHeld ?_ ?_
 rotate_left
 ·rintro w' ⟨s0, s1, s2, s3, s4, s5⟩
  go_simp
  with_reducible rfl
 rotate_left
 ·simp only [Act.put, List.setIfInBounds_toArray, List.set_cons_zero, List.set_cons_succ, i64_w, i32_w]
  rfl
 refine take_ (i := 7) (N := some 12) (v := ?_) (a' := ?_) #[true, true, true, true, false, false, true, true, false, true, false, false, false, true, false, false, true, false, false, false, false, false, false, false] rfl rfl (take_ofW HT_.out HW_.out (by kernel_rfl)) (fun _ _ _ h => h) (Or.inl ⟨by rfl, ?_⟩) hHeld ?_ ?_
 rotate_left
 ·rintro w' ⟨s0, s1, s2, s3, s4, s5⟩
  go_simp
  with_reducible rfl
 rotate_left
 ·simp only [Act.put, List.setIfInBounds_toArray, List.set_cons_zero, List.set_cons_succ, i64_w, i32_w]
  rfl
 refine pure_ (i := 8) (N := some 13) (v := ?_) (a' := ?_) #[true, true, true, true, false, false, true, true, true, true, false, false, false, true, false, false, true, false, false, false, false, false, false, false] rfl rfl (any_of HT_.out (by kernel_rfl)) (fun _ _ _ h => h) (Or.inl ⟨by rfl, ?_⟩) ?_ ?_
 rotate_left
 ·intro w'
  go_simp
  with_reducible rfl
 rotate_left
 ·simp only [Act.put, List.setIfInBounds_toArray, List.set_cons_zero, List.set_cons_succ, i64_w, i32_w]
  rfl
 refine take_ (i := 10) (N := some 15) (v := ?_) (a' := ?_) #[true, true, true, true, false, false, true, true, true, true, true, false, false, true, false, false, true, false, false, false, false, false, false, false] rfl rfl (take_ofW HT_.out HW_.out (by kernel_rfl)) (fun _ _ _ h => h) (Or.inl ⟨by rfl, ?_⟩) hHeld ?_ ?_
 rotate_left
 ·rintro w' ⟨s0, s1, s2, s3, s4, s5⟩
  go_simp
  with_reducible rfl
 rotate_left
 ·simp only [Act.put, List.setIfInBounds_toArray, List.set_cons_zero, List.set_cons_succ, i64_w, i32_w]
  rfl
 refine pure_ (i := 11) (N := some 16) (v := ?_) (a' := ?_) #[true, true, true, true, false, false, true, true, true, true, true, true, false, true, false, false, true, false, false, false, false, false, false, false] rfl rfl (any_of HT_.out (by kernel_rfl)) (fun _ _ _ h => h) (Or.inl ⟨by rfl, ?_⟩) ?_ ?_
 rotate_left
 ·intro w'
  go_simp
  with_reducible rfl
 rotate_left
 ·simp only [Act.put, List.setIfInBounds_toArray, List.set_cons_zero, List.set_cons_succ, i64_w, i32_w]
  rfl
 refine pure_ (i := 12) (N := some 17) (v := ?_) (a' := ?_) #[true, true, true, true, false, false, true, true, true, true, true, true, true, true, false, false, true, false, false, false, false, false, false, false] rfl rfl (any_of HT_.out (by kernel_rfl)) (fun _ _ _ h => h) (Or.inl ⟨by rfl, ?_⟩) ?_ ?_
 rotate_left
 ·intro w'
  go_simp
  with_reducible rfl
 rotate_left
 ·simp only [Act.put, List.setIfInBounds_toArray, List.set_cons_zero, List.set_cons_succ, i64_w, i32_w]
  rfl
 refine take_ (i := 14) (N := some 19) (v := ?_) (a' := ?_) #[true, true, true, true, false, false, true, true, true, true, true, true, true, true, true, false, true, false, false, false, false, false, false, false] rfl rfl (take_ofW HT_.out HW_.out (by kernel_rfl)) (fun _ _ _ h => h) (Or.inl ⟨by rfl, ?_⟩) hHeld ?_ ?_
 rotate_left
 ·rintro w' ⟨s0, s1, s2, s3, s4, s5⟩
  go_simp
  with_reducible rfl
 rotate_left
 ·simp only [Act.put, List.setIfInBounds_toArray, List.set_cons_zero, List.set_cons_succ, i64_w, i32_w]
  rfl
 refine pure_ (i := 15) (N := some 20) (v := ?_) (a' := ?_) #[true, true, true, true, false, false, true, true, true, true, true, true, true, true, true, true, true, false, false, false, false, false, false, false] rfl rfl (any_of HT_.out (by kernel_rfl)) (fun _ _ _ h => h) (Or.inl ⟨by rfl, ?_⟩) ?_ ?_
 rotate_left
 ·intro w'
  go_simp
  with_reducible rfl
 rotate_left
 ·simp only [Act.put, List.setIfInBounds_toArray, List.set_cons_zero, List.set_cons_succ, i64_w, i32_w]
  rfl
 refine take_ (i := 17) (N := some 22) (v := ?_) (a' := ?_) #[true, true, true, true, false, false, true, true, true, true, true, true, true, true, true, true, true, true, false, false, false, false, false, false] rfl rfl (take_ofW HT_.out HW_.out (by kernel_rfl)) (fun _ _ _ h => h) (Or.inl ⟨by rfl, ?_⟩) hHeld ?_ ?_
 rotate_left
 ·rintro w' ⟨s0, s1, s2, s3, s4, s5⟩
  go_simp
  with_reducible rfl
 rotate_left
 ·simp only [Act.put, List.setIfInBounds_toArray, List.set_cons_zero, List.set_cons_succ, i64_w, i32_w]
  rfl
 refine pure_ (i := 18) (N := some 23) (v := ?_) (a' := ?_) #[true, true, true, true, false, false, true, true, true, true, true, true, true, true, true, true, true, true, true, false, false, false, false, false] rfl rfl (any_of HT_.out (by kernel_rfl)) (fun _ _ _ h => h) (Or.inl ⟨by rfl, ?_⟩) ?_ ?_
 rotate_left
 ·intro w'
  go_simp
  with_reducible rfl
 rotate_left
 ·simp only [Act.put, List.setIfInBounds_toArray, List.set_cons_zero, List.set_cons_succ, i64_w, i32_w]
  rfl
 refine pure_ (i := 19) (N := some 24) (v := ?_) (a' := ?_) #[true, true, true, true, false, false, true, true, true, true, true, true, true, true, true, true, true, true, true, true, false, false, false, false] rfl rfl (any_of HT_.out (by kernel_rfl)) (fun _ _ _ h => h) (Or.inl ⟨by rfl, ?_⟩) ?_ ?_
 rotate_left
 ·intro w'
  go_simp
  with_reducible rfl
 rotate_left
 ·simp only [Act.put, List.setIfInBounds_toArray, List.set_cons_zero, List.set_cons_succ, i64_w, i32_w]
  rfl
 refine one_ (i := 4) (N := some 9) #[true, true, true, true, true, false, true, true, true, true, true, true, true, true, true, true, true, true, true, true, false, false, false, false] rfl rfl (one_of HT_.out (by kernel_rfl)) (by decide) (fun K hK => ?_)
 refine goes_ Try.func24 (by kernel_rfl) rfl #[.int .u64 a1_0, .int .u64 a0_0] (by rfl) rfl rfl argt ?_
 with_reducible refine (vtime_Time_Since.calls a1_0 a0_0 t108 _ A3.out).mono ?_
 rintro e w' ⟨rfl, ⟨nd, rfl⟩⟩
 refine ⟨_, rfl, ?_⟩
 refine hK.out _ _ ⟨bc BK107 0, bc BK107 1, bc BK107 2, bc BK106 0, bc BK106 1, bc BK106 2⟩ (fun hHeld => ?_)
 clear hK K
 refine norm_ (a' := ?_) ?_ ?_
 rotate_left
 ·show Act.put _ (some 9) _ = _
  simp only [Act.put, List.setIfInBounds_toArray, List.set_cons_zero, List.set_cons_succ, i64_w, i32_w]
  rfl
 refine one_ (i := 5) (N := some 10) #[true, true, true, true, true, true, true, true, true, true, true, true, true, true, true, true, true, true, true, true, false, false, false, false] rfl rfl (one_of HT_.out (by kernel_rfl)) (by decide) (fun K hK => ?_)
 refine goes_ Try.func37 (by kernel_rfl) rfl #[.int .i64 0, .int .i64 t108] (by rfl) rfl rfl argt ?_
 with_reducible refine (cmp_Compare_int64.calls 0 t108 t109 _ A4.out).mono ?_
 rintro e w' ⟨rfl, ⟨nd, rfl⟩⟩
 refine ⟨_, rfl, ?_⟩
 refine hK.out _ _ ⟨bc BK107 0, bc BK107 1, bc BK107 2, bc BK106 0, bc BK106 1, bc BK106 2⟩ (fun hHeld => ?_)
 clear hK K
 refine norm_ (a' := ?_) ?_ ?_
 rotate_left
 ·show Act.put _ (some 10) _ = _
  simp only [Act.put, List.setIfInBounds_toArray, List.set_cons_zero, List.set_cons_succ, i64_w, i32_w]
  rfl
 refine one_ (i := 20) (N := some 25) #[true, true, true, true, true, true, true, true, true, true, true, true, true, true, true, true, true, true, true, true, true, false, false, false] rfl rfl (one_of HT_.out (by kernel_rfl)) (by decide) (fun K hK => ?_)
 refine goes_ Try.func38 (by kernel_rfl) rfl #[.int .u64 (IntKind.u64.wrap ((IntKind.u64.wrap (a0_1)) * (IntKind.u64.wrap (a1_2)))), .int .u64 (IntKind.u64.wrap ((IntKind.u64.wrap (a1_1)) * (IntKind.u64.wrap (a0_2))))] (by rfl) rfl rfl argt ?_
 with_reducible refine (cmp_Compare_uint64.calls (IntKind.u64.wrap ((IntKind.u64.wrap (a0_1)) * (IntKind.u64.wrap (a1_2)))) (IntKind.u64.wrap ((IntKind.u64.wrap (a1_1)) * (IntKind.u64.wrap (a0_2)))) t110 _ A5.out).mono ?_
 rintro e w' ⟨rfl, ⟨nd, rfl⟩⟩
 refine ⟨_, rfl, ?_⟩
 refine hK.out _ _ ⟨bc BK107 0, bc BK107 1, bc BK107 2, bc BK106 0, bc BK106 1, bc BK106 2⟩ (fun hHeld => ?_)
 clear hK K
 refine norm_ (a' := ?_) ?_ ?_
 rotate_left
 ·show Act.put _ (some 25) _ = _
  simp only [Act.put, List.setIfInBounds_toArray, List.set_cons_zero, List.set_cons_succ, i64_w, i32_w]
  rfl
 refine one_ (i := 21) (N := some 26) #[true, true, true, true, true, true, true, true, true, true, true, true, true, true, true, true, true, true, true, true, true, true, false, false] rfl rfl (one_of HT_.out (by kernel_rfl)) (by decide) (fun K hK => ?_)
 refine Kd.R_lit_step (Kd.int .i64) _ 3 ?hg (N := 26) ?hd (xs := ([t109, t110] : List Int)) (inner := [.int .i64 t109, .int .i64 t110]) (ok := fun _ => True) (okp := fun _ => True) ?hr ?hp (fun _ hk => hk) trivial (Below.refl _ _) (Nat.le_refl _) (by simp) ?_; (case hd => rfl); (case hg => rfl); (case hr => first | (go_simp; done) | (go_simp; rfl)); (case hp => exact (Reps.one (show Kd.M (Kd.int .i64) _ _ _ t109 [.int .i64 t109] from rfl) (Reps.one (show Kd.M (Kd.int .i64) _ _ _ t110 [.int .i64 t110] from rfl) (Reps.none _ _))))
 intro v112 w10 ho11 hb hg_ hnew_
 clear hg_ hnew_
 (first | rw [← Ny111.out] at ho11 | (simp only [Int.reduceToNat] at ho11; rw [← Ny111.out] at ho11))
 have HO113 := Aside0.mk (Kd.R_lower ho11 (below_size (belt HB)))
 replace BK106 := blkb BK106 hb
 replace BK107 := blkb BK107 hb
 replace HB := belb HB hb
 clear hb ho11
 obtain ⟨Ao12, co12, eo12⟩ := Kd.R_slice HO113.out
 (first | subst eo12 | (injection eo12 with f1_ f2_ f3_; have f4_ := f1_.symm; have f5_ := f3_.symm; clear f1_ f2_ f3_; subst f4_; subst f5_))
 refine hK.out _ _ ⟨bc BK107 0, bc BK107 1, bc BK107 2, bc BK106 0, bc BK106 1, bc BK106 2⟩ (fun hHeld => ?_)
 clear hK K
 refine norm_ (a' := ?_) ?_ ?_
 rotate_left
 ·show Act.put _ (some 26) _ = _
  simp only [Act.put, List.setIfInBounds_toArray, List.set_cons_zero, List.set_cons_succ, i64_w, i32_w]
  rfl
 refine one_ (i := 22) (N := some 27) #[true, true, true, true, true, true, true, true, true, true, true, true, true, true, true, true, true, true, true, true, true, true, true, false] rfl rfl (one_of HT_.out (by kernel_rfl)) (by decide) (fun K hK => ?_)
 refine goes_ Try.func36 (by kernel_rfl) rfl #[.slice Ao12 y111.length co12] (by rfl) rfl rfl argt ?_
 with_reducible refine (cmp_Or_int.calls k _ _ y111 t114 _ ?side1 ?side2 A6.out).mono ?_
 (case side1 => repeat (first | exact (Kd.R_reads' HO113.out).2.2 | (with_reducible refine Kd.C_alloc ?_ _) | (with_reducible refine Kd.C_drewN ?_ _) | (with_reducible refine Kd.C_drew ?_)))
 (case side2 => exact (Kd.R_reads' HO113.out).2.1)
 rintro e w' ⟨rfl, ⟨nd, rfl⟩⟩
 refine ⟨_, rfl, ?_⟩
 refine hK.out _ _ ⟨bc BK107 0, bc BK107 1, bc BK107 2, bc BK106 0, bc BK106 1, bc BK106 2⟩ (fun hHeld => ?_)
 clear hK K
 refine norm_ (a' := ?_) ?_ ?_
 rotate_left
 ·show Act.put _ (some 27) _ = _
  simp only [Act.put, List.setIfInBounds_toArray, List.set_cons_zero, List.set_cons_succ, i64_w, i32_w]
  rfl
 refine pure_ (i := 23) (N := some 4) (v := ?_) (a' := ?_) #[true, true, true, true, true, true, true, true, true, true, true, true, true, true, true, true, true, true, true, true, true, true, true, true] rfl rfl (any_of HT_.out (by kernel_rfl)) (fun _ _ _ h => h) (Or.inl ⟨by rfl, ?_⟩) ?_ ?_
 rotate_left
 ·intro w'
  go_simp
  with_reducible rfl
 rotate_left
 ·simp only [Act.put, List.setIfInBounds_toArray, List.set_cons_zero, List.set_cons_succ, i64_w, i32_w]
  rfl
 refine done_ (done_of HT_.out (by kernel_rfl)) ?_
 try go_wp2
 go_ret
 exact ⟨by first | rfl | (simp [errW_none, errW_some] <;> rfl) | (simp [*, errW_none, errW_some] <;> rfl), belt HB⟩


/-! ### item_Item_Ahead: function 8 -/
def item_Item_Ahead.f (k : Nat) (a0_0 : Int) (a0_1 : Int) (a0_2 : Int) (a0_3 : Int) (a0_4 : Int) (a0_5 : Int) (a0_6 : Int) (a1_0 : Int) (a1_1 : Int) (a1_2 : Int) (a1_3 : Int) (a1_4 : Int) (a1_5 : Int) (a1_6 : Int) : Option (Bool) := (pos_Pos_Cmp.f k a0_0 a0_1 a0_2 a1_0 a1_1 a1_2).bind fun t117 => (if t117 < 0 then (some true) else (if t117 = 0 then (some (decide (a0_3 < a1_3))) else (some false)))
theorem item_Item_Ahead.mono : ∀ a0 a1 a2 a3 a4 a5 a6 a7 a8 a9 a10 a11 a12 a13 k, LeO (item_Item_Ahead.f k a0 a1 a2 a3 a4 a5 a6 a7 a8 a9 a10 a11 a12 a13) (item_Item_Ahead.f (k + 1) a0 a1 a2 a3 a4 a5 a6 a7 a8 a9 a10 a11 a12 a13) := by
 intro a0 a1 a2 a3 a4 a5 a6 a7 a8 a9 a10 a11 a12 a13 k
 unfold item_Item_Ahead.f
 repeat' first
   | (with_reducible exact pos_Pos_Cmp.mono _ _ _ _ _ _ _)
   | (with_reducible exact LeO.refl _)
   | (with_reducible exact LeO.none _)
   | (with_reducible refine LeO.ite ?_ ?_)
   | (with_reducible refine LeO.bind ?_ (fun _ => ?_))
   | exact pos_Pos_Cmp.mono _ _ _ _ _ _ _
   | exact LeO.none _
   | refine LeO.ite ?_ ?_
   | refine LeO.bind ?_ (fun _ => ?_)
set_option maxHeartbeats 8000000 in
set_option maxRecDepth 100000 in
theorem item_Item_Ahead.calls (k : Nat) (a0_0 : Int) (a0_1 : Int) (a0_2 : Int) (a0_3 : Int) (a0_4 : Int) (a0_5 : Int) (a0_6 : Int) (a1_0 : Int) (a1_1 : Int) (a1_2 : Int) (a1_3 : Int) (a1_4 : Int) (a1_5 : Int) (a1_6 : Int) (r : Bool) (w : World) (h : item_Item_Ahead.f k a0_0 a0_1 a0_2 a0_3 a0_4 a0_5 a0_6 a1_0 a1_1 a1_2 a1_3 a1_4 a1_5 a1_6 = some r) :
  Calls Try.prog 8 #[.agg #[.int .u64 a0_0, .int .u32 a0_1, .int .u32 a0_2, .int .i64 a0_3, .int .u64 a0_4, .int .u32 a0_5, .int .u32 a0_6], .agg #[.int .u64 a1_0, .int .u32 a1_1, .int .u32 a1_2, .int .i64 a1_3, .int .u64 a1_4, .int .u32 a1_5, .int .u32 a1_6]] w fun e w' => e = .returned (.bool r) ∧ Below w.heap.size w w' := by
 have hu28 := Try.underlying28
 have hu26 := Try.underlying26
 have HB := Aside0.mk (Below.refl w.heap.size w)
 have H : ((pos_Pos_Cmp.f k a0_0 a0_1 a0_2 a1_0 a1_1 a1_2).bind fun t117 => (if t117 < 0 then (some true) else (if t117 = 0 then (some (decide (a0_3 < a1_3))) else (some false)))) = some r := h
 clear h
 replace H := Option.bind_eq_some_iff.mp H
 obtain ⟨t117, A30, H⟩ := H
 replace H : (if t117 < 0 then (some true) else (if t117 = 0 then (some (decide (a0_3 < a1_3))) else (some false))) = some r := H
 have A3 := Aside0.mk A30
 clear A30
 by_cases c4 : t117 < 0
 ·rw [if_pos c4] at H
  have c4b0 : decide (t117 < 0) = true := decide_eq_true c4
  clear c4
  obtain rfl := Option.some.inj H
  go_enter Try.func8, Try.ntmps8
  go_wp2_with (first | ((with_reducible refine gate_dst (N := 2) rfl ?_); refine box_event ?hg (N := 2) ?hd (cs := #[.int .u64 a0_0, .int .u32 a0_1, .int .u32 a0_2, .int .i64 a0_3, .int .u64 a0_4, .int .u32 a0_5, .int .u32 a0_6]) (t := 28) ?hr ?_; (case hd => rfl); (case hg => rfl); (case hr => first | (go_simp; done) | (go_simp; rfl)); intro gb115 hg w5 hbox hb; have BK115 := Aside0.mk (hbox); have GW115 := bels HB hg; have GE115 := bels HB hg; replace HB := belb HB hb; clear hb hbox hg) | ((with_reducible refine gate_dst (N := 3) rfl ?_); refine box_event ?hg (N := 3) ?hd (cs := #[.int .u64 a1_0, .int .u32 a1_1, .int .u32 a1_2, .int .i64 a1_3, .int .u64 a1_4, .int .u32 a1_5, .int .u32 a1_6]) (t := 28) ?hr ?_; (case hd => rfl); (case hg => rfl); (case hr => first | (go_simp; done) | (go_simp; rfl)); intro gb116 hg w6 hbox hb; have BK116 := Aside0.mk (hbox); have GW116 := bels HB hg; have GE116 := bels HB hg; have NB115_116 := blkl BK115 hg; have NB116_115 := blkg BK115 hg; replace BK115 := blkb BK115 hb; replace HB := belb HB hb; clear hb hbox hg; have hnb7 := NB115_116.out; have hnc7 := NB116_115.out; have hcz8_0 : w6.cell? ⟨gb115, 0, none⟩ = some (.int .u64 a0_0) := bc BK115 0; have hcz8_1 : w6.cell? ⟨gb115, 1, none⟩ = some (.int .u32 a0_1) := bc BK115 1; have hcz8_2 : w6.cell? ⟨gb115, 2, none⟩ = some (.int .u32 a0_2) := bc BK115 2; have hcz8_3 : w6.cell? ⟨gb115, 3, none⟩ = some (.int .i64 a0_3) := bc BK115 3; have hcz8_4 : w6.cell? ⟨gb115, 4, none⟩ = some (.int .u64 a0_4) := bc BK115 4; have hcz8_5 : w6.cell? ⟨gb115, 5, none⟩ = some (.int .u32 a0_5) := bc BK115 5; have hcz8_6 : w6.cell? ⟨gb115, 6, none⟩ = some (.int .u32 a0_6) := bc BK115 6; have hfz8_0 := blk_frozen BK115.out 0; have hfz8_1 := blk_frozen BK115.out 1; have hfz8_2 := blk_frozen BK115.out 2; have hfz8_3 := blk_frozen BK115.out 3; have hfz8_4 := blk_frozen BK115.out 4; have hfz8_5 := blk_frozen BK115.out 5; have hfz8_6 := blk_frozen BK115.out 6; have hcz9_0 : w6.cell? ⟨gb116, 0, none⟩ = some (.int .u64 a1_0) := bc BK116 0; have hcz9_1 : w6.cell? ⟨gb116, 1, none⟩ = some (.int .u32 a1_1) := bc BK116 1; have hcz9_2 : w6.cell? ⟨gb116, 2, none⟩ = some (.int .u32 a1_2) := bc BK116 2; have hcz9_3 : w6.cell? ⟨gb116, 3, none⟩ = some (.int .i64 a1_3) := bc BK116 3; have hcz9_4 : w6.cell? ⟨gb116, 4, none⟩ = some (.int .u64 a1_4) := bc BK116 4; have hcz9_5 : w6.cell? ⟨gb116, 5, none⟩ = some (.int .u32 a1_5) := bc BK116 5; have hcz9_6 : w6.cell? ⟨gb116, 6, none⟩ = some (.int .u32 a1_6) := bc BK116 6; have hfz9_0 := blk_frozen BK116.out 0; have hfz9_1 := blk_frozen BK116.out 1; have hfz9_2 := blk_frozen BK116.out 2; have hfz9_3 := blk_frozen BK116.out 3; have hfz9_4 := blk_frozen BK116.out 4; have hfz9_5 := blk_frozen BK116.out 5; have hfz9_6 := blk_frozen BK116.out 6) | ((with_reducible refine gate_callee (f := 25) rfl ?_); refine goesL_ (some 10) rfl rfl Try.func25 (by kernel_rfl) rfl #[.agg #[.int .u64 a0_0, .int .u32 a0_1, .int .u32 a0_2], .agg #[.int .u64 a1_0, .int .u32 a1_1, .int .u32 a1_2]] rfl argt ?_; (with_reducible refine (pos_Pos_Cmp.calls k a0_0 a0_1 a0_2 a1_0 a1_1 a1_2 t117 _ A3.out).mono ?_); rintro e w10 ⟨rfl, hb⟩; refine ⟨_, rfl, ?_⟩; replace BK115 := blkb BK115 hb; replace BK116 := blkb BK116 hb; replace HB := belb HB hb; (try clear hb); (try clear hb2); (try clear hk); (try clear hi)))
  go_ret
  exact ⟨by first | rfl | (simp [errW_none, errW_some] <;> rfl) | (simp [*, errW_none, errW_some] <;> rfl), belt HB⟩
 rw [if_neg c4] at H
 have c4b0 : decide (t117 < 0) = false := decide_eq_false c4
 clear c4
 by_cases c11 : t117 = 0
 ·rw [if_pos c11] at H
  have c11b0 : (t117 == 0) = true := beq_iff_eq.mpr c11
  have c11b1 : (t117 != 0) = false := bne_eq_false_iff_eq.mpr c11
  clear c11
  obtain rfl := Option.some.inj H
  go_enter Try.func8, Try.ntmps8
  go_wp2_with (first | ((with_reducible refine gate_dst (N := 2) rfl ?_); refine box_event ?hg (N := 2) ?hd (cs := #[.int .u64 a0_0, .int .u32 a0_1, .int .u32 a0_2, .int .i64 a0_3, .int .u64 a0_4, .int .u32 a0_5, .int .u32 a0_6]) (t := 28) ?hr ?_; (case hd => rfl); (case hg => rfl); (case hr => first | (go_simp; done) | (go_simp; rfl)); intro gb115 hg w12 hbox hb; have BK115 := Aside0.mk (hbox); have GW115 := bels HB hg; have GE115 := bels HB hg; replace HB := belb HB hb; clear hb hbox hg) | ((with_reducible refine gate_dst (N := 3) rfl ?_); refine box_event ?hg (N := 3) ?hd (cs := #[.int .u64 a1_0, .int .u32 a1_1, .int .u32 a1_2, .int .i64 a1_3, .int .u64 a1_4, .int .u32 a1_5, .int .u32 a1_6]) (t := 28) ?hr ?_; (case hd => rfl); (case hg => rfl); (case hr => first | (go_simp; done) | (go_simp; rfl)); intro gb116 hg w13 hbox hb; have BK116 := Aside0.mk (hbox); have GW116 := bels HB hg; have GE116 := bels HB hg; have NB115_116 := blkl BK115 hg; have NB116_115 := blkg BK115 hg; replace BK115 := blkb BK115 hb; replace HB := belb HB hb; clear hb hbox hg; have hnb14 := NB115_116.out; have hnc14 := NB116_115.out; have hcz15_0 : w13.cell? ⟨gb115, 0, none⟩ = some (.int .u64 a0_0) := bc BK115 0; have hcz15_1 : w13.cell? ⟨gb115, 1, none⟩ = some (.int .u32 a0_1) := bc BK115 1; have hcz15_2 : w13.cell? ⟨gb115, 2, none⟩ = some (.int .u32 a0_2) := bc BK115 2; have hcz15_3 : w13.cell? ⟨gb115, 3, none⟩ = some (.int .i64 a0_3) := bc BK115 3; have hcz15_4 : w13.cell? ⟨gb115, 4, none⟩ = some (.int .u64 a0_4) := bc BK115 4; have hcz15_5 : w13.cell? ⟨gb115, 5, none⟩ = some (.int .u32 a0_5) := bc BK115 5; have hcz15_6 : w13.cell? ⟨gb115, 6, none⟩ = some (.int .u32 a0_6) := bc BK115 6; have hfz15_0 := blk_frozen BK115.out 0; have hfz15_1 := blk_frozen BK115.out 1; have hfz15_2 := blk_frozen BK115.out 2; have hfz15_3 := blk_frozen BK115.out 3; have hfz15_4 := blk_frozen BK115.out 4; have hfz15_5 := blk_frozen BK115.out 5; have hfz15_6 := blk_frozen BK115.out 6; have hcz16_0 : w13.cell? ⟨gb116, 0, none⟩ = some (.int .u64 a1_0) := bc BK116 0; have hcz16_1 : w13.cell? ⟨gb116, 1, none⟩ = some (.int .u32 a1_1) := bc BK116 1; have hcz16_2 : w13.cell? ⟨gb116, 2, none⟩ = some (.int .u32 a1_2) := bc BK116 2; have hcz16_3 : w13.cell? ⟨gb116, 3, none⟩ = some (.int .i64 a1_3) := bc BK116 3; have hcz16_4 : w13.cell? ⟨gb116, 4, none⟩ = some (.int .u64 a1_4) := bc BK116 4; have hcz16_5 : w13.cell? ⟨gb116, 5, none⟩ = some (.int .u32 a1_5) := bc BK116 5; have hcz16_6 : w13.cell? ⟨gb116, 6, none⟩ = some (.int .u32 a1_6) := bc BK116 6; have hfz16_0 := blk_frozen BK116.out 0; have hfz16_1 := blk_frozen BK116.out 1; have hfz16_2 := blk_frozen BK116.out 2; have hfz16_3 := blk_frozen BK116.out 3; have hfz16_4 := blk_frozen BK116.out 4; have hfz16_5 := blk_frozen BK116.out 5; have hfz16_6 := blk_frozen BK116.out 6) | ((with_reducible refine gate_callee (f := 25) rfl ?_); refine goesL_ (some 10) rfl rfl Try.func25 (by kernel_rfl) rfl #[.agg #[.int .u64 a0_0, .int .u32 a0_1, .int .u32 a0_2], .agg #[.int .u64 a1_0, .int .u32 a1_1, .int .u32 a1_2]] rfl argt ?_; (with_reducible refine (pos_Pos_Cmp.calls k a0_0 a0_1 a0_2 a1_0 a1_1 a1_2 t117 _ A3.out).mono ?_); rintro e w17 ⟨rfl, hb⟩; refine ⟨_, rfl, ?_⟩; replace BK115 := blkb BK115 hb; replace BK116 := blkb BK116 hb; replace HB := belb HB hb; (try clear hb); (try clear hb2); (try clear hk); (try clear hi); have hcz18_0 : w17.cell? ⟨gb115, 0, none⟩ = some (.int .u64 a0_0) := bc BK115 0; have hcz18_1 : w17.cell? ⟨gb115, 1, none⟩ = some (.int .u32 a0_1) := bc BK115 1; have hcz18_2 : w17.cell? ⟨gb115, 2, none⟩ = some (.int .u32 a0_2) := bc BK115 2; have hcz18_3 : w17.cell? ⟨gb115, 3, none⟩ = some (.int .i64 a0_3) := bc BK115 3; have hcz18_4 : w17.cell? ⟨gb115, 4, none⟩ = some (.int .u64 a0_4) := bc BK115 4; have hcz18_5 : w17.cell? ⟨gb115, 5, none⟩ = some (.int .u32 a0_5) := bc BK115 5; have hcz18_6 : w17.cell? ⟨gb115, 6, none⟩ = some (.int .u32 a0_6) := bc BK115 6; have hfz18_0 := blk_frozen BK115.out 0; have hfz18_1 := blk_frozen BK115.out 1; have hfz18_2 := blk_frozen BK115.out 2; have hfz18_3 := blk_frozen BK115.out 3; have hfz18_4 := blk_frozen BK115.out 4; have hfz18_5 := blk_frozen BK115.out 5; have hfz18_6 := blk_frozen BK115.out 6; have hcz19_0 : w17.cell? ⟨gb116, 0, none⟩ = some (.int .u64 a1_0) := bc BK116 0; have hcz19_1 : w17.cell? ⟨gb116, 1, none⟩ = some (.int .u32 a1_1) := bc BK116 1; have hcz19_2 : w17.cell? ⟨gb116, 2, none⟩ = some (.int .u32 a1_2) := bc BK116 2; have hcz19_3 : w17.cell? ⟨gb116, 3, none⟩ = some (.int .i64 a1_3) := bc BK116 3; have hcz19_4 : w17.cell? ⟨gb116, 4, none⟩ = some (.int .u64 a1_4) := bc BK116 4; have hcz19_5 : w17.cell? ⟨gb116, 5, none⟩ = some (.int .u32 a1_5) := bc BK116 5; have hcz19_6 : w17.cell? ⟨gb116, 6, none⟩ = some (.int .u32 a1_6) := bc BK116 6; have hfz19_0 := blk_frozen BK116.out 0; have hfz19_1 := blk_frozen BK116.out 1; have hfz19_2 := blk_frozen BK116.out 2; have hfz19_3 := blk_frozen BK116.out 3; have hfz19_4 := blk_frozen BK116.out 4; have hfz19_5 := blk_frozen BK116.out 5; have hfz19_6 := blk_frozen BK116.out 6))
  go_ret
  exact ⟨by first | rfl | (simp [errW_none, errW_some] <;> rfl) | (simp [*, errW_none, errW_some] <;> rfl), belt HB⟩
 rw [if_neg c11] at H
 have c11b0 : (t117 == 0) = false := beq_eq_false_iff_ne.mpr c11
 have c11b1 : (t117 != 0) = true := bne_iff_ne.mpr c11
 obtain rfl := Option.some.inj H
 go_enter Try.func8, Try.ntmps8
 go_wp2_with (first | ((with_reducible refine gate_dst (N := 2) rfl ?_); refine box_event ?hg (N := 2) ?hd (cs := #[.int .u64 a0_0, .int .u32 a0_1, .int .u32 a0_2, .int .i64 a0_3, .int .u64 a0_4, .int .u32 a0_5, .int .u32 a0_6]) (t := 28) ?hr ?_; (case hd => rfl); (case hg => rfl); (case hr => first | (go_simp; done) | (go_simp; rfl)); intro gb115 hg w20 hbox hb; have BK115 := Aside0.mk (hbox); have GW115 := bels HB hg; have GE115 := bels HB hg; replace HB := belb HB hb; clear hb hbox hg) | ((with_reducible refine gate_dst (N := 3) rfl ?_); refine box_event ?hg (N := 3) ?hd (cs := #[.int .u64 a1_0, .int .u32 a1_1, .int .u32 a1_2, .int .i64 a1_3, .int .u64 a1_4, .int .u32 a1_5, .int .u32 a1_6]) (t := 28) ?hr ?_; (case hd => rfl); (case hg => rfl); (case hr => first | (go_simp; done) | (go_simp; rfl)); intro gb116 hg w21 hbox hb; have BK116 := Aside0.mk (hbox); have GW116 := bels HB hg; have GE116 := bels HB hg; have NB115_116 := blkl BK115 hg; have NB116_115 := blkg BK115 hg; replace BK115 := blkb BK115 hb; replace HB := belb HB hb; clear hb hbox hg; have hnb22 := NB115_116.out; have hnc22 := NB116_115.out; have hcz23_0 : w21.cell? ⟨gb115, 0, none⟩ = some (.int .u64 a0_0) := bc BK115 0; have hcz23_1 : w21.cell? ⟨gb115, 1, none⟩ = some (.int .u32 a0_1) := bc BK115 1; have hcz23_2 : w21.cell? ⟨gb115, 2, none⟩ = some (.int .u32 a0_2) := bc BK115 2; have hcz23_3 : w21.cell? ⟨gb115, 3, none⟩ = some (.int .i64 a0_3) := bc BK115 3; have hcz23_4 : w21.cell? ⟨gb115, 4, none⟩ = some (.int .u64 a0_4) := bc BK115 4; have hcz23_5 : w21.cell? ⟨gb115, 5, none⟩ = some (.int .u32 a0_5) := bc BK115 5; have hcz23_6 : w21.cell? ⟨gb115, 6, none⟩ = some (.int .u32 a0_6) := bc BK115 6; have hfz23_0 := blk_frozen BK115.out 0; have hfz23_1 := blk_frozen BK115.out 1; have hfz23_2 := blk_frozen BK115.out 2; have hfz23_3 := blk_frozen BK115.out 3; have hfz23_4 := blk_frozen BK115.out 4; have hfz23_5 := blk_frozen BK115.out 5; have hfz23_6 := blk_frozen BK115.out 6; have hcz24_0 : w21.cell? ⟨gb116, 0, none⟩ = some (.int .u64 a1_0) := bc BK116 0; have hcz24_1 : w21.cell? ⟨gb116, 1, none⟩ = some (.int .u32 a1_1) := bc BK116 1; have hcz24_2 : w21.cell? ⟨gb116, 2, none⟩ = some (.int .u32 a1_2) := bc BK116 2; have hcz24_3 : w21.cell? ⟨gb116, 3, none⟩ = some (.int .i64 a1_3) := bc BK116 3; have hcz24_4 : w21.cell? ⟨gb116, 4, none⟩ = some (.int .u64 a1_4) := bc BK116 4; have hcz24_5 : w21.cell? ⟨gb116, 5, none⟩ = some (.int .u32 a1_5) := bc BK116 5; have hcz24_6 : w21.cell? ⟨gb116, 6, none⟩ = some (.int .u32 a1_6) := bc BK116 6; have hfz24_0 := blk_frozen BK116.out 0; have hfz24_1 := blk_frozen BK116.out 1; have hfz24_2 := blk_frozen BK116.out 2; have hfz24_3 := blk_frozen BK116.out 3; have hfz24_4 := blk_frozen BK116.out 4; have hfz24_5 := blk_frozen BK116.out 5; have hfz24_6 := blk_frozen BK116.out 6) | ((with_reducible refine gate_callee (f := 25) rfl ?_); refine goesL_ (some 10) rfl rfl Try.func25 (by kernel_rfl) rfl #[.agg #[.int .u64 a0_0, .int .u32 a0_1, .int .u32 a0_2], .agg #[.int .u64 a1_0, .int .u32 a1_1, .int .u32 a1_2]] rfl argt ?_; (with_reducible refine (pos_Pos_Cmp.calls k a0_0 a0_1 a0_2 a1_0 a1_1 a1_2 t117 _ A3.out).mono ?_); rintro e w25 ⟨rfl, hb⟩; refine ⟨_, rfl, ?_⟩; replace BK115 := blkb BK115 hb; replace BK116 := blkb BK116 hb; replace HB := belb HB hb; (try clear hb); (try clear hb2); (try clear hk); (try clear hi)))
 go_ret
 exact ⟨by first | rfl | (simp [errW_none, errW_some] <;> rfl) | (simp [*, errW_none, errW_some] <;> rfl), belt HB⟩


/-! ### item_Item_Due: function 9 -/
def item_Item_Due.f (k : Nat) (a0_0 : Int) (a0_1 : Int) (a0_2 : Int) (a0_3 : Int) (a0_4 : Int) (a0_5 : Int) (a0_6 : Int) (a1_0 : Int) (a1_1 : Int) (a1_2 : Int) (a1_3 : Int) (a1_4 : Int) (a1_5 : Int) (a1_6 : Int) : Option (Bool) := (pos_Pos_Cmp.f k a0_4 a0_5 a0_6 a1_4 a1_5 a1_6).bind fun t120 => (if t120 < 0 then (some true) else (if t120 = 0 then ((item_Item_Ahead.f k a0_0 a0_1 a0_2 a0_3 a0_4 a0_5 a0_6 a1_0 a1_1 a1_2 a1_3 a1_4 a1_5 a1_6).bind fun t121 => (some t121)) else (some false)))
theorem item_Item_Due.mono : ∀ a0 a1 a2 a3 a4 a5 a6 a7 a8 a9 a10 a11 a12 a13 k, LeO (item_Item_Due.f k a0 a1 a2 a3 a4 a5 a6 a7 a8 a9 a10 a11 a12 a13) (item_Item_Due.f (k + 1) a0 a1 a2 a3 a4 a5 a6 a7 a8 a9 a10 a11 a12 a13) := by
 intro a0 a1 a2 a3 a4 a5 a6 a7 a8 a9 a10 a11 a12 a13 k
 unfold item_Item_Due.f
 repeat' first
   | (with_reducible exact item_Item_Ahead.mono _ _ _ _ _ _ _ _ _ _ _ _ _ _ _)
   | (with_reducible exact pos_Pos_Cmp.mono _ _ _ _ _ _ _)
   | (with_reducible exact LeO.refl _)
   | (with_reducible exact LeO.none _)
   | (with_reducible refine LeO.ite ?_ ?_)
   | (with_reducible refine LeO.bind ?_ (fun _ => ?_))
   | exact item_Item_Ahead.mono _ _ _ _ _ _ _ _ _ _ _ _ _ _ _
   | exact pos_Pos_Cmp.mono _ _ _ _ _ _ _
   | exact LeO.none _
   | refine LeO.ite ?_ ?_
   | refine LeO.bind ?_ (fun _ => ?_)
set_option maxHeartbeats 8000000 in
set_option maxRecDepth 100000 in
theorem item_Item_Due.calls (k : Nat) (a0_0 : Int) (a0_1 : Int) (a0_2 : Int) (a0_3 : Int) (a0_4 : Int) (a0_5 : Int) (a0_6 : Int) (a1_0 : Int) (a1_1 : Int) (a1_2 : Int) (a1_3 : Int) (a1_4 : Int) (a1_5 : Int) (a1_6 : Int) (r : Bool) (w : World) (h : item_Item_Due.f k a0_0 a0_1 a0_2 a0_3 a0_4 a0_5 a0_6 a1_0 a1_1 a1_2 a1_3 a1_4 a1_5 a1_6 = some r) :
  Calls Try.prog 9 #[.agg #[.int .u64 a0_0, .int .u32 a0_1, .int .u32 a0_2, .int .i64 a0_3, .int .u64 a0_4, .int .u32 a0_5, .int .u32 a0_6], .agg #[.int .u64 a1_0, .int .u32 a1_1, .int .u32 a1_2, .int .i64 a1_3, .int .u64 a1_4, .int .u32 a1_5, .int .u32 a1_6]] w fun e w' => e = .returned (.bool r) ∧ Below w.heap.size w w' := by
 have hu28 := Try.underlying28
 have hu26 := Try.underlying26
 have HB := Aside0.mk (Below.refl w.heap.size w)
 have H : ((pos_Pos_Cmp.f k a0_4 a0_5 a0_6 a1_4 a1_5 a1_6).bind fun t120 => (if t120 < 0 then (some true) else (if t120 = 0 then ((item_Item_Ahead.f k a0_0 a0_1 a0_2 a0_3 a0_4 a0_5 a0_6 a1_0 a1_1 a1_2 a1_3 a1_4 a1_5 a1_6).bind fun t121 => (some t121)) else (some false)))) = some r := h
 clear h
 replace H := Option.bind_eq_some_iff.mp H
 obtain ⟨t120, A30, H⟩ := H
 replace H : (if t120 < 0 then (some true) else (if t120 = 0 then ((item_Item_Ahead.f k a0_0 a0_1 a0_2 a0_3 a0_4 a0_5 a0_6 a1_0 a1_1 a1_2 a1_3 a1_4 a1_5 a1_6).bind fun t121 => (some t121)) else (some false))) = some r := H
 have A3 := Aside0.mk A30
 clear A30
 by_cases c4 : t120 < 0
 ·rw [if_pos c4] at H
  have c4b0 : decide (t120 < 0) = true := decide_eq_true c4
  clear c4
  obtain rfl := Option.some.inj H
  go_enter Try.func9, Try.ntmps9
  go_wp2_with (first | ((with_reducible refine gate_dst (N := 2) rfl ?_); refine box_event ?hg (N := 2) ?hd (cs := #[.int .u64 a0_0, .int .u32 a0_1, .int .u32 a0_2, .int .i64 a0_3, .int .u64 a0_4, .int .u32 a0_5, .int .u32 a0_6]) (t := 28) ?hr ?_; (case hd => rfl); (case hg => rfl); (case hr => first | (go_simp; done) | (go_simp; rfl)); intro gb118 hg w5 hbox hb; have BK118 := Aside0.mk (hbox); have GW118 := bels HB hg; have GE118 := bels HB hg; replace HB := belb HB hb; clear hb hbox hg) | ((with_reducible refine gate_dst (N := 3) rfl ?_); refine box_event ?hg (N := 3) ?hd (cs := #[.int .u64 a1_0, .int .u32 a1_1, .int .u32 a1_2, .int .i64 a1_3, .int .u64 a1_4, .int .u32 a1_5, .int .u32 a1_6]) (t := 28) ?hr ?_; (case hd => rfl); (case hg => rfl); (case hr => first | (go_simp; done) | (go_simp; rfl)); intro gb119 hg w6 hbox hb; have BK119 := Aside0.mk (hbox); have GW119 := bels HB hg; have GE119 := bels HB hg; have NB118_119 := blkl BK118 hg; have NB119_118 := blkg BK118 hg; replace BK118 := blkb BK118 hb; replace HB := belb HB hb; clear hb hbox hg; have hnb7 := NB118_119.out; have hnc7 := NB119_118.out; have hcz8_0 : w6.cell? ⟨gb118, 0, none⟩ = some (.int .u64 a0_0) := bc BK118 0; have hcz8_1 : w6.cell? ⟨gb118, 1, none⟩ = some (.int .u32 a0_1) := bc BK118 1; have hcz8_2 : w6.cell? ⟨gb118, 2, none⟩ = some (.int .u32 a0_2) := bc BK118 2; have hcz8_3 : w6.cell? ⟨gb118, 3, none⟩ = some (.int .i64 a0_3) := bc BK118 3; have hcz8_4 : w6.cell? ⟨gb118, 4, none⟩ = some (.int .u64 a0_4) := bc BK118 4; have hcz8_5 : w6.cell? ⟨gb118, 5, none⟩ = some (.int .u32 a0_5) := bc BK118 5; have hcz8_6 : w6.cell? ⟨gb118, 6, none⟩ = some (.int .u32 a0_6) := bc BK118 6; have hfz8_0 := blk_frozen BK118.out 0; have hfz8_1 := blk_frozen BK118.out 1; have hfz8_2 := blk_frozen BK118.out 2; have hfz8_3 := blk_frozen BK118.out 3; have hfz8_4 := blk_frozen BK118.out 4; have hfz8_5 := blk_frozen BK118.out 5; have hfz8_6 := blk_frozen BK118.out 6; have hcz9_0 : w6.cell? ⟨gb119, 0, none⟩ = some (.int .u64 a1_0) := bc BK119 0; have hcz9_1 : w6.cell? ⟨gb119, 1, none⟩ = some (.int .u32 a1_1) := bc BK119 1; have hcz9_2 : w6.cell? ⟨gb119, 2, none⟩ = some (.int .u32 a1_2) := bc BK119 2; have hcz9_3 : w6.cell? ⟨gb119, 3, none⟩ = some (.int .i64 a1_3) := bc BK119 3; have hcz9_4 : w6.cell? ⟨gb119, 4, none⟩ = some (.int .u64 a1_4) := bc BK119 4; have hcz9_5 : w6.cell? ⟨gb119, 5, none⟩ = some (.int .u32 a1_5) := bc BK119 5; have hcz9_6 : w6.cell? ⟨gb119, 6, none⟩ = some (.int .u32 a1_6) := bc BK119 6; have hfz9_0 := blk_frozen BK119.out 0; have hfz9_1 := blk_frozen BK119.out 1; have hfz9_2 := blk_frozen BK119.out 2; have hfz9_3 := blk_frozen BK119.out 3; have hfz9_4 := blk_frozen BK119.out 4; have hfz9_5 := blk_frozen BK119.out 5; have hfz9_6 := blk_frozen BK119.out 6) | ((with_reducible refine gate_callee (f := 25) rfl ?_); refine goesL_ (some 10) rfl rfl Try.func25 (by kernel_rfl) rfl #[.agg #[.int .u64 a0_4, .int .u32 a0_5, .int .u32 a0_6], .agg #[.int .u64 a1_4, .int .u32 a1_5, .int .u32 a1_6]] rfl argt ?_; (with_reducible refine (pos_Pos_Cmp.calls k a0_4 a0_5 a0_6 a1_4 a1_5 a1_6 t120 _ A3.out).mono ?_); rintro e w10 ⟨rfl, hb⟩; refine ⟨_, rfl, ?_⟩; replace BK118 := blkb BK118 hb; replace BK119 := blkb BK119 hb; replace HB := belb HB hb; (try clear hb); (try clear hb2); (try clear hk); (try clear hi)))
  go_ret
  exact ⟨by first | rfl | (simp [errW_none, errW_some] <;> rfl) | (simp [*, errW_none, errW_some] <;> rfl), belt HB⟩
 rw [if_neg c4] at H
 have c4b0 : decide (t120 < 0) = false := decide_eq_false c4
 clear c4
 by_cases c11 : t120 = 0
 ·rw [if_pos c11] at H
  have c11b0 : (t120 == 0) = true := beq_iff_eq.mpr c11
  have c11b1 : (t120 != 0) = false := bne_eq_false_iff_eq.mpr c11
  clear c11
  replace H := Option.bind_eq_some_iff.mp H
  obtain ⟨t121, A120, H⟩ := H
  replace H : (some t121) = some r := H
  have A12 := Aside0.mk A120
  clear A120
  obtain rfl := Option.some.inj H
  go_enter Try.func9, Try.ntmps9
  go_wp2_with (first | ((with_reducible refine gate_dst (N := 2) rfl ?_); refine box_event ?hg (N := 2) ?hd (cs := #[.int .u64 a0_0, .int .u32 a0_1, .int .u32 a0_2, .int .i64 a0_3, .int .u64 a0_4, .int .u32 a0_5, .int .u32 a0_6]) (t := 28) ?hr ?_; (case hd => rfl); (case hg => rfl); (case hr => first | (go_simp; done) | (go_simp; rfl)); intro gb118 hg w13 hbox hb; have BK118 := Aside0.mk (hbox); have GW118 := bels HB hg; have GE118 := bels HB hg; replace HB := belb HB hb; clear hb hbox hg) | ((with_reducible refine gate_dst (N := 3) rfl ?_); refine box_event ?hg (N := 3) ?hd (cs := #[.int .u64 a1_0, .int .u32 a1_1, .int .u32 a1_2, .int .i64 a1_3, .int .u64 a1_4, .int .u32 a1_5, .int .u32 a1_6]) (t := 28) ?hr ?_; (case hd => rfl); (case hg => rfl); (case hr => first | (go_simp; done) | (go_simp; rfl)); intro gb119 hg w14 hbox hb; have BK119 := Aside0.mk (hbox); have GW119 := bels HB hg; have GE119 := bels HB hg; have NB118_119 := blkl BK118 hg; have NB119_118 := blkg BK118 hg; replace BK118 := blkb BK118 hb; replace HB := belb HB hb; clear hb hbox hg; have hnb15 := NB118_119.out; have hnc15 := NB119_118.out; have hcz16_0 : w14.cell? ⟨gb118, 0, none⟩ = some (.int .u64 a0_0) := bc BK118 0; have hcz16_1 : w14.cell? ⟨gb118, 1, none⟩ = some (.int .u32 a0_1) := bc BK118 1; have hcz16_2 : w14.cell? ⟨gb118, 2, none⟩ = some (.int .u32 a0_2) := bc BK118 2; have hcz16_3 : w14.cell? ⟨gb118, 3, none⟩ = some (.int .i64 a0_3) := bc BK118 3; have hcz16_4 : w14.cell? ⟨gb118, 4, none⟩ = some (.int .u64 a0_4) := bc BK118 4; have hcz16_5 : w14.cell? ⟨gb118, 5, none⟩ = some (.int .u32 a0_5) := bc BK118 5; have hcz16_6 : w14.cell? ⟨gb118, 6, none⟩ = some (.int .u32 a0_6) := bc BK118 6; have hfz16_0 := blk_frozen BK118.out 0; have hfz16_1 := blk_frozen BK118.out 1; have hfz16_2 := blk_frozen BK118.out 2; have hfz16_3 := blk_frozen BK118.out 3; have hfz16_4 := blk_frozen BK118.out 4; have hfz16_5 := blk_frozen BK118.out 5; have hfz16_6 := blk_frozen BK118.out 6; have hcz17_0 : w14.cell? ⟨gb119, 0, none⟩ = some (.int .u64 a1_0) := bc BK119 0; have hcz17_1 : w14.cell? ⟨gb119, 1, none⟩ = some (.int .u32 a1_1) := bc BK119 1; have hcz17_2 : w14.cell? ⟨gb119, 2, none⟩ = some (.int .u32 a1_2) := bc BK119 2; have hcz17_3 : w14.cell? ⟨gb119, 3, none⟩ = some (.int .i64 a1_3) := bc BK119 3; have hcz17_4 : w14.cell? ⟨gb119, 4, none⟩ = some (.int .u64 a1_4) := bc BK119 4; have hcz17_5 : w14.cell? ⟨gb119, 5, none⟩ = some (.int .u32 a1_5) := bc BK119 5; have hcz17_6 : w14.cell? ⟨gb119, 6, none⟩ = some (.int .u32 a1_6) := bc BK119 6; have hfz17_0 := blk_frozen BK119.out 0; have hfz17_1 := blk_frozen BK119.out 1; have hfz17_2 := blk_frozen BK119.out 2; have hfz17_3 := blk_frozen BK119.out 3; have hfz17_4 := blk_frozen BK119.out 4; have hfz17_5 := blk_frozen BK119.out 5; have hfz17_6 := blk_frozen BK119.out 6) | ((with_reducible refine gate_callee (f := 25) rfl ?_); refine goesL_ (some 10) rfl rfl Try.func25 (by kernel_rfl) rfl #[.agg #[.int .u64 a0_4, .int .u32 a0_5, .int .u32 a0_6], .agg #[.int .u64 a1_4, .int .u32 a1_5, .int .u32 a1_6]] rfl argt ?_; (with_reducible refine (pos_Pos_Cmp.calls k a0_4 a0_5 a0_6 a1_4 a1_5 a1_6 t120 _ A3.out).mono ?_); rintro e w18 ⟨rfl, hb⟩; refine ⟨_, rfl, ?_⟩; replace BK118 := blkb BK118 hb; replace BK119 := blkb BK119 hb; replace HB := belb HB hb; (try clear hb); (try clear hb2); (try clear hk); (try clear hi); have hcz19_0 : w18.cell? ⟨gb118, 0, none⟩ = some (.int .u64 a0_0) := bc BK118 0; have hcz19_1 : w18.cell? ⟨gb118, 1, none⟩ = some (.int .u32 a0_1) := bc BK118 1; have hcz19_2 : w18.cell? ⟨gb118, 2, none⟩ = some (.int .u32 a0_2) := bc BK118 2; have hcz19_3 : w18.cell? ⟨gb118, 3, none⟩ = some (.int .i64 a0_3) := bc BK118 3; have hcz19_4 : w18.cell? ⟨gb118, 4, none⟩ = some (.int .u64 a0_4) := bc BK118 4; have hcz19_5 : w18.cell? ⟨gb118, 5, none⟩ = some (.int .u32 a0_5) := bc BK118 5; have hcz19_6 : w18.cell? ⟨gb118, 6, none⟩ = some (.int .u32 a0_6) := bc BK118 6; have hfz19_0 := blk_frozen BK118.out 0; have hfz19_1 := blk_frozen BK118.out 1; have hfz19_2 := blk_frozen BK118.out 2; have hfz19_3 := blk_frozen BK118.out 3; have hfz19_4 := blk_frozen BK118.out 4; have hfz19_5 := blk_frozen BK118.out 5; have hfz19_6 := blk_frozen BK118.out 6; have hcz20_0 : w18.cell? ⟨gb119, 0, none⟩ = some (.int .u64 a1_0) := bc BK119 0; have hcz20_1 : w18.cell? ⟨gb119, 1, none⟩ = some (.int .u32 a1_1) := bc BK119 1; have hcz20_2 : w18.cell? ⟨gb119, 2, none⟩ = some (.int .u32 a1_2) := bc BK119 2; have hcz20_3 : w18.cell? ⟨gb119, 3, none⟩ = some (.int .i64 a1_3) := bc BK119 3; have hcz20_4 : w18.cell? ⟨gb119, 4, none⟩ = some (.int .u64 a1_4) := bc BK119 4; have hcz20_5 : w18.cell? ⟨gb119, 5, none⟩ = some (.int .u32 a1_5) := bc BK119 5; have hcz20_6 : w18.cell? ⟨gb119, 6, none⟩ = some (.int .u32 a1_6) := bc BK119 6; have hfz20_0 := blk_frozen BK119.out 0; have hfz20_1 := blk_frozen BK119.out 1; have hfz20_2 := blk_frozen BK119.out 2; have hfz20_3 := blk_frozen BK119.out 3; have hfz20_4 := blk_frozen BK119.out 4; have hfz20_5 := blk_frozen BK119.out 5; have hfz20_6 := blk_frozen BK119.out 6) | (go_at_call 8; (with_reducible refine (item_Item_Ahead.calls k a0_0 a0_1 a0_2 a0_3 a0_4 a0_5 a0_6 a1_0 a1_1 a1_2 a1_3 a1_4 a1_5 a1_6 t121 _ A12.out).mono ?_); rintro e w21 ⟨rfl, hb⟩; replace BK118 := blkb BK118 hb; replace BK119 := blkb BK119 hb; replace HB := belb HB hb; (try clear hb); (try clear hb2); (try clear hk); (try clear hi)))
  go_ret
  exact ⟨by first | rfl | (simp [errW_none, errW_some] <;> rfl) | (simp [*, errW_none, errW_some] <;> rfl), belt HB⟩
 rw [if_neg c11] at H
 have c11b0 : (t120 == 0) = false := beq_eq_false_iff_ne.mpr c11
 have c11b1 : (t120 != 0) = true := bne_iff_ne.mpr c11
 obtain rfl := Option.some.inj H
 go_enter Try.func9, Try.ntmps9
 go_wp2_with (first | ((with_reducible refine gate_dst (N := 2) rfl ?_); refine box_event ?hg (N := 2) ?hd (cs := #[.int .u64 a0_0, .int .u32 a0_1, .int .u32 a0_2, .int .i64 a0_3, .int .u64 a0_4, .int .u32 a0_5, .int .u32 a0_6]) (t := 28) ?hr ?_; (case hd => rfl); (case hg => rfl); (case hr => first | (go_simp; done) | (go_simp; rfl)); intro gb118 hg w22 hbox hb; have BK118 := Aside0.mk (hbox); have GW118 := bels HB hg; have GE118 := bels HB hg; replace HB := belb HB hb; clear hb hbox hg) | ((with_reducible refine gate_dst (N := 3) rfl ?_); refine box_event ?hg (N := 3) ?hd (cs := #[.int .u64 a1_0, .int .u32 a1_1, .int .u32 a1_2, .int .i64 a1_3, .int .u64 a1_4, .int .u32 a1_5, .int .u32 a1_6]) (t := 28) ?hr ?_; (case hd => rfl); (case hg => rfl); (case hr => first | (go_simp; done) | (go_simp; rfl)); intro gb119 hg w23 hbox hb; have BK119 := Aside0.mk (hbox); have GW119 := bels HB hg; have GE119 := bels HB hg; have NB118_119 := blkl BK118 hg; have NB119_118 := blkg BK118 hg; replace BK118 := blkb BK118 hb; replace HB := belb HB hb; clear hb hbox hg; have hnb24 := NB118_119.out; have hnc24 := NB119_118.out; have hcz25_0 : w23.cell? ⟨gb118, 0, none⟩ = some (.int .u64 a0_0) := bc BK118 0; have hcz25_1 : w23.cell? ⟨gb118, 1, none⟩ = some (.int .u32 a0_1) := bc BK118 1; have hcz25_2 : w23.cell? ⟨gb118, 2, none⟩ = some (.int .u32 a0_2) := bc BK118 2; have hcz25_3 : w23.cell? ⟨gb118, 3, none⟩ = some (.int .i64 a0_3) := bc BK118 3; have hcz25_4 : w23.cell? ⟨gb118, 4, none⟩ = some (.int .u64 a0_4) := bc BK118 4; have hcz25_5 : w23.cell? ⟨gb118, 5, none⟩ = some (.int .u32 a0_5) := bc BK118 5; have hcz25_6 : w23.cell? ⟨gb118, 6, none⟩ = some (.int .u32 a0_6) := bc BK118 6; have hfz25_0 := blk_frozen BK118.out 0; have hfz25_1 := blk_frozen BK118.out 1; have hfz25_2 := blk_frozen BK118.out 2; have hfz25_3 := blk_frozen BK118.out 3; have hfz25_4 := blk_frozen BK118.out 4; have hfz25_5 := blk_frozen BK118.out 5; have hfz25_6 := blk_frozen BK118.out 6; have hcz26_0 : w23.cell? ⟨gb119, 0, none⟩ = some (.int .u64 a1_0) := bc BK119 0; have hcz26_1 : w23.cell? ⟨gb119, 1, none⟩ = some (.int .u32 a1_1) := bc BK119 1; have hcz26_2 : w23.cell? ⟨gb119, 2, none⟩ = some (.int .u32 a1_2) := bc BK119 2; have hcz26_3 : w23.cell? ⟨gb119, 3, none⟩ = some (.int .i64 a1_3) := bc BK119 3; have hcz26_4 : w23.cell? ⟨gb119, 4, none⟩ = some (.int .u64 a1_4) := bc BK119 4; have hcz26_5 : w23.cell? ⟨gb119, 5, none⟩ = some (.int .u32 a1_5) := bc BK119 5; have hcz26_6 : w23.cell? ⟨gb119, 6, none⟩ = some (.int .u32 a1_6) := bc BK119 6; have hfz26_0 := blk_frozen BK119.out 0; have hfz26_1 := blk_frozen BK119.out 1; have hfz26_2 := blk_frozen BK119.out 2; have hfz26_3 := blk_frozen BK119.out 3; have hfz26_4 := blk_frozen BK119.out 4; have hfz26_5 := blk_frozen BK119.out 5; have hfz26_6 := blk_frozen BK119.out 6) | ((with_reducible refine gate_callee (f := 25) rfl ?_); refine goesL_ (some 10) rfl rfl Try.func25 (by kernel_rfl) rfl #[.agg #[.int .u64 a0_4, .int .u32 a0_5, .int .u32 a0_6], .agg #[.int .u64 a1_4, .int .u32 a1_5, .int .u32 a1_6]] rfl argt ?_; (with_reducible refine (pos_Pos_Cmp.calls k a0_4 a0_5 a0_6 a1_4 a1_5 a1_6 t120 _ A3.out).mono ?_); rintro e w27 ⟨rfl, hb⟩; refine ⟨_, rfl, ?_⟩; replace BK118 := blkb BK118 hb; replace BK119 := blkb BK119 hb; replace HB := belb HB hb; (try clear hb); (try clear hb2); (try clear hk); (try clear hi)))
 go_ret
 exact ⟨by first | rfl | (simp [errW_none, errW_some] <;> rfl) | (simp [*, errW_none, errW_some] <;> rfl), belt HB⟩


/-! ### turnstonelaw05_awake: function 6 -/
def turnstonelaw05_awake.f : Option Bool := some true
theorem turnstonelaw05_awake.calls (r : Bool) (w : World) (h : turnstonelaw05_awake.f = some r) : Calls Try.prog 6 #[] w fun e w' => e = .returned (.bool r) ∧ Below w.heap.size w w' := by
 obtain rfl := Option.some.inj h
 exact Go.Proofs.Ytdfpkjdhndfcbaa.Awake.at6 w

end Go.Proofs.Ytdfpkjdhndfcbaa.Print
