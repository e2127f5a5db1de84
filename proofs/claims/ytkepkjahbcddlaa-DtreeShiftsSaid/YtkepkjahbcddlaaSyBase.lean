/- A walk that Lean reckons by itself: numbers, lists and memory with names in the place of what is not known, and what they stand for in a world; operations; regions in whatever order; code; loops by what holds at their heads; calls by what is known of them. -/
import Derived.Orders
import Derived.OrdersHeld
import Derived.Below
import Derived.Laws.Append
import Derived.Laws.AppendOwn
import Derived.Laws.OwnMore
import Derived.Laws.MakeOwn
import Derived.Laws.CopyRow
import Derived.Laws.CopyOwn
import Derived.Laws.StructEq
import Derived.Laws.Pointers
namespace Go.Proofs.Ytkepkjahbcddlaa.Sy
open Go Go.RowKit
set_option linter.unusedVariables false
set_option linter.unusedSimpArgs false
set_option linter.unusedSectionVars false
/-- What a piece of code yields that looks at no memory. -/
def sval (P : Program) {α : Type} : Sem α → Option α
  | .pure a => some a
  | .program k => sval P (k P)
  | .mark _ k => sval P k
  | _ => none
theorem sval_run {P : Program} {α : Type} {a : α} (w : World) : ∀ s : Sem α, sval P s = some a → s.run P w = .ok a w := by
  intro s
  induction s with
  | pure x => intro h; simp only [sval, Option.some.injEq] at h; subst h; rfl
  | program k ih => intro h; simp only [sval] at h; exact ih P h
  | mark m k ih => intro h; simp only [sval] at h; exact ih h
  | _ => intro h; simp [sval] at h
/-- What an object holds: a tree on the heap; each node with its block, its numbers, its truths. -/
inductive Dat where
  | leaf
  | nd (b : Nat) (ns : List Int) (bs : List Bool) (l r : Dat)
  deriving Inhabited
def Dat.kid : Dat → Bool → Dat
  | .leaf, _ => .leaf
  | .nd _ _ _ l r, x => bif x then r else l
/-- What is at the end of a path. -/
def Dat.sub : Dat → List Bool → Dat
  | d, [] => d
  | d, x :: p => (d.kid x).sub p
def Dat.blk : Dat → Nat
  | .leaf => 0
  | .nd b _ _ _ _ => b
def Dat.num (i : Nat) : Dat → Int
  | .leaf => 0
  | .nd _ ns _ _ _ => ns.getD i 0
def Dat.tru (i : Nat) : Dat → Bool
  | .leaf => false
  | .nd _ _ bs _ _ => bs.getD i false
def Dat.isLeaf : Dat → Bool
  | .leaf => true
  | _ => false
def Dat.addr : Dat → Option Addr
  | .leaf => none
  | .nd b _ _ _ _ => some ⟨b, 0, none⟩
/-- Its blocks. -/
def Dat.fp : Dat → List Nat
  | .leaf => []
  | .nd b _ _ l r => b :: (l.fp ++ r.fp)
/-- What a cell of a node's block holds: a number, a truth, the pointer to a child. -/
inductive CD where
  | num (k : IntKind) (i : Nat)
  | tru (i : Nat)
  | kid (x : Bool)
  | fn (f : FuncId)
def CD.val (d : Dat) : CD → Value
  | .num k i => .int k (d.num i)
  | .tru i => .bool (d.tru i)
  | .kid x => .pointer (d.kid x).addr
  | .fn f => .func (.func f) #[] #[]
structure Layout where
  elem : Nat
  cells : List CD
/-- Kinds of objects. -/
class Kinds where
  lay : Nat → Layout
  kid : Nat → Bool → Nat
variable [Kinds]
def nodeAt (w : World) (k : Nat) (d : Dat) : Prop := w.heap[d.blk]? = some (.cells ((Kinds.lay k).cells.map (CD.val d)).toArray (Kinds.lay k).elem (0, 0))
/-- An object in memory. -/
def Dat.holds (w : World) : Dat → Nat → Prop
  | .leaf, _ => True
  | .nd b ns bs l r, k => nodeAt w k (.nd b ns bs l r) ∧ l.holds w (Kinds.kid k false) ∧ r.holds w (Kinds.kid k true)
/-- Of which kind what is at a path is. -/
def kat (k : Nat) : List Bool → Nat
  | [] => k
  | x :: p => kat (Kinds.kid k x) p
theorem kat_append (k : Nat) : ∀ (p q : List Bool), kat k (p ++ q) = kat (kat k p) q
  | [], _ => rfl
  | x :: p, q => by rw [List.cons_append, kat, kat, kat_append (Kinds.kid k x) p q]
theorem Dat.holds.kid {w : World} {k : Nat} {d : Dat} (h : d.holds w k) (x : Bool) : (d.kid x).holds w (Kinds.kid k x) := by
  cases d with
  | leaf => trivial
  | nd b ns bs l r =>
    cases x
    · exact h.2.1
    · exact h.2.2
theorem Dat.holds.sub {w : World} : ∀ (p : List Bool) {k : Nat} {d : Dat}, d.holds w k → (d.sub p).holds w (kat k p)
  | [], _, _, h => h
  | x :: p, _, _, h => Dat.holds.sub p (h.kid x)
theorem Dat.holds.node {w : World} {k : Nat} {d : Dat} (h : d.holds w k) (hn : d.isLeaf = false) : nodeAt w k d := by
  cases d with
  | leaf => cases hn
  | nd b ns bs l r => exact h.1
theorem Dat.kid_fp {d : Dat} {x : Bool} {n : Nat} (h : n ∈ (d.kid x).fp) : n ∈ d.fp := by
  cases d with
  | leaf => cases h
  | nd b ns bs l r => cases x <;> simp only [Dat.kid, cond_true, cond_false] at h <;> simp [Dat.fp, h]
theorem Dat.sub_fp : ∀ {p : List Bool} {d : Dat} {n : Nat}, n ∈ (d.sub p).fp → n ∈ d.fp
  | [], _, _, h => h
  | x :: p, _, _, h => Dat.kid_fp (Dat.sub_fp (p := p) h)
theorem Dat.blk_fp {d : Dat} (h : d.isLeaf = false) : d.blk ∈ d.fp := by
  cases d with
  | leaf => cases h
  | nd b ns bs l r => exact List.mem_cons_self
theorem Dat.sub_append : ∀ (p q : List Bool) (d : Dat), d.sub (p ++ q) = (d.sub p).sub q
  | [], _, _ => rfl
  | x :: p, q, d => Dat.sub_append p q (d.kid x)
theorem Dat.holds.loc {w w' : World} : ∀ {d : Dat} {k : Nat}, d.holds w k → (∀ x ∈ d.fp, w'.heap[x]? = w.heap[x]?) → d.holds w' k
  | .leaf, _, _, _ => trivial
  | .nd b ns bs l r, _, h, he => ⟨(he b List.mem_cons_self).trans h.1, h.2.1.loc fun x hx => he x (by simp [Dat.fp, hx]), h.2.2.loc fun x hx => he x (by simp [Dat.fp, hx])⟩
theorem Dat.holds.lt {w : World} : ∀ {d : Dat} {k : Nat}, d.holds w k → ∀ x ∈ d.fp, x < w.heap.size
  | .leaf, _, _, x, hx => by cases hx
  | .nd b ns bs l r, _, h, x, hx => by
    simp only [Dat.fp, List.mem_cons, List.mem_append] at hx
    rcases hx with rfl | hx | hx
    · exact (Array.getElem?_eq_some_iff.1 h.1).1
    · exact h.2.1.lt x hx
    · exact h.2.2.lt x hx
/-- The blocks of what is at some paths. -/
def fps (d : Dat) (ps : List (List Bool)) : List Nat := ps.flatMap fun p => (d.sub p).fp
/-! ### What is told by names -/
inductive CK where
  | int (k : IntKind)
  | bool
inductive FK where
  | int (k : IntKind)
  | bool
  | list (ks : List CK)
  | obj (k : Nat)
  | vw (k : Nat)
  | fb (fs : List (Option FuncId))
  | own (ks : List CK) (e : Nat)
  | io (k : Nat)
  | fn (f : FuncId)
def CK.val : CK → Int → Value
  | .int k, n => .int k n
  | .bool, n => .bool (n != 0)
/-- What one name stands for: numbers, truths, lists (of rows; where their rows lie; how many might lie there), values of whatever kind. -/
structure Rec where
  i : Nat → Int
  c : Nat → Bool
  l : Nat → List (List Int)
  a : Nat → Option Addr
  m : Nat → Nat
  o : Nat → Value
  t : Nat → Dat
structure Env where
  s : Nat → Nat
  k : Nat → Nat
  r : Nat → Rec
inductive EO where
  | add | sub | mul | quo | rem | fdv
  | land (k : IntKind) | lor (k : IntKind) | lxor (k : IntKind) | landn (k : IntKind)
  | mn | mx | shl (k : IntKind) | shr (k : IntKind)
def landk (k : IntKind) (x y : Int) : Int := k.wrap ((BitVec.ofInt k.bits x &&& BitVec.ofInt k.bits y).toNat)
def lork (k : IntKind) (x y : Int) : Int := k.wrap ((BitVec.ofInt k.bits x ||| BitVec.ofInt k.bits y).toNat)
def lxork (k : IntKind) (x y : Int) : Int := k.wrap ((BitVec.ofInt k.bits x ^^^ BitVec.ofInt k.bits y).toNat)
def landnk (k : IntKind) (x y : Int) : Int := k.wrap ((BitVec.ofInt k.bits x &&& ~~~ BitVec.ofInt k.bits y).toNat)
def EO.den : EO → Int → Int → Int
  | .add, x, y => x + y
  | .sub, x, y => x - y
  | .mul, x, y => x * y
  | .quo, x, y => x.tdiv y
  | .rem, x, y => x.tmod y
  | .fdv, x, y => x.fdiv y
  | .land k, x, y => landk k x y
  | .lor k, x, y => lork k x y
  | .lxor k, x, y => lxork k x y
  | .landn k, x, y => landnk k x y
  | .mn, x, y => if y < x then y else x
  | .mx, x, y => if y > x then y else x
  | .shl k, x, y => x * 2 ^ (min y.toNat k.bits)
  | .shr k, x, y => x.fdiv (2 ^ (min y.toNat k.bits))
inductive Ex where
  | v (b j : Nat)
  | n (x : Int)
  | bin (o : EO) (a b : Ex)
  | wrap (k : IntKind) (a : Ex)
  | len (b j : Nat)
  | at (b j : Nat) (i : Ex) (c : Nat)
  | fld (b j : Nat) (p : List Bool) (i : Nat)
  deriving Inhabited
def rowAt (L : List (List Int)) (i : Int) (c : Nat) : Int := (L.getD i.toNat []).getD c 0
def Ex.den (E : Env) : Ex → Int
  | .v b j => (E.r b).i j
  | .n x => x
  | .bin o a b => o.den (a.den E) (b.den E)
  | .wrap k a => k.wrap (a.den E)
  | .len b j => ((E.r b).l j).length
  | .at b j i c => rowAt ((E.r b).l j) (i.den E) c
  | .fld b j p i => (((E.r b).t j).sub p).num i
inductive Bx where
  | v (b j : Nat)
  | lt (a b : Ex)
  | le (a b : Ex)
  | eq (a b : Ex)
  | nz (a : Ex)
  | beq (x y : Bx)
  | not (x : Bx)
  | and (x y : Bx)
  | fld (b j : Nat) (p : List Bool) (i : Nat)
  | nil (b j : Nat) (p : List Bool)
def ltb (a b : Int) : Bool := decide (a < b)
def leb (a b : Int) : Bool := decide (a ≤ b)
def eqb (a b : Int) : Bool := decide (a = b)
theorem ltb_t (a b : Int) : ltb a b = true ↔ a < b := decide_eq_true_iff
theorem ltb_f (a b : Int) : ltb a b = false ↔ b ≤ a := by rw [ltb, decide_eq_false_iff_not, Int.not_lt]
theorem leb_t (a b : Int) : leb a b = true ↔ a ≤ b := decide_eq_true_iff
theorem leb_f (a b : Int) : leb a b = false ↔ b < a := by rw [leb, decide_eq_false_iff_not, Int.not_le]
theorem eqb_t (a b : Int) : eqb a b = true ↔ a = b := decide_eq_true_iff
theorem eqb_nz (a : Int) : (!(eqb a 0)) = (a != 0) := by simp [eqb, bne, BEq.beq]
theorem eqb_f (a b : Int) : eqb a b = false ↔ a ≠ b := by rw [eqb, decide_eq_false_iff_not]
def Bx.den (E : Env) : Bx → Bool
  | .v b j => (E.r b).c j
  | .lt a b => ltb (a.den E) (b.den E)
  | .le a b => leb (a.den E) (b.den E)
  | .eq a b => eqb (a.den E) (b.den E)
  | .nz a => !(eqb (a.den E) 0)
  | .beq x y => x.den E == y.den E
  | .not x => !x.den E
  | .and x y => x.den E && y.den E
  | .fld b j p i => (((E.r b).t j).sub p).tru i
  | .nil b j p => (((E.r b).t j).sub p).isLeaf
/-! ### Values -/
/-- A value of one cell (or, under val, any at all): an address is told by a name. -/
inductive AV where
  | val (v : Value)
  | ptr (b o : Nat)
  | sl (b o n : Nat) (c : Option Nat)
  | fn (f : Nat) (cap : List (Nat × Nat))
  | ix (k : IntKind) (e : Ex)
  | bx (x : Bx)
  | ls (b j : Nat)
  | hp (b j : Nat) (i : Ex) (z o : Nat)
  | any (b j : Nat)
  | mr (b : Nat)
  | ob (b j : Nat) (p : List Bool)
  | op (b j : Nat) (p : List Bool) (o : Nat)
  | fp (b j o : Nat)
  deriving Inhabited
inductive PV where
  | v (x : AV)
  | agg (l : List AV)
  deriving Inhabited
inductive TV where
  | p (x : PV)
  | tup (l : List PV)
  deriving Inhabited
/-- A block: its first cells; its type; where a capacity was drawn, how many cells an element has. -/
structure AB where
  cells : List AV
  elem : Nat
  full : Option Nat
/-- Whether a list may be read (and whether it may be one that was handed in), or is the walk's own. -/
inductive LK where
  | gone
  | rd (ks : List CK) (old : Bool)
  | own (ks : List CK) (e : Nat)
  | obj (k : Nat) (ps : List (List Bool)) (os : List (List Bool × Nat))
  | vw (k : Nat)
  | fb (fs : List (Option FuncId))
  | al (x y : AV)
  | ov (k : Nat)
inductive Ent where
  | dead
  | blk (x : AB)
  | lst (l : List LK)
  | mp (es : List MapEntry) (clock : Nat)
abbrev H := List (Nat × Ent)
def Env.ad (E : Env) (p : Nat × Nat) : Value := .pointer (some ⟨E.s p.1, p.2, none⟩)
def Rec.lv (r : Rec) (j : Nat) : Value := .slice (r.a j) (r.l j).length (r.m j)
def cv (E : Env) : AV → Value
  | .val v => v
  | .ptr b o => .pointer (some ⟨E.s b, o, none⟩)
  | .sl b o n c => .slice (some ⟨E.s b, o, none⟩) n (c.getD (E.k b))
  | .fn f cap => .func (.func f) #[] (cap.map E.ad).toArray
  | .ix k e => .int k (e.den E)
  | .bx x => .bool (x.den E)
  | .ls b j => (E.r b).lv j
  | .hp b j i z o => .pointer (some ((((E.r b).a j).getD default).add ((i.den E).toNat * z + o)))
  | .any b j => (E.r b).o j
  | .mr b => .map (some (E.s b))
  | .ob b j p => .pointer (((E.r b).t j).sub p).addr
  | .op b j p o => .pointer (some ⟨(((E.r b).t j).sub p).blk, o, none⟩)
  | .fp b j o => .pointer (some ⟨((((E.r b).a j).getD default)).block, o, none⟩)
def cp (E : Env) : PV → Value
  | .v x => cv E x
  | .agg l => .agg (l.map (cv E)).toArray
def ct (E : Env) : TV → Value
  | .p x => cp E x
  | .tup l => .tuple (l.map (cp E)).toArray
def uv : TV := .tup []
theorem ct_uv (E : Env) : ct E uv = undef := rfl
def av (v : Value) : TV := .p (.v (.val v))
theorem ct_av (E : Env) (v : Value) : ct E (av v) = v := rfl
/-! ### Memory -/
def look : H → Nat → Option Ent
  | [], _ => none
  | (k, x) :: r, b => bif Nat.beq k b then some x else look r b
def hget (h : H) (b : Nat) : Option AB := match look h b with
  | some (.blk x) => some x
  | _ => none
def has (h : H) (b : Nat) : Bool := (look h b).isSome
/-- The entries of a map that are known, one by one. -/
def mget (h : H) (b : Nat) : Option (List MapEntry × Nat) := match look h b with
  | some (.mp es c) => some (es, c)
  | _ => none
def lk (h : H) (b j : Nat) : LK := match look h b with
  | some (.lst l) => l.getD j .gone
  | _ => .gone
def hput : H → Nat → Ent → H
  | [], b, x => [(b, x)]
  | (k, y) :: r, b, x => bif Nat.beq k b then (b, x) :: r else bif Nat.ble k b then (k, y) :: hput r b x else (b, x) :: (k, y) :: r
theorem look_cons (k b : Nat) (x : Ent) (r : H) : look ((k, x) :: r) b = if k = b then some x else look r b := by
  rw [look]
  by_cases h : k = b
  · subst h; simp [Nat.beq_refl]
  · rw [if_neg h]
    have : Nat.beq k b = false := by rw [← Bool.not_eq_true, Nat.beq_eq]; exact h
    rw [this]; rfl
theorem hput_cons (k b : Nat) (x y : Ent) (r : H) : hput ((k, y) :: r) b x = if k = b then (b, x) :: r else if k ≤ b then (k, y) :: hput r b x else (b, x) :: (k, y) :: r := by
  rw [hput]
  by_cases h : k = b
  · subst h; simp [Nat.beq_refl]
  · rw [if_neg h]
    have : Nat.beq k b = false := by rw [← Bool.not_eq_true, Nat.beq_eq]; exact h
    rw [this]
    simp only [cond_false]
    by_cases h2 : k ≤ b
    · rw [if_pos h2, Nat.ble_eq_true_of_le h2]; rfl
    · rw [if_neg h2]
      have : Nat.ble k b = false := by rw [← Bool.not_eq_true, Nat.ble_eq]; exact h2
      rw [this]; rfl
theorem look_same (b : Nat) (x : Ent) : ∀ h : H, look (hput h b x) b = some x
  | [] => by simp [hput, look_cons]
  | (k, y) :: r => by
    rw [hput_cons]
    split
    · simp [look_cons]
    · split
      · rw [look_cons, if_neg (by assumption)]; exact look_same b x r
      · simp [look_cons]
theorem look_ne {b c : Nat} (x : Ent) (hne : b ≠ c) : ∀ h : H, look (hput h b x) c = look h c
  | [] => by simp [hput, look_cons, look, hne]
  | (k, y) :: r => by
    rw [hput_cons]
    split
    · rename_i e; subst e; simp [look_cons, hne]
    · split
      · rw [look_cons, look_cons]; split
        · rfl
        · exact look_ne x hne r
      · rw [look_cons, if_neg hne]
theorem hget_same (b : Nat) (x : AB) (h : H) : hget (hput h b (.blk x)) b = some x := by simp [hget, look_same]
theorem hget_dead (b : Nat) (h : H) : hget (hput h b .dead) b = none := by simp [hget, look_same]
theorem hget_lst (b : Nat) (l : List LK) (h : H) : hget (hput h b (.lst l)) b = none := by simp [hget, look_same]
theorem hget_ne {b c : Nat} (x : Ent) (hne : b ≠ c) (h : H) : hget (hput h b x) c = hget h c := by simp [hget, look_ne x hne]
theorem mget_ne {b c : Nat} (x : Ent) (hne : b ≠ c) (h : H) : mget (hput h b x) c = mget h c := by simp [mget, look_ne x hne]
theorem mget_same (b : Nat) (es : List MapEntry) (n : Nat) (h : H) : mget (hput h b (.mp es n)) b = some (es, n) := by simp [mget, look_same]
theorem hget_mp (b : Nat) (es : List MapEntry) (n : Nat) (h : H) : hget (hput h b (.mp es n)) b = none := by simp [hget, look_same]
theorem mget_put {h : H} {b c : Nat} {x : Ent} {m : List MapEntry × Nat} (hx : ∀ es n, x ≠ .mp es n) (hm : mget (hput h b x) c = some m) : c ≠ b ∧ mget h c = some m := by
  by_cases e : b = c
  · subst e
    exfalso
    unfold mget at hm
    rw [look_same] at hm
    split at hm
    · rename_i es n he; exact hx es n (Option.some.inj he)
    · cases hm
  · rw [mget_ne _ e] at hm; exact ⟨fun q => e q.symm, hm⟩
theorem has_of_mget {h : H} {b : Nat} {m : List MapEntry × Nat} (hb : mget h b = some m) : has h b = true := by
  unfold mget at hb
  unfold has
  split at hb
  · rename_i y n hy; rw [hy]; rfl
  · cases hb
/-- No map is known. -/
def noMp (h : H) : Bool := h.all fun p => match p.2 with
  | .mp _ _ => false
  | _ => true
theorem look_in : ∀ {h : H} {b : Nat} {x : Ent}, look h b = some x → (b, x) ∈ h
  | [], b, x, hx => by simp [look] at hx
  | (k, y) :: r, b, x, hx => by
    rw [look_cons] at hx
    split at hx
    · rename_i e; subst e; obtain rfl := Option.some.inj hx; exact List.mem_cons_self
    · exact List.mem_cons_of_mem _ (look_in hx)
theorem noMp_get {h : H} (hn : noMp h = true) (b : Nat) : mget h b = none := by
  unfold mget
  split
  · rename_i es c hl
    have := List.all_eq_true.1 hn _ (look_in hl)
    cases this
  · rfl
theorem lk_ne {b c : Nat} (x : Ent) (hne : b ≠ c) (h : H) (j : Nat) : lk (hput h b x) c j = lk h c j := by simp [lk, look_ne x hne]
theorem lk_blk (b : Nat) (x : AB) (h : H) (j : Nat) : lk (hput h b (.blk x)) b j = .gone := by simp [lk, look_same]
theorem lk_dead (b : Nat) (h : H) (j : Nat) : lk (hput h b .dead) b j = .gone := by simp [lk, look_same]
theorem lk_mp (b : Nat) (es : List MapEntry) (n : Nat) (h : H) (j : Nat) : lk (hput h b (.mp es n)) b j = .gone := by simp [lk, look_same]
theorem lk_lst (b : Nat) (l : List LK) (h : H) (j : Nat) : lk (hput h b (.lst l)) b j = l.getD j .gone := by simp [lk, look_same]
theorem has_put {b c : Nat} (x : Ent) (h : H) : has (hput h b x) c = (decide (b = c) || has h c) := by
  by_cases e : b = c
  · subst e; simp [has, look_same]
  · simp [has, look_ne x e, e]
theorem has_of_get {h : H} {b : Nat} {x : AB} (hb : hget h b = some x) : has h b = true := by
  unfold hget at hb
  unfold has
  split at hb
  · rename_i y hy; rw [hy]; rfl
  · cases hb
theorem has_of_lk {h : H} {b j : Nat} (hb : lk h b j ≠ .gone) : has h b = true := by
  unfold lk at hb
  unfold has
  split at hb
  · rename_i y hy; rw [hy]; rfl
  · exact absurd rfl hb
/-! ### Names that are known -/
def Ex.bd (h : H) : Ex → Bool
  | .v b _ => has h b
  | .n _ => true
  | .bin _ a b => a.bd h && b.bd h
  | .wrap _ a => a.bd h
  | .len b _ => has h b
  | .at b _ i _ => has h b && i.bd h
  | .fld b _ _ _ => has h b
def Bx.bd (h : H) : Bx → Bool
  | .v b _ => has h b
  | .lt a b | .le a b | .eq a b => a.bd h && b.bd h
  | .nz a => a.bd h
  | .not x => x.bd h
  | .and x y | .beq x y => x.bd h && y.bd h
  | .fld b _ _ _ => has h b
  | .nil b _ _ => has h b
def bd (h : H) : AV → Bool
  | .val _ => true
  | .ptr b _ => has h b
  | .sl b _ _ _ => has h b
  | .fn _ cap => cap.all fun p => has h p.1
  | .ix _ e => e.bd h
  | .bx x => x.bd h
  | .ls b _ => has h b
  | .hp b _ i _ _ => has h b && i.bd h
  | .any b _ => has h b
  | .mr b => has h b
  | .ob b _ _ => has h b
  | .op b _ _ _ => has h b
  | .fp b _ _ => has h b
def bdP (h : H) : PV → Bool
  | .v x => bd h x
  | .agg l => l.all (bd h)
def bdT (h : H) : TV → Bool
  | .p x => bdP h x
  | .tup l => l.all (bdP h)
def Sub (h h' : H) : Prop := ∀ b, has h b = true → has h' b = true
def Ag (h : H) (E E' : Env) : Prop := ∀ b, has h b = true → E.s b = E'.s b ∧ E.k b = E'.k b ∧ E.r b = E'.r b
theorem Sub.refl (h : H) : Sub h h := fun _ hb => hb
theorem Sub.trans {a b c : H} (x : Sub a b) (y : Sub b c) : Sub a c := fun n hn => y n (x n hn)
theorem Ag.refl (h : H) (E : Env) : Ag h E E := fun _ _ => ⟨rfl, rfl, rfl⟩
theorem Ag.trans {h h' : H} {E F G : Env} (x : Ag h E F) (s : Sub h h') (y : Ag h' F G) : Ag h E G := fun b hb =>
  ⟨(x b hb).1.trans (y b (s b hb)).1, (x b hb).2.1.trans (y b (s b hb)).2.1, (x b hb).2.2.trans (y b (s b hb)).2.2⟩
theorem Ex.bd_sub {h h' : H} (s : Sub h h') : ∀ {e : Ex}, e.bd h = true → e.bd h' = true
  | .v b j, hb => s b hb
  | .n x, _ => rfl
  | .bin o a b, hb => by
    simp only [Ex.bd, Bool.and_eq_true] at hb ⊢
    exact ⟨Ex.bd_sub s hb.1, Ex.bd_sub s hb.2⟩
  | .wrap k a, hb => Ex.bd_sub (e := a) s hb
  | .len b j, hb => s b hb
  | .at b j i c, hb => by
    simp only [Ex.bd, Bool.and_eq_true] at hb ⊢
    exact ⟨s b hb.1, Ex.bd_sub s hb.2⟩
  | .fld b j p i, hb => s b hb
theorem Ex.den_ag {h : H} {E E' : Env} (g : Ag h E E') : ∀ {e : Ex}, e.bd h = true → e.den E = e.den E'
  | .v b j, hb => by simp only [Ex.den, (g b hb).2.2]
  | .n x, _ => rfl
  | .bin o a b, hb => by
    simp only [Ex.bd, Bool.and_eq_true] at hb
    simp only [Ex.den, Ex.den_ag g hb.1, Ex.den_ag g hb.2]
  | .wrap k a, hb => by simp only [Ex.den, Ex.den_ag (e := a) g hb]
  | .len b j, hb => by simp only [Ex.den, (g b hb).2.2]
  | .at b j i c, hb => by
    simp only [Ex.bd, Bool.and_eq_true] at hb
    simp only [Ex.den, (g b hb.1).2.2, Ex.den_ag g hb.2]
  | .fld b j p i, hb => by simp only [Ex.den, (g b hb).2.2]
theorem Bx.bd_sub {h h' : H} (s : Sub h h') : ∀ {x : Bx}, x.bd h = true → x.bd h' = true
  | .v b j, hb => s b hb
  | .lt a b, hb | .le a b, hb | .eq a b, hb => by
    simp only [Bx.bd, Bool.and_eq_true] at hb ⊢
    exact ⟨Ex.bd_sub s hb.1, Ex.bd_sub s hb.2⟩
  | .nz a, hb => Ex.bd_sub (e := a) s hb
  | .not x, hb => Bx.bd_sub (x := x) s hb
  | .and x y, hb | .beq x y, hb => by
    simp only [Bx.bd, Bool.and_eq_true] at hb ⊢
    exact ⟨Bx.bd_sub s hb.1, Bx.bd_sub s hb.2⟩
  | .fld b j p i, hb => s b hb
  | .nil b j p, hb => s b hb
theorem Bx.den_ag {h : H} {E E' : Env} (g : Ag h E E') : ∀ {x : Bx}, x.bd h = true → x.den E = x.den E'
  | .v b j, hb => by simp only [Bx.den, (g b hb).2.2]
  | .lt a b, hb | .le a b, hb | .eq a b, hb => by
    simp only [Bx.bd, Bool.and_eq_true] at hb
    simp only [Bx.den, Ex.den_ag g hb.1, Ex.den_ag g hb.2]
  | .nz a, hb => by simp only [Bx.den, Ex.den_ag (e := a) g hb]
  | .not x, hb => by simp only [Bx.den, Bx.den_ag (x := x) g hb]
  | .and x y, hb | .beq x y, hb => by
    simp only [Bx.bd, Bool.and_eq_true] at hb
    simp only [Bx.den, Bx.den_ag g hb.1, Bx.den_ag g hb.2]
  | .fld b j p i, hb => by simp only [Bx.den, (g b hb).2.2]
  | .nil b j p, hb => by simp only [Bx.den, (g b hb).2.2]
theorem bd_sub {h h' : H} (s : Sub h h') {x : AV} (hx : bd h x = true) : bd h' x = true := by
  cases x with
  | val v => rfl
  | ptr b o => exact s b hx
  | sl b o n c => exact s b hx
  | fn f cap =>
    simp only [bd, List.all_eq_true] at *
    exact fun p hp => s _ (hx p hp)
  | ix k e => exact Ex.bd_sub (e := e) s hx
  | bx x => exact Bx.bd_sub (x := x) s hx
  | ls b j => exact s b hx
  | hp b j i z o =>
    simp only [bd, Bool.and_eq_true] at *
    exact ⟨s b hx.1, Ex.bd_sub s hx.2⟩
  | any b j => exact s b hx
  | mr b => exact s b hx
  | ob b j p => exact s b hx
  | op b j p o => exact s b hx
  | fp b j o => exact s b hx
theorem bdP_sub {h h' : H} (s : Sub h h') {x : PV} (hx : bdP h x = true) : bdP h' x = true := by
  cases x with
  | v x => exact bd_sub s hx
  | agg l =>
    simp only [bdP, List.all_eq_true] at *
    exact fun p hp => bd_sub s (hx p hp)
theorem bdT_sub {h h' : H} (s : Sub h h') {x : TV} (hx : bdT h x = true) : bdT h' x = true := by
  cases x with
  | p x => exact bdP_sub s hx
  | tup l =>
    simp only [bdT, List.all_eq_true] at *
    exact fun p hp => bdP_sub s (hx p hp)
theorem cv_ag {h : H} {E E' : Env} (g : Ag h E E') {x : AV} (hx : bd h x = true) : cv E x = cv E' x := by
  cases x with
  | val v => rfl
  | ptr b o => simp only [cv, (g b hx).1]
  | sl b o n c => simp only [cv, (g b hx).1, (g b hx).2.1]
  | fn f cap =>
    simp only [bd, List.all_eq_true] at hx
    simp only [cv]
    congr 2
    apply List.map_congr_left
    intro p hp
    simp only [Env.ad, (g _ (hx p hp)).1]
  | ix k e => simp only [cv, Ex.den_ag (e := e) g hx]
  | bx x => simp only [cv, Bx.den_ag (x := x) g hx]
  | ls b j => simp only [cv, (g b hx).2.2]
  | hp b j i z o =>
    simp only [bd, Bool.and_eq_true] at hx
    simp only [cv, (g b hx.1).2.2, Ex.den_ag g hx.2]
  | any b j => simp only [cv, (g b hx).2.2]
  | mr b => simp only [cv, (g b hx).1]
  | ob b j p => simp only [cv, (g b hx).2.2]
  | op b j p o => simp only [cv, (g b hx).2.2]
  | fp b j o => simp only [cv, (g b hx).2.2]
theorem cvs_ag {h : H} {E E' : Env} (g : Ag h E E') {l : List AV} (hl : ∀ x ∈ l, bd h x = true) : l.map (cv E) = l.map (cv E') :=
  List.map_congr_left fun x hx => cv_ag g (hl x hx)
theorem cp_ag {h : H} {E E' : Env} (g : Ag h E E') {x : PV} (hx : bdP h x = true) : cp E x = cp E' x := by
  cases x with
  | v x => exact cv_ag g hx
  | agg l => simp only [bdP, List.all_eq_true] at hx; simp only [cp, cvs_ag g hx]
theorem ct_ag {h : H} {E E' : Env} (g : Ag h E E') {x : TV} (hx : bdT h x = true) : ct E x = ct E' x := by
  cases x with
  | p x => exact cp_ag g hx
  | tup l =>
    simp only [bdT, List.all_eq_true] at hx
    simp only [ct]
    congr 2
    exact List.map_congr_left fun x h => cp_ag g (hx x h)
theorem cts_ag {h : H} {E E' : Env} (g : Ag h E E') {l : List TV} (hl : ∀ x ∈ l, bdT h x = true) : l.map (ct E) = l.map (ct E') :=
  List.map_congr_left fun x hx => ct_ag g (hl x hx)
/-! ### What is known of names -/
inductive DV where
  | num (n : Int)
  | tru (x : Bool)
  | lst (L : List (List Int))
  | obj (d : Dat)
/-- An object, told by what it is made of: what is at a path of a name; nothing; a node that was opened, or is new. -/
inductive DE where
  | at (b j : Nat) (p : List Bool)
  | nil
  | nd (b : Nat) (es : List Ex) (xs : List Bx) (l r : DE)
def DE.den (E : Env) : DE → Dat
  | .at b j p => ((E.r b).t j).sub p
  | .nil => .leaf
  | .nd b es xs l r => .nd (E.s b) (es.map (Ex.den E)) (xs.map (Bx.den E)) (l.den E) (r.den E)
def DE.bd (h : H) : DE → Bool
  | .at b _ _ => has h b
  | .nil => true
  | .nd b es xs l r => has h b && es.all (Ex.bd h) && xs.all (Bx.bd h) && l.bd h && r.bd h
theorem DE.bd_sub {h h' : H} (s : Sub h h') : ∀ {d : DE}, d.bd h = true → d.bd h' = true
  | .at b _ _, hd => s b hd
  | .nil, _ => rfl
  | .nd b es xs l r, hd => by
    simp only [DE.bd, Bool.and_eq_true, List.all_eq_true] at *
    exact ⟨⟨⟨⟨s b hd.1.1.1.1, fun x hx => Ex.bd_sub s (hd.1.1.1.2 x hx)⟩, fun x hx => Bx.bd_sub s (hd.1.1.2 x hx)⟩, DE.bd_sub s hd.1.2⟩, DE.bd_sub s hd.2⟩
theorem DE.den_ag {h : H} {E E' : Env} (g : Ag h E E') : ∀ {d : DE}, d.bd h = true → d.den E = d.den E'
  | .at b _ _, hd => by simp only [DE.den, (g b hd).2.2]
  | .nil, _ => rfl
  | .nd b es xs l r, hd => by
    simp only [DE.bd, Bool.and_eq_true, List.all_eq_true] at hd
    simp only [DE.den, (g b hd.1.1.1.1).1, DE.den_ag g hd.1.2, DE.den_ag g hd.2, Dat.nd.injEq, true_and, and_true]
    exact ⟨List.map_congr_left fun x hx => Ex.den_ag g (hd.1.1.1.2 x hx), List.map_congr_left fun x hx => Bx.den_ag g (hd.1.1.2 x hx)⟩
inductive DX where
  | num (e : Ex)
  | tru (x : Bx)
  | lst (b j : Nat)
  | rows (rs : List (List Ex))
  | obj (d : DE)
def DX.den (E : Env) : DX → DV
  | .num e => .num (e.den E)
  | .tru x => .tru (x.den E)
  | .lst b j => .lst ((E.r b).l j)
  | .rows rs => .lst (rs.map fun r => r.map (Ex.den E))
  | .obj d => .obj (d.den E)
def DX.bd (h : H) : DX → Bool
  | .num e => e.bd h
  | .tru x => x.bd h
  | .lst b _ => has h b
  | .rows rs => rs.all fun r => r.all (Ex.bd h)
  | .obj d => d.bd h
theorem DX.bd_sub {h h' : H} (s : Sub h h') {d : DX} (hd : d.bd h = true) : d.bd h' = true := by
  cases d with
  | num e => exact Ex.bd_sub (e := e) s hd
  | tru x => exact Bx.bd_sub (x := x) s hd
  | lst b j => exact s b hd
  | rows rs =>
    simp only [DX.bd, List.all_eq_true] at *
    exact fun r hr x hx => Ex.bd_sub s (hd r hr x hx)
  | obj d => exact DE.bd_sub (d := d) s hd
theorem DX.den_ag {h : H} {E E' : Env} (g : Ag h E E') {d : DX} (hd : d.bd h = true) : d.den E = d.den E' := by
  cases d with
  | num e => simp only [DX.den, Ex.den_ag (e := e) g hd]
  | tru x => simp only [DX.den, Bx.den_ag (x := x) g hd]
  | lst b j => simp only [DX.den, (g b hd).2.2]
  | rows rs =>
    simp only [DX.bd, List.all_eq_true] at hd
    simp only [DX.den, DV.lst.injEq]
    exact List.map_congr_left fun r hr => List.map_congr_left fun x hx => Ex.den_ag g (hd r hr x hx)
  | obj d => simp only [DX.den, DE.den_ag (d := d) g hd]
/-- The rows that are told. -/
def DV.ls : DV → List (List Int)
  | .lst L => L
  | _ => []
def DX.ls (E : Env) (d : DX) : List (List Int) := (d.den E).ls
/-- A row, other numbers from place c on; a list, one row of it so turned. -/
def rowPut (r : List Int) (c : Nat) (xs : List Int) : List Int := r.take c ++ xs ++ r.drop (c + xs.length)
def rowSet (L : List (List Int)) (i : Int) (c : Nat) (xs : List Int) : List (List Int) := L.set i.toNat (rowPut (L.getD i.toNat []) c xs)
/-- Lists out of others: one behind the other; so many alike rows; a row turned; a part. -/
inductive LX where
  | app (a b : DX)
  | rep (n : Ex) (z : List Int)
  | set (a : DX) (i : Ex) (c : Nat) (es : List Ex)
  | sub (a : DX) (l h : Ex)
def LX.den (E : Env) : LX → List (List Int)
  | .app a b => a.ls E ++ b.ls E
  | .rep n z => List.replicate (n.den E).toNat z
  | .set a i c es => rowSet (a.ls E) (i.den E) c (es.map (Ex.den E))
  | .sub a l h => ((a.ls E).take (h.den E).toNat).drop (l.den E).toNat
def LX.bd (h : H) : LX → Bool
  | .app a b => a.bd h && b.bd h
  | .rep n _ => n.bd h
  | .set a i _ es => a.bd h && i.bd h && es.all (Ex.bd h)
  | .sub a l u => a.bd h && l.bd h && u.bd h
theorem LX.bd_sub {h h' : H} (s : Sub h h') {x : LX} (hx : x.bd h = true) : x.bd h' = true := by
  cases x with
  | app a b =>
    simp only [LX.bd, Bool.and_eq_true] at *
    exact ⟨DX.bd_sub s hx.1, DX.bd_sub s hx.2⟩
  | rep n z => exact Ex.bd_sub (e := n) s hx
  | set a i c es =>
    simp only [LX.bd, Bool.and_eq_true, List.all_eq_true] at *
    exact ⟨⟨DX.bd_sub s hx.1.1, Ex.bd_sub s hx.1.2⟩, fun e he => Ex.bd_sub s (hx.2 e he)⟩
  | sub a l u =>
    simp only [LX.bd, Bool.and_eq_true] at *
    exact ⟨⟨DX.bd_sub s hx.1.1, Ex.bd_sub s hx.1.2⟩, Ex.bd_sub s hx.2⟩
theorem LX.den_ag {h : H} {E E' : Env} (g : Ag h E E') {x : LX} (hx : x.bd h = true) : x.den E = x.den E' := by
  cases x with
  | app a b =>
    simp only [LX.bd, Bool.and_eq_true] at hx
    simp only [LX.den, DX.ls, DX.den_ag g hx.1, DX.den_ag g hx.2]
  | rep n z => simp only [LX.den, Ex.den_ag (e := n) g hx]
  | set a i c es =>
    simp only [LX.bd, Bool.and_eq_true, List.all_eq_true] at hx
    simp only [LX.den, DX.ls, DX.den_ag g hx.1.1, Ex.den_ag (e := i) g hx.1.2]
    congr 1
    exact List.map_congr_left fun e he => Ex.den_ag g (hx.2 e he)
  | sub a l u =>
    simp only [LX.bd, Bool.and_eq_true] at hx
    simp only [LX.den, DX.ls, DX.den_ag g hx.1.1, Ex.den_ag (e := l) g hx.1.2, Ex.den_ag (e := u) g hx.2]
def dvs (r : Rec) : List FK → Nat → List DV
  | [], _ => []
  | .int _ :: ks, j => .num (r.i j) :: dvs r ks (j + 1)
  | .bool :: ks, j => .tru (r.c j) :: dvs r ks (j + 1)
  | .list _ :: ks, j => .lst (r.l j) :: dvs r ks (j + 1)
  | .obj _ :: ks, j => .obj (r.t j) :: dvs r ks (j + 1)
  | .vw _ :: ks, j => .obj (r.t j) :: dvs r ks (j + 1)
  | .fb _ :: ks, j => .num 0 :: dvs r ks (j + 1)
  | .own _ _ :: ks, j => .lst (r.l j) :: dvs r ks (j + 1)
  | .io _ :: ks, j => .obj (r.t j) :: dvs r ks (j + 1)
  | .fn _ :: ks, j => .num 0 :: dvs r ks (j + 1)
/-- What is told of calls (and of loops), by number: what holds between arguments and answer; what they ask for. -/
structure Tab where
  rel : Nat → List DV → List DV → Prop
  pre : Nat → List DV → Prop
  mu : Nat → List DV → List DV → Nat
inductive Fact where
  | is (x : Bx) (v : Bool)
  | rel (f : Nat) (ins : List DX) (id : Nat) (outs : List FK)
  | npre (f : Nat) (ins : List DX)
  | nrel (f : Nat) (ins outs : List DX)
  | ndec (f : Nat) (ins old new : List DX)
  | lseq (id : Nat) (x : LX)
def Fact.den (T : Tab) (E : Env) : Fact → Prop
  | .is x v => x.den E = v
  | .rel f ins id outs => T.rel f (ins.map (DX.den E)) (dvs (E.r id) outs 0)
  | .npre f ins => ¬ T.pre f (ins.map (DX.den E))
  | .nrel f ins outs => ¬ T.rel f (ins.map (DX.den E)) (outs.map (DX.den E))
  | .ndec f ins old new => ¬ T.mu f (ins.map (DX.den E)) (new.map (DX.den E)) < T.mu f (ins.map (DX.den E)) (old.map (DX.den E))
  | .lseq id x => (E.r id).l 0 = x.den E
def Fact.bd (h : H) : Fact → Bool
  | .is x _ => x.bd h
  | .rel _ ins id _ => ins.all (DX.bd h) && has h id
  | .npre _ ins => ins.all (DX.bd h)
  | .nrel _ ins outs => ins.all (DX.bd h) && outs.all (DX.bd h)
  | .ndec _ ins old new => ins.all (DX.bd h) && old.all (DX.bd h) && new.all (DX.bd h)
  | .lseq id x => has h id && x.bd h
theorem dxs_ag {h : H} {E E' : Env} (g : Ag h E E') {l : List DX} (hl : l.all (DX.bd h) = true) : l.map (DX.den E) = l.map (DX.den E') :=
  List.map_congr_left fun x hx => DX.den_ag g (List.all_eq_true.1 hl x hx)
theorem dxs_sub {h h' : H} (s : Sub h h') {l : List DX} (hl : l.all (DX.bd h) = true) : l.all (DX.bd h') = true :=
  List.all_eq_true.2 fun x hx => DX.bd_sub s (List.all_eq_true.1 hl x hx)
theorem Fact.bd_sub {h h' : H} (s : Sub h h') {f : Fact} (hf : f.bd h = true) : f.bd h' = true := by
  cases f with
  | is x v => exact Bx.bd_sub (x := x) s hf
  | rel f ins id outs =>
    simp only [Fact.bd, Bool.and_eq_true] at *
    exact ⟨dxs_sub s hf.1, s _ hf.2⟩
  | npre f ins => exact dxs_sub s hf
  | nrel f ins outs =>
    simp only [Fact.bd, Bool.and_eq_true] at *
    exact ⟨dxs_sub s hf.1, dxs_sub s hf.2⟩
  | ndec f ins old new =>
    simp only [Fact.bd, Bool.and_eq_true] at *
    exact ⟨⟨dxs_sub s hf.1.1, dxs_sub s hf.1.2⟩, dxs_sub s hf.2⟩
  | lseq id x =>
    simp only [Fact.bd, Bool.and_eq_true] at *
    exact ⟨s _ hf.1, LX.bd_sub s hf.2⟩
theorem Fact.den_ag {T : Tab} {h : H} {E E' : Env} (g : Ag h E E') {f : Fact} (hf : f.bd h = true) : f.den T E → f.den T E' := by
  cases f with
  | is x v => intro hd; simp only [Fact.den] at *; rw [← Bx.den_ag (x := x) g hf]; exact hd
  | rel f ins id outs =>
    simp only [Fact.bd, Bool.and_eq_true] at hf
    simp only [Fact.den, dxs_ag g hf.1, (g id hf.2).2.2]
    exact fun h => h
  | npre f ins => simp only [Fact.den, dxs_ag g hf]; exact fun h => h
  | nrel f ins outs =>
    simp only [Fact.bd, Bool.and_eq_true] at hf
    simp only [Fact.den, dxs_ag g hf.1, dxs_ag g hf.2]
    exact fun h => h
  | ndec f ins old new =>
    simp only [Fact.bd, Bool.and_eq_true] at hf
    simp only [Fact.den, dxs_ag g hf.1.1, dxs_ag g hf.1.2, dxs_ag g hf.2]
    exact fun h => h
  | lseq id x =>
    simp only [Fact.bd, Bool.and_eq_true] at hf
    simp only [Fact.den, LX.den_ag g hf.2, (g id hf.1).2.2]
    exact fun h => h
def PC (T : Tab) (E : Env) : List Fact → Prop
  | [] => True
  | f :: q => f.den T E ∧ PC T E q
def bdQ (h : H) (q : List Fact) : Bool := q.all (Fact.bd h)
theorem PC.ag {T : Tab} {h : H} {E E' : Env} (g : Ag h E E') : ∀ {q : List Fact}, bdQ h q = true → PC T E q → PC T E' q
  | [], _, _ => trivial
  | f :: q, hb, hp => by
    simp only [bdQ, List.all_cons, Bool.and_eq_true] at hb
    exact ⟨Fact.den_ag g hb.1 hp.1, PC.ag g hb.2 hp.2⟩
theorem bdQ_sub {h h' : H} (s : Sub h h') {q : List Fact} (hq : bdQ h q = true) : bdQ h' q = true :=
  List.all_eq_true.2 fun x hx => Fact.bd_sub s (List.all_eq_true.1 hq x hx)
/-! ### What may be written: what is new, and old blocks that were handed in to be written -/
structure Bd where
  n : Nat
  o : Nat → Prop
def Bd.free (B : Bd) (k : Nat) : Prop := B.n ≤ k ∨ B.o k
def Bd.at (n : Nat) : Bd := ⟨n, fun _ => False⟩
/-- Of the other blocks nothing has turned. -/
structure Bel (B : Bd) (w w' : World) : Prop where
  os : w'.os = w.os
  tape : w'.tape = w.tape
  output : w'.output = w.output
  size : w.heap.size ≤ w'.heap.size
  block : ∀ k, ¬ B.free k → w'.heap[k]? = w.heap[k]?
theorem Bel.refl (B : Bd) (w : World) : Bel B w w := ⟨rfl, rfl, rfl, Nat.le_refl _, fun _ _ => rfl⟩
theorem Bel.trans {B : Bd} {a b c : World} (h : Bel B a b) (k : Bel B b c) : Bel B a c :=
  ⟨k.os.trans h.os, k.tape.trans h.tape, k.output.trans h.output, Nat.le_trans h.size k.size, fun i hi => (k.block i hi).trans (h.block i hi)⟩
theorem Bel.of {B : Bd} {w w' : World} (h : Below w.heap.size w w') (hl : B.n ≤ w.heap.size) : Bel B w w' :=
  ⟨h.os, h.tape, h.output, h.size, fun k hk => h.block k (by unfold Bd.free at hk; omega)⟩
theorem Bel.below {w w' : World} (h : Bel (Bd.at w.heap.size) w w') : Below w.heap.size w w' :=
  ⟨h.os, h.tape, h.output, h.size, fun k hk => h.block k (fun f => by
    rcases f with f | f
    · simp only [Bd.at] at f; omega
    · exact f)⟩
theorem Bel.drew {B : Bd} {a w : World} (h : Bel B a w) : Bel B a w.drew := ⟨h.os, h.tape, h.output, h.size, h.block⟩
theorem Bel.alloc {B : Bd} {a w : World} (h : Bel B a w) (hB : B.n ≤ w.heap.size) (o : Obj) : Bel B a (w.alloc o) :=
  h.trans ⟨rfl, rfl, rfl, by simp, fun k hk => by
    by_cases hl : k < w.heap.size
    · exact Below.heap_alloc _ _ _ hl
    · exact absurd (.inl (Nat.le_trans hB (Nat.le_of_not_lt hl))) hk⟩
theorem bel_setRow {B : Bd} {g : Nat} {w0 w : World} (hb : Bel B w0 w) (hBg : B.free g) (cs : Array Value) : Bel B w0 (w.setRow g cs) :=
  hb.trans ⟨rfl, rfl, rfl, by simp [World.setRow], fun k hk => setRow_other w g k cs (fun e => hk (e ▸ hBg))⟩
/-! ### Lists in a world -/
def encR : List CK → List Int → List Value
  | k :: ks, x :: xs => k.val x :: encR ks xs
  | _, _ => []
def encL (ks : List CK) (L : List (List Int)) : List Value := L.flatMap (encR ks)
structure ROk (w : World) (r : Rec) (j : Nat) (ks : List CK) : Prop where
  wf : ∀ x ∈ r.l j, x.length = ks.length
  cap : (r.l j).length ≤ r.m j
  max : r.m j ≤ maxLen
  read : ∀ i u, (encL ks (r.l j))[i]? = some u → ∃ A, r.a j = some A ∧ w.cell? (A.add i) = some u
structure OOk (B : Nat) (w : World) (r : Rec) (j : Nat) (ks : List CK) (e : Nat) : Prop where
  wf : ∀ x ∈ r.l j, x.length = ks.length
  own : (r.l j = [] ∧ r.m j = 0) ∨ w.ownsRow B e ks.length (r.lv j) (r.l j).length (encL ks (r.l j))
def LK.ok (B : Nat) (w : World) (r : Rec) (j : Nat) : LK → Prop
  | .gone => True
  | .rd ks _ => ROk w r j ks
  | .own ks e => OOk 0 w r j ks e
  | .obj k ps _ => (∀ p ∈ ps, ((r.t j).sub p).holds w (kat k p)) ∧ (fps (r.t j) ps).Nodup
  | .vw k => (r.t j).holds w k
  | .fb fs => ∃ g, r.a j = some ⟨g, 0, none⟩ ∧ g < w.heap.size ∧ ∀ o f, fs[o]? = some (some f) → w.cell? ⟨g, o, none⟩ = some (.func (.func f) #[] #[])
  | .al _ _ => True
  | .ov k => (r.t j).holds w k
/-- Which block a list's rows are in. -/
def LK.occ (r : Rec) (j : Nat) (k : Nat) : LK → Prop
  | .gone => False
  | .rd _ _ => r.l j ≠ [] ∧ (r.a j).map (·.block) = some k
  | .own _ _ => r.m j ≠ 0 ∧ (r.a j).map (·.block) = some k
  | .obj _ ps _ => k ∈ fps (r.t j) ps
  | .vw _ => k ∈ (r.t j).fp
  | .fb _ => (r.a j).map (·.block) = some k
  | .al _ _ => False
  | .ov _ => k ∈ (r.t j).fp
/-- What is the walk's own, to be written. -/
def LK.mine : LK → Prop
  | .own _ _ => True
  | .obj _ _ _ => True
  | _ => False
def LK.isVw : LK → Prop
  | .vw _ => True
  | _ => False
def pre : List Bool → List Bool → Bool
  | [], _ => true
  | true :: p, true :: q | false :: p, false :: q => pre p q
  | _, _ => false
theorem pre_eq : ∀ {p q : List Bool}, pre p q = true → ∃ r, q = p ++ r
  | [], q, _ => ⟨q, rfl⟩
  | true :: p, true :: q, h | false :: p, false :: q, h => by
    obtain ⟨r, e⟩ := pre_eq (p := p) (q := q) h
    exact ⟨r, by rw [e]; rfl⟩
  | true :: p, [], h | false :: p, [], h => by cases h
  | true :: p, false :: q, h | false :: p, true :: q, h => by cases h
/-- Of which kind an object is that may be looked at. -/
def readK : LK → List Bool → Option Nat
  | .vw k, p => some (kat k p)
  | .ov k, p => some (kat k p)
  | .obj k ps _, p => bif ps.any (fun a => pre a p) then some (kat k p) else none
  | _, _ => none
theorem readK_ok {B : Nat} {w : World} {r : Rec} {j : Nat} {l : LK} {p : List Bool} {k : Nat} (h : readK l p = some k) (ok : l.ok B w r j) : ((r.t j).sub p).holds w k ∧ (∀ x ∈ ((r.t j).sub p).fp, l.occ r j x) ∧ ∀ ks e, l ≠ .own ks e := by
  cases l with
  | gone => cases h
  | rd ks old => cases h
  | own ks e => cases h
  | fb fs => cases h
  | al x y => cases h
  | vw k' =>
    obtain rfl := Option.some.inj h
    exact ⟨Dat.holds.sub p ok, fun x hx => Dat.sub_fp hx, fun _ _ e => by cases e⟩
  | ov k' =>
    obtain rfl := Option.some.inj h
    exact ⟨Dat.holds.sub p ok, fun x hx => Dat.sub_fp hx, fun _ _ e => by cases e⟩
  | obj k' ps os =>
    simp only [readK] at h
    cases hp : ps.any (fun a => pre a p) with
    | false => rw [hp] at h; cases h
    | true =>
      rw [hp, cond_true] at h
      obtain rfl := Option.some.inj h
      obtain ⟨a, ha, hpa⟩ := List.any_eq_true.1 hp
      obtain ⟨q, rfl⟩ := pre_eq hpa
      rw [Dat.sub_append, kat_append]
      exact ⟨(ok.1 a ha).sub q, fun x hx => List.mem_flatMap.2 ⟨a, ha, Dat.sub_fp hx⟩, fun _ _ e => by cases e⟩
/-- Where the rows of a name's lists lie. -/
def InR (r : Rec) (n : Nat) : Prop := ∃ j, r.l j ≠ [] ∧ (r.a j).map (·.block) = some n
structure LR (E : Env) (h : H) (B : Bd) (w : World) : Prop where
  ok : ∀ b j, (lk h b j).ok B.n w (E.r b) j
  lt : ∀ b j k, (lk h b j).occ (E.r b) j k → k < w.heap.size ∧ ∀ c x, hget h c = some x → E.s c ≠ k
  sep : ∀ b j ks e, lk h b j = .own ks e → ∀ b' j' k, (lk h b j).occ (E.r b) j k → (lk h b' j').occ (E.r b') j' k → b = b' ∧ j = j'
  inn : ∀ b j ks old, lk h b j = .rd ks old → ∀ k, (lk h b j).occ (E.r b) j k → B.free k ∨ (old = true ∧ has h 0 = true ∧ InR (E.r 0) k)
  fre : ∀ b j, (lk h b j).mine → ∀ x, (lk h b j).occ (E.r b) j x → B.free x
  alo : ∀ b j k ps os, lk h b j = .obj k ps os → ∀ b' j' x, x ∈ fps ((E.r b).t j) ps → (lk h b' j').occ (E.r b') j' x → (b = b' ∧ j = j') ∨ (lk h b' j').isVw
  opn : ∀ b j k ps os, lk h b j = .obj k ps os → ∀ q ∈ os, (((E.r b).t j).sub q.1).isLeaf = false ∧ E.s q.2 = (((E.r b).t j).sub q.1).blk ∧ has h q.2 = true
  ali : ∀ b j x y, lk h b j = .al x y → bd h x = true ∧ bd h y = true ∧ cv E x = cv E y
  old : ∀ b j k, lk h b j = .ov k → ∀ x, (lk h b j).occ (E.r b) j x → ¬ B.free x
theorem LR.fro {E : Env} {h : H} {B : Bd} {w : World} (l : LR E h B w) {b j k : Nat} {ps : List (List Bool)} {os : List (List Bool × Nat)} (e : lk h b j = .obj k ps os) {x : Nat} (hx : x ∈ fps ((E.r b).t j) ps) : B.free x :=
  l.fre b j (by rw [e]; trivial) x (by rw [e]; exact hx)
theorem encR_length : ∀ (ks : List CK) (x : List Int), x.length = ks.length → (encR ks x).length = ks.length
  | [], [], _ => rfl
  | k :: ks, x :: xs, h => by
    simp only [List.length_cons, Nat.add_right_cancel_iff] at h
    simp only [encR, List.length_cons, encR_length ks xs h]
  | [], _ :: _, h => by simp at h
  | _ :: _, [], h => by simp at h
theorem encL_length (ks : List CK) : ∀ (L : List (List Int)), (∀ x ∈ L, x.length = ks.length) → (encL ks L).length = L.length * ks.length
  | [], _ => by simp [encL]
  | x :: L, h => by
    have ih := encL_length ks L (fun y hy => h y (by simp [hy]))
    simp only [encL, List.flatMap_cons, List.length_append, List.length_cons] at ih ⊢
    rw [ih, encR_length ks x (h x (by simp)), Nat.add_mul]; omega
theorem CK.one (k : CK) (n : Int) : (k.val n).oneCell' = true := by cases k <;> rfl
theorem encR_one : ∀ (ks : List CK) (x : List Int), ∀ u ∈ encR ks x, u.oneCell' = true
  | k :: ks, x :: xs, u, hu => by
    simp only [encR, List.mem_cons] at hu
    rcases hu with rfl | hu
    · exact CK.one _ _
    · exact encR_one ks xs u hu
  | [], _, u, hu => by simp [encR] at hu
  | _ :: _, [], u, hu => by simp [encR] at hu
theorem encL_one (ks : List CK) (L : List (List Int)) : ∀ u ∈ encL ks L, u.oneCell' = true := fun u hu => by
  obtain ⟨x, _, hx⟩ := List.mem_flatMap.1 hu
  exact encR_one ks x u hx
theorem flat_get {α : Type} (f : List Int → List α) (z : Nat) : ∀ (L : List (List Int)), (∀ x ∈ L, (f x).length = z) → ∀ (i c : Nat) (x : List Int) (u : α), L[i]? = some x → (f x)[c]? = some u → (L.flatMap f)[i * z + c]? = some u
  | [], _, i, c, x, u, hx, _ => by simp at hx
  | y :: L, h, 0, c, x, u, hx, hu => by
    simp only [List.getElem?_cons_zero, Option.some.injEq] at hx
    subst hx
    rw [List.flatMap_cons, Nat.zero_mul, Nat.zero_add, List.getElem?_append_left (List.getElem?_eq_some_iff.1 hu).1]
    exact hu
  | y :: L, h, i + 1, c, x, u, hx, hu => by
    have ih := flat_get f z L (fun x hx => h x (by simp [hx])) i c x u (by simpa using hx) hu
    have hy := h y (by simp)
    rw [List.flatMap_cons, List.getElem?_append_right (by rw [hy, Nat.add_mul]; omega), hy]
    rw [show (i + 1) * z + c - z = i * z + c by rw [Nat.add_mul]; omega]
    exact ih
theorem encR_get : ∀ (ks : List CK) (x : List Int), x.length = ks.length → ∀ (c : Nat) (k : CK), ks[c]? = some k → (encR ks x)[c]? = some (k.val (x.getD c 0))
  | [], x, _, c, k, hk => by simp at hk
  | k0 :: ks, [], h, _, _, _ => by simp at h
  | k0 :: ks, x :: xs, h, 0, k, hk => by
    simp only [List.getElem?_cons_zero, Option.some.injEq] at hk
    subst hk; rfl
  | k0 :: ks, x :: xs, h, c + 1, k, hk => by
    simp only [List.length_cons, Nat.add_right_cancel_iff] at h
    have := encR_get ks xs h c k (by simpa using hk)
    simpa [encR] using this
theorem encL_get {ks : List CK} {L : List (List Int)} (h : ∀ x ∈ L, x.length = ks.length) {i : Int} (h0 : 0 ≤ i) (h1 : i < L.length) {c : Nat} {k : CK} (hk : ks[c]? = some k) : (encL ks L)[i.toNat * ks.length + c]? = some (k.val (rowAt L i c)) := by
  have hlt : i.toNat < L.length := by omega
  have hx : L[i.toNat]? = some L[i.toNat] := List.getElem?_eq_getElem hlt
  have hm := List.getElem_mem hlt
  rw [encL, flat_get (encR ks) ks.length L (fun x hx => encR_length ks x (h x hx)) i.toNat c _ _ hx (encR_get ks _ (h _ hm) c k hk)]
  simp [rowAt, List.getD_eq_getElem?_getD, hx]
theorem OOk.rok {B : Nat} {w : World} {r : Rec} {j : Nat} {ks : List CK} {e : Nat} (k : OOk B w r j ks e) : ROk w r j ks := by
  obtain ⟨hwf, ⟨hl, hm0⟩ | ⟨hl, ho⟩⟩ := k
  · exact ⟨hwf, by rw [hl]; simp, by rw [hm0]; exact Nat.zero_le _, fun i u hu => by rw [hl] at hu; simp [encL] at hu⟩
  rcases ho with ⟨hv, hn⟩ | ⟨g, cap, cur, hv, hg, hh, hc, hm, hs, ht⟩
  · simp only [Rec.lv, Value.slice.injEq] at hv
    refine ⟨hwf, by omega, by rw [hv.2.2]; exact Nat.zero_le _, fun i u hu => ?_⟩
    rw [List.eq_nil_of_length_eq_zero hn] at hu
    simp [encL] at hu
  · simp only [Rec.lv, Value.slice.injEq, true_and] at hv
    refine ⟨hwf, by rw [hv.2]; exact hc, by rw [hv.2]; exact hm, fun i u hu => ?_⟩
    refine ⟨_, hv.1, ?_⟩
    rw [Addr.add_lit, cell_of_row w g _ _ _ _ hh]
    rw [← ht, List.getElem?_take] at hu
    split at hu
    · simpa using hu
    · cases hu
theorem occ_of_read {w : World} {r : Rec} {j : Nat} {ks : List CK} (k : ROk w r j ks) {i : Nat} {u : Value} (hu : (encL ks (r.l j))[i]? = some u) : ∃ A, r.a j = some A ∧ w.cell? (A.add i) = some u ∧ (LK.rd ks true).occ r j A.block := by
  obtain ⟨A, hA, hc⟩ := k.read i u hu
  refine ⟨A, hA, hc, ?_, by rw [hA]; rfl⟩
  intro e
  rw [e] at hu
  simp [encL] at hu
theorem addr_add_block (A : Addr) (n : Nat) : (A.add n).block = A.block := by unfold Addr.add; split <;> rfl
/-- A list stays where its block does. -/
theorem ROk.keep {w w' : World} {r : Rec} {j : Nat} {ks : List CK} (k : ROk w r j ks) (hb : ∀ n, (LK.rd ks true).occ r j n → w'.heap[n]? = w.heap[n]?) : ROk w' r j ks :=
  ⟨k.wf, k.cap, k.max, fun i u hu => by
    obtain ⟨A, hA, hc, ho⟩ := occ_of_read k hu
    exact ⟨A, hA, (World.cell?_of_block (w := w) (by rw [addr_add_block]; exact hb _ ho)).trans hc⟩⟩
theorem OOk.keep {B : Nat} {w w' : World} {r : Rec} {j : Nat} {ks : List CK} {e : Nat} (k : OOk B w r j ks e) (hb : ∀ n, (LK.own ks e).occ r j n → w'.heap[n]? = w.heap[n]?) : OOk B w' r j ks e := by
  rcases k.own with h | ho
  · exact ⟨k.wf, .inl h⟩
  by_cases hm : r.m j = 0
  · refine ⟨k.wf, .inl ⟨?_, hm⟩⟩
    have := k.rok.cap
    exact List.eq_nil_of_length_eq_zero (by omega)
  refine ⟨k.wf, .inr ⟨ho.1, ?_⟩⟩
  rcases ho.2 with h | ⟨g, cap, cur, hv, hg, hh, rest⟩
  · exact .inl h
  · refine .inr ⟨g, cap, cur, hv, hg, ?_, rest⟩
    rw [hb g (by
      simp only [Rec.lv, Value.slice.injEq, true_and] at hv
      exact ⟨hm, by simp [hv.1]⟩)]
    exact hh
theorem LK.keep {B : Nat} {w w' : World} {r : Rec} {j : Nat} {l : LK} (k : l.ok B w r j) (hb : ∀ n, l.occ r j n → w'.heap[n]? = w.heap[n]?) : l.ok B w' r j := by
  cases l with
  | gone => trivial
  | rd ks old => exact ROk.keep k hb
  | own ks e => exact OOk.keep k hb
  | obj k' ps os => exact ⟨fun p hp => (k.1 p hp).loc fun x hx => hb x (List.mem_flatMap.2 ⟨p, hp, hx⟩), k.2⟩
  | vw k' => exact Dat.holds.loc k hb
  | ov k' => exact Dat.holds.loc k hb
  | al x y => trivial
  | fb fs =>
    obtain ⟨g, h1, h2, h3⟩ := k
    have hg := hb g (by show (r.a j).map (·.block) = some g; rw [h1]; rfl)
    have h2' : g < w'.heap.size := by
      have h4 : w'.heap[g]? = some w.heap[g] := by rw [hg]; exact Array.getElem?_eq_getElem h2
      exact (Array.getElem?_eq_some_iff.1 h4).1
    exact ⟨g, h1, h2', fun o f ho => by rw [World.cell?_of_block (w := w) hg]; exact h3 o f ho⟩
/-- Blocks that no name of a block stands for stay. -/
theorem LR.world {E : Env} {h : H} {B : Bd} {w w' : World} (l : LR E h B w) (hs : w.heap.size ≤ w'.heap.size) (hb : ∀ k, k < w.heap.size → (∀ c x, hget h c = some x → E.s c ≠ k) → w'.heap[k]? = w.heap[k]?) : LR E h B w' :=
  ⟨fun b j => LK.keep (l.ok b j) fun n hn => hb n (l.lt b j n hn).1 (l.lt b j n hn).2,
   fun b j k hk => ⟨Nat.lt_of_lt_of_le (l.lt b j k hk).1 hs, (l.lt b j k hk).2⟩, l.sep, l.inn, l.fre, l.alo, l.opn, l.ali, l.old⟩
/-- The names of lists are what they were; the names of blocks stand for new ones, or those that they stood for. -/
theorem LR.names {E E' : Env} {h h' : H} {B : Bd} {w : World} (l : LR E h B w) (hl : ∀ b j, lk h' b j = lk h b j ∨ lk h' b j = .gone) (ag : Ag h E E') (sub : Sub h h') (hn : ∀ c x, hget h' c = some x → w.heap.size ≤ E'.s c ∨ ∃ d y, hget h d = some y ∧ E'.s c = E.s d) : LR E' h' B w := by
  have er : ∀ b j, lk h' b j ≠ .gone → lk h' b j = lk h b j ∧ E'.r b = E.r b := by
    intro b j hg
    rcases hl b j with e | e
    · exact ⟨e, (ag b (has_of_lk (j := j) (by rw [← e]; exact hg))).2.2.symm⟩
    · exact absurd e hg
  refine ⟨fun b j => ?_, fun b j k hk => ?_, fun b j ks e ho b' j' k h1 h2 => ?_, fun b j ks old ho k hk => ?_, fun b j ho x hx => ?_, fun b j k ps os ho b' j' x h1 h2 => ?_, fun b j k ps os ho q hq => ?_, fun b j x y ho => ?_, fun b j k ho x hx => ?_⟩
  · by_cases hg : lk h' b j = .gone
    · rw [hg]; trivial
    · obtain ⟨e1, e2⟩ := er b j hg
      rw [e1, e2]; exact l.ok b j
  · have hg : lk h' b j ≠ .gone := fun e => by rw [e] at hk; exact hk
    obtain ⟨e1, e2⟩ := er b j hg
    rw [e1, e2] at hk
    obtain ⟨h1, h2⟩ := l.lt b j k hk
    refine ⟨h1, fun c x hc e => ?_⟩
    rcases hn c x hc with h3 | ⟨d, y, hy, h3⟩
    · omega
    · rw [h3] at e
      exact h2 d y hy e
  · have hg : lk h' b j ≠ .gone := fun e' => by rw [e'] at ho; cases ho
    have hg' : lk h' b' j' ≠ .gone := fun e => by rw [e] at h2; exact h2
    obtain ⟨e1, e2⟩ := er b j hg
    obtain ⟨e3, e4⟩ := er b' j' hg'
    rw [e1, e2] at h1
    rw [e3, e4] at h2
    exact l.sep b j ks e (e1 ▸ ho) b' j' k h1 h2
  · obtain ⟨e1, e2⟩ := er b j (fun e' => by rw [e'] at ho; cases ho)
    rw [e1, e2] at hk
    rcases l.inn b j ks old (e1 ▸ ho) k hk with h | ⟨h1, h2, h3⟩
    · exact .inl h
    · exact .inr ⟨h1, sub 0 h2, by rw [← (ag 0 h2).2.2]; exact h3⟩
  · obtain ⟨e1, e2⟩ := er b j (fun e' => by rw [e'] at ho; exact ho)
    rw [e1, e2] at hx
    exact l.fre b j (e1 ▸ ho) x hx
  · have hg : lk h' b j ≠ .gone := fun e' => by rw [ho] at e'; cases e'
    have hg' : lk h' b' j' ≠ .gone := fun e => by rw [e] at h2; exact h2
    obtain ⟨e1, e2⟩ := er b j hg
    obtain ⟨e3, e4⟩ := er b' j' hg'
    rw [e2] at h1
    rw [e3, e4] at h2
    rw [e3]
    exact l.alo b j k ps os (e1 ▸ ho) b' j' x h1 h2
  · have hg : lk h' b j ≠ .gone := fun e' => by rw [ho] at e'; cases e'
    obtain ⟨e1, e2⟩ := er b j hg
    obtain ⟨h1, h2, h3⟩ := l.opn b j k ps os (e1 ▸ ho) q hq
    rw [e2, ← (ag _ h3).1]
    exact ⟨h1, h2, sub _ h3⟩
  · have hg : lk h' b j ≠ .gone := fun e' => by rw [ho] at e'; cases e'
    obtain ⟨e1, e2⟩ := er b j hg
    obtain ⟨h1, h2, h3⟩ := l.ali b j x y (e1 ▸ ho)
    exact ⟨bd_sub sub h1, bd_sub sub h2, by rw [← cv_ag ag h1, ← cv_ag ag h2]; exact h3⟩
  · obtain ⟨e1, e2⟩ := er b j (fun e' => by rw [ho] at e'; cases e')
    rw [e1, e2] at hx
    exact l.old b j k (e1 ▸ ho) x hx
/-! ### What memory stands for -/
/-- What room there is behind the cells that are known: all of what was drawn; or none. -/
def SpOk (full : Option Nat) (n m k : Nat) : Prop := match full with
  | some z => n + m = k * z
  | none => m = 0
structure HR (E : Env) (h : H) (B : Bd) (w : World) : Prop where
  low : B.n ≤ w.heap.size
  blk : ∀ b x, hget h b = some x → B.free (E.s b) ∧ ∃ sp : List Value, w.heap[E.s b]? = some (.cells (x.cells.map (cv E) ++ sp).toArray x.elem (0, 0)) ∧ SpOk x.full x.cells.length sp.length (E.k b)
  inj : ∀ b c x y, hget h b = some x → hget h c = some y → E.s b = E.s c → b = c
  bnd : ∀ b x, hget h b = some x → ∀ v ∈ x.cells, bd h v = true
  mps : ∀ b m, mget h b = some m → B.free (E.s b) ∧ w.heap[E.s b]? = some (.map m.1.toArray m.2)
  lst : LR E h B w
structure Step (E : Env) (h : H) (B : Bd) (w : World) (E' : Env) (h' : H) (w' : World) : Prop where
  ag : Ag h E E'
  sub : Sub h h'
  hr : HR E' h' B w'
  bel : Bel B w w'
theorem Step.refl {E : Env} {h : H} {B : Bd} {w : World} (r : HR E h B w) : Step E h B w E h w := ⟨Ag.refl _ _, Sub.refl _, r, Bel.refl _ _⟩
theorem Step.trans {E F G : Env} {h i j : H} {B : Bd} {u v w : World} (x : Step E h B u F i v) (y : Step F i B v G j w) : Step E h B u G j w :=
  ⟨x.ag.trans x.sub y.ag, x.sub.trans y.sub, y.hr, x.bel.trans y.bel⟩
theorem HR.drew {E : Env} {h : H} {B : Bd} {w : World} (r : HR E h B w) : HR E h B w.drew := ⟨r.low, r.blk, r.inj, r.bnd, r.mps, r.lst.world (Nat.le_refl _) (fun _ _ _ => rfl)⟩
theorem HR.lt {E : Env} {h : H} {B : Bd} {w : World} (r : HR E h B w) {b : Nat} {x : AB} (hb : hget h b = some x) : E.s b < w.heap.size := by
  obtain ⟨_, sp, he, _⟩ := r.blk b x hb
  exact (Array.getElem?_eq_some_iff.1 he).1
theorem HR.mlt {E : Env} {h : H} {B : Bd} {w : World} (r : HR E h B w) {b : Nat} {m : List MapEntry × Nat} (hb : mget h b = some m) : E.s b < w.heap.size :=
  (Array.getElem?_eq_some_iff.1 (r.mps b m hb).2).1
theorem HR.mne {E : Env} {h : H} {B : Bd} {w : World} (r : HR E h B w) {b : Nat} {m : List MapEntry × Nat} (hb : mget h b = some m) {c : Nat} {cs : Array Value} {e : Nat} {f : Nat × Nat} (hc : w.heap[c]? = some (.cells cs e f)) : E.s b ≠ c := by
  rintro rfl
  rw [(r.mps b m hb).2] at hc
  cases hc
theorem HR.cell {E : Env} {h : H} {B : Bd} {w : World} (r : HR E h B w) {b : Nat} {x : AB} (hb : hget h b = some x) {i : Nat} {v : AV} (hi : x.cells[i]? = some v) : w.cell? ⟨E.s b, i, none⟩ = some (cv E v) := by
  obtain ⟨_, sp, he, _⟩ := r.blk b x hb
  rw [cell_of_row w (E.s b) i _ _ _ he]
  have hlt := (List.getElem?_eq_some_iff.1 hi).1
  simp only [List.getElem?_toArray]
  rw [List.getElem?_append_left (by simpa using hlt), List.getElem?_map, hi]
  rfl
theorem HR.cellsAt {E : Env} {h : H} {B : Bd} {w : World} (r : HR E h B w) {b : Nat} {x : AB} (hb : hget h b = some x) {o n : Nat} (hn : o + n ≤ x.cells.length) :
    ∀ j v, (((x.cells.drop o).take n).map (cv E))[j]? = some v → w.cell? ((⟨E.s b, o, none⟩ : Addr).add j) = some v := by
  intro j v hj
  rw [Addr.add_lit]
  rw [List.getElem?_map] at hj
  obtain ⟨u, hu, rfl⟩ := Option.map_eq_some_iff.1 hj
  rw [List.getElem?_take] at hu
  split at hu
  · rw [List.getElem?_drop] at hu
    exact r.cell hb hu
  · cases hu
/-! ### A new block; a block that is written; one that is given up -/
def Env.set (E : Env) (b s k : Nat) : Env := ⟨fun c => if c = b then s else E.s c, fun c => if c = b then k else E.k c, E.r⟩
theorem Env.set_s (E : Env) (b s k : Nat) : (E.set b s k).s b = s := by simp [Env.set]
theorem Env.set_k (E : Env) (b s k : Nat) : (E.set b s k).k b = k := by simp [Env.set]
theorem Env.set_ne (E : Env) {b c : Nat} (s k : Nat) (h : c ≠ b) : (E.set b s k).s c = E.s c ∧ (E.set b s k).k c = E.k c := by simp [Env.set, h]
theorem ag_set {h : H} {b : Nat} (hb : has h b = false) (E : Env) (s k : Nat) : Ag h E (E.set b s k) := by
  intro c hc
  have : c ≠ b := by rintro rfl; rw [hb] at hc; cases hc
  exact ⟨(E.set_ne s k this).1.symm, (E.set_ne s k this).2.symm, rfl⟩
theorem sub_put (h : H) (b : Nat) (x : Ent) : Sub h (hput h b x) := fun c hc => by rw [has_put, hc, Bool.or_true]
theorem lk_put_blk (h : H) (b : Nat) (x : AB) (c j : Nat) : lk (hput h b (.blk x)) c j = lk h c j ∨ lk (hput h b (.blk x)) c j = .gone := by
  by_cases e : b = c
  · subst e; exact .inr (lk_blk b x h j)
  · exact .inl (lk_ne _ e h j)
theorem lk_put_dead (h : H) (b : Nat) (c j : Nat) : lk (hput h b .dead) c j = lk h c j ∨ lk (hput h b .dead) c j = .gone := by
  by_cases e : b = c
  · subst e; exact .inr (lk_dead b h j)
  · exact .inl (lk_ne _ e h j)
/-- A new block behind all others. -/
theorem step_new {E : Env} {h : H} {B : Bd} {w w0 : World} (r : HR E h B w0) (hbel : Bel B w0 w) (hheap : w.heap = w0.heap) {id : Nat} (hid : has h id = false) (cells : List AV) (hc : ∀ v ∈ cells, bd h v = true) (elem : Nat) (full : Option Nat) (sp : List Value) (k : Nat)
    (hf : SpOk full cells.length sp.length k) :
    Step E h B w0 (E.set id w.heap.size k) (hput h id (.blk ⟨cells, elem, full⟩)) (w.alloc (.cells (cells.map (cv E) ++ sp).toArray elem (0, 0))) := by
  have ag := ag_set hid E w.heap.size k
  have hne : ∀ {b : Nat} {x : AB}, hget h b = some x → b ≠ id := by
    rintro b x hb rfl
    rw [has_of_get hb] at hid; cases hid
  have hlow : B.n ≤ w.heap.size := by rw [hheap]; exact r.low
  refine ⟨ag, sub_put _ _ _, ⟨by simp; omega, ?_, ?_, ?_, fun b m hb => ?mps, ?_⟩, hbel.alloc hlow _⟩
  case mps =>
    obtain ⟨e, hb⟩ := mget_put (fun es n => by simp) hb
    rw [(E.set_ne _ k e).1]
    refine ⟨(r.mps b m hb).1, ?_⟩
    rw [heap_alloc_old w _ _ (by rw [hheap]; exact r.mlt hb), hheap]
    exact (r.mps b m hb).2
  · intro b x hb
    by_cases e : b = id
    · subst e
      rw [hget_same] at hb
      obtain rfl := Option.some.inj hb
      refine ⟨by rw [Env.set_s]; exact .inl hlow, sp, ?_, ?_⟩
      · rw [Env.set_s, heap_alloc_new, ← cvs_ag ag hc]
      · rw [Env.set_k]; exact hf
    · rw [hget_ne _ (Ne.symm e)] at hb
      obtain ⟨h1, sp', h2, h3⟩ := r.blk b x hb
      rw [(E.set_ne _ k e).1, (E.set_ne w.heap.size k e).2]
      refine ⟨h1, sp', ?_, h3⟩
      have hlt := (Array.getElem?_eq_some_iff.1 h2).1
      rw [heap_alloc_old w _ _ (by rw [hheap]; exact hlt), ← cvs_ag ag (r.bnd b x hb), hheap, h2]
  · intro b c x y hb hc' he
    by_cases e : b = id
    · by_cases f : c = id
      · rw [e, f]
      · subst e
        rw [hget_ne _ (Ne.symm f)] at hc'
        rw [Env.set_s, (E.set_ne _ k f).1] at he
        have := r.lt hc'
        rw [hheap] at he; omega
    · by_cases f : c = id
      · subst f
        rw [hget_ne _ (Ne.symm e)] at hb
        rw [Env.set_s, (E.set_ne _ k e).1] at he
        have := r.lt hb
        rw [hheap] at he; omega
      · rw [hget_ne _ (Ne.symm e)] at hb
        rw [hget_ne _ (Ne.symm f)] at hc'
        rw [(E.set_ne _ k e).1, (E.set_ne _ k f).1] at he
        exact r.inj b c x y hb hc' he
  · intro b x hb v hv
    apply bd_sub (sub_put _ _ _)
    by_cases e : b = id
    · subst e
      rw [hget_same] at hb
      obtain rfl := Option.some.inj hb
      exact hc v hv
    · rw [hget_ne _ (Ne.symm e)] at hb
      exact r.bnd b x hb v hv
  · have l1 : LR (E.set id w.heap.size k) (hput h id (.blk ⟨cells, elem, full⟩)) B w0 := r.lst.names (lk_put_blk h id _) ag (sub_put _ _ _) (fun c x hc' => by
      by_cases e : c = id
      · subst e; left; rw [Env.set_s, hheap]; exact Nat.le_refl _
      · rw [hget_ne _ (Ne.symm e)] at hc'; exact .inr ⟨c, x, hc', (E.set_ne _ k e).1⟩)
    exact l1.world (by rw [← hheap]; simp) (fun k' hk _ => by rw [heap_alloc_old w _ _ (by rw [hheap]; exact hk), hheap])
/-- A block that is written: as many cells as were known. -/
theorem step_set {E : Env} {h : H} {B : Bd} {w : World} (r : HR E h B w) {b : Nat} {x : AB} (hb : hget h b = some x) (cells : List AV) (hc : ∀ v ∈ cells, bd h v = true) (hl : cells.length = x.cells.length) (sp : List Value)
    (hsp : ∃ sp', w.heap[E.s b]? = some (.cells (x.cells.map (cv E) ++ sp').toArray x.elem (0, 0)) ∧ sp.length = sp'.length ∧ SpOk x.full x.cells.length sp'.length (E.k b)) :
    Step E h B w E (hput h b (.blk ⟨cells, x.elem, x.full⟩)) (w.setRow (E.s b) (cells.map (cv E) ++ sp).toArray) := by
  obtain ⟨sp', hh, hsl, hsf⟩ := hsp
  have fix : ∀ {c : Nat} {y : AB}, hget (hput h b (.blk ⟨cells, x.elem, x.full⟩)) c = some y → ∃ y', hget h c = some y' := by
    intro c y hy
    by_cases e : b = c
    · subst e; exact ⟨x, hb⟩
    · rw [hget_ne _ e] at hy; exact ⟨y, hy⟩
  refine ⟨Ag.refl _ _, sub_put _ _ _, ⟨by rw [setRow_size]; exact r.low, ?_, ?_, ?_, fun c m hm => ?mps, ?_⟩, bel_setRow (Bel.refl _ _) (r.blk b x hb).1 _⟩
  case mps =>
    obtain ⟨_, hm⟩ := mget_put (fun es n => by simp) hm
    refine ⟨(r.mps c m hm).1, ?_⟩
    rw [setRow_other w _ _ _ (r.mne hm hh)]
    exact (r.mps c m hm).2
  · intro c y hy
    by_cases e : b = c
    · subst e
      rw [hget_same] at hy
      obtain rfl := Option.some.inj hy
      refine ⟨(r.blk b x hb).1, sp, setRow_heap w _ _ _ _ _ hh, ?_⟩
      rw [hl, hsl]; exact hsf
    · rw [hget_ne _ e] at hy
      obtain ⟨h1, sp2, h2, h3⟩ := r.blk c y hy
      refine ⟨h1, sp2, ?_, h3⟩
      rw [setRow_other w _ _ _ (fun q => e (r.inj b c x y hb hy q.symm)), h2]
  · intro c d y z hc' hd he
    obtain ⟨y', hy'⟩ := fix hc'
    obtain ⟨z', hz'⟩ := fix hd
    exact r.inj c d y' z' hy' hz' he
  · intro c y hy v hv
    apply bd_sub (sub_put _ _ _)
    by_cases e : b = c
    · subst e
      rw [hget_same] at hy
      obtain rfl := Option.some.inj hy
      exact hc v hv
    · rw [hget_ne _ e] at hy
      exact r.bnd c y hy v hv
  · have l1 : LR E (hput h b (.blk ⟨cells, x.elem, x.full⟩)) B w := r.lst.names (lk_put_blk h b _) (Ag.refl _ _) (sub_put _ _ _) (fun c y hy => by obtain ⟨y', hy'⟩ := fix hy; exact .inr ⟨c, y', hy', rfl⟩)
    exact l1.world (by rw [setRow_size]; exact Nat.le_refl _) (fun k _ hk => setRow_other w _ _ _ (fun q => hk b _ (hget_same b _ h) q.symm))
/-- A block that is given up. -/
theorem step_kill {E : Env} {h : H} {B : Bd} {w : World} (r : HR E h B w) (b : Nat) : Step E h B w E (hput h b .dead) w := by
  have fix : ∀ {c : Nat} {y : AB}, hget (hput h b .dead) c = some y → b ≠ c ∧ hget h c = some y := by
    intro c y hy
    by_cases e : b = c
    · subst e; rw [hget_dead] at hy; cases hy
    · rw [hget_ne _ e] at hy; exact ⟨e, hy⟩
  refine ⟨Ag.refl _ _, sub_put _ _ _, ⟨r.low, fun c y hy => r.blk c y (fix hy).2, fun c d y z hc hd he => r.inj c d y z (fix hc).2 (fix hd).2 he, fun c y hy v hv => bd_sub (sub_put _ _ _) (r.bnd c y (fix hy).2 v hv), fun c m hm => r.mps c m (mget_put (fun es n => by simp) hm).2, ?_⟩, Bel.refl _ _⟩
  exact r.lst.names (lk_put_dead h b) (Ag.refl _ _) (sub_put _ _ _) (fun c y hy => .inr ⟨c, y, (fix hy).2, rfl⟩)
/-! ### A name that is told anew -/
def Env.setR (E : Env) (b : Nat) (r : Rec) : Env := ⟨E.s, E.k, fun c => if c = b then r else E.r c⟩
theorem Env.setR_r (E : Env) (b : Nat) (r : Rec) : (E.setR b r).r b = r := by simp [Env.setR]
theorem Env.setR_ne (E : Env) {b c : Nat} (r : Rec) (h : c ≠ b) : (E.setR b r).r c = E.r c := by simp [Env.setR, h]
theorem ag_setR {h : H} {b : Nat} (hb : has h b = false) (E : Env) (r : Rec) : Ag h E (E.setR b r) := by
  intro c hc
  have : c ≠ b := by rintro rfl; rw [hb] at hc; cases hc
  exact ⟨rfl, rfl, (E.setR_ne r this).symm⟩
end Go.Proofs.Ytkepkjahbcddlaa.Sy
