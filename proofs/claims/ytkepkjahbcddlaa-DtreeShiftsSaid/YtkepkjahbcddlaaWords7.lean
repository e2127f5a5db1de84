/- Words for trees of items. -/
import Derived.Test.YtkepkjahbcddlaaWords6
import Derived.Test.YtkepkjahbcddlaaSyTree
namespace Go.Proofs.Ytkepkjahbcddlaa.Fn
open Go Go.Proofs.Ytkepkjahbcddlaa.Sy
set_option linter.unusedVariables false
set_option linter.unusedSimpArgs false
/-- Which of two items stands ahead. -/
def AHR (a b : List Int) : Prop := AHI (g7 a 0) (g7 a 1) (g7 a 2) (g7 a 3) (g7 b 0) (g7 b 1) (g7 b 2) (g7 b 3)
instance (a b : List Int) : Decidable (AHR a b) := by unfold AHR AHI; infer_instance
/-- The soonest of two. -/
def JN (a b : List Int) : List Int := if DUR b a then b else a
theorem JN_sn (a b : List Int) : JN a b = sn (fun _ => b) a 1 := rfl
theorem K7_JN {a b : List Int} (ha : K7 a) (hb : K7 b) : K7 (JN a b) := by
  unfold JN
  split
  · exact hb
  · exact ha
theorem RI_one {b : List Int} (hb : K7 b) : RI [b] := by
  intro k
  cases k with
  | zero => exact hb
  | succ k =>
    have e : ∀ c, Sy.rowAt [b] ((k + 1 : Nat) : Int) c = 0 := fun c => by simp [Sy.rowAt]
    simp only [e]
    decide
/-- A tree, whatever its blocks. -/
inductive ItT where
  | E
  | N (i a : List Int) (c : Bool) (l r : ItT)
def it7 (d : Dat) : List Int := [d.num 0, d.num 1, d.num 2, d.num 3, d.num 4, d.num 5, d.num 6]
def al7 (d : Dat) : List Int := [d.num 7, d.num 8, d.num 9, d.num 10, d.num 11, d.num 12, d.num 13]
def sh : Dat → ItT
  | .leaf => .E
  | .nd b ns bs l r => .N (it7 (.nd b ns bs l r)) (al7 (.nd b ns bs l r)) (Dat.tru 0 (.nd b ns bs l r)) (sh l) (sh r)
theorem sh_leaf {d : Dat} (h : d.isLeaf = true) : sh d = .E := by
  cases d with
  | leaf => rfl
  | nd b ns bs l r => cases h
theorem sh_nd {d : Dat} (h : d.isLeaf = false) : sh d = .N (it7 d) (al7 d) (d.tru 0) (sh (d.kid false)) (sh (d.kid true)) := by
  cases d with
  | leaf => cases h
  | nd b ns bs l r => rfl
theorem sh_mk {b : Nat} {x0 x1 x2 x3 x4 x5 x6 x7 x8 x9 x10 x11 x12 x13 : Int} {c : Bool} {l r : Dat} : sh (.nd b [x0, x1, x2, x3, x4, x5, x6, x7, x8, x9, x10, x11, x12, x13] [c] l r) = .N [x0, x1, x2, x3, x4, x5, x6] [x7, x8, x9, x10, x11, x12, x13] c (sh l) (sh r) := rfl
theorem leaf_mk {b : Nat} {ns : List Int} {bs : List Bool} {l r : Dat} : (Dat.nd b ns bs l r).isLeaf = false := rfl
theorem it7_of (d : Dat) : [d.num 0, d.num 1, d.num 2, d.num 3, d.num 4, d.num 5, d.num 6] = it7 d := rfl
theorem al7_of (d : Dat) : [d.num 7, d.num 8, d.num 9, d.num 10, d.num 11, d.num 12, d.num 13] = al7 d := rfl
theorem sh_E {d : Dat} (h : sh d = .E) : d.isLeaf = true := by
  cases d with
  | leaf => rfl
  | nd b ns bs l r => cases h
theorem sh_N {d : Dat} {i a : List Int} {c : Bool} {l r : ItT} (h : sh d = .N i a c l r) : d.isLeaf = false := by
  cases d with
  | leaf => cases h
  | nd b ns bs l r => rfl
theorem leaf_sh (d : Dat) : d.isLeaf = (match sh d with | .E => true | _ => false) := by cases d <;> rfl
namespace ItT
def isE : ItT → Bool
  | E => true
  | _ => false
def red : ItT → Bool
  | E => false
  | N _ _ c _ _ => c
def left : ItT → ItT
  | E => E
  | N _ _ _ l _ => l
def right : ItT → ItT
  | E => E
  | N _ _ _ _ r => r
def sm1 (i : List Int) : ItT → List Int
  | E => i
  | N _ b _ _ _ => JN b i
def sm2 (a : List Int) : ItT → List Int
  | E => a
  | N _ b _ _ _ => JN a b
def sm (i : List Int) (l r : ItT) : List Int := sm2 (sm1 i l) r
def sum : ItT → ItT
  | E => E
  | N i _ c l r => N i (sm i l r) c l r
def toLeft : ItT → ItT
  | N i a c l (N j b _ m r) => sum (N j b c (sum (N i a true l m)) r)
  | t => t
def toRight : ItT → ItT
  | N i a c (N j b _ l m) r => sum (N j b c l (sum (N i a true m r)))
  | t => t
def flip : ItT → ItT
  | N i a c (N j b d l m) (N k e f p q) => N i a (!c) (N j b (!d) l m) (N k e (!f) p q)
  | t => t
def mend1 (t : ItT) : ItT := if t.right.red = true ∧ t.left.red = false then t.toLeft else t
def mend2 (t : ItT) : ItT := if t.left.red = true ∧ t.left.left.red = true then t.toRight else t
def mend3 (t : ItT) : ItT := if t.left.red = true ∧ t.right.red = true then t.flip else t
def mend (t : ItT) : ItT := mend3 (mend2 (mend1 t.sum))
def ins (x : List Int) : ItT → ItT
  | E => N x x true E E
  | N i a c l r => if AHR x i then mend (N i a c (ins x l) r) else mend (N i a c l (ins x r))
def has (x : List Int) : ItT → Bool
  | E => false
  | N i _ _ l r => if AHR x i then has x l else if AHR i x then has x r else true
def ord : ItT → List (List Int)
  | E => []
  | N i _ _ l r => ord l ++ i :: ord r
def size : ItT → Nat
  | E => 0
  | N _ _ _ l r => size l + size r + 1
def black : ItT → ItT
  | E => E
  | N i a _ l r => N i a false l r
/-- With a thing more, if it isn't there. -/
def put (x : List Int) (t : ItT) : ItT := if t.has x = true then t else (ins x t).black
/-- All items may be reckoned with. -/
def K : ItT → Prop
  | E => True
  | N i a _ l r => K7 i ∧ K7 a ∧ K l ∧ K r
theorem K_sm1 {i : List Int} (hi : K7 i) : ∀ {t : ItT}, t.K → K7 (sm1 i t)
  | E, _ => hi
  | N _ _ _ _ _, h => K7_JN h.2.1 hi
theorem K_sm2 {i : List Int} (hi : K7 i) : ∀ {t : ItT}, t.K → K7 (sm2 i t)
  | E, _ => hi
  | N _ _ _ _ _, h => K7_JN hi h.2.1
theorem K_sum : ∀ {t : ItT}, t.K → t.sum.K
  | E, h => h
  | N i a c l r, h => ⟨h.1, K_sm2 (K_sm1 h.1 h.2.2.1) h.2.2.2, h.2.2.1, h.2.2.2⟩
theorem K_left : ∀ {t : ItT}, t.K → t.left.K
  | E, h => h
  | N i a c l r, h => h.2.2.1
theorem K_right : ∀ {t : ItT}, t.K → t.right.K
  | E, h => h
  | N i a c l r, h => h.2.2.2
theorem K_toLeft {t : ItT} (h : t.K) : t.toLeft.K := by
  cases t with
  | E => exact h
  | N i a c l r =>
    cases r with
    | E => exact h
    | N j b d m r => exact K_sum (show K (N j b c _ r) from ⟨h.2.2.2.1, h.2.2.2.2.1, K_sum (show K (N i a true l m) from ⟨h.1, h.2.1, h.2.2.1, h.2.2.2.2.2.1⟩), h.2.2.2.2.2.2⟩)
theorem K_toRight {t : ItT} (h : t.K) : t.toRight.K := by
  cases t with
  | E => exact h
  | N i a c l r =>
    cases l with
    | E => exact h
    | N j b d l m => exact K_sum (show K (N j b c l _) from ⟨h.2.2.1.1, h.2.2.1.2.1, h.2.2.1.2.2.1, K_sum (show K (N i a true m r) from ⟨h.1, h.2.1, h.2.2.1.2.2.2, h.2.2.2⟩)⟩)
theorem K_flip {t : ItT} (h : t.K) : t.flip.K := by
  cases t with
  | E => exact h
  | N i a c l r =>
    cases l with
    | E => exact h
    | N j b d l m =>
      cases r with
      | E => exact h
      | N k e f p q => exact ⟨h.1, h.2.1, ⟨h.2.2.1.1, h.2.2.1.2.1, h.2.2.1.2.2.1, h.2.2.1.2.2.2⟩, h.2.2.2.1, h.2.2.2.2.1, h.2.2.2.2.2.1, h.2.2.2.2.2.2⟩
theorem K_mend {t : ItT} (h : t.K) : t.mend.K := by
  have h1 : t.sum.mend1.K := by unfold mend1; split <;> first | exact K_toLeft (K_sum h) | exact K_sum h
  have h2 : t.sum.mend1.mend2.K := by unfold mend2; split <;> first | exact K_toRight h1 | exact h1
  unfold mend mend3
  split
  · exact K_flip h2
  · exact h2
theorem K_ins {x : List Int} (hx : K7 x) : ∀ {t : ItT}, t.K → (ins x t).K
  | E, _ => ⟨hx, hx, trivial, trivial⟩
  | N i a c l r, h => by
    unfold ins
    split
    · exact K_mend ⟨h.1, h.2.1, K_ins hx h.2.2.1, h.2.2.2⟩
    · exact K_mend ⟨h.1, h.2.1, h.2.2.1, K_ins hx h.2.2.2⟩
theorem isE_sum : ∀ t : ItT, t.sum.isE = t.isE
  | E => rfl
  | N .. => rfl
theorem isE_toLeft : ∀ t : ItT, t.toLeft.isE = t.isE
  | E => rfl
  | N _ _ _ _ E => rfl
  | N _ _ _ _ (N ..) => rfl
theorem isE_toRight : ∀ t : ItT, t.toRight.isE = t.isE
  | E => rfl
  | N _ _ _ E _ => rfl
  | N _ _ _ (N ..) _ => rfl
theorem isE_flip : ∀ t : ItT, t.flip.isE = t.isE
  | E => rfl
  | N _ _ _ E _ => rfl
  | N _ _ _ (N ..) E => rfl
  | N _ _ _ (N ..) (N ..) => rfl
theorem isE_red {t : ItT} (h : t.red = true) : t.isE = false := by
  cases t with
  | E => cases h
  | N i a c l r => rfl
theorem isE_mend (t : ItT) : t.mend.isE = t.isE := by
  unfold mend mend3
  have h2 : ∀ t : ItT, t.mend2.isE = t.isE := fun t => by unfold mend2; split <;> simp [isE_toRight]
  have h1 : ∀ t : ItT, t.mend1.isE = t.isE := fun t => by unfold mend1; split <;> simp [isE_toLeft]
  split <;> simp [isE_flip, h1, h2, isE_sum]
theorem isE_ins (x : List Int) : ∀ t : ItT, (ins x t).isE = false
  | E => rfl
  | N i a c l r => by
    unfold ins
    split <;> rw [isE_mend] <;> rfl
theorem size_sum : ∀ t : ItT, t.sum.size = t.size
  | E => rfl
  | N .. => rfl
theorem size_toLeft : ∀ t : ItT, t.toLeft.size = t.size
  | E => rfl
  | N _ _ _ _ E => rfl
  | N _ _ _ _ (N ..) => by simp only [toLeft, sum, size]; omega
theorem size_toRight : ∀ t : ItT, t.toRight.size = t.size
  | E => rfl
  | N _ _ _ E _ => rfl
  | N _ _ _ (N ..) _ => by simp only [toRight, sum, size]; omega
theorem size_flip : ∀ t : ItT, t.flip.size = t.size
  | E => rfl
  | N _ _ _ E _ => rfl
  | N _ _ _ (N ..) E => rfl
  | N _ _ _ (N ..) (N ..) => rfl
theorem size_mend (t : ItT) : t.mend.size = t.size := by
  unfold mend mend3
  have h2 : ∀ t : ItT, t.mend2.size = t.size := fun t => by unfold mend2; split <;> simp [size_toRight]
  have h1 : ∀ t : ItT, t.mend1.size = t.size := fun t => by unfold mend1; split <;> simp [size_toLeft]
  split <;> simp [size_flip, h1, h2, size_sum]
theorem size_ins (x : List Int) : ∀ t : ItT, (ins x t).size = t.size + 1
  | E => rfl
  | N i a c l r => by
    have h1 := size_ins x l
    have h2 := size_ins x r
    unfold ins
    split <;> rw [size_mend] <;> simp only [size] <;> omega
theorem size_black : ∀ t : ItT, t.black.size = t.size
  | E => rfl
  | N .. => rfl
theorem K_black : ∀ {t : ItT}, t.K → t.black.K
  | E, h => h
  | N .., h => h
theorem ord_sum : ∀ t : ItT, t.sum.ord = t.ord
  | E => rfl
  | N .. => rfl
theorem ord_toLeft : ∀ t : ItT, t.toLeft.ord = t.ord
  | E => rfl
  | N _ _ _ _ E => rfl
  | N _ _ _ _ (N ..) => by simp only [toLeft, sum, ord]; simp
theorem ord_toRight : ∀ t : ItT, t.toRight.ord = t.ord
  | E => rfl
  | N _ _ _ E _ => rfl
  | N _ _ _ (N ..) _ => by simp only [toRight, sum, ord]; simp
theorem ord_flip : ∀ t : ItT, t.flip.ord = t.ord
  | E => rfl
  | N _ _ _ E _ => rfl
  | N _ _ _ (N ..) E => rfl
  | N _ _ _ (N ..) (N ..) => rfl
theorem ord_mend (t : ItT) : t.mend.ord = t.ord := by
  unfold mend mend3
  have h2 : ∀ t : ItT, t.mend2.ord = t.ord := fun t => by unfold mend2; split <;> simp [ord_toRight]
  have h1 : ∀ t : ItT, t.mend1.ord = t.ord := fun t => by unfold mend1; split <;> simp [ord_toLeft]
  split <;> simp [ord_flip, h1, h2, ord_sum]
theorem ord_black : ∀ t : ItT, t.black.ord = t.ord
  | E => rfl
  | N .. => rfl
theorem ord_size : ∀ t : ItT, t.ord.length = t.size
  | E => rfl
  | N i a c l r => by simp only [ord, size, List.length_append, List.length_cons, ord_size l, ord_size r]; omega
theorem size_put (x : List Int) (t : ItT) : (put x t).size ≤ t.size + 1 := by
  unfold put
  split
  · omega
  · rw [size_black, size_ins]; omega
end ItT
/-- With some things more. -/
def putL (L : List (List Int)) (t : ItT) : ItT := L.foldl (fun t x => t.put x) t
theorem putL_snoc (L : List (List Int)) (x : List Int) (t : ItT) : putL (L ++ [x]) t = (putL L t).put x := by simp [putL]
theorem size_putL : ∀ (L : List (List Int)) (t : ItT), (putL L t).size ≤ t.size + L.length
  | [], t => Nat.le_refl _
  | x :: L, t => by
    have h1 := size_putL L (t.put x)
    have h2 := ItT.size_put x t
    show (putL L (t.put x)).size ≤ _
    rw [List.length_cons]; omega
theorem K7_mk {a b c d e f g : Int} : K7 [a, b, c, d, e, f, g] ↔ (0 ≤ a ∧ a < 18446744073709551616) ∧ (0 ≤ b ∧ b < 4294967296) ∧ (0 ≤ c ∧ c < 4294967296) ∧ (0 ≤ e ∧ e < 18446744073709551616) ∧ (0 ≤ f ∧ f < 4294967296) ∧ (0 ≤ g ∧ g < 4294967296) := Iff.rfl
theorem K7_it {d : Dat} : K7 (it7 d) ↔ (0 ≤ d.num 0 ∧ d.num 0 < 18446744073709551616) ∧ (0 ≤ d.num 1 ∧ d.num 1 < 4294967296) ∧ (0 ≤ d.num 2 ∧ d.num 2 < 4294967296) ∧ (0 ≤ d.num 4 ∧ d.num 4 < 18446744073709551616) ∧ (0 ≤ d.num 5 ∧ d.num 5 < 4294967296) ∧ (0 ≤ d.num 6 ∧ d.num 6 < 4294967296) := Iff.rfl
theorem AHR_mk {a b c d e f g h i j k l m n : Int} : AHR [a, b, c, d, e, f, g] [h, i, j, k, l, m, n] ↔ AHI a b c d h i j k := Iff.rfl
theorem AHR_it {a b c d e f g : Int} {n : Dat} : AHR [a, b, c, d, e, f, g] (it7 n) ↔ AHI a b c d (n.num 0) (n.num 1) (n.num 2) (n.num 3) := Iff.rfl
theorem AHR_ti {a b c d e f g : Int} {n : Dat} : AHR (it7 n) [a, b, c, d, e, f, g] ↔ AHI (n.num 0) (n.num 1) (n.num 2) (n.num 3) a b c d := Iff.rfl
/-- A tree as it is held: its number is told right. -/
def TI (t : Dat) : Prop := t.isLeaf = false ∧ (sh (t.kid false)).K ∧ t.num 0 = (sh (t.kid false)).size
theorem lf (d : Dat) : d.isLeaf = (sh d).isE := by cases d <;> rfl
theorem kL (d : Dat) : sh (d.kid false) = (sh d).left := by cases d <;> rfl
theorem kR (d : Dat) : sh (d.kid true) = (sh d).right := by cases d <;> rfl
end Go.Proofs.Ytkepkjahbcddlaa.Fn
