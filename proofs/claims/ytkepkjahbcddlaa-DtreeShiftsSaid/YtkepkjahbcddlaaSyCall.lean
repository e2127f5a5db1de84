/- tenth part: functions that call one another; what is told of a function; closed calls. -/
import Derived.Test.YtkepkjahbcddlaaSyCode
import Derived.Test.YtkepkjahbcddlaaSyEat
namespace Go.Proofs.Ytkepkjahbcddlaa.Sy
open Go Go.RowKit
set_option linter.unusedVariables false
set_option linter.unusedSimpArgs false
set_option linter.unusedSectionVars false
variable [Kinds]
/-! ### What a function takes and yields -/
inductive SP where
  | one (k : FK)
  | agg (ks : List FK)
inductive ST where
  | p (x : SP)
  | tup (l : List SP)
def SP.flat : SP → List FK
  | .one k => [k]
  | .agg ks => ks
def flatS : List SP → List FK
  | [] => []
  | x :: r => x.flat ++ flatS r
def ST.flat : ST → List FK
  | .p x => x.flat
  | .tup l => flatS l
def cellsV (b : Nat) : List FK → Nat → List AV
  | [], _ => []
  | k :: ks, j => varAV b j k :: cellsV b ks (j + 1)
def SP.pv (b j : Nat) : SP → PV
  | .one k => .v (varAV b j k)
  | .agg ks => .agg (cellsV b ks j)
def SP.pvs (b : Nat) : List SP → Nat → List PV
  | [], _ => []
  | x :: r, j => x.pv b j :: SP.pvs b r (j + x.flat.length)
def ST.tv (b : Nat) : ST → TV
  | .p x => .p (x.pv b 0)
  | .tup l => .tup (SP.pvs b l 0)
def FK.val (r : Rec) (j : Nat) : FK → Value
  | .int k => .int k (r.i j)
  | .bool => .bool (r.c j)
  | .list _ => r.lv j
  | .obj _ => .pointer (r.t j).addr
  | .vw _ => .pointer (r.t j).addr
  | .fb _ => .pointer (some ⟨((r.a j).getD default).block, 0, none⟩)
  | .own _ _ => r.lv j
  | .io _ => .pointer (r.t j).addr
  | .fn f => .func (.func f) #[] #[]
def cellsR (r : Rec) : List FK → Nat → List Value
  | [], _ => []
  | k :: ks, j => k.val r j :: cellsR r ks (j + 1)
def SP.val (r : Rec) (j : Nat) : SP → Value
  | .one k => k.val r j
  | .agg ks => .agg (cellsR r ks j).toArray
def SP.vals (r : Rec) : List SP → Nat → List Value
  | [], _ => []
  | x :: l, j => x.val r j :: SP.vals r l (j + x.flat.length)
def ST.val (r : Rec) : ST → Value
  | .p x => x.val r 0
  | .tup l => .tuple (SP.vals r l 0).toArray
theorem cv_varAV (E : Env) (b j : Nat) (k : FK) : cv E (varAV b j k) = k.val (E.r b) j := by cases k <;> rfl
theorem cellsV_eq (E : Env) (b : Nat) : ∀ (ks : List FK) (j : Nat), (cellsV b ks j).map (cv E) = cellsR (E.r b) ks j
  | [], j => rfl
  | k :: ks, j => by simp [cellsV, cellsR, cv_varAV, cellsV_eq E b ks (j + 1)]
theorem SP.pv_eq (E : Env) (b j : Nat) (x : SP) : cp E (x.pv b j) = x.val (E.r b) j := by
  cases x with
  | one k => exact cv_varAV E b j k
  | agg ks => simp only [SP.pv, cp, SP.val, cellsV_eq]
theorem SP.pvs_eq (E : Env) (b : Nat) : ∀ (l : List SP) (j : Nat), (SP.pvs b l j).map (cp E) = SP.vals (E.r b) l j
  | [], j => rfl
  | x :: l, j => by simp [SP.pvs, SP.vals, SP.pv_eq, SP.pvs_eq E b l (j + x.flat.length)]
theorem ST.tv_eq (E : Env) (b : Nat) (x : ST) : ct E (x.tv b) = x.val (E.r b) := by
  cases x with
  | p x => exact SP.pv_eq E b 0 x
  | tup l => simp only [ST.tv, ct, ST.val, SP.pvs_eq]
theorem varAV_bd {h : H} {b : Nat} (hb : has h b = true) (j : Nat) (k : FK) : bd h (varAV b j k) = true := by cases k <;> first | exact hb | rfl
theorem cellsV_bd {h : H} {b : Nat} (hb : has h b = true) : ∀ (ks : List FK) (j : Nat), ∀ x ∈ cellsV b ks j, bd h x = true
  | [], j, x, hx => by simp [cellsV] at hx
  | k :: ks, j, x, hx => by
    simp only [cellsV, List.mem_cons] at hx
    rcases hx with rfl | hx
    · exact varAV_bd hb j k
    · exact cellsV_bd hb ks (j + 1) x hx
theorem SP.pv_bd {h : H} {b : Nat} (hb : has h b = true) (j : Nat) (x : SP) : bdP h (x.pv b j) = true := by
  cases x with
  | one k => exact varAV_bd hb j k
  | agg ks => exact List.all_eq_true.2 (cellsV_bd hb ks j)
theorem SP.pvs_bd {h : H} {b : Nat} (hb : has h b = true) : ∀ (l : List SP) (j : Nat), ∀ x ∈ SP.pvs b l j, bdP h x = true
  | [], j, x, hx => by simp [SP.pvs] at hx
  | y :: l, j, x, hx => by
    simp only [SP.pvs, List.mem_cons] at hx
    rcases hx with rfl | hx
    · exact SP.pv_bd hb j y
    · exact SP.pvs_bd hb l _ x hx
theorem ST.tv_bd {h : H} {b : Nat} (hb : has h b = true) (x : ST) : bdT h (x.tv b) = true := by
  cases x with
  | p x => exact SP.pv_bd hb 0 x
  | tup l => exact List.all_eq_true.2 (SP.pvs_bd hb l 0)
/-- Of lists that are told of: that they may be read. -/
def stsOf (old : Bool) : List FK → List LK
  | [] => []
  | .list ks :: r => .rd ks old :: stsOf old r
  | .obj k :: r => .obj k [[]] [] :: stsOf old r
  | .own ks e :: r => .own ks e :: stsOf old r
  | _ :: r => .gone :: stsOf old r
def noList : List FK → Bool
  | [] => true
  | .list _ :: _ => false
  | _ :: r => noList r
def noObj : List FK → Bool
  | [] => true
  | .obj _ :: _ => false
  | _ :: r => noObj r
theorem stsOf_get (old : Bool) : ∀ (ks : List FK) (j : Nat), (∃ k, ks[j]? = some (.list k) ∧ (stsOf old ks).getD j .gone = .rd k old) ∨ (∃ k, ks[j]? = some (.obj k) ∧ (stsOf old ks).getD j .gone = .obj k [[]] []) ∨ (∃ k e, ks[j]? = some (.own k e) ∧ (stsOf old ks).getD j .gone = .own k e) ∨ ((stsOf old ks).getD j .gone = .gone)
  | [], j => .inr (.inr (.inr rfl))
  | k :: r, 0 => by cases k <;> simp [stsOf]
  | k :: r, j + 1 => by
    have := stsOf_get old r j
    cases k <;> simpa [stsOf] using this
theorem stsOf_len (old : Bool) : ∀ ks : List FK, (stsOf old ks).length = ks.length
  | [] => rfl
  | k :: r => by
    have := stsOf_len old r
    cases k <;> simpa [stsOf] using this
theorem noObj_get : ∀ {ks : List FK} {j k : Nat}, noObj ks = true → ks[j]? ≠ some (.obj k)
  | [], j, k, h => by simp
  | x :: r, 0, k, h => by cases x <;> simp_all [noObj]
  | x :: r, j + 1, k, h => by
    cases x with
    | obj k' => simp [noObj] at h
    | _ => simpa using noObj_get (ks := r) (j := j) h
/-- The blocks that are eaten (or that come out). -/
def eatF (r : Rec) (j : Nat) : FK → List Nat
  | .obj _ => (r.t j).fp
  | .io _ => (r.t j).fp
  | .own _ _ => ownFp r j
  | _ => []
def eatFs (r : Rec) : List FK → Nat → List Nat
  | [], _ => []
  | k :: ks, j => eatF r j k ++ eatFs r ks (j + 1)
def eatR : FK → DX → List Rs
  | .obj _, .obj d => rsOf d
  | .io _, .obj d => rsOf d
  | .own _ _, .lst b j => [.ls b j]
  | _, _ => []
def eatRs : List FK → List DX → List Rs
  | k :: ks, d :: ds => eatR k d ++ eatRs ks ds
  | _, _ => []
theorem eatFs_mem {r : Rec} : ∀ {ks : List FK} {s j n : Nat} {k : FK}, ks[j]? = some k → n ∈ eatF r (s + j) k → n ∈ eatFs r ks s
  | [], s, j, n, k, h, _ => by simp at h
  | x :: ks, s, 0, n, k, h, hn => by
    simp only [List.getElem?_cons_zero, Option.some.injEq] at h
    subst h
    exact List.mem_append_left _ hn
  | x :: ks, s, j + 1, n, k, h, hn => by
    rw [show s + (j + 1) = s + 1 + j by omega] at hn
    exact List.mem_append_right _ (eatFs_mem (ks := ks) (j := j) (by simpa using h) hn)
theorem eatFs_elim {r : Rec} : ∀ {ks : List FK} {s n : Nat}, n ∈ eatFs r ks s → ∃ (j : Nat) (k : FK), ks[j]? = some k ∧ n ∈ eatF r (s + j) k
  | [], s, n, h => by simp [eatFs] at h
  | x :: ks, s, n, h => by
    simp only [eatFs, List.mem_append] at h
    rcases h with h | h
    · exact ⟨0, x, rfl, h⟩
    · obtain ⟨j, k, h1, h2⟩ := eatFs_elim h
      exact ⟨j + 1, k, by simpa using h1, by rw [show s + (j + 1) = s + 1 + j by omega]; exact h2⟩
theorem eatFs_nd {r : Rec} : ∀ {ks : List FK} {s : Nat}, (eatFs r ks s).Nodup → ∀ {j : Nat} {k : FK}, ks[j]? = some k → (eatF r (s + j) k).Nodup
  | [], s, _, j, k, h => by simp at h
  | x :: ks, s, hn, j, k, h => by
    simp only [eatFs, List.nodup_append] at hn
    cases j with
    | zero =>
      simp only [List.getElem?_cons_zero, Option.some.injEq] at h
      subst h
      exact hn.1
    | succ j =>
      rw [show s + (j + 1) = s + 1 + j by omega]
      exact eatFs_nd hn.2.1 (by simpa using h)
theorem eatFs_sep {r : Rec} : ∀ {ks : List FK} {s : Nat}, (eatFs r ks s).Nodup → ∀ {i j : Nat} {k l : FK}, ks[i]? = some k → ks[j]? = some l → ∀ n ∈ eatF r (s + i) k, n ∈ eatF r (s + j) l → i = j
  | [], s, _, i, j, k, l, h, _, _, _, _ => by simp at h
  | x :: ks, s, hn, i, j, k, l, hi, hj, n, h1, h2 => by
    simp only [eatFs, List.nodup_append] at hn
    cases i with
    | zero =>
      cases j with
      | zero => rfl
      | succ j =>
        exfalso
        simp only [List.getElem?_cons_zero, Option.some.injEq] at hi
        subst hi
        rw [show s + (j + 1) = s + 1 + j by omega] at h2
        exact hn.2.2 n h1 n (eatFs_mem (ks := ks) (j := j) (by simpa using hj) h2) rfl
    | succ i =>
      cases j with
      | zero =>
        exfalso
        simp only [List.getElem?_cons_zero, Option.some.injEq] at hj
        subst hj
        rw [show s + (i + 1) = s + 1 + i by omega] at h1
        exact hn.2.2 n h2 n (eatFs_mem (ks := ks) (j := i) (by simpa using hi) h1) rfl
      | succ j =>
        rw [show s + (i + 1) = s + 1 + i by omega] at h1
        rw [show s + (j + 1) = s + 1 + j by omega] at h2
        rw [eatFs_sep hn.2.1 (i := i) (j := j) (by simpa using hi) (by simpa using hj) n h1 h2]
/-- Objects that are handed in to be turned: they come out behind what is answered. -/
def iosK : List FK → List FK
  | [] => []
  | .io k :: r => .obj k :: iosK r
  | _ :: r => iosK r
def iosP : List FK → Nat → List Nat
  | [], _ => []
  | .io _ :: r, j => j :: iosP r (j + 1)
  | _ :: r, j => iosP r (j + 1)
theorem iosP_get : ∀ {ks : List FK} {s i j : Nat}, (iosP ks s)[i]? = some j → ∃ k, s ≤ j ∧ ks[j - s]? = some (.io k) ∧ (iosK ks)[i]? = some (.obj k)
  | [], s, i, j, h => by simp [iosP] at h
  | x :: r, s, i, j, h => by
    have go : ∀ {i}, (iosP r (s + 1))[i]? = some j → ∃ k, s ≤ j ∧ (x :: r)[j - s]? = some (FK.io k) ∧ (iosK r)[i]? = some (FK.obj k) := fun h => by
      obtain ⟨k, h1, h2, h3⟩ := iosP_get h
      refine ⟨k, by omega, ?_, h3⟩
      rw [show j - s = (j - (s + 1)) + 1 by omega, List.getElem?_cons_succ]; exact h2
    cases x with
    | io k =>
      cases i with
      | zero =>
        simp only [iosP, List.getElem?_cons_zero, Option.some.injEq] at h
        subst h
        exact ⟨k, Nat.le_refl _, by simp, rfl⟩
      | succ i =>
        obtain ⟨k', h1, h2, h3⟩ := go (by simpa [iosP] using h)
        exact ⟨k', h1, h2, by simpa [iosK] using h3⟩
    | _ => exact go (by simpa [iosP] using h)
theorem iosK_obj : ∀ {ks : List FK} {i : Nat} {k : FK}, (iosK ks)[i]? = some k → ∃ n, k = .obj n
  | [], i, k, h => by simp [iosK] at h
  | x :: r, i, k, h => by
    cases x with
    | io n =>
      cases i with
      | zero => simp only [iosK, List.getElem?_cons_zero, Option.some.injEq] at h; exact ⟨n, h.symm⟩
      | succ i => exact iosK_obj (ks := r) (i := i) (by simpa [iosK] using h)
    | _ => exact iosK_obj (ks := r) (i := i) (by simpa [iosK] using h)
theorem iosK_len : ∀ (ks : List FK) (s : Nat), (iosK ks).length = (iosP ks s).length
  | [], s => rfl
  | x :: r, s => by
    have := iosK_len r (s + 1)
    cases x <;> simpa [iosK, iosP] using this
theorem noList_get : ∀ {ks : List FK} {j : Nat} {k : List CK}, noList ks = true → ks[j]? ≠ some (.list k)
  | [], j, k, h => by simp
  | x :: r, 0, k, h => by cases x <;> simp_all [noList]
  | x :: r, j + 1, k, h => by
    cases x with
    | list ks => simp [noList] at h
    | _ => simpa using noList_get (ks := r) (j := j) h
/-- What is told of a function: its number; what it takes and yields; whether it asks for nothing; whether its lists are its own. -/
structure Con where
  f : FuncId
  ins : List SP
  outs : ST
  total : Bool
  fresh : Bool
/-- What comes out: what is answered, and what was handed in to be turned. -/
def Con.fo (c : Con) : List FK := c.outs.flat ++ iosK (flatS c.ins)
/-- The blocks that are eaten. -/
def Eaten (r : Rec) (ks : List FK) (n : Nat) : Prop := n ∈ eatFs r ks 0
/-- What is asked of what is handed in. -/
structure InOk (r : Rec) (ks : List FK) (w : World) : Prop where
  lst : ∀ j l, ks[j]? = some (.list l) → ROk w r j l ∧ l ≠ []
  vw : ∀ j k, ks[j]? = some (.vw k) → (r.t j).holds w k
  obj : ∀ j k, ks[j]? = some (.obj k) ∨ ks[j]? = some (.io k) → (r.t j).holds w k
  own : ∀ j l e, ks[j]? = some (.own l e) → OOk 0 w r j l e
  one : (eatFs r ks 0).Nodup
  apt : ∀ j l, ks[j]? = some (.list l) → ∀ n, (LK.rd l true).occ r j n → ¬ Eaten r ks n
  vap : ∀ j k, ks[j]? = some (.vw k) → ∀ n ∈ (r.t j).fp, ¬ Eaten r ks n
  fb : ∀ j fs, ks[j]? = some (.fb fs) → (LK.fb fs).ok 0 w r j ∧ ∀ n, (LK.fb fs).occ r j n → ¬ Eaten r ks n
def ConR (P : Program) (rel : List DV → List DV → Prop) (pre : List DV → Prop) (c : Con) : Prop := ∀ (r : Rec) (w : World), InOk r (flatS c.ins) w → (c.total = false → pre (dvs r (flatS c.ins) 0)) →
  Invoked P c.f (SP.vals r c.ins 0).toArray w fun e w' => ∃ r', e = .returned (c.outs.val r') ∧ rel (dvs r (flatS c.ins) 0) (dvs r' c.fo 0) ∧ Bel ⟨w.heap.size, Eaten r (flatS c.ins)⟩ w w' ∧
    (∀ j ks, c.fo[j]? = some (.list ks) → ROk w' r' j ks ∧ ∀ n, (LK.rd ks true).occ r' j n → n < w'.heap.size ∧ n ∉ eatFs r' c.fo 0 ∧ (w.heap.size ≤ n ∨ Eaten r (flatS c.ins) n ∨ (c.fresh = false ∧ InR r n))) ∧
    (∀ j k, c.fo[j]? = some (.obj k) → (r'.t j).holds w' k) ∧ (∀ j l e, c.fo[j]? = some (.own l e) → OOk 0 w' r' j l e) ∧ (eatFs r' c.fo 0).Nodup ∧ (∀ n ∈ eatFs r' c.fo 0, w.heap.size ≤ n ∨ Eaten r (flatS c.ins) n) ∧
    ∀ i j, (iosP (flatS c.ins) 0)[i]? = some j → (r'.t (c.outs.flat.length + i)).addr = (r.t j).addr
def ConS (P : Program) (T : Tab) (c : Con) : Prop := ConR P (T.rel c.f) (T.pre c.f) c
/-- What is told, but of one function only for what is less than a size. -/
def Tab.below (T : Tab) (f : Nat) (sz : List DV → Nat) (n : Nat) : Tab := ⟨T.rel, fun g ins => if g = f then sz ins < n ∧ T.pre g ins else T.pre g ins, T.mu⟩
theorem below_rel (T : Tab) (f : Nat) (sz : List DV → Nat) (n : Nat) : (T.below f sz n).rel = T.rel := rfl
theorem below_mu (T : Tab) (f : Nat) (sz : List DV → Nat) (n : Nat) : (T.below f sz n).mu = T.mu := rfl
theorem below_pre (T : Tab) (f : Nat) (sz : List DV → Nat) (n g : Nat) (ins : List DV) : (T.below f sz n).pre g ins = if g = f then sz ins < n ∧ T.pre g ins else T.pre g ins := rfl
theorem below_ne {P : Program} {T : Tab} {f : Nat} {sz : List DV → Nat} {n : Nat} {c : Con} (hc : ConS P T c) (hf : Nat.beq c.f f = false) : ConS P (T.below f sz n) c := by
  have e : (T.below f sz n).pre c.f = T.pre c.f := by
    funext ins
    rw [below_pre, if_neg (fun e => by rw [e] at hf; simp at hf)]
  unfold ConS at *
  rw [e]
  exact hc
/-- A function that calls itself for what is less. -/
theorem con_rec {P : Program} {T : Tab} {c : Con} (sz : List DV → Nat) (ht : c.total = false) (h : ∀ n, ConS P (T.below c.f sz n) c → ConR P (T.rel c.f) (fun ins => sz ins < n + 1 ∧ T.pre c.f ins) c) : ConS P T c := by
  have all : ∀ n, ConR P (T.rel c.f) (fun ins => sz ins < n ∧ T.pre c.f ins) c := by
    intro n
    induction n with
    | zero =>
      intro r w _ hp
      exact absurd (hp ht).1 (Nat.not_lt_zero _)
    | succ n ih =>
      refine h n ?_
      have e : (T.below c.f sz n).pre c.f = fun ins => sz ins < n ∧ T.pre c.f ins := by
        funext ins
        rw [below_pre, if_pos rfl]
      unfold ConS
      rw [e]
      exact ih
  intro r w hin hp
  exact all (sz (dvs r (flatS c.ins) 0) + 1) r w hin fun ht => ⟨Nat.lt_succ_self _, hp ht⟩
/-! ### What is handed to it -/
def dxArgL (h : H) (ks : List CK) : AV → Option DX
  | .ls b j => match ksOf (lk h b j) with
    | some ks' => bif leq ckeq ks ks' then some (.lst b j) else none
    | none => none
  | .val (.slice none 0 0) => some (.rows [])
  | .sl b o n (some c) => match hget h b with
    | some x => bif Nat.ble n c && Nat.ble c 1000000 && Nat.ble (o + n * ks.length) x.cells.length then (rowsCells ks n (x.cells.drop o)).map .rows else none
    | none => none
  | _ => none
def dxArgV (h : H) (k : Nat) : AV → Option DX
  | .val (.pointer none) => some (.obj .nil)
  | .ob b j p => match readK (lk h b j) p with
    | some k' => bif Nat.beq k k' then some (.obj (.at b j p)) else none
    | none => none
  | _ => none
def fitF : List (Option FuncId) → List AV → Bool
  | [], _ => true
  | none :: fs, _ :: xs => fitF fs xs
  | some f :: fs, x :: xs => isFn f x && fitF fs xs
  | _ :: _, [] => false
def dxArgF (h : H) (fs : List (Option FuncId)) : AV → Option DX
  | .ptr b 0 => match hget h b with
    | some x => bif fitF fs x.cells then some (.num (.n 0)) else none
    | none => none
  | .fp b j 0 => match lk h b j with
    | .fb gs => bif leq oeqN fs gs then some (.num (.n 0)) else none
    | _ => none
  | _ => none
def dxArgO (h : H) (ks : List CK) (e : Nat) : AV → Option DX
  | .ls b j => match lk h b j with
    | .own ks' e' => bif leq ckeq ks ks' && Nat.beq e e' then some (.lst b j) else none
    | _ => none
  | .val (.slice none 0 0) => some (.rows [])
  | _ => none
theorem dxArgO_some {h : H} {ks : List CK} {e : Nat} {x : AV} {d : DX} (hd : dxArgO h ks e x = some d) : (∃ b j, x = .ls b j ∧ d = .lst b j ∧ lk h b j = .own ks e) ∨ (x = .val (.slice none 0 0) ∧ d = .rows []) := by
  unfold dxArgO at hd
  split at hd
  · rename_i b j
    split at hd
    · rename_i ks' e' hl
      cases hc : (leq ckeq ks ks' && Nat.beq e e') with
      | false => rw [hc] at hd; cases hd
      | true =>
        rw [hc, cond_true, Option.some.injEq] at hd
        simp only [Bool.and_eq_true, Nat.beq_eq] at hc
        exact .inl ⟨b, j, rfl, hd.symm, by rw [hl, leq_eq ckeq_eq _ _ hc.1, hc.2]⟩
    · cases hd
  · exact .inr ⟨rfl, (Option.some.inj hd).symm⟩
  · cases hd
def dxArg (h : H) : FK → AV → Option DX
  | .int k, x => match numA x with
    | some (k', e) => bif keq k k' then some (.num e) else none
    | none => none
  | .bool, x => (truA x).map .tru
  | .list ks, x => dxArgL h ks x
  | .obj k, x => (objOf h k 8 x).map .obj
  | .vw k, x => dxArgV h k x
  | .fb fs, x => dxArgF h fs x
  | .own ks e, x => dxArgO h ks e x
  | .io k, x => (objOf h k 8 x).map .obj
  | .fn f, x => bif isFn f x then some (.num (.n 0)) else none
def dxArgs (h : H) : List FK → List AV → Option (List DX)
  | [], [] => some []
  | k :: ks, x :: xs => match dxArg h k x, dxArgs h ks xs with
    | some d, some l => some (d :: l)
    | _, _ => none
  | _, _ => none
def argCells : SP → TV → Option (List AV)
  | .one _, .p (.v (.val (.agg _))) => none
  | .one _, .p (.v (.val (.tuple _))) => none
  | .one _, .p (.v x) => some [x]
  | .agg ks, .p (.agg l) => bif Nat.beq l.length ks.length then some l else none
  | .agg ks, .p (.v (.val (.agg cs))) => bif Nat.beq cs.toList.length ks.length then some (cs.toList.map .val) else none
  | _, _ => none
def argsCells : List SP → List TV → Option (List AV)
  | [], [] => some []
  | s :: ss, v :: vs => match argCells s v, argsCells ss vs with
    | some a, some b => some (a ++ b)
    | _, _ => none
  | _, _ => none
/-- What the arguments stand for. -/
def recArg (E : Env) (avs : List AV) (dxs : List DX) : Rec where
  i j := match dxs[j]? with | some (.num e) => e.den E | _ => 0
  c j := match dxs[j]? with | some (.tru b) => b.den E | _ => false
  l j := match dxs[j]? with | some (.lst b i) => (E.r b).l i | some (.rows rs) => rs.map fun r => r.map (Ex.den E) | _ => []
  a j := match avs[j]? with | some (.ls b i) => (E.r b).a i | some (.sl b o _ _) => some ⟨E.s b, o, none⟩ | some (.ptr b _) => some ⟨E.s b, 0, none⟩ | some (.fp b i _) => (E.r b).a i | _ => none
  m j := match avs[j]? with | some (.ls b i) => (E.r b).m i | some (.sl _ _ _ (some c)) => c | _ => 0
  o _ := undef
  t j := match dxs[j]? with | some (.obj d) => d.den E | _ => .leaf
def plainArg (h : H) : AV → Bool
  | .ls b j => match lk h b j with
    | .rd _ _ => true
    | _ => false
  | .sl _ _ _ _ => false
  | _ => true
def oldArg (h : H) : AV → Bool
  | .ls b j => match lk h b j with
    | .rd _ old => old
    | _ => false
  | _ => false
section
variable {T : Tab} {E : Env} {h : H} {B : Bd} {w : World}
theorem dxArgF_eq {fs : List (Option FuncId)} {x : AV} {d : DX} (hd : dxArg h (.fb fs) x = some d) : d = .num (.n 0) := by
  simp only [dxArg, dxArgF] at hd
  split at hd
  · split at hd
    · rename_i y _
      cases hc : fitF fs y.cells with
      | false => rw [hc] at hd; cases hd
      | true => rw [hc, cond_true, Option.some.injEq] at hd; exact hd.symm
    · cases hd
  · split at hd
    · rename_i gs _
      cases hc : leq oeqN fs gs with
      | false => rw [hc] at hd; cases hd
      | true => rw [hc, cond_true, Option.some.injEq] at hd; exact hd.symm
    · cases hd
  · cases hd
theorem dxArg_bd (r : HR E h B w) {k : FK} {x : AV} {d : DX} (hd : dxArg h k x = some d) (hb : bd h x = true) : d.bd h = true := by
  cases k with
  | int kk =>
    simp only [dxArg] at hd
    split at hd
    · rename_i k' e hn
      cases hk : keq kk k' with
      | false => rw [hk] at hd; cases hd
      | true =>
        rw [hk, cond_true, Option.some.injEq] at hd
        subst hd
        exact numA_bd hn hb
    · cases hd
  | bool =>
    simp only [dxArg] at hd
    obtain ⟨b, h1, rfl⟩ := Option.map_eq_some_iff.1 hd
    exact truA_bd h1 hb
  | list ks =>
    simp only [dxArg, dxArgL] at hd
    split at hd
    · rename_i b j
      split at hd
      · rename_i ks' h1
        cases hk : leq ckeq ks ks' with
        | false => rw [hk] at hd; cases hd
        | true =>
          rw [hk, cond_true, Option.some.injEq] at hd
          subst hd
          exact hb
      · cases hd
    · obtain rfl := Option.some.inj hd; rfl
    · rename_i b o n c
      split at hd
      · rename_i y hy
        cases hk : (Nat.ble n c && Nat.ble c 1000000 && Nat.ble (o + n * ks.length) y.cells.length) with
        | false => rw [hk] at hd; cases hd
        | true =>
          rw [hk, cond_true] at hd
          obtain ⟨l, hl, rfl⟩ := Option.map_eq_some_iff.1 hd
          simp only [DX.bd, List.all_eq_true]
          exact fun r' hr => rowsCells_bd hl (fun z hz => r.bnd b y hy z (List.mem_of_mem_drop hz)) r' hr
      · cases hd
    · cases hd
  | obj kk =>
    simp only [dxArg] at hd
    obtain ⟨d', h1, rfl⟩ := Option.map_eq_some_iff.1 hd
    exact (objOf_ok r h1).2.2.2 hb
  | vw kk =>
    simp only [dxArg, dxArgV] at hd
    split at hd
    · obtain rfl := Option.some.inj hd; rfl
    · split at hd
      · rename_i k' hk
        cases hc : Nat.beq kk k' with
        | false => rw [hc] at hd; cases hd
        | true => rw [hc, cond_true, Option.some.injEq] at hd; subst hd; exact hb
      · cases hd
    · cases hd
  | fb fs =>
    obtain rfl := dxArgF_eq hd
    rfl
  | own ks e =>
    rcases dxArgO_some hd with ⟨b, j, rfl, rfl, _⟩ | ⟨rfl, rfl⟩
    · exact hb
    · rfl
  | io kk =>
    simp only [dxArg] at hd
    obtain ⟨d', h1, rfl⟩ := Option.map_eq_some_iff.1 hd
    exact (objOf_ok r h1).2.2.2 hb
  | fn f =>
    simp only [dxArg] at hd
    cases hc : isFn f x with
    | false => rw [hc] at hd; cases hd
    | true => rw [hc, cond_true, Option.some.injEq] at hd; subst hd; rfl
theorem dxArgs_bd (r : HR E h B w) : ∀ {ks : List FK} {xs : List AV} {ds : List DX}, dxArgs h ks xs = some ds → (∀ x ∈ xs, bd h x = true) → ds.all (DX.bd h) = true
  | [], [], ds, hd, _ => by simp only [dxArgs, Option.some.injEq] at hd; subst hd; rfl
  | k :: ks, x :: xs, ds, hd, hb => by
    simp only [dxArgs] at hd
    split at hd
    · rename_i d l h1 h2
      obtain rfl := Option.some.inj hd
      simp only [List.all_cons, Bool.and_eq_true]
      exact ⟨dxArg_bd r h1 (hb x (by simp)), dxArgs_bd r h2 (fun y hy => hb y (by simp [hy]))⟩
    · cases hd
  | [], _ :: _, ds, hd, _ => by simp [dxArgs] at hd
  | _ :: _, [], ds, hd, _ => by simp [dxArgs] at hd
/-- One argument stands for what it is. -/
theorem dxArg_val (r : HR E h B w) {k : FK} {x : AV} {d : DX} (hd : dxArg h k x = some d) {avs : List AV} {dxs : List DX} {j : Nat} (ha : avs[j]? = some x) (hx : dxs[j]? = some d) :
    cv E x = k.val (recArg E avs dxs) j ∧ dvs (recArg E avs dxs) [k] j = [DX.den E d] := by
  cases k with
  | int kk =>
    simp only [dxArg] at hd
    split at hd
    · rename_i k' e hn
      cases hk : keq kk k' with
      | false => rw [hk] at hd; cases hd
      | true =>
        rw [hk, cond_true, Option.some.injEq] at hd
        subst hd
        simp [numA_eq hn, FK.val, recArg, hx, keq_eq hk, DX.den, dvs]
    · cases hd
  | bool =>
    simp only [dxArg] at hd
    obtain ⟨b, h1, rfl⟩ := Option.map_eq_some_iff.1 hd
    simp [truA_eq h1, FK.val, recArg, hx, DX.den, dvs]
  | list ks =>
    simp only [dxArg, dxArgL] at hd
    split at hd
    · rename_i b i
      split at hd
      · rename_i ks' h1
        cases hk : leq ckeq ks ks' with
        | false => rw [hk] at hd; cases hd
        | true =>
          rw [hk, cond_true, Option.some.injEq] at hd
          subst hd
          simp [cv, FK.val, Rec.lv, recArg, hx, ha, DX.den, dvs]
      · cases hd
    · obtain rfl := Option.some.inj hd
      simp [cv, FK.val, Rec.lv, recArg, hx, ha, DX.den, dvs]
    · rename_i b o n c
      split at hd
      · rename_i y hy
        cases hk : (Nat.ble n c && Nat.ble c 1000000 && Nat.ble (o + n * ks.length) y.cells.length) with
        | false => rw [hk] at hd; cases hd
        | true =>
          rw [hk, cond_true] at hd
          obtain ⟨l, hl, rfl⟩ := Option.map_eq_some_iff.1 hd
          simp [cv, FK.val, Rec.lv, recArg, hx, ha, DX.den, (rowsCells_len hl).1, dvs]
      · cases hd
    · cases hd
  | obj kk =>
    simp only [dxArg] at hd
    obtain ⟨d', h1, rfl⟩ := Option.map_eq_some_iff.1 hd
    refine ⟨?_, by simp [recArg, hx, DX.den, dvs]⟩
    rw [(objOf_ok r h1).2.1]
    simp [FK.val, recArg, hx]
  | vw kk =>
    simp only [dxArg, dxArgV] at hd
    split at hd
    · obtain rfl := Option.some.inj hd
      simp [cv, FK.val, recArg, hx, DX.den, DE.den, dvs, Dat.addr]
    · split at hd
      · rename_i k' hk
        cases hc : Nat.beq kk k' with
        | false => rw [hc] at hd; cases hd
        | true =>
          rw [hc, cond_true, Option.some.injEq] at hd
          subst hd
          simp [cv, FK.val, recArg, hx, DX.den, DE.den, dvs]
      · cases hd
    · cases hd
  | fb fs =>
    obtain rfl := dxArgF_eq hd
    refine ⟨?_, by simp [DX.den, Ex.den, dvs]⟩
    simp only [dxArg, dxArgF] at hd
    split at hd
    · simp [cv, FK.val, recArg, ha]
    · simp [cv, FK.val, recArg, ha]
    · cases hd
  | own ks e =>
    rcases dxArgO_some hd with ⟨b, i, rfl, rfl, _⟩ | ⟨rfl, rfl⟩
    · simp [cv, FK.val, Rec.lv, recArg, hx, ha, DX.den, dvs]
    · simp [cv, FK.val, Rec.lv, recArg, hx, ha, DX.den, dvs]
  | io kk =>
    simp only [dxArg] at hd
    obtain ⟨d', h1, rfl⟩ := Option.map_eq_some_iff.1 hd
    refine ⟨?_, by simp [recArg, hx, DX.den, dvs]⟩
    rw [(objOf_ok r h1).2.1]
    simp [FK.val, recArg, hx]
  | fn f =>
    simp only [dxArg] at hd
    cases hc : isFn f x with
    | false => rw [hc] at hd; cases hd
    | true =>
      rw [hc, cond_true, Option.some.injEq] at hd
      subst hd
      exact ⟨isFn_eq hc, by simp [DX.den, Ex.den, dvs]⟩
theorem dxArgs_get : ∀ {ks : List FK} {xs : List AV} {ds : List DX}, dxArgs h ks xs = some ds → ∀ (j : Nat) (k : FK), ks[j]? = some k → ∃ x d, xs[j]? = some x ∧ ds[j]? = some d ∧ dxArg h k x = some d
  | [], [], ds, hd, j, k, hk => by simp at hk
  | k0 :: ks, x :: xs, ds, hd, j, k, hk => by
    simp only [dxArgs] at hd
    split at hd
    · rename_i d l h1 h2
      obtain rfl := Option.some.inj hd
      cases j with
      | zero => simp only [List.getElem?_cons_zero, Option.some.injEq] at hk; subst hk; exact ⟨x, d, rfl, rfl, h1⟩
      | succ j => simpa using dxArgs_get h2 j k (by simpa using hk)
    · cases hd
  | [], _ :: _, ds, hd, _, _, _ => by simp [dxArgs] at hd
  | _ :: _, [], ds, hd, _, _, _ => by simp [dxArgs] at hd
theorem dxArgs_len : ∀ {ks : List FK} {xs : List AV} {ds : List DX}, dxArgs h ks xs = some ds → xs.length = ks.length ∧ ds.length = ks.length
  | [], [], ds, hd => by simp only [dxArgs, Option.some.injEq] at hd; subst hd; exact ⟨rfl, rfl⟩
  | k0 :: ks, x :: xs, ds, hd => by
    simp only [dxArgs] at hd
    split at hd
    · rename_i d l h1 h2
      obtain rfl := Option.some.inj hd
      simp [(dxArgs_len h2).1, (dxArgs_len h2).2]
    · cases hd
  | [], _ :: _, ds, hd => by simp [dxArgs] at hd
  | _ :: _, [], ds, hd => by simp [dxArgs] at hd
theorem dvs_args (r : HR E h B w) {all : List FK} {avs : List AV} {dxs : List DX} (hd : dxArgs h all avs = some dxs) : ∀ (ks : List FK) (ds : List DX) (s : Nat), (∀ j, all[s + j]? = ks[j]?) → (∀ j, dxs[s + j]? = ds[j]?) → ks.length = ds.length → dvs (recArg E avs dxs) ks s = ds.map (DX.den E)
  | [], [], s, _, _, _ => rfl
  | k :: ks, d :: ds, s, hk, hx, hl => by
    have ih := dvs_args r hd ks ds (s + 1) (fun j => by have := hk (j + 1); simpa [Nat.add_assoc, Nat.add_comm 1 j] using this) (fun j => by have := hx (j + 1); simpa [Nat.add_assoc, Nat.add_comm 1 j] using this) (by simpa using hl)
    obtain ⟨x, d', h1, h2, h3⟩ := dxArgs_get hd s k (by simpa using hk 0)
    have h4 : dxs[s]? = some d := by simpa using hx 0
    rw [h2] at h4
    obtain rfl := Option.some.inj h4
    have := (dxArg_val r h3 h1 h2).2
    cases k <;> simp only [dvs, List.cons.injEq, and_true] at this <;> simp [dvs, ih, this]
  | [], _ :: _, _, _, _, h => by simp at h
  | _ :: _, [], _, _, _, h => by simp at h
theorem cellsR_args (r : HR E h B w) {all : List FK} {avs : List AV} {dxs : List DX} (hd : dxArgs h all avs = some dxs) : ∀ (ks : List FK) (xs : List AV) (s : Nat), (∀ j, j < ks.length → all[s + j]? = ks[j]?) → (∀ j, j < xs.length → avs[s + j]? = xs[j]?) → ks.length = xs.length → xs.map (cv E) = cellsR (recArg E avs dxs) ks s
  | [], [], s, _, _, _ => rfl
  | k :: ks, x :: xs, s, hk, hx, hl => by
    have ih := cellsR_args r hd ks xs (s + 1) (fun j hj => by have := hk (j + 1) (by simpa using hj); simpa [Nat.add_assoc, Nat.add_comm 1 j] using this) (fun j hj => by have := hx (j + 1) (by simpa using hj); simpa [Nat.add_assoc, Nat.add_comm 1 j] using this) (by simpa using hl)
    obtain ⟨x', d, h1, h2, h3⟩ := dxArgs_get hd s k (by simpa using hk 0 (by simp))
    have h4 : avs[s]? = some x := by simpa using hx 0 (by simp)
    rw [h1] at h4
    obtain rfl := Option.some.inj h4
    simp [cellsR, ih, (dxArg_val r h3 h1 h2).1]
  | [], _ :: _, _, _, _, h => by simp at h
  | _ :: _, [], _, _, _, h => by simp at h
theorem argCells_len {s : SP} {v : TV} {a : List AV} (ha : argCells s v = some a) : a.length = s.flat.length := by
  unfold argCells at ha
  split at ha
  · cases ha
  · cases ha
  · obtain rfl := Option.some.inj ha; rfl
  · rename_i ks l
    cases hl : Nat.beq l.length ks.length with
    | false => rw [hl] at ha; cases ha
    | true => rw [hl, cond_true, Option.some.injEq] at ha; subst ha; exact Nat.eq_of_beq_eq_true hl
  · rename_i ks cs
    cases hl : Nat.beq cs.toList.length ks.length with
    | false => rw [hl] at ha; cases ha
    | true => rw [hl, cond_true, Option.some.injEq] at ha; subst ha; rw [List.length_map]; exact Nat.eq_of_beq_eq_true hl
  · cases ha
theorem argCells_bd {s : SP} {v : TV} {a : List AV} (ha : argCells s v = some a) (hb : bdT h v = true) : ∀ x ∈ a, bd h x = true := by
  unfold argCells at ha
  split at ha
  · cases ha
  · cases ha
  · obtain rfl := Option.some.inj ha; intro x hx; rw [List.mem_singleton.1 hx]; exact hb
  · rename_i ks l
    cases hl : Nat.beq l.length ks.length with
    | false => rw [hl] at ha; cases ha
    | true => rw [hl, cond_true, Option.some.injEq] at ha; subst ha; exact List.all_eq_true.1 hb
  · rename_i ks cs
    cases hl : Nat.beq cs.toList.length ks.length with
    | false => rw [hl] at ha; cases ha
    | true =>
      rw [hl, cond_true, Option.some.injEq] at ha
      subst ha
      intro x hx
      obtain ⟨u, _, rfl⟩ := List.mem_map.1 hx
      rfl
  · cases ha
theorem argsCells_bd : ∀ {ss : List SP} {vs : List TV} {a : List AV}, argsCells ss vs = some a → (∀ v ∈ vs, bdT h v = true) → ∀ x ∈ a, bd h x = true
  | [], [], a, ha, _, x, hx => by simp only [argsCells, Option.some.injEq] at ha; subst ha; simp at hx
  | s :: ss, v :: vs, a, ha, hb, x, hx => by
    simp only [argsCells] at ha
    split at ha
    · rename_i a1 a2 h1 h2
      obtain rfl := Option.some.inj ha
      rcases List.mem_append.1 hx with hx | hx
      · exact argCells_bd h1 (hb v (by simp)) x hx
      · exact argsCells_bd h2 (fun y hy => hb y (by simp [hy])) x hx
    · cases ha
  | [], _ :: _, _, ha, _, _, _ => by simp [argsCells] at ha
  | _ :: _, [], _, ha, _, _, _ => by simp [argsCells] at ha
theorem argCells_val (r : HR E h B w) {all : List FK} {avs : List AV} {dxs : List DX} (hd : dxArgs h all avs = some dxs) {s : SP} {v : TV} {a : List AV} (ha : argCells s v = some a) {n : Nat} (hk : ∀ j, j < s.flat.length → all[n + j]? = s.flat[j]?) (hx : ∀ j, j < a.length → avs[n + j]? = a[j]?) :
    ct E v = s.val (recArg E avs dxs) n := by
  have hl := argCells_len ha
  have hc := cellsR_args r hd s.flat a n hk hx hl.symm
  unfold argCells at ha
  split at ha
  · cases ha
  · cases ha
  · rename_i k x _ _
    obtain rfl := Option.some.inj ha
    simpa [SP.flat, cellsR, SP.val, ct, cp] using hc
  · rename_i ks l
    cases hl : Nat.beq l.length ks.length with
    | false => rw [hl] at ha; cases ha
    | true => rw [hl, cond_true, Option.some.injEq] at ha; subst ha; simp only [ct, cp, SP.val, hc]; rfl
  · rename_i ks cs
    cases hl : Nat.beq cs.toList.length ks.length with
    | false => rw [hl] at ha; cases ha
    | true =>
      rw [hl, cond_true, Option.some.injEq] at ha
      subst ha
      rw [map_val] at hc
      simp only [ct, cp, cv, SP.val, SP.flat] at hc ⊢
      rw [← hc]
  · cases ha
theorem argsCells_val (r : HR E h B w) {all : List FK} {avs : List AV} {dxs : List DX} (hd : dxArgs h all avs = some dxs) : ∀ {ss : List SP} {vs : List TV} {a : List AV} {n : Nat}, argsCells ss vs = some a → (∀ j, j < (flatS ss).length → all[n + j]? = (flatS ss)[j]?) → (∀ j, j < a.length → avs[n + j]? = a[j]?) → vs.map (ct E) = SP.vals (recArg E avs dxs) ss n
  | [], [], a, n, ha, _, _ => rfl
  | s :: ss, v :: vs, a, n, ha, hk, hx => by
    simp only [argsCells] at ha
    split at ha
    · rename_i a1 a2 h1 h2
      obtain rfl := Option.some.inj ha
      have hl := argCells_len h1
      have e1 := argCells_val r hd h1 (n := n) (fun j hj => by
        rw [hk j (by simp [flatS]; omega), flatS, List.getElem?_append_left hj]) (fun j hj => by
        rw [hx j (by simp; omega), List.getElem?_append_left hj])
      have e2 := argsCells_val r hd (n := n + s.flat.length) h2 (fun j hj => by
        have := hk (s.flat.length + j) (by simp [flatS]; omega)
        rw [← Nat.add_assoc] at this
        rw [this, flatS, List.getElem?_append_right (by omega)]
        congr 1; omega) (fun j hj => by
        have := hx (s.flat.length + j) (by simp; omega)
        rw [← Nat.add_assoc] at this
        rw [this, List.getElem?_append_right (by omega)]
        congr 1; omega)
      simp [SP.vals, e1, e2]
    · cases ha
  | [], _ :: _, _, _, ha, _, _ => by simp [argsCells] at ha
  | _ :: _, [], _, _, ha, _, _ => by simp [argsCells] at ha
/-- A list that is handed on may be read. -/
theorem dxArg_rok (r : HR E h B w) {ks : List CK} {x : AV} {d : DX} (hd : dxArg h (.list ks) x = some d) {avs : List AV} {dxs : List DX} {j : Nat} (ha : avs[j]? = some x) (hx : dxs[j]? = some d) : ROk w (recArg E avs dxs) j ks := by
  simp only [dxArg, dxArgL] at hd
  split at hd
  · rename_i b i
    split at hd
    · rename_i ks' h1
      cases hk : leq ckeq ks ks' with
      | false => rw [hk] at hd; cases hd
      | true =>
        rw [hk, cond_true, Option.some.injEq] at hd
        subst hd
        have e := leq_eq ckeq_eq _ _ hk
        subst e
        have hok := LK.rok h1 (r.lst.ok b i)
        have el : (recArg E avs dxs).l j = (E.r b).l i := by simp [recArg, hx]
        have ea : (recArg E avs dxs).a j = (E.r b).a i := by simp [recArg, ha]
        have em : (recArg E avs dxs).m j = (E.r b).m i := by simp [recArg, ha]
        exact ⟨by rw [el]; exact hok.wf, by rw [el, em]; exact hok.cap, by rw [em]; exact hok.max, by rw [el, ea]; exact hok.read⟩
    · cases hd
  · obtain rfl := Option.some.inj hd
    have el : (recArg E avs dxs).l j = [] := by simp [recArg, hx]
    have em : (recArg E avs dxs).m j = 0 := by simp [recArg, ha]
    exact ⟨fun y hy => by rw [el] at hy; simp at hy, by rw [el]; simp, by rw [em]; exact Nat.zero_le _, fun n u hu => by rw [el] at hu; simp [encL] at hu⟩
  · rename_i b o n c
    split at hd
    · rename_i y hy
      cases hk : (Nat.ble n c && Nat.ble c 1000000 && Nat.ble (o + n * ks.length) y.cells.length) with
      | false => rw [hk] at hd; cases hd
      | true =>
        rw [hk, cond_true] at hd
        simp only [Bool.and_eq_true, Nat.ble_eq] at hk
        obtain ⟨⟨k1, k2⟩, k3⟩ := hk
        obtain ⟨l, hl, rfl⟩ := Option.map_eq_some_iff.1 hd
        have el : (recArg E avs dxs).l j = l.map fun r => r.map (Ex.den E) := by simp [recArg, hx]
        have ea : (recArg E avs dxs).a j = some ⟨E.s b, o, none⟩ := by simp [recArg, ha]
        have em : (recArg E avs dxs).m j = c := by simp [recArg, ha]
        obtain ⟨l1, l2⟩ := rowsCells_len hl
        refine ⟨fun z hz => ?_, by rw [el, em, List.length_map, l1]; exact k1, by rw [em]; simp only [maxLen]; omega, fun i u hu => ⟨_, ea, ?_⟩⟩
        · rw [el] at hz
          obtain ⟨q, hq, rfl⟩ := List.mem_map.1 hz
          rw [List.length_map]; exact l2 q hq
        · rw [el, rowsCells_eq hl (by rw [List.length_drop]; omega)] at hu
          exact r.cellsAt hy (o := o) (n := n * ks.length) k3 i u hu
    · cases hd
  · cases hd
theorem plain_occ {x : AV} {k : List CK} {d : DX} (hp : plainArg h x = true) (hd : dxArg h (.list k) x = some d) {avs : List AV} {dxs : List DX} {j : Nat} (ha : avs[j]? = some x) (hx : dxs[j]? = some d) {n : Nat} (ho : (LK.rd k true).occ (recArg E avs dxs) j n) :
    ∃ b i ks old, x = .ls b i ∧ lk h b i = .rd ks old ∧ (LK.rd ks old).occ (E.r b) i n := by
  simp only [dxArg, dxArgL] at hd
  split at hd
  · rename_i b i
    have hp' := hp
    simp only [plainArg] at hp'
    split at hp'
    · rename_i ks1 old hl
      split at hd
      · rename_i ks' h1
        cases hk : leq ckeq k ks' with
        | false => rw [hk] at hd; cases hd
        | true =>
          rw [hk, cond_true, Option.some.injEq] at hd
          subst hd
          exact ⟨b, i, ks1, old, rfl, hl, by simpa [LK.occ, recArg, hx, ha] using ho⟩
      · cases hd
    · cases hp'
  · obtain rfl := Option.some.inj hd
    simp [LK.occ, recArg, hx] at ho
  · simp [plainArg] at hp
  · cases hd
theorem args_list {all : List FK} {avs : List AV} {dxs : List DX} (hd : dxArgs h all avs = some dxs) {j : Nat} (hl : (recArg E avs dxs).l j ≠ []) : (∃ x d ks, avs[j]? = some x ∧ dxs[j]? = some d ∧ dxArg h (.list ks) x = some d) ∨ ∃ b i ks e, avs[j]? = some (.ls b i) ∧ lk h b i = .own ks e := by
  obtain ⟨l1, l2⟩ := dxArgs_len hd
  cases hk : all[j]? with
  | none =>
    exfalso
    have : dxs[j]? = none := by rw [List.getElem?_eq_none_iff] at hk ⊢; omega
    simp [recArg, this] at hl
  | some k =>
    obtain ⟨x, d, h1, h2, h3⟩ := dxArgs_get hd j k hk
    cases k with
    | list ks => exact .inl ⟨x, d, ks, h1, h2, h3⟩
    | own ks e =>
      rcases dxArgO_some h3 with ⟨b, i, rfl, rfl, hlk⟩ | ⟨rfl, rfl⟩
      · exact .inr ⟨b, i, ks, e, h1, hlk⟩
      · simp [recArg, h2] at hl
    | io kk =>
      exfalso
      simp only [dxArg] at h3
      obtain ⟨d', _, rfl⟩ := Option.map_eq_some_iff.1 h3
      simp [recArg, h2] at hl
    | fn f =>
      exfalso
      simp only [dxArg] at h3
      cases hc : isFn f x with
      | false => rw [hc] at h3; cases h3
      | true =>
        rw [hc, cond_true, Option.some.injEq] at h3
        subst h3
        simp [recArg, h2] at hl
    | int kk =>
      exfalso
      simp only [dxArg] at h3
      split at h3
      · rename_i k' e hn
        cases hkk : keq kk k' with
        | false => rw [hkk] at h3; cases h3
        | true =>
          rw [hkk, cond_true, Option.some.injEq] at h3
          subst h3
          simp [recArg, h2] at hl
      · cases h3
    | bool =>
      exfalso
      simp only [dxArg] at h3
      obtain ⟨b, _, rfl⟩ := Option.map_eq_some_iff.1 h3
      simp [recArg, h2] at hl
    | obj kk =>
      exfalso
      simp only [dxArg] at h3
      obtain ⟨d', _, rfl⟩ := Option.map_eq_some_iff.1 h3
      simp [recArg, h2] at hl
    | vw kk =>
      exfalso
      simp only [dxArg, dxArgV] at h3
      split at h3
      · obtain rfl := Option.some.inj h3
        simp [recArg, h2] at hl
      · split at h3
        · rename_i k' _
          cases hkk : Nat.beq kk k' with
          | false => rw [hkk] at h3; cases h3
          | true =>
            rw [hkk, cond_true, Option.some.injEq] at h3
            subst h3
            simp [recArg, h2] at hl
        · cases h3
      · cases h3
    | fb fs =>
      exfalso
      obtain rfl := dxArgF_eq h3
      simp [recArg, h2] at hl
theorem HR.below {E : Env} {h : H} {B : Bd} {w w' : World} (r : HR E h B w) (b : Below w.heap.size w w') : HR E h B w' := by
  refine ⟨Nat.le_trans r.low b.size, fun c x hx => ?_, r.inj, r.bnd, fun c m hm => ⟨(r.mps c m hm).1, by rw [b.block _ (r.mlt hm)]; exact (r.mps c m hm).2⟩, r.lst.world b.size fun k hk _ => b.block k hk⟩
  obtain ⟨h1, sp, h2, h3⟩ := r.blk c x hx
  exact ⟨h1, sp, by rw [b.block _ (r.lt hx), h2], h3⟩
end
/-! ### A call of a function of which it is told -/
def findCon : List Con → FuncId → Option Con
  | [], _ => none
  | c :: r, f => bif Nat.beq c.f f then some c else findCon r f
theorem findCon_mem : ∀ {cs : List Con} {f : FuncId} {c : Con}, findCon cs f = some c → c ∈ cs ∧ c.f = f
  | [], f, c, h => by simp [findCon] at h
  | d :: r, f, c, h => by
    simp only [findCon] at h
    cases hd : Nat.beq d.f f with
    | true =>
      rw [hd, cond_true, Option.some.injEq] at h
      subst h
      exact ⟨List.mem_cons_self, Nat.eq_of_beq_eq_true hd⟩
    | false =>
      rw [hd, cond_false] at h
      exact ⟨List.mem_cons_of_mem _ (findCon_mem h).1, (findCon_mem h).2⟩
def kinded (ks : List FK) : Bool := ks.all fun k => match k with
  | .list [] => false
  | _ => true
/-! #### What is eaten -/
section
variable {E : Env} {h : H} {B : Bd} {w : World}
theorem eat_one (r : HR E h B w) {k : FK} {x : AV} {d : DX} (hd : dxArg h k x = some d) {avs : List AV} {dxs : List DX} {j : Nat} (ha : avs[j]? = some x) (hx : dxs[j]? = some d) :
    eatF (recArg E avs dxs) j k = (eatR k d).flatMap (Rs.fp E) := by
  cases k with
  | obj kk =>
    simp only [dxArg] at hd
    obtain ⟨d', h1, rfl⟩ := Option.map_eq_some_iff.1 hd
    simp only [eatF, eatR, ← rsOf_fp]
    simp [recArg, hx]
  | io kk =>
    simp only [dxArg] at hd
    obtain ⟨d', h1, rfl⟩ := Option.map_eq_some_iff.1 hd
    simp only [eatF, eatR, ← rsOf_fp]
    simp [recArg, hx]
  | own ks e =>
    rcases dxArgO_some hd with ⟨b, i, rfl, rfl, _⟩ | ⟨rfl, rfl⟩
    · simp [eatF, eatR, Rs.fp, ownFp, recArg, ha]
    · simp [eatF, eatR, ownFp, recArg, ha]
  | _ => simp only [eatF]; cases d <;> rfl
theorem eat_fp (r : HR E h B w) {avs : List AV} {all : List DX} : ∀ {ks : List FK} {xs : List AV} {ds : List DX} {s : Nat}, dxArgs h ks xs = some ds → (∀ j : Nat, avs[s + j]? = xs[j]?) → (∀ j : Nat, all[s + j]? = ds[j]?) → eatFs (recArg E avs all) ks s = (eatRs ks ds).flatMap (Rs.fp E)
  | [], [], ds, s, hd, _, _ => by simp only [dxArgs, Option.some.injEq] at hd; subst hd; rfl
  | k :: ks, x :: xs, ds, s, hd, hx, ha => by
    simp only [dxArgs] at hd
    split at hd
    · rename_i d l h1 h2
      obtain rfl := Option.some.inj hd
      have ih := eat_fp r (ks := ks) (xs := xs) (ds := l) (s := s + 1) h2 (fun j => by have := hx (j + 1); simpa [Nat.add_assoc, Nat.add_comm 1 j] using this) (fun j => by have := ha (j + 1); simpa [Nat.add_assoc, Nat.add_comm 1 j] using this)
      rw [eatFs, eatRs, List.flatMap_append, ih, eat_one r h1 (j := s) (by simpa using hx 0) (by simpa using ha 0)]
    · cases hd
  | [], _ :: _, ds, s, hd, _, _ => by simp [dxArgs] at hd
  | _ :: _, [], ds, s, hd, _, _ => by simp [dxArgs] at hd
end
theorem eatRs_elim : ∀ {ks : List FK} {ds : List DX} {a : Rs}, a ∈ eatRs ks ds → ∃ (j : Nat) (k : FK) (d : DX), ks[j]? = some k ∧ ds[j]? = some d ∧ a ∈ eatR k d
  | [], ds, a, h => by cases ds <;> simp [eatRs] at h
  | x :: ks, [], a, h => by simp [eatRs] at h
  | x :: ks, y :: ds, a, h => by
    simp only [eatRs, List.mem_append] at h
    rcases h with h | h
    · exact ⟨0, x, y, rfl, rfl, h⟩
    · obtain ⟨j, k, d, h1, h2, h3⟩ := eatRs_elim h
      exact ⟨j + 1, k, d, by simpa using h1, by simpa using h2, h3⟩
def allLs : List Rs → Bool
  | [] => true
  | a :: l => a.isLs && allLs l
theorem allLs_mem : ∀ {l : List Rs}, allLs l = true → ∀ a ∈ l, a.isLs = true
  | a :: l, h, x, hx => by
    simp only [allLs, Bool.and_eq_true] at h
    rcases List.mem_cons.1 hx with rfl | hx
    · exact h.1
    · exact allLs_mem h.2 x hx
def eatH (l : List Rs) (h : H) : H := bif allLs l then eatAll l h else eatAll l (dropVw h)
/-- What is handed on to be looked at isn't eaten. -/
def vwHit (l : List Rs) (h : H) : FK → AV → Bool
  | .vw _, .ob b j _ => match lk h b j with
    | .ov _ => false
    | .obj _ _ _ => l.any fun a => match a with
      | .at b' j' _ => Nat.beq b' b && Nat.beq j' j
      | _ => false
    | .vw _ => !(allLs l)
    | _ => true
  | _, _ => false
def vwOk (l : List Rs) (h : H) : List FK → List AV → Bool
  | k :: ks, x :: xs => !(vwHit l h k x) && vwOk l h ks xs
  | _, _ => true
theorem vwOk_get {l : List Rs} {h : H} : ∀ {ks : List FK} {xs : List AV} {j : Nat} {k : FK} {x : AV}, vwOk l h ks xs = true → ks[j]? = some k → xs[j]? = some x → vwHit l h k x = false
  | [], xs, j, k, x, _, h, _ => by simp at h
  | y :: ks, [], j, k, x, _, _, h => by simp at h
  | y :: ks, z :: xs, 0, k, x, h, h1, h2 => by
    simp only [List.getElem?_cons_zero, Option.some.injEq] at h1 h2
    subst h1; subst h2
    simp only [vwOk, Bool.and_eq_true, Bool.not_eq_true'] at h
    exact h.1
  | y :: ks, z :: xs, j + 1, k, x, h, h1, h2 => by
    simp only [vwOk, Bool.and_eq_true] at h
    exact vwOk_get (ks := ks) (xs := xs) (j := j) h.2 (by simpa using h1) (by simpa using h2)
/-- A list that is handed on isn't one that is eaten. -/
def lsHit (l : List Rs) : FK → AV → Bool
  | .list _, .ls b j => l.any (rseq (.ls b j))
  | .list _, .sl b _ _ _ => l.any (rseq (.nd b))
  | _, _ => false
def lsOk (l : List Rs) : List FK → List AV → Bool
  | k :: ks, x :: xs => !(lsHit l k x) && lsOk l ks xs
  | _, _ => true
theorem lsOk_get {l : List Rs} : ∀ {ks : List FK} {xs : List AV} {j : Nat} {k : FK} {x : AV}, lsOk l ks xs = true → ks[j]? = some k → xs[j]? = some x → lsHit l k x = false
  | [], xs, j, k, x, _, h, _ => by simp at h
  | y :: ks, [], j, k, x, _, _, h => by simp at h
  | y :: ks, z :: xs, 0, k, x, h, h1, h2 => by
    simp only [List.getElem?_cons_zero, Option.some.injEq] at h1 h2
    subst h1; subst h2
    simp only [lsOk, Bool.and_eq_true, Bool.not_eq_true'] at h
    exact h.1
  | y :: ks, z :: xs, j + 1, k, x, h, h1, h2 => by
    simp only [lsOk, Bool.and_eq_true] at h
    exact lsOk_get (ks := ks) (xs := xs) (j := j) h.2 (by simpa using h1) (by simpa using h2)
def fbsOk (l : List Rs) : List FK → List AV → Bool
  | .fb _ :: ks, .ptr b _ :: xs => !(l.any (rseq (.nd b))) && fbsOk l ks xs
  | _ :: ks, _ :: xs => fbsOk l ks xs
  | _, _ => true
theorem fbsOk_get {l : List Rs} : ∀ {ks : List FK} {xs : List AV} {j : Nat} {fs : List (Option FuncId)} {b o : Nat}, fbsOk l ks xs = true → ks[j]? = some (.fb fs) → xs[j]? = some (.ptr b o) → Rs.nd b ∉ l
  | [], xs, j, fs, b, o, _, h, _ => by simp at h
  | x :: ks, [], j, fs, b, o, _, _, h => by simp at h
  | x :: ks, y :: xs, 0, fs, b, o, h, h1, h2 => by
    simp only [List.getElem?_cons_zero, Option.some.injEq] at h1 h2
    subst h1; subst h2
    simp only [fbsOk, Bool.and_eq_true, Bool.not_eq_true'] at h
    intro hm
    exact List.any_eq_false.1 h.1 _ hm (rseq_refl _)
  | x :: ks, y :: xs, j + 1, fs, b, o, h, h1, h2 => by
    refine fbsOk_get (ks := ks) (xs := xs) (j := j) ?_ (by simpa using h1) (by simpa using h2)
    cases x <;> first | exact h | skip
    cases y <;> first | exact h | (simp only [fbsOk, Bool.and_eq_true] at h; exact h.2)
theorem fitF_get {E : Env} : ∀ {fs : List (Option FuncId)} {xs : List AV}, fitF fs xs = true → ∀ (o : Nat) (f : FuncId), fs[o]? = some (some f) → ∃ x, xs[o]? = some x ∧ cv E x = .func (.func f) #[] #[]
  | [], xs, _, o, f, h => by simp at h
  | none :: fs, [], hf, o, f, h => by simp [fitF] at hf
  | some g :: fs, [], hf, o, f, h => by simp [fitF] at hf
  | none :: fs, x :: xs, hf, 0, f, h => by simp at h
  | none :: fs, x :: xs, hf, o + 1, f, h => by simpa using fitF_get (E := E) (fs := fs) (xs := xs) hf o f (by simpa using h)
  | some g :: fs, x :: xs, hf, 0, f, h => by
    simp only [List.getElem?_cons_zero, Option.some.injEq] at h
    subst h
    simp only [fitF, Bool.and_eq_true] at hf
    refine ⟨x, rfl, ?_⟩
    have h1 := hf.1
    exact isFn_eq h1
  | some g :: fs, x :: xs, hf, o + 1, f, h => by
    simp only [fitF, Bool.and_eq_true] at hf
    simpa using fitF_get (E := E) (fs := fs) (xs := xs) hf.2 o f (by simpa using h)
def eatChk (h : H) (ins : List FK) (avs : List AV) (dxs : List DX) : Bool :=
  apartR (eatRs ins dxs) && vwOk (eatRs ins dxs) h ins avs && fbsOk (eatRs ins dxs) ins avs && lsOk (eatRs ins dxs) ins avs
section
variable {E : Env} {h : H} {B : Bd} {w : World}
theorem eat_valid (r : HR E h B w) {ins : List FK} {avs : List AV} {dxs : List DX} (hd : dxArgs h ins avs = some dxs) : ∀ a ∈ eatRs ins dxs, a.ok h := by
  intro a ha
  obtain ⟨j, k, d, h1, h2, h3⟩ := eatRs_elim ha
  obtain ⟨x, d', g1, g2, g3⟩ := dxArgs_get hd j _ h1
  rw [h2] at g2
  obtain rfl := Option.some.inj g2
  cases k with
  | obj kk =>
    simp only [dxArg] at g3
    obtain ⟨d2, g4, rfl⟩ := Option.map_eq_some_iff.1 g3
    exact (objOf_ok r g4).2.2.1 a h3
  | io kk =>
    simp only [dxArg] at g3
    obtain ⟨d2, g4, rfl⟩ := Option.map_eq_some_iff.1 g3
    exact (objOf_ok r g4).2.2.1 a h3
  | own ks e =>
    rcases dxArgO_some g3 with ⟨b, i, rfl, rfl, hl⟩ | ⟨rfl, rfl⟩
    · obtain rfl := List.mem_singleton.1 h3
      exact ⟨ks, e, hl⟩
    · cases h3
  | _ => cases d <;> cases h3
theorem eat_eq (r : HR E h B w) {ins : List FK} {avs : List AV} {dxs : List DX} (hd : dxArgs h ins avs = some dxs) : eatFs (recArg E avs dxs) ins 0 = (eatRs ins dxs).flatMap (Rs.fp E) :=
  eat_fp r hd (fun j => by rw [Nat.zero_add]) (fun j => by rw [Nat.zero_add])
theorem dxArgO_ok (r : HR E h B w) {ks : List CK} {e : Nat} {x : AV} {d : DX} (hd : dxArg h (.own ks e) x = some d) {avs : List AV} {dxs : List DX} {j : Nat} (ha : avs[j]? = some x) (hx : dxs[j]? = some d) : OOk 0 w (recArg E avs dxs) j ks e := by
  rcases dxArgO_some hd with ⟨b, i, rfl, rfl, hl⟩ | ⟨rfl, rfl⟩
  · have ok := r.lst.ok b i
    rw [hl] at ok
    have el : (recArg E avs dxs).l j = (E.r b).l i := by simp [recArg, hx]
    have ea : (recArg E avs dxs).a j = (E.r b).a i := by simp [recArg, ha]
    have em : (recArg E avs dxs).m j = (E.r b).m i := by simp [recArg, ha]
    exact ⟨by rw [el]; exact ok.wf, by simp only [Rec.lv, el, ea, em]; exact ok.own⟩
  · have el : (recArg E avs dxs).l j = [] := by simp [recArg, hx]
    have em : (recArg E avs dxs).m j = 0 := by simp [recArg, ha]
    exact ⟨fun y hy => by rw [el] at hy; simp at hy, .inl ⟨el, em⟩⟩
/-- What lies in a list that is handed on isn't eaten. -/
theorem list_apart (r : HR E h B w) {ins : List FK} {avs : List AV} {dxs : List DX} (hd : dxArgs h ins avs = some dxs) (hls : lsOk (eatRs ins dxs) ins avs = true) {j : Nat} {l : List CK} (hj : ins[j]? = some (.list l)) {n : Nat} (hn : (LK.rd l true).occ (recArg E avs dxs) j n) : n ∉ (eatRs ins dxs).flatMap (Rs.fp E) := by
  intro hE
  have valid := eat_valid r hd
  obtain ⟨x, d, h1, h2, h3⟩ := dxArgs_get hd j _ hj
  obtain ⟨a, ha, hna⟩ := List.mem_flatMap.1 hE
  simp only [dxArg, dxArgL] at h3
  split at h3
  · rename_i b i
    split at h3
    · rename_i ks' hks
      cases hc : leq ckeq l ks' with
      | false => rw [hc] at h3; cases h3
      | true =>
        rw [hc, cond_true, Option.some.injEq] at h3
        subst h3
        have hn' : (E.r b).l i ≠ [] ∧ ((E.r b).a i).map (·.block) = some n := by simpa [LK.occ, recArg, h1, h2] using hn
        have ho : (lk h b i).occ (E.r b) i n := by
          cases hl : lk h b i with
          | rd ks old => exact hn'
          | own ks e =>
            refine ⟨fun hm => hn'.1 ?_, hn'.2⟩
            have ok := r.lst.ok b i
            rw [hl] at ok
            have := (OOk.rok ok).cap
            exact List.eq_nil_of_length_eq_zero (by omega)
          | _ => rw [hl] at hks; cases hks
        cases a with
        | «at» b' j' p =>
          obtain ⟨k, ps, os, hl', hp⟩ := valid _ ha
          rcases r.lst.alo b' j' k ps os hl' b i n (List.mem_flatMap.2 ⟨p, hp, hna⟩) ho with ⟨rfl, rfl⟩ | hv
          · rw [hl'] at hks; cases hks
          · cases hl : lk h b i <;> rw [hl] at hv hks <;> first | exact hv | cases hks
        | nd id =>
          obtain ⟨y, hy⟩ := valid _ ha
          exact (r.lst.lt b i n ho).2 id y hy (List.mem_singleton.1 hna).symm
        | ls b' j' =>
          obtain ⟨ks2, e2, hl'⟩ := valid _ ha
          obtain ⟨rfl, rfl⟩ := r.lst.sep b' j' ks2 e2 hl' b i n (by rw [hl']; exact ownFp_occ.1 hna) ho
          exact List.any_eq_false.1 (lsOk_get hls hj h1) _ ha (rseq_refl _)
    · cases h3
  · obtain rfl := Option.some.inj h3
    simp [LK.occ, recArg, h2] at hn
  · rename_i b o k c
    split at h3
    · rename_i y hy
      have hn2 : E.s b = n := by
        have := hn.2
        simpa [recArg, h1] using this
      cases a with
      | «at» b' j' p =>
        obtain ⟨k, ps, os, hl', hp⟩ := valid _ ha
        exact (r.lst.lt b' j' n (by rw [hl']; exact List.mem_flatMap.2 ⟨p, hp, hna⟩)).2 b y hy hn2
      | nd id =>
        have e' : n = E.s id := List.mem_singleton.1 hna
        have : ∃ z, hget h id = some z := valid _ ha
        obtain ⟨z, hz⟩ := this
        have := r.inj b id y z hy hz (hn2.trans e')
        subst this
        exact List.any_eq_false.1 (lsOk_get hls hj h1) _ ha (rseq_refl _)
      | ls b' j' =>
        obtain ⟨ks2, e2, hl'⟩ := valid _ ha
        exact (r.lst.lt b' j' n (by rw [hl']; exact ownFp_occ.1 hna)).2 b y hy hn2
    · cases h3
  · cases h3
/-- What lies in a view isn't eaten. -/
theorem view_apart (r : HR E h B w) {ins : List FK} {avs : List AV} {dxs : List DX} (hd : dxArgs h ins avs = some dxs) (hvw : vwOk (eatRs ins dxs) h ins avs = true) {j k : Nat} (hj : ins[j]? = some (.vw k)) {n : Nat} (hn : n ∈ ((recArg E avs dxs).t j).fp) : n ∉ (eatRs ins dxs).flatMap (Rs.fp E) := by
  intro hE
  have valid := eat_valid r hd
  obtain ⟨x, d, h1, h2, h3⟩ := dxArgs_get hd j _ hj
  obtain ⟨a, ha, hna⟩ := List.mem_flatMap.1 hE
  have hit := vwOk_get hvw hj h1
  simp only [dxArg, dxArgV] at h3
  split at h3
  · obtain rfl := Option.some.inj h3
    simp [recArg, h2, DE.den, Dat.fp] at hn
  · rename_i b i p
    split at h3
    · rename_i k' hk
      cases hc : Nat.beq k k' with
      | false => rw [hc] at h3; cases h3
      | true =>
        rw [hc, cond_true, Option.some.injEq] at h3
        subst h3
        have et : (recArg E avs dxs).t j = ((E.r b).t i).sub p := by simp [recArg, h2, DE.den]
        rw [et] at hn
        obtain ⟨_, g2, g3⟩ := readK_ok hk (r.lst.ok b i)
        have ho := g2 n hn
        cases a with
        | «at» b' j' p' =>
          obtain ⟨k2, ps, os, hl', hp⟩ := valid _ ha
          rcases r.lst.alo b' j' k2 ps os hl' b i n (List.mem_flatMap.2 ⟨p', hp, hna⟩) ho with ⟨rfl, rfl⟩ | hv
          · simp only [vwHit, hl'] at hit
            have := List.any_eq_false.1 hit _ ha
            simp at this
          · cases hl : lk h b i with
            | vw k3 =>
              simp only [vwHit, hl, Bool.not_eq_false'] at hit
              have := allLs_mem hit _ ha
              cases this
            | _ => rw [hl] at hv; exact hv
        | nd id =>
          obtain ⟨y, hy⟩ := valid _ ha
          exact (r.lst.lt b i n ho).2 id y hy (List.mem_singleton.1 hna).symm
        | ls b' j' =>
          obtain ⟨ks2, e2, hl'⟩ := valid _ ha
          obtain ⟨rfl, rfl⟩ := r.lst.sep b' j' ks2 e2 hl' b i n (by rw [hl']; exact ownFp_occ.1 hna) ho
          exact g3 ks2 e2 hl'
    · cases h3
  · cases h3
theorem in_ok (r : HR E h B w) {ins : List FK} {avs : List AV} {dxs : List DX} (hd : dxArgs h ins avs = some dxs) (hkd : kinded ins = true) (hap : apartR (eatRs ins dxs) = true) (hvw : vwOk (eatRs ins dxs) h ins avs = true) (hfb : fbsOk (eatRs ins dxs) ins avs = true) (hls : lsOk (eatRs ins dxs) ins avs = true) : InOk (recArg E avs dxs) ins w := by
  have valid := eat_valid r hd
  have efp := eat_eq (E := E) r hd
  refine ⟨fun j ks hj => ?_, fun j k hj => ?_, fun j k hj => ?_, fun j l e hj => ?_, by rw [efp]; exact rs_nodup r hap valid, fun j l hj n hn hE => ?_, fun j k hj n hn hE => ?_, fun j fs hj => ?_⟩
  · obtain ⟨x, d, h1, h2, h3⟩ := dxArgs_get hd j _ hj
    refine ⟨dxArg_rok r h3 h1 h2, fun e => ?_⟩
    subst e
    have := List.all_eq_true.1 hkd _ (List.mem_of_getElem? hj)
    simp at this
  · obtain ⟨x, d, h1, h2, h3⟩ := dxArgs_get hd j _ hj
    simp only [dxArg, dxArgV] at h3
    split at h3
    · obtain rfl := Option.some.inj h3
      have : (recArg E avs dxs).t j = .leaf := by simp [recArg, h2, DE.den]
      rw [this]; trivial
    · rename_i b i p
      split at h3
      · rename_i k' hk
        cases hc : Nat.beq k k' with
        | false => rw [hc] at h3; cases h3
        | true =>
          rw [hc, cond_true, Option.some.injEq] at h3
          subst h3
          have : (recArg E avs dxs).t j = ((E.r b).t i).sub p := by simp [recArg, h2, DE.den]
          rw [this, Nat.eq_of_beq_eq_true hc]
          exact (readK_ok hk (r.lst.ok b i)).1
      · cases h3
    · cases h3
  · rcases hj with hj | hj
    · obtain ⟨x, d, h1, h2, h3⟩ := dxArgs_get hd j _ hj
      simp only [dxArg] at h3
      obtain ⟨d2, h4, rfl⟩ := Option.map_eq_some_iff.1 h3
      have : (recArg E avs dxs).t j = d2.den E := by simp [recArg, h2]
      rw [this]; exact (objOf_ok r h4).1
    · obtain ⟨x, d, h1, h2, h3⟩ := dxArgs_get hd j _ hj
      simp only [dxArg] at h3
      obtain ⟨d2, h4, rfl⟩ := Option.map_eq_some_iff.1 h3
      have : (recArg E avs dxs).t j = d2.den E := by simp [recArg, h2]
      rw [this]; exact (objOf_ok r h4).1
  · obtain ⟨x, d, h1, h2, h3⟩ := dxArgs_get hd j _ hj
    exact dxArgO_ok r h3 h1 h2
  · unfold Eaten at hE
    rw [efp] at hE
    exact list_apart r hd hls hj hn hE
  · unfold Eaten at hE
    rw [efp] at hE
    exact view_apart r hd hvw hj hn hE
  · obtain ⟨x, d, h1, h2, h3⟩ := dxArgs_get hd j _ hj
    simp only [dxArg, dxArgF] at h3
    split at h3
    · rename_i b
      split at h3
      · rename_i y hy
        cases hc : fitF fs y.cells with
        | false => rw [hc] at h3; cases h3
        | true =>
          have ea : (recArg E avs dxs).a j = some ⟨E.s b, 0, none⟩ := by simp [recArg, h1]
          refine ⟨⟨E.s b, ea, r.lt hy, fun o f ho => ?_⟩, fun n hn hE => ?_⟩
          · obtain ⟨z, hz, e⟩ := fitF_get (E := E) hc o f ho
            rw [← e]; exact r.cell hy hz
          · have hn : ((recArg E avs dxs).a j).map (·.block) = some n := hn
            rw [ea] at hn
            have e : E.s b = n := Option.some.inj hn
            unfold Eaten at hE
            rw [efp] at hE
            obtain ⟨a, ha, hna⟩ := List.mem_flatMap.1 hE
            exact Rs.sep r (a := .nd b) ⟨y, hy⟩ (valid a ha) (fun q => fbsOk_get hfb hj h1 (by rw [q]; exact ha)) n (by rw [← e]; exact List.mem_singleton.2 rfl) hna
      · cases h3
    · rename_i b i
      split at h3
      · rename_i gs hl
        cases hc : leq oeqN fs gs with
        | false => rw [hc] at h3; cases h3
        | true =>
          have eg := leq_eq (fun _ _ => oeqN_eq) _ _ hc
          subst eg
          have ea : (recArg E avs dxs).a j = (E.r b).a i := by simp [recArg, h1]
          have ok := r.lst.ok b i
          rw [hl] at ok
          refine ⟨?_, fun n hn hE => ?_⟩
          · obtain ⟨g, g1, g2, g3⟩ := ok
            exact ⟨g, ea.trans g1, g2, g3⟩
          · have ho : (lk h b i).occ (E.r b) i n := by
              rw [hl]
              have hn : ((recArg E avs dxs).a j).map (·.block) = some n := hn
              rw [ea] at hn; exact hn
            unfold Eaten at hE
            rw [efp] at hE
            obtain ⟨a, ha, hna⟩ := List.mem_flatMap.1 hE
            cases a with
            | «at» b' j' p =>
              obtain ⟨k, ps, os, hl', hp⟩ := valid _ ha
              rcases r.lst.alo b' j' k ps os hl' b i n (List.mem_flatMap.2 ⟨p, hp, hna⟩) ho with ⟨rfl, rfl⟩ | hv
              · rw [hl] at hl'; cases hl'
              · rw [hl] at hv; exact hv
            | nd id =>
              obtain ⟨y, hy⟩ := valid _ ha
              exact (r.lst.lt b i n ho).2 id y hy (List.mem_singleton.1 hna).symm
            | ls b' j' =>
              obtain ⟨ks2, e2, hl'⟩ := valid _ ha
              obtain ⟨rfl, rfl⟩ := r.lst.sep b' j' ks2 e2 hl' b i n (by rw [hl']; exact ownFp_occ.1 hna) ho
              rw [hl] at hl'; cases hl'
      · cases h3
    · cases h3
theorem less_eatH (l : List Rs) (h : H) : Less h (eatH l h) := by
  unfold eatH
  cases allLs l with
  | true => exact less_eatAll l _
  | false => exact (less_dropVw h).trans (less_eatAll l _)
theorem eatH_free (r : HR E h B w) {l : List Rs} (hap : apartR l = true) (ok : ∀ a ∈ l, a.ok h) : ∀ n ∈ l.flatMap (Rs.fp E), Free E (eatH l h) n := by
  intro n hn
  unfold eatH
  cases hl : allLs l with
  | true =>
    refine eatAll_free r (fun ⟨a, ha, hf⟩ => ?_) hap ok n hn
    rw [allLs_mem hl a ha] at hf; cases hf
  | false =>
    rw [cond_false]
    refine eatAll_free ((less_dropVw h).hr r) (fun _ => noVw_drop h) hap (fun a ha => ?_) n hn
    have := ok a ha
    cases a with
    | «at» b j p =>
      obtain ⟨k, ps, os, h1, h2⟩ := this
      exact ⟨k, ps, os, by rw [dropVw_lk, h1]; rfl, h2⟩
    | nd id =>
      obtain ⟨x, hx⟩ := this
      exact ⟨x, by rw [dropVw_get]; exact hx⟩
    | ls b j =>
      obtain ⟨ks, e, h1⟩ := this
      exact ⟨ks, e, by rw [dropVw_lk, h1]; rfl⟩
end
/-- What is handed in to be turned is known by its new name from then on. -/
def alOf (id n : Nat) (avs : List AV) : Nat → List Nat → List LK
  | _, [] => []
  | i, j :: r => (match avs[j]? with
    | some (.ob b k p) => .al (.ob b k p) (.ob id (n + i) [])
    | some (.ptr b o) => .al (.ptr b o) (.ob id (n + i) [])
    | _ => .gone) :: alOf id n avs (i + 1) r
def nilOf (q : List Fact) : Option AV → Option Bool
  | some (.ob b j p) => seeIs q (.nil b j p)
  | some (.ptr _ _) => some false
  | some (.val (.pointer none)) => some true
  | _ => none
def nilFs (id n : Nat) (q0 : List Fact) (avs : List AV) : Nat → List Nat → List Fact → List Fact
  | _, [], q => q
  | i, j :: r, q => match nilOf q0 avs[j]? with
    | some v => .is (.nil id (n + i) []) v :: nilFs id n q0 avs (i + 1) r q
    | none => nilFs id n q0 avs (i + 1) r q
def conCall0 (cs : List Con) : CallF := fun f args h q id => match findCon cs f with
  | some c => match argsCells c.ins args with
    | some avs => match dxArgs h (flatS c.ins) avs with
      | some dxs => bif !(has h id) && kinded (flatS c.ins) && (noList c.outs.flat || c.fresh || avs.all (plainArg h)) && eatChk h (flatS c.ins) avs dxs then
          some ⟨[⟨c.outs.tv id, hput (eatH (eatRs (flatS c.ins) dxs) h) id (.lst (stsOf (bif c.fresh then false else avs.any (oldArg h)) c.fo ++ alOf id c.outs.flat.length avs 0 (iosP (flatS c.ins) 0))), .rel c.f dxs id c.fo :: nilFs id c.outs.flat.length q avs 0 (iosP (flatS c.ins) 0) q⟩], bif c.total then [] else [.npre c.f dxs :: q]⟩
        else none
      | none => none
    | none => none
  | none => none
theorem sts_get (old : Bool) (ks : List FK) (als : List LK) (hal : ∀ j, als.getD j .gone = .gone ∨ ∃ x y, als.getD j .gone = .al x y) (j : Nat) :
    (j < ks.length ∧ (stsOf old ks ++ als).getD j .gone = (stsOf old ks).getD j .gone) ∨ (ks.length ≤ j ∧ (stsOf old ks ++ als).getD j .gone = als.getD (j - ks.length) .gone) := by
  have hl := stsOf_len old ks
  by_cases hj : j < ks.length
  · left
    refine ⟨hj, ?_⟩
    simp only [List.getD_eq_getElem?_getD]
    rw [List.getElem?_append_left (by omega)]
  · right
    refine ⟨by omega, ?_⟩
    simp only [List.getD_eq_getElem?_getD]
    rw [List.getElem?_append_right (by omega), hl]
theorem alOf_get {id n : Nat} {avs : List AV} : ∀ {l : List Nat} {s i : Nat}, (alOf id n avs s l).getD i .gone = .gone ∨ ∃ j x, l[i]? = some j ∧ avs[j]? = some x ∧ (alOf id n avs s l).getD i .gone = .al x (.ob id (n + (s + i)) [])
  | [], s, i => .inl rfl
  | j :: r, s, 0 => by
    simp only [alOf, List.getD_cons_zero]
    split
    · rename_i b k p hx
      exact .inr ⟨j, _, rfl, hx, rfl⟩
    · rename_i b o hx
      exact .inr ⟨j, _, rfl, hx, rfl⟩
    · exact .inl rfl
  | j :: r, s, i + 1 => by
    have := alOf_get (id := id) (n := n) (avs := avs) (l := r) (s := s + 1) (i := i)
    rw [show s + (i + 1) = s + 1 + i by omega]
    simpa [alOf] using this
theorem nilOf_eq {T : Tab} {E : Env} {q : List Fact} (hq : PC T E q) {x : AV} {v : Bool} (h : nilOf q (some x) = some v) {d : Dat} (hd : cv E x = .pointer d.addr) : d.isLeaf = v := by
  cases x with
  | ob b j p =>
    simp only [nilOf] at h
    have h1 : (((E.r b).t j).sub p).isLeaf = v := seeIs_eq h hq
    simp only [cv, Value.pointer.injEq] at hd
    rw [← Dat.addr_isNone, ← hd, Dat.addr_isNone]; exact h1
  | ptr b o =>
    simp only [nilOf, Option.some.injEq] at h
    simp only [cv, Value.pointer.injEq] at hd
    rw [← Dat.addr_isNone, ← hd, ← h]; rfl
  | val u =>
    cases u with
    | pointer a =>
      cases a with
      | none =>
        simp only [nilOf, Option.some.injEq] at h
        simp only [cv, Value.pointer.injEq] at hd
        rw [← Dat.addr_isNone, ← hd, ← h]; rfl
      | some a => simp [nilOf] at h
    | _ => simp [nilOf] at h
  | _ => simp [nilOf] at h
theorem nilFs_ok {T : Tab} {E E' : Env} {h : H} {id n : Nat} {q0 : List Fact} {avs : List AV} (hq0 : PC T E q0) : ∀ {l : List Nat} {s : Nat} {q : List Fact}, (∀ i j, l[i]? = some j → ∃ x, avs[j]? = some x ∧ cv E x = .pointer ((E'.r id).t (n + (s + i))).addr) → has h id = true → bdQ h q = true → PC T E' q → bdQ h (nilFs id n q0 avs s l q) = true ∧ PC T E' (nilFs id n q0 avs s l q)
  | [], s, q, _, _, hb, hp => ⟨hb, hp⟩
  | j :: r, s, q, ha, hi, hb, hp => by
    have ih := nilFs_ok (h := h) (E' := E') (id := id) (n := n) (avs := avs) hq0 (l := r) (s := s + 1) (q := q) (fun i j hj => by rw [show s + 1 + i = s + (i + 1) by omega]; exact ha (i + 1) j (by simpa using hj)) hi hb hp
    simp only [nilFs]
    split
    · rename_i v hv
      obtain ⟨x, hx, hc⟩ := ha 0 j rfl
      rw [hx] at hv
      refine ⟨?_, ?_, ih.2⟩
      · simp only [bdQ, List.all_cons, Bool.and_eq_true]
        exact ⟨hi, ih.1⟩
      · exact nilOf_eq hq0 hv hc
    · exact ih
theorem conCall0_ok {P : Program} {T : Tab} {cs : List Con} (hcs : ∀ c ∈ cs, ConS P T c) (B : Bd) : CallS P T B (conCall0 cs) := by
  intro f args h q id R hR E w hb hr hqb hqd nb
  unfold conCall0 at hR
  split at hR
  rotate_left
  · cases hR
  rename_i c hc
  split at hR
  rotate_left
  · cases hR
  rename_i avs hav
  split at hR
  rotate_left
  · cases hR
  rename_i dxs hdx
  cases hck : (!(has h id) && kinded (flatS c.ins) && (noList c.outs.flat || c.fresh || avs.all (plainArg h)) && eatChk h (flatS c.ins) avs dxs) with
  | false => rw [hck] at hR; cases hR
  | true =>
  rw [hck, cond_true] at hR
  obtain rfl := Option.some.inj hR
  simp only [Bool.and_eq_true, Bool.not_eq_true', eatChk] at hck
  obtain ⟨⟨⟨hid, hkd⟩, hsh⟩, ⟨⟨hap, hpl⟩, hfb⟩, hls⟩ := hck
  obtain ⟨hm, rfl⟩ := findCon_mem hc
  obtain ⟨hl1, hl2⟩ := dxArgs_len hdx
  have hdv : dvs (recArg E avs dxs) (flatS c.ins) 0 = dxs.map (DX.den E) := dvs_args hr hdx _ _ 0 (fun j => by rw [Nat.zero_add]) (fun j => by rw [Nat.zero_add]) hl2.symm
  have hval := argsCells_val (n := 0) hr hdx hav (fun j _ => by rw [Nat.zero_add]) (fun j _ => by rw [Nat.zero_add])
  have havb := argsCells_bd hav hb
  have hdb : dxs.all (DX.bd h) = true := dxArgs_bd hr hdx havb
  have valid := eat_valid hr hdx
  have efp := eat_eq (E := E) hr hdx
  rw [hval]
  have hin := in_ok hr hdx hkd hap hpl hfb hls
  refine (hcs c hm (recArg E avs dxs) w hin (fun ht => ?_)).mono ?_
  · rw [hdv]
    refine Classical.byContradiction fun hn => nb.self (q := .npre c.f dxs :: q) ?_ ⟨hn, hqd⟩
    rw [ht]; simp
  · rintro e w' ⟨r', rfl, hrel, hbel, hli, hob, how, hnd, hnb, hio⟩
    have less := less_eatH (eatRs (flatS c.ins) dxs) h
    have hr1 := less.hr hr
    have hid1 : has (eatH (eatRs (flatS c.ins) dxs) h) id = false := by rw [less.has]; exact hid
    have hX : ∀ n, Eaten (recArg E avs dxs) (flatS c.ins) n → Free E (eatH (eatRs (flatS c.ins) dxs) h) n ∧ ∃ cs e f, w.heap[n]? = some (.cells cs e f) := by
      intro n hn
      refine ⟨eatH_free hr hap valid n (by rw [← efp]; exact hn), ?_⟩
      obtain ⟨j, k, h1, h2⟩ := eatFs_elim hn
      rw [Nat.zero_add] at h2
      cases k with
      | obj k => exact (hin.obj j k (.inl h1)).cells n h2
      | io k => exact (hin.obj j k (.inr h1)).cells n h2
      | own l e => exact (hin.own j l e h1).cells n h2
      | _ => cases h2
    have hXB : ∀ n, Eaten (recArg E avs dxs) (flatS c.ins) n → B.free n := by
      intro n hn
      have hn : n ∈ eatFs (recArg E avs dxs) (flatS c.ins) 0 := hn
      rw [efp] at hn
      obtain ⟨a, ha, hna⟩ := List.mem_flatMap.1 hn
      exact Rs.free hr (valid a ha) n hna
    have hr' := hr1.turn hbel hX
    let old := bif c.fresh then false else avs.any (oldArg h)
    have hro : old = (bif c.fresh then false else avs.any (oldArg h)) := rfl
    let als := alOf id c.outs.flat.length avs 0 (iosP (flatS c.ins) 0)
    have hals : ∀ j, als.getD j .gone = .gone ∨ ∃ x y, als.getD j .gone = .al x y := fun j => by
      rcases alOf_get (id := id) (n := c.outs.flat.length) (avs := avs) (l := iosP (flatS c.ins) 0) (s := 0) (i := j) with h1 | ⟨_, x, _, _, h1⟩
      · exact .inl h1
      · exact .inr ⟨_, _, h1⟩
    have outF : ∀ n, (w.heap.size ≤ n ∨ Eaten (recArg E avs dxs) (flatS c.ins) n) → Free E (eatH (eatRs (flatS c.ins) dxs) h) n := by
      intro n hn
      rcases hn with hn | hn
      · refine ⟨fun d x hx he => ?_, fun d i ho => ?_⟩
        · have := hr1.lt hx; omega
        · have := (hr1.lst.lt d i n ho).1; omega
      · exact (hX n hn).1
    have outB : ∀ n, (w.heap.size ≤ n ∨ Eaten (recArg E avs dxs) (flatS c.ins) n) → B.free n := by
      intro n hn
      rcases hn with hn | hn
      · exact .inl (Nat.le_trans hr.low hn)
      · exact hXB n hn
    -- what a slot is
    have slot : ∀ j, ((stsOf old c.fo ++ als).getD j .gone = .gone) ∨ (∃ k, c.fo[j]? = some (.list k) ∧ (stsOf old c.fo ++ als).getD j .gone = .rd k old) ∨ (∃ k, c.fo[j]? = some (.obj k) ∧ (stsOf old c.fo ++ als).getD j .gone = .obj k [[]] []) ∨ (∃ k e, c.fo[j]? = some (.own k e) ∧ (stsOf old c.fo ++ als).getD j .gone = .own k e) ∨ (∃ x y, (stsOf old c.fo ++ als).getD j .gone = .al x y ∧ als.getD (j - c.fo.length) .gone = .al x y) := by
      intro j
      rcases sts_get old c.fo als hals j with ⟨_, h1⟩ | ⟨_, h1⟩
      · rw [h1]
        rcases stsOf_get old c.fo j with h2 | h2 | h2 | h2
        · exact .inr (.inl h2)
        · exact .inr (.inr (.inl h2))
        · exact .inr (.inr (.inr (.inl h2)))
        · exact .inl h2
      · rw [h1]
        rcases hals (j - c.fo.length) with h2 | ⟨x, y, h2⟩
        · exact .inl h2
        · exact .inr (.inr (.inr (.inr ⟨x, y, h2, h2⟩)))
    have slotO : ∀ {j k}, (stsOf old c.fo ++ als).getD j .gone = .obj k [[]] [] → c.fo[j]? = some (.obj k) := by
      intro j k hjk
      rcases slot j with h1 | ⟨k', h1, h2⟩ | ⟨k', h1, h2⟩ | ⟨k', e, h1, h2⟩ | ⟨x, y, h2, _⟩
      · rw [h1] at hjk; cases hjk
      · rw [h2] at hjk; cases hjk
      · rw [h2] at hjk; cases hjk; exact h1
      · rw [h2] at hjk; cases hjk
      · rw [h2] at hjk; cases hjk
    have slotW : ∀ {j k e}, (stsOf old c.fo ++ als).getD j .gone = .own k e → c.fo[j]? = some (.own k e) := by
      intro j k e hjk
      rcases slot j with h1 | ⟨k', h1, h2⟩ | ⟨k', h1, h2⟩ | ⟨k', e', h1, h2⟩ | ⟨x, y, h2, _⟩
      · rw [h1] at hjk; cases hjk
      · rw [h2] at hjk; cases hjk
      · rw [h2] at hjk; cases hjk
      · rw [h2] at hjk; cases hjk; exact h1
      · rw [h2] at hjk; cases hjk
    -- of one slot's blocks
    have one : ∀ {j n}, n ∈ eatFs r' c.fo 0 → ((stsOf old c.fo ++ als).getD j .gone).occ r' j n → ∃ k, c.fo[j]? = some k ∧ n ∈ eatF r' j k := by
      intro j n hn ho
      rcases slot j with h1 | ⟨k', h1, h2⟩ | ⟨k', h1, h2⟩ | ⟨k', e', h1, h2⟩ | ⟨x, y, h2, _⟩
      · rw [h1] at ho; exact ho.elim
      · rw [h2] at ho
        exact absurd hn ((hli j k' h1).2 n ho).2.1
      · rw [h2] at ho
        have ho : n ∈ fps (r'.t j) [[]] := ho
        rw [fps_one] at ho
        exact ⟨_, h1, ho⟩
      · rw [h2] at ho
        exact ⟨_, h1, ownFp_occ.2 ho⟩
      · rw [h2] at ho; exact ho.elim
    have hi2 : has (hput (eatH (eatRs (flatS c.ins) dxs) h) id (.lst (stsOf old c.fo ++ als))) id = true := by simp [has_put]
    have ag := ag_setR hid E r'
    have sub : Sub h (hput (eatH (eatRs (flatS c.ins) dxs) h) id (.lst (stsOf old c.fo ++ als))) := fun n hn => sub_put _ _ _ n (by rw [less.has]; exact hn)
    have ioV : ∀ i j, (iosP (flatS c.ins) 0)[i]? = some j → ∃ x, avs[j]? = some x ∧ bd h x = true ∧ cv E x = .pointer (r'.t (c.outs.flat.length + i)).addr := by
      intro i j hij
      obtain ⟨k, _, h1, _⟩ := iosP_get hij
      rw [Nat.sub_zero] at h1
      obtain ⟨x, d, g1, g2, g3⟩ := dxArgs_get hdx j _ h1
      refine ⟨x, g1, havb x (List.mem_of_getElem? g1), ?_⟩
      rw [(dxArg_val hr g3 g1 g2).1, hio i j hij]
      rfl
    have hrr : HR (E.setR id r') (hput (eatH (eatRs (flatS c.ins) dxs) h) id (.lst (stsOf old c.fo ++ als))) B w' := by
      refine hr'.lists hid1 r' _ (fun j => ?_) (fun j k hjk => ?_) (fun j k hjk => ?_) (fun j fs hjk => by
        exfalso
        rcases slot j with h1 | ⟨k', h1, h2⟩ | ⟨k', h1, h2⟩ | ⟨k', e', h1, h2⟩ | ⟨x, y, h2, _⟩
        · rw [h1] at hjk; cases hjk
        · rw [h2] at hjk; cases hjk
        · rw [h2] at hjk; cases hjk
        · rw [h2] at hjk; cases hjk
        · rw [h2] at hjk; cases hjk) (fun j ks e hjk => ?_) (fun j k hjk => ?_) (fun j x y hjk => ?_)
      · rcases slot j with h1 | ⟨ks, h1, h2⟩ | ⟨k, h1, h2⟩ | ⟨ks, e, h1, h2⟩ | ⟨x, y, h2, _⟩
        · exact .inl h1
        · refine .inr (.inr (.inr (.inr (.inr (.inr ⟨ks, old, h2, (hli j ks h1).1, fun n hn => ?_⟩)))))
          obtain ⟨h3, _, h4⟩ := (hli j ks h1).2 n hn
          have hnl : noList c.outs.flat = false := by
            cases hx : noList c.outs.flat with
            | false => rfl
            | true =>
              exfalso
              unfold Con.fo at h1
              by_cases hj : j < c.outs.flat.length
              · rw [List.getElem?_append_left hj] at h1
                exact absurd h1 (noList_get hx)
              · rw [List.getElem?_append_right (by omega)] at h1
                obtain ⟨_, e⟩ := iosK_obj h1
                cases e
          have h5 : (w.heap.size ≤ n ∨ Eaten (recArg E avs dxs) (flatS c.ins) n) ∨ (c.fresh = false ∧ InR (recArg E avs dxs) n) := by
            rcases h4 with h4 | h4 | h4
            · exact .inl (.inl h4)
            · exact .inl (.inr h4)
            · exact .inr h4
          rcases h5 with h4 | ⟨hf, j', h4, h5⟩
          · have fr := outF n h4
            exact ⟨h3, fr.1, fun b' i' ks'' e hl ho => fr.2 b' i' (by rw [hl]; exact ho), .inl (outB n h4), fun b' i' k ps os hl ho => fr.2 b' i' (by rw [hl]; exact ho)⟩
          · rw [hnl, hf, Bool.false_or, Bool.false_or] at hsh
            rcases args_list hdx h4 with ⟨x, d, ks', g1, g2, g3⟩ | ⟨b, i, ks', e', g1, g2⟩
            rotate_left
            · exfalso
              have := List.all_eq_true.1 hsh _ (List.mem_of_getElem? g1)
              simp [plainArg, g2] at this
            have hxm : x ∈ avs := List.mem_of_getElem? g1
            obtain ⟨b, i, ks1, old1, rfl, g4, g5⟩ := plain_occ (List.all_eq_true.1 hsh x hxm) g3 g1 g2 ⟨h4, h5⟩
            have g6 : (lk h b i).occ (E.r b) i n := by rw [g4]; exact g5
            refine ⟨h3, fun d x hx => (hr.lst.lt b i n g6).2 d x (less.get d x hx), fun b' i' ks'' e hl ho => ?_, ?_, fun b' i' k ps os hl ho => ?_⟩
            · have hl0 : lk h b' i' = .own ks'' e := by
                rcases less.lk b' i' with q | q | ⟨_, _, _, _, _, q, _⟩
                · rw [← q]; exact hl
                · rw [q] at hl; cases hl
                · rw [q] at hl; cases hl
              obtain ⟨rfl, rfl⟩ := hr.lst.sep b' i' ks'' e hl0 b i n (by rw [hl0]; exact ho) g6
              rw [g4] at hl0; cases hl0
            · rcases hr.lst.inn b i ks1 old1 g4 n g6 with g7 | ⟨g7, g8, g9⟩
              · exact .inl g7
              · refine .inr ⟨?_, sub_put _ _ _ 0 (by rw [less.has]; exact g8), ?_⟩
                · rw [hro, hf, cond_false]
                  exact List.any_eq_true.2 ⟨_, hxm, by simp [oldArg, g4, g7]⟩
                · rw [Env.setR_ne _ _ (by rintro rfl; rw [hid] at g8; cases g8)]
                  exact g9
            · obtain ⟨ps0, hl0, hs0⟩ : ∃ ps0, lk h b' i' = .obj k ps0 os ∧ ps.Sublist ps0 := by
                rcases less.lk b' i' with q | q | ⟨_, _, _, _, q1, q2, q3⟩
                · exact ⟨ps, by rw [← q]; exact hl, List.Sublist.refl _⟩
                · rw [q] at hl; cases hl
                · rw [q2] at hl
                  obtain ⟨rfl, rfl, rfl⟩ := LK.obj.inj hl
                  exact ⟨_, q1, q3⟩
              rcases hr.lst.alo b' i' k ps0 os hl0 b i n ((fps_sub hs0).subset ho) g6 with ⟨rfl, rfl⟩ | hv
              · rw [g4] at hl0; cases hl0
              · rw [g4] at hv; exact hv
        · exact .inr (.inl ⟨k, .inl h2⟩)
        · exact .inr (.inr (.inr (.inl ⟨ks, e, h2⟩)))
        · exact .inr (.inr (.inr (.inr (.inl ⟨x, y, h2⟩))))
      · have hj := slotO hjk
        have hnd' := eatFs_nd hnd (j := j) hj
        rw [Nat.zero_add] at hnd'
        refine ⟨hob j k hj, hnd', fun n hn => ?_⟩
        have hmem : n ∈ eatFs r' c.fo 0 := eatFs_mem (j := j) hj (by rw [Nat.zero_add]; exact hn)
        have fr := outF n (hnb n hmem)
        refine ⟨(hob j k hj).lt n hn, fr.1, fr.2, outB n (hnb n hmem), fun i hi => ?_⟩
        obtain ⟨k2, h1, h2⟩ := one hmem hi
        exact .inl (eatFs_sep hnd h1 hj n (by rw [Nat.zero_add]; exact h2) (by rw [Nat.zero_add]; exact hn))
      · exfalso
        rcases slot j with h1 | ⟨k', h1, h2⟩ | ⟨k', h1, h2⟩ | ⟨k', e', h1, h2⟩ | ⟨x, y, h2, _⟩
        · rw [h1] at hjk; cases hjk
        · rw [h2] at hjk; cases hjk
        · rw [h2] at hjk; cases hjk
        · rw [h2] at hjk; cases hjk
        · rw [h2] at hjk; cases hjk
      · have hj := slotW hjk
        refine ⟨how j ks e hj, fun n hn => ?_⟩
        have hmo : n ∈ eatF r' j (.own ks e) := ownFp_occ.2 hn
        have hmem : n ∈ eatFs r' c.fo 0 := eatFs_mem (j := j) hj (by rw [Nat.zero_add]; exact hmo)
        have fr := outF n (hnb n hmem)
        obtain ⟨cs', e', f', hcs'⟩ := (how j ks e hj).cells n (ownFp_occ.2 hn)
        refine ⟨(Array.getElem?_eq_some_iff.1 hcs').1, fr.1, fr.2, outB n (hnb n hmem), fun i hi => ?_⟩
        obtain ⟨k2, h1, h2⟩ := one hmem hi
        exact eatFs_sep hnd h1 hj n (by rw [Nat.zero_add]; exact h2) (by rw [Nat.zero_add]; exact hmo)
      · exfalso
        rcases slot j with h1 | ⟨k', h1, h2⟩ | ⟨k', h1, h2⟩ | ⟨k', e', h1, h2⟩ | ⟨x, y, h2, _⟩
        · rw [h1] at hjk; cases hjk
        · rw [h2] at hjk; cases hjk
        · rw [h2] at hjk; cases hjk
        · rw [h2] at hjk; cases hjk
        · rw [h2] at hjk; cases hjk
      · rcases slot j with h1 | ⟨k', h1, h2⟩ | ⟨k', h1, h2⟩ | ⟨k', e', h1, h2⟩ | ⟨x', y', h2, h3⟩
        · rw [h1] at hjk; cases hjk
        · rw [h2] at hjk; cases hjk
        · rw [h2] at hjk; cases hjk
        · rw [h2] at hjk; cases hjk
        · rw [h2] at hjk
          obtain ⟨rfl, rfl⟩ := LK.al.inj hjk
          rcases alOf_get (id := id) (n := c.outs.flat.length) (avs := avs) (l := iosP (flatS c.ins) 0) (s := 0) (i := j - c.fo.length) with h1 | ⟨p, z, g1, g2, g3⟩
          · have h1 : als.getD (j - c.fo.length) .gone = .gone := h1
            rw [h3] at h1; cases h1
          · have g3 : als.getD (j - c.fo.length) .gone = .al z (.ob id (c.outs.flat.length + (0 + (j - c.fo.length))) []) := g3
            rw [h3] at g3
            obtain ⟨rfl, rfl⟩ := LK.al.inj g3
            obtain ⟨x2, q1, q2, q3⟩ := ioV _ _ g1
            rw [q1] at g2
            obtain rfl := Option.some.inj g2
            refine ⟨bd_sub sub q2, hi2, ?_⟩
            rw [← cv_ag ag q2, q3]
            simp only [cv, Env.setR_r, Dat.sub, Nat.zero_add]
    have bel : Bel B w w' := ⟨hbel.os, hbel.tape, hbel.output, hbel.size, fun n hn => hbel.block n (fun f => by
      rcases f with f | f
      · exact hn (.inl (Nat.le_trans hr.low f))
      · exact hn (hXB n f))⟩
    have hqd' := hqd.ag ag hqb
    obtain ⟨n1, n2⟩ := nilFs_ok (E' := E.setR id r') (h := hput (eatH (eatRs (flatS c.ins) dxs) h) id (.lst (stsOf old c.fo ++ als))) (id := id) (n := c.outs.flat.length) (avs := avs) hqd (l := iosP (flatS c.ins) 0) (s := 0) (q := q) (fun i j hij => by
      obtain ⟨x, q1, _, q3⟩ := ioV i j hij
      exact ⟨x, q1, by rw [Env.setR_r, Nat.zero_add]; exact q3⟩) hi2 (bdQ_sub sub hqb) hqd'
    refine ⟨_, List.mem_singleton.2 rfl, E.setR id r', by rw [ST.tv_eq, Env.setR_r], ⟨ag, sub, hrr, bel⟩, ST.tv_bd hi2 _, ?_, ?_⟩
    · simp only [bdQ, List.all_cons, Bool.and_eq_true, Fact.bd]
      exact ⟨⟨dxs_sub sub hdb, hi2⟩, n1⟩
    · refine ⟨?_, n2⟩
      simp only [Fact.den, Env.setR_r]
      rw [← dxs_ag ag hdb, ← hdv]
      exact hrel
/-- Lists of the walk's own that are handed on are only read from then on. -/
def ownsA (h : H) : AV → List (Nat × Nat)
  | .ls b j => match lk h b j with
    | .own _ _ => [(b, j)]
    | _ => []
  | _ => []
def ownsT (h : H) : TV → List (Nat × Nat)
  | .p (.v x) => ownsA h x
  | .p (.agg l) => l.flatMap (ownsA h)
  | .tup _ => []
def frzAll : List (Nat × Nat) → H → H
  | [], h => h
  | (b, j) :: r, h => frzAll r (frzLk h b j)
theorem frzAll_has : ∀ (l : List (Nat × Nat)) (h : H) (c : Nat), has (frzAll l h) c = has h c
  | [], h, c => rfl
  | (b, j) :: r, h, c => by rw [frzAll, frzAll_has r, frzLk_has]
theorem frzLk_hr {E : Env} {h : H} {B : Bd} {w : World} (r : HR E h B w) (b j : Nat) : HR E (frzLk h b j) B w := by
  unfold frzLk
  split
  · rename_i ks e hl; exact r.frz hl
  · exact r
theorem frzAll_hr {E : Env} {B : Bd} {w : World} : ∀ (l : List (Nat × Nat)) {h : H}, HR E h B w → HR E (frzAll l h) B w
  | [], h, r => r
  | (b, j) :: l, h, r => frzAll_hr l (frzLk_hr r b j)
def conCall (cs : List Con) : CallF := fun f args h q id => match conCall0 cs f args h q id with
  | some R => some R
  | none => match args.flatMap (ownsT h) with
    | [] => none
    | l => conCall0 cs f args (frzAll l h) q id
theorem conCall_ok {P : Program} {T : Tab} {cs : List Con} (hcs : ∀ c ∈ cs, ConS P T c) (B : Bd) : CallS P T B (conCall cs) := by
  intro f args h q id R hR E w hb hr hqb hqd nb
  unfold conCall at hR
  split at hR
  · rename_i R' h0
    obtain rfl := Option.some.inj hR
    exact conCall0_ok hcs B f args h q id _ h0 E w hb hr hqb hqd nb
  · split at hR
    · cases hR
    · rename_i l _
      have s1 : Sub h (frzAll (args.flatMap (ownsT h)) h) := fun c hc => by rw [frzAll_has]; exact hc
      have st : Step E h B w E (frzAll (args.flatMap (ownsT h)) h) w := ⟨Ag.refl _ _, s1, frzAll_hr _ hr, Bel.refl _ _⟩
      refine (conCall0_ok hcs B f args _ q id R hR E w (fun x hx => bdT_sub s1 (hb x hx)) st.hr (bdQ_sub s1 hqb) hqd (nb.sub (Ag.refl _ _) s1 fun _ h => h)).mono ?_
      rintro e w' ⟨r, hr', E', rfl, s', b, b1, b2⟩
      exact ⟨r, hr', E', rfl, st.trans s', b, b1, b2⟩
end Go.Proofs.Ytkepkjahbcddlaa.Sy
