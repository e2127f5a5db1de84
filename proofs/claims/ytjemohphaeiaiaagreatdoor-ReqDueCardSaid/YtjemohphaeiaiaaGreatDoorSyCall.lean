/- tenth part: functions that call one another; what is told of a function; closed calls. -/
import Derived.Test.YtjemohphaeiaiaaGreatDoorSyCode
namespace Go.Proofs.YtjemohphaeiaiaaGreatDoor.Sy
open Go Go.RowKit
set_option linter.unusedVariables false
set_option linter.unusedSimpArgs false
/-! ### What a function takes and yields -/
inductive SP where
  | one (k : FK)
  | agg (ks : List FK)
inductive ST where
  | p (x : SP)
  | tup (l : List SP)
def SP.flat : SP → List FK
  | .one k => [k]
  | .agg ks => ks
def flatS : List SP → List FK
  | [] => []
  | x :: r => x.flat ++ flatS r
def ST.flat : ST → List FK
  | .p x => x.flat
  | .tup l => flatS l
def cellsV (b : Nat) : List FK → Nat → List AV
  | [], _ => []
  | k :: ks, j => varAV b j k :: cellsV b ks (j + 1)
def SP.pv (b j : Nat) : SP → PV
  | .one k => .v (varAV b j k)
  | .agg ks => .agg (cellsV b ks j)
def SP.pvs (b : Nat) : List SP → Nat → List PV
  | [], _ => []
  | x :: r, j => x.pv b j :: SP.pvs b r (j + x.flat.length)
def ST.tv (b : Nat) : ST → TV
  | .p x => .p (x.pv b 0)
  | .tup l => .tup (SP.pvs b l 0)
def FK.val (r : Rec) (j : Nat) : FK → Value
  | .int k => .int k (r.i j)
  | .bool => .bool (r.c j)
  | .list _ => r.lv j
def cellsR (r : Rec) : List FK → Nat → List Value
  | [], _ => []
  | k :: ks, j => k.val r j :: cellsR r ks (j + 1)
def SP.val (r : Rec) (j : Nat) : SP → Value
  | .one k => k.val r j
  | .agg ks => .agg (cellsR r ks j).toArray
def SP.vals (r : Rec) : List SP → Nat → List Value
  | [], _ => []
  | x :: l, j => x.val r j :: SP.vals r l (j + x.flat.length)
def ST.val (r : Rec) : ST → Value
  | .p x => x.val r 0
  | .tup l => .tuple (SP.vals r l 0).toArray
theorem cv_varAV (E : Env) (b j : Nat) (k : FK) : cv E (varAV b j k) = k.val (E.r b) j := by cases k <;> rfl
theorem cellsV_eq (E : Env) (b : Nat) : ∀ (ks : List FK) (j : Nat), (cellsV b ks j).map (cv E) = cellsR (E.r b) ks j
  | [], j => rfl
  | k :: ks, j => by simp [cellsV, cellsR, cv_varAV, cellsV_eq E b ks (j + 1)]
theorem SP.pv_eq (E : Env) (b j : Nat) (x : SP) : cp E (x.pv b j) = x.val (E.r b) j := by
  cases x with
  | one k => exact cv_varAV E b j k
  | agg ks => simp only [SP.pv, cp, SP.val, cellsV_eq]
theorem SP.pvs_eq (E : Env) (b : Nat) : ∀ (l : List SP) (j : Nat), (SP.pvs b l j).map (cp E) = SP.vals (E.r b) l j
  | [], j => rfl
  | x :: l, j => by simp [SP.pvs, SP.vals, SP.pv_eq, SP.pvs_eq E b l (j + x.flat.length)]
theorem ST.tv_eq (E : Env) (b : Nat) (x : ST) : ct E (x.tv b) = x.val (E.r b) := by
  cases x with
  | p x => exact SP.pv_eq E b 0 x
  | tup l => simp only [ST.tv, ct, ST.val, SP.pvs_eq]
theorem varAV_bd {h : H} {b : Nat} (hb : has h b = true) (j : Nat) (k : FK) : bd h (varAV b j k) = true := by cases k <;> exact hb
theorem cellsV_bd {h : H} {b : Nat} (hb : has h b = true) : ∀ (ks : List FK) (j : Nat), ∀ x ∈ cellsV b ks j, bd h x = true
  | [], j, x, hx => by simp [cellsV] at hx
  | k :: ks, j, x, hx => by
    simp only [cellsV, List.mem_cons] at hx
    rcases hx with rfl | hx
    · exact varAV_bd hb j k
    · exact cellsV_bd hb ks (j + 1) x hx
theorem SP.pv_bd {h : H} {b : Nat} (hb : has h b = true) (j : Nat) (x : SP) : bdP h (x.pv b j) = true := by
  cases x with
  | one k => exact varAV_bd hb j k
  | agg ks => exact List.all_eq_true.2 (cellsV_bd hb ks j)
theorem SP.pvs_bd {h : H} {b : Nat} (hb : has h b = true) : ∀ (l : List SP) (j : Nat), ∀ x ∈ SP.pvs b l j, bdP h x = true
  | [], j, x, hx => by simp [SP.pvs] at hx
  | y :: l, j, x, hx => by
    simp only [SP.pvs, List.mem_cons] at hx
    rcases hx with rfl | hx
    · exact SP.pv_bd hb j y
    · exact SP.pvs_bd hb l _ x hx
theorem ST.tv_bd {h : H} {b : Nat} (hb : has h b = true) (x : ST) : bdT h (x.tv b) = true := by
  cases x with
  | p x => exact SP.pv_bd hb 0 x
  | tup l => exact List.all_eq_true.2 (SP.pvs_bd hb l 0)
/-- Of lists that are told of: that they may be read. -/
def stsOf (old : Bool) : List FK → List LK
  | [] => []
  | .list ks :: r => .rd ks old :: stsOf old r
  | _ :: r => .gone :: stsOf old r
def noList : List FK → Bool
  | [] => true
  | .list _ :: _ => false
  | _ :: r => noList r
theorem stsOf_get (old : Bool) : ∀ (ks : List FK) (j : Nat), (∃ k, ks[j]? = some (.list k) ∧ (stsOf old ks).getD j .gone = .rd k old) ∨ ((stsOf old ks).getD j .gone = .gone)
  | [], j => .inr rfl
  | k :: r, 0 => by cases k <;> simp [stsOf]
  | k :: r, j + 1 => by
    have := stsOf_get old r j
    cases k <;> simpa [stsOf] using this
theorem noList_get : ∀ {ks : List FK} {j : Nat} {k : List CK}, noList ks = true → ks[j]? ≠ some (.list k)
  | [], j, k, h => by simp
  | x :: r, 0, k, h => by cases x <;> simp_all [noList]
  | x :: r, j + 1, k, h => by
    cases x with
    | list ks => simp [noList] at h
    | _ => simpa using noList_get (ks := r) (j := j) h
/-- What is told of a function: its number; what it takes and yields; whether it asks for nothing; whether its lists are its own. -/
structure Con where
  f : FuncId
  ins : List SP
  outs : ST
  total : Bool
  fresh : Bool
def ConS (P : Program) (T : Tab) (c : Con) : Prop := ∀ (r : Rec) (w : World), (∀ j ks, (flatS c.ins)[j]? = some (.list ks) → ROk w r j ks ∧ ks ≠ []) → (c.total = false → T.pre c.f (dvs r (flatS c.ins) 0)) →
  Invoked P c.f (SP.vals r c.ins 0).toArray w fun e w' => ∃ r', e = .returned (c.outs.val r') ∧ T.rel c.f (dvs r (flatS c.ins) 0) (dvs r' c.outs.flat 0) ∧ Below w.heap.size w w' ∧
    ∀ j ks, c.outs.flat[j]? = some (.list ks) → ROk w' r' j ks ∧ ∀ n, (LK.rd ks true).occ r' j n → n < w'.heap.size ∧ (w.heap.size ≤ n ∨ (c.fresh = false ∧ InR r n))
/-! ### What is handed to it -/
def dxArgL (h : H) (ks : List CK) : AV → Option DX
  | .ls b j => match ksOf (lk h b j) with
    | some ks' => bif leq ckeq ks ks' then some (.lst b j) else none
    | none => none
  | .val (.slice none 0 0) => some (.rows [])
  | .sl b o n (some c) => match hget h b with
    | some x => bif Nat.ble n c && Nat.ble c 1000000 && Nat.ble (o + n * ks.length) x.cells.length then (rowsCells ks n (x.cells.drop o)).map .rows else none
    | none => none
  | _ => none
def dxArg (h : H) : FK → AV → Option DX
  | .int k, x => match numA x with
    | some (k', e) => bif keq k k' then some (.num e) else none
    | none => none
  | .bool, x => (truA x).map .tru
  | .list ks, x => dxArgL h ks x
def dxArgs (h : H) : List FK → List AV → Option (List DX)
  | [], [] => some []
  | k :: ks, x :: xs => match dxArg h k x, dxArgs h ks xs with
    | some d, some l => some (d :: l)
    | _, _ => none
  | _, _ => none
def argCells : SP → TV → Option (List AV)
  | .one _, .p (.v (.val (.agg _))) => none
  | .one _, .p (.v (.val (.tuple _))) => none
  | .one _, .p (.v x) => some [x]
  | .agg ks, .p (.agg l) => bif Nat.beq l.length ks.length then some l else none
  | .agg ks, .p (.v (.val (.agg cs))) => bif Nat.beq cs.toList.length ks.length then some (cs.toList.map .val) else none
  | _, _ => none
def argsCells : List SP → List TV → Option (List AV)
  | [], [] => some []
  | s :: ss, v :: vs => match argCells s v, argsCells ss vs with
    | some a, some b => some (a ++ b)
    | _, _ => none
  | _, _ => none
/-- What the arguments stand for. -/
def recArg (E : Env) (avs : List AV) (dxs : List DX) : Rec where
  i j := match dxs[j]? with | some (.num e) => e.den E | _ => 0
  c j := match dxs[j]? with | some (.tru b) => b.den E | _ => false
  l j := match dxs[j]? with | some (.lst b i) => (E.r b).l i | some (.rows rs) => rs.map fun r => r.map (Ex.den E) | _ => []
  a j := match avs[j]? with | some (.ls b i) => (E.r b).a i | some (.sl b o _ _) => some ⟨E.s b, o, none⟩ | _ => none
  m j := match avs[j]? with | some (.ls b i) => (E.r b).m i | some (.sl _ _ _ (some c)) => c | _ => 0
  o _ := undef
def plainArg (h : H) : AV → Bool
  | .ls b j => match lk h b j with
    | .rd _ _ => true
    | _ => false
  | .sl _ _ _ _ => false
  | _ => true
def oldArg (h : H) : AV → Bool
  | .ls b j => match lk h b j with
    | .rd _ old => old
    | _ => false
  | _ => false
section
variable {T : Tab} {E : Env} {h : H} {B : Nat} {w : World}
theorem dxArg_bd (r : HR E h B w) {k : FK} {x : AV} {d : DX} (hd : dxArg h k x = some d) (hb : bd h x = true) : d.bd h = true := by
  cases k with
  | int kk =>
    simp only [dxArg] at hd
    split at hd
    · rename_i k' e hn
      cases hk : keq kk k' with
      | false => rw [hk] at hd; cases hd
      | true =>
        rw [hk, cond_true, Option.some.injEq] at hd
        subst hd
        exact numA_bd hn hb
    · cases hd
  | bool =>
    simp only [dxArg] at hd
    obtain ⟨b, h1, rfl⟩ := Option.map_eq_some_iff.1 hd
    exact truA_bd h1 hb
  | list ks =>
    simp only [dxArg, dxArgL] at hd
    split at hd
    · rename_i b j
      split at hd
      · rename_i ks' h1
        cases hk : leq ckeq ks ks' with
        | false => rw [hk] at hd; cases hd
        | true =>
          rw [hk, cond_true, Option.some.injEq] at hd
          subst hd
          exact hb
      · cases hd
    · obtain rfl := Option.some.inj hd; rfl
    · rename_i b o n c
      split at hd
      · rename_i y hy
        cases hk : (Nat.ble n c && Nat.ble c 1000000 && Nat.ble (o + n * ks.length) y.cells.length) with
        | false => rw [hk] at hd; cases hd
        | true =>
          rw [hk, cond_true] at hd
          obtain ⟨l, hl, rfl⟩ := Option.map_eq_some_iff.1 hd
          simp only [DX.bd, List.all_eq_true]
          exact fun r' hr => rowsCells_bd hl (fun z hz => r.bnd b y hy z (List.mem_of_mem_drop hz)) r' hr
      · cases hd
    · cases hd
theorem dxArgs_bd (r : HR E h B w) : ∀ {ks : List FK} {xs : List AV} {ds : List DX}, dxArgs h ks xs = some ds → (∀ x ∈ xs, bd h x = true) → ds.all (DX.bd h) = true
  | [], [], ds, hd, _ => by simp only [dxArgs, Option.some.injEq] at hd; subst hd; rfl
  | k :: ks, x :: xs, ds, hd, hb => by
    simp only [dxArgs] at hd
    split at hd
    · rename_i d l h1 h2
      obtain rfl := Option.some.inj hd
      simp only [List.all_cons, Bool.and_eq_true]
      exact ⟨dxArg_bd r h1 (hb x (by simp)), dxArgs_bd r h2 (fun y hy => hb y (by simp [hy]))⟩
    · cases hd
  | [], _ :: _, ds, hd, _ => by simp [dxArgs] at hd
  | _ :: _, [], ds, hd, _ => by simp [dxArgs] at hd
/-- One argument stands for what it is. -/
theorem dxArg_val (r : HR E h B w) {k : FK} {x : AV} {d : DX} (hd : dxArg h k x = some d) {avs : List AV} {dxs : List DX} {j : Nat} (ha : avs[j]? = some x) (hx : dxs[j]? = some d) :
    cv E x = k.val (recArg E avs dxs) j ∧ dvs (recArg E avs dxs) [k] j = [DX.den E d] := by
  cases k with
  | int kk =>
    simp only [dxArg] at hd
    split at hd
    · rename_i k' e hn
      cases hk : keq kk k' with
      | false => rw [hk] at hd; cases hd
      | true =>
        rw [hk, cond_true, Option.some.injEq] at hd
        subst hd
        simp [numA_eq hn, FK.val, recArg, hx, keq_eq hk, DX.den, dvs]
    · cases hd
  | bool =>
    simp only [dxArg] at hd
    obtain ⟨b, h1, rfl⟩ := Option.map_eq_some_iff.1 hd
    simp [truA_eq h1, FK.val, recArg, hx, DX.den, dvs]
  | list ks =>
    simp only [dxArg, dxArgL] at hd
    split at hd
    · rename_i b i
      split at hd
      · rename_i ks' h1
        cases hk : leq ckeq ks ks' with
        | false => rw [hk] at hd; cases hd
        | true =>
          rw [hk, cond_true, Option.some.injEq] at hd
          subst hd
          simp [cv, FK.val, Rec.lv, recArg, hx, ha, DX.den, dvs]
      · cases hd
    · obtain rfl := Option.some.inj hd
      simp [cv, FK.val, Rec.lv, recArg, hx, ha, DX.den, dvs]
    · rename_i b o n c
      split at hd
      · rename_i y hy
        cases hk : (Nat.ble n c && Nat.ble c 1000000 && Nat.ble (o + n * ks.length) y.cells.length) with
        | false => rw [hk] at hd; cases hd
        | true =>
          rw [hk, cond_true] at hd
          obtain ⟨l, hl, rfl⟩ := Option.map_eq_some_iff.1 hd
          simp [cv, FK.val, Rec.lv, recArg, hx, ha, DX.den, (rowsCells_len hl).1, dvs]
      · cases hd
    · cases hd
theorem dxArgs_get : ∀ {ks : List FK} {xs : List AV} {ds : List DX}, dxArgs h ks xs = some ds → ∀ (j : Nat) (k : FK), ks[j]? = some k → ∃ x d, xs[j]? = some x ∧ ds[j]? = some d ∧ dxArg h k x = some d
  | [], [], ds, hd, j, k, hk => by simp at hk
  | k0 :: ks, x :: xs, ds, hd, j, k, hk => by
    simp only [dxArgs] at hd
    split at hd
    · rename_i d l h1 h2
      obtain rfl := Option.some.inj hd
      cases j with
      | zero => simp only [List.getElem?_cons_zero, Option.some.injEq] at hk; subst hk; exact ⟨x, d, rfl, rfl, h1⟩
      | succ j => simpa using dxArgs_get h2 j k (by simpa using hk)
    · cases hd
  | [], _ :: _, ds, hd, _, _, _ => by simp [dxArgs] at hd
  | _ :: _, [], ds, hd, _, _, _ => by simp [dxArgs] at hd
theorem dxArgs_len : ∀ {ks : List FK} {xs : List AV} {ds : List DX}, dxArgs h ks xs = some ds → xs.length = ks.length ∧ ds.length = ks.length
  | [], [], ds, hd => by simp only [dxArgs, Option.some.injEq] at hd; subst hd; exact ⟨rfl, rfl⟩
  | k0 :: ks, x :: xs, ds, hd => by
    simp only [dxArgs] at hd
    split at hd
    · rename_i d l h1 h2
      obtain rfl := Option.some.inj hd
      simp [(dxArgs_len h2).1, (dxArgs_len h2).2]
    · cases hd
  | [], _ :: _, ds, hd => by simp [dxArgs] at hd
  | _ :: _, [], ds, hd => by simp [dxArgs] at hd
theorem dvs_args (r : HR E h B w) {all : List FK} {avs : List AV} {dxs : List DX} (hd : dxArgs h all avs = some dxs) : ∀ (ks : List FK) (ds : List DX) (s : Nat), (∀ j, all[s + j]? = ks[j]?) → (∀ j, dxs[s + j]? = ds[j]?) → ks.length = ds.length → dvs (recArg E avs dxs) ks s = ds.map (DX.den E)
  | [], [], s, _, _, _ => rfl
  | k :: ks, d :: ds, s, hk, hx, hl => by
    have ih := dvs_args r hd ks ds (s + 1) (fun j => by have := hk (j + 1); simpa [Nat.add_assoc, Nat.add_comm 1 j] using this) (fun j => by have := hx (j + 1); simpa [Nat.add_assoc, Nat.add_comm 1 j] using this) (by simpa using hl)
    obtain ⟨x, d', h1, h2, h3⟩ := dxArgs_get hd s k (by simpa using hk 0)
    have h4 : dxs[s]? = some d := by simpa using hx 0
    rw [h2] at h4
    obtain rfl := Option.some.inj h4
    have := (dxArg_val r h3 h1 h2).2
    cases k <;> simp only [dvs, List.cons.injEq, and_true] at this <;> simp [dvs, ih, this]
  | [], _ :: _, _, _, _, h => by simp at h
  | _ :: _, [], _, _, _, h => by simp at h
theorem cellsR_args (r : HR E h B w) {all : List FK} {avs : List AV} {dxs : List DX} (hd : dxArgs h all avs = some dxs) : ∀ (ks : List FK) (xs : List AV) (s : Nat), (∀ j, j < ks.length → all[s + j]? = ks[j]?) → (∀ j, j < xs.length → avs[s + j]? = xs[j]?) → ks.length = xs.length → xs.map (cv E) = cellsR (recArg E avs dxs) ks s
  | [], [], s, _, _, _ => rfl
  | k :: ks, x :: xs, s, hk, hx, hl => by
    have ih := cellsR_args r hd ks xs (s + 1) (fun j hj => by have := hk (j + 1) (by simpa using hj); simpa [Nat.add_assoc, Nat.add_comm 1 j] using this) (fun j hj => by have := hx (j + 1) (by simpa using hj); simpa [Nat.add_assoc, Nat.add_comm 1 j] using this) (by simpa using hl)
    obtain ⟨x', d, h1, h2, h3⟩ := dxArgs_get hd s k (by simpa using hk 0 (by simp))
    have h4 : avs[s]? = some x := by simpa using hx 0 (by simp)
    rw [h1] at h4
    obtain rfl := Option.some.inj h4
    simp [cellsR, ih, (dxArg_val r h3 h1 h2).1]
  | [], _ :: _, _, _, _, h => by simp at h
  | _ :: _, [], _, _, _, h => by simp at h
theorem argCells_len {s : SP} {v : TV} {a : List AV} (ha : argCells s v = some a) : a.length = s.flat.length := by
  unfold argCells at ha
  split at ha
  · cases ha
  · cases ha
  · obtain rfl := Option.some.inj ha; rfl
  · rename_i ks l
    cases hl : Nat.beq l.length ks.length with
    | false => rw [hl] at ha; cases ha
    | true => rw [hl, cond_true, Option.some.injEq] at ha; subst ha; exact Nat.eq_of_beq_eq_true hl
  · rename_i ks cs
    cases hl : Nat.beq cs.toList.length ks.length with
    | false => rw [hl] at ha; cases ha
    | true => rw [hl, cond_true, Option.some.injEq] at ha; subst ha; rw [List.length_map]; exact Nat.eq_of_beq_eq_true hl
  · cases ha
theorem argCells_bd {s : SP} {v : TV} {a : List AV} (ha : argCells s v = some a) (hb : bdT h v = true) : ∀ x ∈ a, bd h x = true := by
  unfold argCells at ha
  split at ha
  · cases ha
  · cases ha
  · obtain rfl := Option.some.inj ha; intro x hx; rw [List.mem_singleton.1 hx]; exact hb
  · rename_i ks l
    cases hl : Nat.beq l.length ks.length with
    | false => rw [hl] at ha; cases ha
    | true => rw [hl, cond_true, Option.some.injEq] at ha; subst ha; exact List.all_eq_true.1 hb
  · rename_i ks cs
    cases hl : Nat.beq cs.toList.length ks.length with
    | false => rw [hl] at ha; cases ha
    | true =>
      rw [hl, cond_true, Option.some.injEq] at ha
      subst ha
      intro x hx
      obtain ⟨u, _, rfl⟩ := List.mem_map.1 hx
      rfl
  · cases ha
theorem argsCells_bd : ∀ {ss : List SP} {vs : List TV} {a : List AV}, argsCells ss vs = some a → (∀ v ∈ vs, bdT h v = true) → ∀ x ∈ a, bd h x = true
  | [], [], a, ha, _, x, hx => by simp only [argsCells, Option.some.injEq] at ha; subst ha; simp at hx
  | s :: ss, v :: vs, a, ha, hb, x, hx => by
    simp only [argsCells] at ha
    split at ha
    · rename_i a1 a2 h1 h2
      obtain rfl := Option.some.inj ha
      rcases List.mem_append.1 hx with hx | hx
      · exact argCells_bd h1 (hb v (by simp)) x hx
      · exact argsCells_bd h2 (fun y hy => hb y (by simp [hy])) x hx
    · cases ha
  | [], _ :: _, _, ha, _, _, _ => by simp [argsCells] at ha
  | _ :: _, [], _, ha, _, _, _ => by simp [argsCells] at ha
theorem argCells_val (r : HR E h B w) {all : List FK} {avs : List AV} {dxs : List DX} (hd : dxArgs h all avs = some dxs) {s : SP} {v : TV} {a : List AV} (ha : argCells s v = some a) {n : Nat} (hk : ∀ j, j < s.flat.length → all[n + j]? = s.flat[j]?) (hx : ∀ j, j < a.length → avs[n + j]? = a[j]?) :
    ct E v = s.val (recArg E avs dxs) n := by
  have hl := argCells_len ha
  have hc := cellsR_args r hd s.flat a n hk hx hl.symm
  unfold argCells at ha
  split at ha
  · cases ha
  · cases ha
  · rename_i k x _ _
    obtain rfl := Option.some.inj ha
    simpa [SP.flat, cellsR, SP.val, ct, cp] using hc
  · rename_i ks l
    cases hl : Nat.beq l.length ks.length with
    | false => rw [hl] at ha; cases ha
    | true => rw [hl, cond_true, Option.some.injEq] at ha; subst ha; simp only [ct, cp, SP.val, hc]; rfl
  · rename_i ks cs
    cases hl : Nat.beq cs.toList.length ks.length with
    | false => rw [hl] at ha; cases ha
    | true =>
      rw [hl, cond_true, Option.some.injEq] at ha
      subst ha
      rw [map_val] at hc
      simp only [ct, cp, cv, SP.val, SP.flat] at hc ⊢
      rw [← hc]
  · cases ha
theorem argsCells_val (r : HR E h B w) {all : List FK} {avs : List AV} {dxs : List DX} (hd : dxArgs h all avs = some dxs) : ∀ {ss : List SP} {vs : List TV} {a : List AV} {n : Nat}, argsCells ss vs = some a → (∀ j, j < (flatS ss).length → all[n + j]? = (flatS ss)[j]?) → (∀ j, j < a.length → avs[n + j]? = a[j]?) → vs.map (ct E) = SP.vals (recArg E avs dxs) ss n
  | [], [], a, n, ha, _, _ => rfl
  | s :: ss, v :: vs, a, n, ha, hk, hx => by
    simp only [argsCells] at ha
    split at ha
    · rename_i a1 a2 h1 h2
      obtain rfl := Option.some.inj ha
      have hl := argCells_len h1
      have e1 := argCells_val r hd h1 (n := n) (fun j hj => by
        rw [hk j (by simp [flatS]; omega), flatS, List.getElem?_append_left hj]) (fun j hj => by
        rw [hx j (by simp; omega), List.getElem?_append_left hj])
      have e2 := argsCells_val r hd (n := n + s.flat.length) h2 (fun j hj => by
        have := hk (s.flat.length + j) (by simp [flatS]; omega)
        rw [← Nat.add_assoc] at this
        rw [this, flatS, List.getElem?_append_right (by omega)]
        congr 1; omega) (fun j hj => by
        have := hx (s.flat.length + j) (by simp; omega)
        rw [← Nat.add_assoc] at this
        rw [this, List.getElem?_append_right (by omega)]
        congr 1; omega)
      simp [SP.vals, e1, e2]
    · cases ha
  | [], _ :: _, _, _, ha, _, _ => by simp [argsCells] at ha
  | _ :: _, [], _, _, ha, _, _ => by simp [argsCells] at ha
/-- A list that is handed on may be read. -/
theorem dxArg_rok (r : HR E h B w) {ks : List CK} {x : AV} {d : DX} (hd : dxArg h (.list ks) x = some d) {avs : List AV} {dxs : List DX} {j : Nat} (ha : avs[j]? = some x) (hx : dxs[j]? = some d) : ROk w (recArg E avs dxs) j ks := by
  simp only [dxArg, dxArgL] at hd
  split at hd
  · rename_i b i
    split at hd
    · rename_i ks' h1
      cases hk : leq ckeq ks ks' with
      | false => rw [hk] at hd; cases hd
      | true =>
        rw [hk, cond_true, Option.some.injEq] at hd
        subst hd
        have e := leq_eq ckeq_eq _ _ hk
        subst e
        have hok := LK.rok h1 (r.lst.ok b i)
        have el : (recArg E avs dxs).l j = (E.r b).l i := by simp [recArg, hx]
        have ea : (recArg E avs dxs).a j = (E.r b).a i := by simp [recArg, ha]
        have em : (recArg E avs dxs).m j = (E.r b).m i := by simp [recArg, ha]
        exact ⟨by rw [el]; exact hok.wf, by rw [el, em]; exact hok.cap, by rw [em]; exact hok.max, by rw [el, ea]; exact hok.read⟩
    · cases hd
  · obtain rfl := Option.some.inj hd
    have el : (recArg E avs dxs).l j = [] := by simp [recArg, hx]
    have em : (recArg E avs dxs).m j = 0 := by simp [recArg, ha]
    exact ⟨fun y hy => by rw [el] at hy; simp at hy, by rw [el]; simp, by rw [em]; exact Nat.zero_le _, fun n u hu => by rw [el] at hu; simp [encL] at hu⟩
  · rename_i b o n c
    split at hd
    · rename_i y hy
      cases hk : (Nat.ble n c && Nat.ble c 1000000 && Nat.ble (o + n * ks.length) y.cells.length) with
      | false => rw [hk] at hd; cases hd
      | true =>
        rw [hk, cond_true] at hd
        simp only [Bool.and_eq_true, Nat.ble_eq] at hk
        obtain ⟨⟨k1, k2⟩, k3⟩ := hk
        obtain ⟨l, hl, rfl⟩ := Option.map_eq_some_iff.1 hd
        have el : (recArg E avs dxs).l j = l.map fun r => r.map (Ex.den E) := by simp [recArg, hx]
        have ea : (recArg E avs dxs).a j = some ⟨E.s b, o, none⟩ := by simp [recArg, ha]
        have em : (recArg E avs dxs).m j = c := by simp [recArg, ha]
        obtain ⟨l1, l2⟩ := rowsCells_len hl
        refine ⟨fun z hz => ?_, by rw [el, em, List.length_map, l1]; exact k1, by rw [em]; simp only [maxLen]; omega, fun i u hu => ⟨_, ea, ?_⟩⟩
        · rw [el] at hz
          obtain ⟨q, hq, rfl⟩ := List.mem_map.1 hz
          rw [List.length_map]; exact l2 q hq
        · rw [el, rowsCells_eq hl (by rw [List.length_drop]; omega)] at hu
          exact r.cellsAt hy (o := o) (n := n * ks.length) k3 i u hu
    · cases hd
  · cases hd
theorem plain_occ {x : AV} {k : List CK} {d : DX} (hp : plainArg h x = true) (hd : dxArg h (.list k) x = some d) {avs : List AV} {dxs : List DX} {j : Nat} (ha : avs[j]? = some x) (hx : dxs[j]? = some d) {n : Nat} (ho : (LK.rd k true).occ (recArg E avs dxs) j n) :
    ∃ b i ks old, x = .ls b i ∧ lk h b i = .rd ks old ∧ (LK.rd ks old).occ (E.r b) i n := by
  simp only [dxArg, dxArgL] at hd
  split at hd
  · rename_i b i
    have hp' := hp
    simp only [plainArg] at hp'
    split at hp'
    · rename_i ks1 old hl
      split at hd
      · rename_i ks' h1
        cases hk : leq ckeq k ks' with
        | false => rw [hk] at hd; cases hd
        | true =>
          rw [hk, cond_true, Option.some.injEq] at hd
          subst hd
          exact ⟨b, i, ks1, old, rfl, hl, by simpa [LK.occ, recArg, hx, ha] using ho⟩
      · cases hd
    · cases hp'
  · obtain rfl := Option.some.inj hd
    simp [LK.occ, recArg, hx] at ho
  · simp [plainArg] at hp
  · cases hd
theorem args_list {all : List FK} {avs : List AV} {dxs : List DX} (hd : dxArgs h all avs = some dxs) {j : Nat} (hl : (recArg E avs dxs).l j ≠ []) : ∃ x d ks, avs[j]? = some x ∧ dxs[j]? = some d ∧ dxArg h (.list ks) x = some d := by
  obtain ⟨l1, l2⟩ := dxArgs_len hd
  cases hk : all[j]? with
  | none =>
    exfalso
    have : dxs[j]? = none := by rw [List.getElem?_eq_none_iff] at hk ⊢; omega
    simp [recArg, this] at hl
  | some k =>
    obtain ⟨x, d, h1, h2, h3⟩ := dxArgs_get hd j k hk
    cases k with
    | list ks => exact ⟨x, d, ks, h1, h2, h3⟩
    | int kk =>
      exfalso
      simp only [dxArg] at h3
      split at h3
      · rename_i k' e hn
        cases hkk : keq kk k' with
        | false => rw [hkk] at h3; cases h3
        | true =>
          rw [hkk, cond_true, Option.some.injEq] at h3
          subst h3
          simp [recArg, h2] at hl
      · cases h3
    | bool =>
      exfalso
      simp only [dxArg] at h3
      obtain ⟨b, _, rfl⟩ := Option.map_eq_some_iff.1 h3
      simp [recArg, h2] at hl
theorem HR.below {E : Env} {h : H} {B : Nat} {w w' : World} (r : HR E h B w) (b : Below w.heap.size w w') : HR E h B w' := by
  refine ⟨Nat.le_trans r.low b.size, fun c x hx => ?_, r.inj, r.bnd, fun c m hm => ⟨(r.mps c m hm).1, by rw [b.block _ (r.mlt hm)]; exact (r.mps c m hm).2⟩, r.lst.world b.size fun k hk _ => b.block k hk⟩
  obtain ⟨h1, sp, h2, h3⟩ := r.blk c x hx
  exact ⟨h1, sp, by rw [b.block _ (r.lt hx), h2], h3⟩
end
/-! ### A call of a function of which it is told -/
def findCon : List Con → FuncId → Option Con
  | [], _ => none
  | c :: r, f => bif Nat.beq c.f f then some c else findCon r f
theorem findCon_mem : ∀ {cs : List Con} {f : FuncId} {c : Con}, findCon cs f = some c → c ∈ cs ∧ c.f = f
  | [], f, c, h => by simp [findCon] at h
  | d :: r, f, c, h => by
    simp only [findCon] at h
    cases hd : Nat.beq d.f f with
    | true =>
      rw [hd, cond_true, Option.some.injEq] at h
      subst h
      exact ⟨List.mem_cons_self, Nat.eq_of_beq_eq_true hd⟩
    | false =>
      rw [hd, cond_false] at h
      exact ⟨List.mem_cons_of_mem _ (findCon_mem h).1, (findCon_mem h).2⟩
def kinded (ks : List FK) : Bool := ks.all fun k => match k with
  | .list [] => false
  | _ => true
def conCall0 (cs : List Con) : CallF := fun f args h q id => match findCon cs f with
  | some c => match argsCells c.ins args with
    | some avs => match dxArgs h (flatS c.ins) avs with
      | some dxs => bif !(has h id) && kinded (flatS c.ins) && (noList c.outs.flat || c.fresh || avs.all (plainArg h)) then
          some ⟨[⟨c.outs.tv id, hput h id (.lst (stsOf (bif c.fresh then false else avs.any (oldArg h)) c.outs.flat)), .rel c.f dxs id c.outs.flat :: q⟩], bif c.total then [] else [.npre c.f dxs :: q]⟩
        else none
      | none => none
    | none => none
  | none => none
theorem conCall0_ok {P : Program} {T : Tab} {cs : List Con} (hcs : ∀ c ∈ cs, ConS P T c) (B : Nat) : CallS P T B (conCall0 cs) := by
  intro f args h q id R hR E w hb hr hqb hqd nb
  unfold conCall0 at hR
  split at hR
  rotate_left
  · cases hR
  rename_i c hc
  split at hR
  rotate_left
  · cases hR
  rename_i avs hav
  split at hR
  rotate_left
  · cases hR
  rename_i dxs hdx
  cases hck : (!(has h id) && kinded (flatS c.ins) && (noList c.outs.flat || c.fresh || avs.all (plainArg h))) with
  | false => rw [hck] at hR; cases hR
  | true =>
  rw [hck, cond_true] at hR
  obtain rfl := Option.some.inj hR
  simp only [Bool.and_eq_true, Bool.not_eq_true'] at hck
  obtain ⟨⟨hid, hkd⟩, hsh⟩ := hck
  obtain ⟨hm, rfl⟩ := findCon_mem hc
  obtain ⟨hl1, hl2⟩ := dxArgs_len hdx
  have hdv : dvs (recArg E avs dxs) (flatS c.ins) 0 = dxs.map (DX.den E) := dvs_args hr hdx _ _ 0 (fun j => by rw [Nat.zero_add]) (fun j => by rw [Nat.zero_add]) hl2.symm
  have hval := argsCells_val (n := 0) hr hdx hav (fun j _ => by rw [Nat.zero_add]) (fun j _ => by rw [Nat.zero_add])
  have hdb : dxs.all (DX.bd h) = true := dxArgs_bd hr hdx (argsCells_bd hav hb)
  rw [hval]
  refine (hcs c hm (recArg E avs dxs) w (fun j ks hj => ?_) (fun ht => ?_)).mono ?_
  · obtain ⟨x, d, h1, h2, h3⟩ := dxArgs_get hdx j _ hj
    refine ⟨dxArg_rok hr h3 h1 h2, fun e => ?_⟩
    subst e
    have := List.all_eq_true.1 hkd _ (List.mem_of_getElem? hj)
    simp at this
  · rw [hdv]
    refine Classical.byContradiction fun hn => nb.self (q := .npre c.f dxs :: q) ?_ ⟨hn, hqd⟩
    rw [ht]; simp
  · rintro e w' ⟨r', rfl, hrel, hbel, hli⟩
    have hr' := hr.below hbel
    let old := bif c.fresh then false else avs.any (oldArg h)
    have hro : old = (bif c.fresh then false else avs.any (oldArg h)) := rfl
    have hrr : HR (E.setR id r') (hput h id (.lst (stsOf old c.outs.flat))) B w' := by
      refine hr'.lists hid r' _ fun j => ?_
      rcases stsOf_get old c.outs.flat j with ⟨ks, h1, h2⟩ | h1
      · refine .inr ⟨ks, old, h2, (hli j ks h1).1, fun n hn => ?_⟩
        obtain ⟨h3, h4⟩ := (hli j ks h1).2 n hn
        have hnl : noList c.outs.flat = false := by
          cases hx : noList c.outs.flat with
          | false => rfl
          | true => exact absurd h1 (noList_get hx)
        rcases h4 with h4 | ⟨hf, j', h4, h5⟩
        · refine ⟨h3, fun d x hx he => ?_, fun b' i' ks'' e hl ho => ?_, .inl (Nat.le_trans hr.low h4)⟩
          · have := hr.lt hx; omega
          · have := (hr.lst.lt b' i' n (by rw [hl]; exact ho)).1; omega
        · rw [hnl, hf, Bool.false_or, Bool.false_or] at hsh
          obtain ⟨x, d, ks', g1, g2, g3⟩ := args_list hdx h4
          have hxm : x ∈ avs := List.mem_of_getElem? g1
          obtain ⟨b, i, ks1, old1, rfl, g4, g5⟩ := plain_occ (List.all_eq_true.1 hsh x hxm) g3 g1 g2 ⟨h4, h5⟩
          have g6 : (lk h b i).occ (E.r b) i n := by rw [g4]; exact g5
          refine ⟨h3, (hr.lst.lt b i n g6).2, fun b' i' ks'' e hl ho => ?_, ?_⟩
          · obtain ⟨rfl, rfl⟩ := hr.lst.sep b' i' ks'' e hl b i n (by rw [hl]; exact ho) g6
            rw [g4] at hl; cases hl
          · rcases hr.lst.inn b i ks1 old1 g4 n g6 with g7 | ⟨g7, g8, g9⟩
            · exact .inl g7
            · refine .inr ⟨?_, sub_put _ _ _ 0 g8, ?_⟩
              · rw [hro, hf, cond_false]
                exact List.any_eq_true.2 ⟨_, hxm, by simp [oldArg, g4, g7]⟩
              · rw [Env.setR_ne _ _ (by rintro rfl; rw [hid] at g8; cases g8)]
                exact g9
      · exact .inl h1
    have ag := ag_setR hid E r'
    refine ⟨_, List.mem_singleton.2 rfl, E.setR id r', by rw [ST.tv_eq, Env.setR_r], ⟨ag, sub_put _ _ _, hrr, hbel.mono hr.low⟩, ST.tv_bd (by simp [has_put]) _, ?_, ?_⟩
    · simp only [bdQ, List.all_cons, Bool.and_eq_true, Fact.bd]
      exact ⟨⟨dxs_sub (sub_put _ _ _) hdb, by simp [has_put]⟩, bdQ_sub (sub_put _ _ _) hqb⟩
    · refine ⟨?_, hqd.ag ag hqb⟩
      simp only [Fact.den, Env.setR_r]
      rw [← dxs_ag ag hdb, ← hdv]
      exact hrel
/-- Lists of the walk's own that are handed on are only read from then on. -/
def ownsA (h : H) : AV → List (Nat × Nat)
  | .ls b j => match lk h b j with
    | .own _ _ => [(b, j)]
    | _ => []
  | _ => []
def ownsT (h : H) : TV → List (Nat × Nat)
  | .p (.v x) => ownsA h x
  | .p (.agg l) => l.flatMap (ownsA h)
  | .tup _ => []
def frzAll : List (Nat × Nat) → H → H
  | [], h => h
  | (b, j) :: r, h => frzAll r (frzLk h b j)
theorem frzAll_has : ∀ (l : List (Nat × Nat)) (h : H) (c : Nat), has (frzAll l h) c = has h c
  | [], h, c => rfl
  | (b, j) :: r, h, c => by rw [frzAll, frzAll_has r, frzLk_has]
theorem frzLk_hr {E : Env} {h : H} {B : Nat} {w : World} (r : HR E h B w) (b j : Nat) : HR E (frzLk h b j) B w := by
  unfold frzLk
  split
  · rename_i ks e hl; exact r.frz hl
  · exact r
theorem frzAll_hr {E : Env} {B : Nat} {w : World} : ∀ (l : List (Nat × Nat)) {h : H}, HR E h B w → HR E (frzAll l h) B w
  | [], h, r => r
  | (b, j) :: l, h, r => frzAll_hr l (frzLk_hr r b j)
def conCall (cs : List Con) : CallF := fun f args h q id => match conCall0 cs f args h q id with
  | some R => some R
  | none => match args.flatMap (ownsT h) with
    | [] => none
    | l => conCall0 cs f args (frzAll l h) q id
theorem conCall_ok {P : Program} {T : Tab} {cs : List Con} (hcs : ∀ c ∈ cs, ConS P T c) (B : Nat) : CallS P T B (conCall cs) := by
  intro f args h q id R hR E w hb hr hqb hqd nb
  unfold conCall at hR
  split at hR
  · rename_i R' h0
    obtain rfl := Option.some.inj hR
    exact conCall0_ok hcs B f args h q id _ h0 E w hb hr hqb hqd nb
  · split at hR
    · cases hR
    · rename_i l _
      have s1 : Sub h (frzAll (args.flatMap (ownsT h)) h) := fun c hc => by rw [frzAll_has]; exact hc
      have st : Step E h B w E (frzAll (args.flatMap (ownsT h)) h) w := ⟨Ag.refl _ _, s1, frzAll_hr _ hr, Below.refl _ _⟩
      refine (conCall0_ok hcs B f args _ q id R hR E w (fun x hx => bdT_sub s1 (hb x hx)) st.hr (bdQ_sub s1 hqb) hqd (nb.sub (Ag.refl _ _) s1 fun _ h => h)).mono ?_
      rintro e w' ⟨r, hr', E', rfl, s', b, b1, b2⟩
      exact ⟨r, hr', E', rfl, st.trans s', b, b1, b2⟩
end Go.Proofs.YtjemohphaeiaiaaGreatDoor.Sy
