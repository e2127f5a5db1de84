/- Lists of the walk's own: append, make, a place that is written, parts of lists. -/
import Derived.Test.YtkepkjahbcddlaaSyStep
import Derived.Laws.Slices
namespace Go.Proofs.Ytkepkjahbcddlaa.Sy
open Go Go.RowKit
set_option linter.unusedVariables false
set_option linter.unusedSimpArgs false
set_option linter.unusedSectionVars false
variable [Kinds]
/-! ### A list that is given up, or that stays as it is -/
def setLk (h : H) (b j : Nat) (x : LK) : H := match look h b with
  | some (.lst l) => hput h b (.lst (l.set j x))
  | _ => h
theorem setLk_has (h : H) (b j : Nat) (x : LK) (c : Nat) : has (setLk h b j x) c = has h c := by
  unfold setLk
  split
  · rename_i l hl
    rw [has_put]
    by_cases e : b = c
    · subst e; simp [has, hl]
    · simp [e]
  · rfl
theorem setLk_get (h : H) (b j : Nat) (x : LK) (c : Nat) : hget (setLk h b j x) c = hget h c := by
  unfold setLk
  split
  · rename_i l hl
    by_cases e : b = c
    · subst e; rw [hget_lst]; simp [hget, hl]
    · rw [hget_ne _ e]
  · rfl
theorem setLk_mget (h : H) (b j : Nat) (x : LK) (c : Nat) : mget (setLk h b j x) c = mget h c := by
  unfold setLk
  split
  · rename_i l hl
    by_cases e : b = c
    · subst e; simp [mget, look_same, hl]
    · rw [mget_ne _ e]
  · rfl
theorem setLk_ne {h : H} {b j : Nat} {x : LK} {c i : Nat} (hne : ¬ (c = b ∧ i = j)) : lk (setLk h b j x) c i = lk h c i := by
  unfold setLk
  split
  · rename_i l hl
    by_cases e : b = c
    · subst e
      have hij : i ≠ j := fun q => hne ⟨rfl, q⟩
      rw [lk_lst]
      simp only [lk, hl, List.getD_eq_getElem?_getD]
      rw [List.getElem?_set_ne (Ne.symm hij)]
    · rw [lk_ne _ e]
  · rfl
theorem setLk_same {h : H} {b j : Nat} {x : LK} (hb : lk h b j ≠ .gone) : lk (setLk h b j x) b j = x := by
  unfold setLk
  split
  · rename_i l hl
    rw [lk_lst]
    have hj : j < l.length := by
      refine Classical.byContradiction fun hn => hb ?_
      simp [lk, hl, List.getD_eq_getElem?_getD, List.getElem?_eq_none (Nat.le_of_not_lt hn)]
    simp [List.getD_eq_getElem?_getD, hj]
  · rename_i hl
    exfalso
    apply hb
    unfold lk
    split
    · rename_i l hl'; exact absurd hl' (hl l)
    · rfl
theorem setLk_sub (h : H) (b j : Nat) (x : LK) : Sub h (setLk h b j x) := fun c hc => by rw [setLk_has]; exact hc
theorem setLk_sub' (h : H) (b j : Nat) (x : LK) : Sub (setLk h b j x) h := fun c hc => by rw [setLk_has] at hc; exact hc
theorem addr_block {A : Addr} {n : Nat} : (A.add n).block = A.block := addr_add_block A n
/-- What is the walk's own may be told as what only is read. -/
theorem HR.frz {E : Env} {h : H} {B : Bd} {w : World} (r : HR E h B w) {b j : Nat} {ks : List CK} {e : Nat} (hl : lk h b j = .own ks e) : HR E (setLk h b j (.rd ks false)) B w := by
  have hne : lk h b j ≠ .gone := by rw [hl]; simp
  have lks : ∀ c i, (c = b ∧ i = j ∧ lk (setLk h b j (.rd ks false)) c i = .rd ks false) ∨ (lk (setLk h b j (.rd ks false)) c i = lk h c i ∧ ¬ (c = b ∧ i = j)) := by
    intro c i
    by_cases e : c = b ∧ i = j
    · obtain ⟨rfl, rfl⟩ := e; exact .inl ⟨rfl, rfl, setLk_same hne⟩
    · exact .inr ⟨setLk_ne e, e⟩
  have ook := r.lst.ok b j
  rw [hl] at ook
  have toOwn : ∀ k, (LK.rd ks false).occ (E.r b) j k → (lk h b j).occ (E.r b) j k := by
    intro k hk
    rw [hl]
    refine ⟨fun hm => hk.1 ?_, hk.2⟩
    have := (OOk.rok ook).cap
    exact List.eq_nil_of_length_eq_zero (by omega)
  refine ⟨r.low, fun c x hx => ?_, fun c d x y hx hy => ?_, fun c x hx v hv => ?_, fun c m hm => r.mps c m (by rw [setLk_mget] at hm; exact hm), fun c i => ?_, fun c i k hk => ?_, fun c i ks' e' ho c' i' k hk hk' => ?_, fun c i ks' old ho k hk => ?_, fun c i ho x hx => ?_, fun c i k ps os ho c' i' x hk hk' => ?_, fun c i k ps os ho q hq => ?_, fun c i x y ho => ?_, fun c i k ho x hx => ?_⟩
  · rw [setLk_get] at hx; exact r.blk c x hx
  · rw [setLk_get] at hx hy; exact r.inj c d x y hx hy
  · rw [setLk_get] at hx; exact bd_sub (setLk_sub _ _ _ _) (r.bnd c x hx v hv)
  · rcases lks c i with ⟨rfl, rfl, e1⟩ | ⟨e1, _⟩
    · rw [e1]; exact OOk.rok ook
    · rw [e1]; exact r.lst.ok c i
  · rcases lks c i with ⟨rfl, rfl, e1⟩ | ⟨e1, _⟩
    · rw [e1] at hk
      have := r.lst.lt c i k (toOwn k hk)
      exact ⟨this.1, fun d x hx => this.2 d x (by rw [setLk_get] at hx; exact hx)⟩
    · rw [e1] at hk
      have := r.lst.lt c i k hk
      exact ⟨this.1, fun d x hx => this.2 d x (by rw [setLk_get] at hx; exact hx)⟩
  · rcases lks c i with ⟨rfl, rfl, e1⟩ | ⟨e1, n1⟩
    · rw [e1] at ho; cases ho
    · rw [e1] at ho hk
      rcases lks c' i' with ⟨rfl, rfl, e2⟩ | ⟨e2, _⟩
      · exfalso
        rw [e2] at hk'
        obtain ⟨rfl, rfl⟩ := r.lst.sep c i ks' e' ho c' i' k hk (toOwn k hk')
        exact n1 ⟨rfl, rfl⟩
      · rw [e2] at hk'
        exact r.lst.sep c i ks' e' ho c' i' k hk hk'
  · rcases lks c i with ⟨rfl, rfl, e1⟩ | ⟨e1, _⟩
    · rw [e1] at ho hk
      cases ho
      exact .inl (r.lst.fre c i (by rw [hl]; trivial) k (toOwn k hk))
    · rw [e1] at ho hk
      rcases r.lst.inn c i ks' old ho k hk with h1 | ⟨h1, h2, h3⟩
      · exact .inl h1
      · exact .inr ⟨h1, setLk_sub _ _ _ _ 0 h2, h3⟩
  · rcases lks c i with ⟨rfl, rfl, e1⟩ | ⟨e1, _⟩
    · rw [e1] at ho; exact ho.elim
    · rw [e1] at ho hx
      exact r.lst.fre c i ho x hx
  · rcases lks c i with ⟨rfl, rfl, e1⟩ | ⟨e1, n1⟩
    · rw [e1] at ho; cases ho
    · rw [e1] at ho
      rcases lks c' i' with ⟨rfl, rfl, e2⟩ | ⟨e2, _⟩
      · exfalso
        rw [e2] at hk'
        rcases r.lst.alo c i k ps os ho c' i' x hk (toOwn x hk') with ⟨rfl, rfl⟩ | hv
        · exact n1 ⟨rfl, rfl⟩
        · rw [hl] at hv; exact hv
      · rw [e2] at hk' ⊢
        exact r.lst.alo c i k ps os ho c' i' x hk hk'
  · rcases lks c i with ⟨rfl, rfl, e1⟩ | ⟨e1, n1⟩
    · rw [e1] at ho; cases ho
    · rw [e1] at ho
      obtain ⟨h1, h2, h3⟩ := r.lst.opn c i k ps os ho q hq
      exact ⟨h1, h2, setLk_sub _ _ _ _ _ h3⟩
  · rcases lks c i with ⟨rfl, rfl, e1⟩ | ⟨e1, n1⟩
    · rw [e1] at ho; cases ho
    · rw [e1] at ho
      obtain ⟨h1, h2, h3⟩ := r.lst.ali c i x y ho
      exact ⟨bd_sub (setLk_sub _ _ _ _) h1, bd_sub (setLk_sub _ _ _ _) h2, h3⟩
  · rcases lks c i with ⟨rfl, rfl, e1⟩ | ⟨e1, n1⟩
    · rw [e1] at ho; cases ho
    · rw [e1] at ho hx
      exact r.lst.old c i k ho x hx
/-- A new list of the walk's own: in a new block, or in the block of one that is given up. -/
theorem HR.own {E : Env} {h h1 : H} {B : Bd} {w w' : World} (r : HR E h B w) (hnm : ∀ c, mget h1 c = none) {id : Nat} (hid : has h id = false) (hid1 : has h1 id = false) {rec : Rec} {ks : List CK} {e : Nat} {row : Option Nat}
    (hblk : ∀ c x, hget h1 c = some x → ∃ y, hget h c = some y ∧ x.elem = y.elem ∧ x.full = y.full ∧ x.cells.map (cv (E.setR id rec)) = y.cells.map (cv E) ∧ ∀ v ∈ x.cells, bd (hput h1 id (.lst [.own ks e])) v = true)
    (hlk : ∀ b j, lk h1 b j = lk h b j ∨ lk h1 b j = .gone) (h0 : Sub h h1)
    (hrow : ∀ k, row = some k → B.free k ∧ (∀ c x, hget h c = some x → E.s c ≠ k) ∧ ∀ b j, (lk h b j).occ (E.r b) j k → lk h1 b j = .gone)
    (g : w.grownBy w' row) (ok : OOk 0 w' rec 0 ks e) (hocc : ∀ k, (LK.own ks e).occ rec 0 k → k < w'.heap.size ∧ (w.heap.size ≤ k ∨ row = some k)) :
    HR (E.setR id rec) (hput h1 id (.lst [.own ks e])) B w' := by
  have blk : ∀ {b x}, hget (hput h1 id (.lst [.own ks e])) b = some x → b ≠ id ∧ hget h1 b = some x := by
    intro b x hx
    by_cases e : id = b
    · subst e; rw [hget_lst] at hx; cases hx
    · rw [hget_ne _ e] at hx; exact ⟨fun q => e q.symm, hx⟩
  have ne_id : ∀ {b j}, lk h b j ≠ .gone → b ≠ id := by
    rintro b j hg rfl
    rw [has_of_lk hg] at hid; cases hid
  have lks : ∀ b j, (b = id ∧ j = 0 ∧ lk (hput h1 id (.lst [.own ks e])) b j = .own ks e) ∨ lk (hput h1 id (.lst [.own ks e])) b j = .gone ∨ (b ≠ id ∧ lk (hput h1 id (.lst [.own ks e])) b j = lk h b j ∧ lk h1 b j = lk h b j) := by
    intro b j
    by_cases q : id = b
    · subst q
      cases j with
      | zero => exact .inl ⟨rfl, rfl, lk_lst _ _ _ _⟩
      | succ j => right; left; rw [lk_lst]; rfl
    · right
      rw [lk_ne _ q]
      rcases hlk b j with h2 | h2
      · exact .inr ⟨fun e => q e.symm, h2, h2⟩
      · exact .inl h2
  have keepb : ∀ k, k < w.heap.size → row ≠ some k → w'.heap[k]? = w.heap[k]? := fun k hk hr => g.block k hk (fun e => hr e.symm)
  refine ⟨Nat.le_trans r.low g.size, fun c x hx => ?_, fun c d x y hx hy he => ?_, fun c x hx v hv => ?_, fun c m hm => (by cases (mget_put (fun es n => by simp) hm).2.symm.trans (hnm c)), fun b j => ?_, fun b j k hk => ?_, fun b j ks' e' ho b' j' k hk hk' => ?_, fun b j ks' old ho k hk => ?_, fun b j ho x hx => ?_, fun b j k ps os ho b' j' x hk hk' => ?_, fun b j k ps os ho q hq => ?_, fun b j x y ho => ?_, fun b j k ho x hx => ?_⟩
  · obtain ⟨_, hx⟩ := blk hx
    obtain ⟨y, hy, e1, e2, e3, _⟩ := hblk c x hx
    obtain ⟨g1, sp, g2, g3⟩ := r.blk c y hy
    refine ⟨g1, sp, ?_, ?_⟩
    · show w'.heap[E.s c]? = _
      rw [e3, e1, ← g2]
      exact keepb _ (r.lt hy) (fun hr => (hrow _ hr).2.1 c y hy rfl)
    · have := congrArg List.length e3
      simp only [List.length_map] at this
      show SpOk x.full x.cells.length sp.length (E.k c)
      rw [this, e2]; exact g3
  · obtain ⟨_, hx⟩ := blk hx
    obtain ⟨_, hy⟩ := blk hy
    obtain ⟨x', hx', _⟩ := hblk c x hx
    obtain ⟨y', hy', _⟩ := hblk d y hy
    exact r.inj c d x' y' hx' hy' he
  · obtain ⟨_, hx⟩ := blk hx
    obtain ⟨_, _, _, _, _, hb⟩ := hblk c x hx
    exact hb v hv
  · rcases lks b j with ⟨rfl, rfl, e1⟩ | e1 | ⟨hb, e1, e1'⟩
    · rw [e1, Env.setR_r]; exact ok
    · rw [e1]; trivial
    · rw [e1, Env.setR_ne _ _ hb]
      refine LK.keep (r.lst.ok b j) fun n hn => ?_
      refine keepb n (r.lst.lt b j n hn).1 fun hr => ?_
      have := (hrow n hr).2.2 b j hn
      rw [e1'] at this
      rw [this] at hn; exact hn
  · rcases lks b j with ⟨rfl, rfl, e1⟩ | e1 | ⟨hb, e1, e1'⟩
    · rw [e1, Env.setR_r] at hk
      obtain ⟨h2, h3⟩ := hocc k hk
      refine ⟨h2, fun c x hx he => ?_⟩
      obtain ⟨_, hx⟩ := blk hx
      obtain ⟨y, hy, _⟩ := hblk c x hx
      rcases h3 with h3 | h3
      · have := r.lt hy
        have he : E.s c = k := he
        omega
      · exact (hrow k h3).2.1 c y hy he
    · rw [e1] at hk; exact hk.elim
    · rw [e1, Env.setR_ne _ _ hb] at hk
      obtain ⟨h2, h3⟩ := r.lst.lt b j k hk
      refine ⟨Nat.lt_of_lt_of_le h2 g.size, fun c x hx he => ?_⟩
      obtain ⟨_, hx⟩ := blk hx
      obtain ⟨y, hy, _⟩ := hblk c x hx
      exact h3 c y hy he
  · have old : ∀ {b j k}, b ≠ id → lk h1 b j = lk h b j → (lk h b j).occ (E.r b) j k → (LK.own ks e).occ rec 0 k → False := by
      intro b j k hb e1' hk hk0
      rcases (hocc k hk0).2 with h3 | h3
      · have := (r.lst.lt b j k hk).1
        omega
      · have := (hrow k h3).2.2 b j hk
        rw [e1'] at this
        rw [this] at hk; exact hk
    rcases lks b j with ⟨rfl, rfl, e1⟩ | e1 | ⟨hb, e1, e1'⟩
    · rw [e1, Env.setR_r] at hk
      rcases lks b' j' with ⟨rfl, rfl, e2⟩ | e2 | ⟨hb', e2, e2'⟩
      · exact ⟨rfl, rfl⟩
      · rw [e2] at hk'; exact hk'.elim
      · rw [e2, Env.setR_ne _ _ hb'] at hk'
        exact (old hb' e2' hk' hk).elim
    · rw [e1] at ho; cases ho
    · rw [e1] at ho hk
      rw [Env.setR_ne _ _ hb] at hk
      rcases lks b' j' with ⟨rfl, rfl, e2⟩ | e2 | ⟨hb', e2, e2'⟩
      · rw [e2, Env.setR_r] at hk'
        exact (old hb e1' hk hk').elim
      · rw [e2] at hk'; exact hk'.elim
      · rw [e2, Env.setR_ne _ _ hb'] at hk'
        exact r.lst.sep b j ks' e' ho b' j' k hk hk'
  · rcases lks b j with ⟨rfl, rfl, e1⟩ | e1 | ⟨hb, e1, e1'⟩
    · rw [e1] at ho; cases ho
    · rw [e1] at ho; cases ho
    · rw [e1] at ho hk
      rw [Env.setR_ne _ _ hb] at hk
      rcases r.lst.inn b j ks' old ho k hk with h2 | ⟨h2, h3, h4⟩
      · exact .inl h2
      · have hne : (0 : Nat) ≠ id := by rintro rfl; rw [hid] at h3; cases h3
        refine .inr ⟨h2, ?_, ?_⟩
        · rw [has_put, h0 _ h3, Bool.or_true]
        · rw [Env.setR_ne _ _ hne]; exact h4
  · rcases lks b j with ⟨rfl, rfl, e1⟩ | e1 | ⟨hb, e1, e1'⟩
    · rw [e1, Env.setR_r] at hx
      rcases (hocc x hx).2 with h3 | h3
      · exact .inl (Nat.le_trans r.low h3)
      · exact (hrow x h3).1
    · rw [e1] at ho; exact ho.elim
    · rw [e1] at ho hx
      rw [Env.setR_ne _ _ hb] at hx
      exact r.lst.fre b j ho x hx
  · rcases lks b j with ⟨rfl, rfl, e1⟩ | e1 | ⟨hb, e1, e1'⟩
    · rw [e1] at ho; cases ho
    · rw [e1] at ho; cases ho
    · rw [e1] at ho
      rw [Env.setR_ne _ _ hb] at hk
      have hoc : (lk h b j).occ (E.r b) j x := by rw [ho]; exact hk
      rcases lks b' j' with ⟨rfl, rfl, e2⟩ | e2 | ⟨hb', e2, e2'⟩
      · exfalso
        rw [e2, Env.setR_r] at hk'
        rcases (hocc x hk').2 with h3 | h3
        · have := (r.lst.lt b j x hoc).1
          omega
        · have := (hrow x h3).2.2 b j hoc
          rw [e1', ho] at this
          cases this
      · rw [e2] at hk'; exact hk'.elim
      · rw [e2, Env.setR_ne _ _ hb'] at hk'
        rw [e2]
        exact r.lst.alo b j k ps os ho b' j' x hk hk'
  · rcases lks b j with ⟨rfl, rfl, e1⟩ | e1 | ⟨hb, e1, e1'⟩
    · rw [e1] at ho; cases ho
    · rw [e1] at ho; cases ho
    · rw [e1] at ho
      obtain ⟨g1, g2, g3⟩ := r.lst.opn b j k ps os ho q hq
      rw [Env.setR_ne _ _ hb]
      exact ⟨g1, g2, by rw [has_put, h0 _ g3, Bool.or_true]⟩
  · rcases lks b j with ⟨rfl, rfl, e1⟩ | e1 | ⟨hb, e1, e1'⟩
    · rw [e1] at ho; cases ho
    · rw [e1] at ho; cases ho
    · rw [e1] at ho
      obtain ⟨g1, g2, g3⟩ := r.lst.ali b j x y ho
      have sub : Sub h (hput h1 id (.lst [.own ks e])) := fun c hc => by rw [has_put, h0 _ hc, Bool.or_true]
      have ag := ag_setR hid E rec
      exact ⟨bd_sub sub g1, bd_sub sub g2, by rw [← cv_ag ag g1, ← cv_ag ag g2]; exact g3⟩
  · rcases lks b j with ⟨rfl, rfl, e1⟩ | e1 | ⟨hb, e1, e1'⟩
    · rw [e1] at ho; cases ho
    · rw [e1] at ho; cases ho
    · rw [e1] at ho hx
      rw [Env.setR_ne _ _ hb] at hx
      exact r.lst.old b j k ho x hx

theorem below_grown {B : Bd} {w w' : World} {row : Option Nat} (g : w.grownBy w' row) (hl : B.n ≤ w.heap.size) (hr : ∀ k, row = some k → B.free k) : Bel B w w' :=
  ⟨g.os, g.tape, g.output, g.size, fun k hk => g.block k (Nat.lt_of_lt_of_le (Nat.lt_of_not_le fun h => hk (.inl h)) hl) (fun e => hk (hr k e.symm))⟩
/-! ### append -/
/-- What an own list's rows are in memory: it has no room at all, or a row of its own. -/
def OwnV (w : World) (B e z : Nat) (a : Option Addr) (n m : Nat) (xs : List Value) : Prop := (n = 0 ∧ m = 0 ∧ xs = []) ∨ w.ownsRow B e z (.slice a n m) n xs
theorem run_append_zero {P : Program} {ty e : TypeId} {i : TypeInfo} (hu : P.underlying ty = some (.slice e)) (hi : P.info? e = some i) (w : World) (tt : TypeId) (a : Option Addr) (n m : Nat) (hnm : n ≤ m) (b : Option Addr) (c : Nat) :
    (Builtin.append_ #[ty, ty] tt #[.slice a n m, .slice b 0 c]).run P w = .ok (.slice a n m) w := by
  cases b with
  | none => cases a <;> simp [Builtin.append_, run_underlying hu, sizeOf, typeInfo, hi, Builtin.lenOf, Builtin.firstCells, hnm, storeCells]
  | some A =>
    have hf := run_firstCells_some (P := P) w i.size 0 A 0 c [] (by simp) (by simp)
    cases a <;> simp [Builtin.append_, run_underlying hu, sizeOf, typeInfo, hi, Builtin.lenOf, hf, hnm, storeCells]
theorem app_run {P : Program} {ty e : TypeId} {i : TypeInfo} {z : Value} (hu : P.underlying ty = some (.slice e)) (hi : P.info? e = some i) (hz : i.zero = some z) (hzs : z.cells.size = i.size) (hsz : 0 < i.size) (hby : i.bytes ≤ 10000)
    {w : World} {B : Nat} (hlow : B ≤ w.heap.size) (tt : TypeId) {a : Option Addr} {n m : Nat} {xs : List Value} (O : OwnV w B e i.size a n m xs)
    {b : Option Addr} {k c : Nat} {news : List Value} (hl : news.length = k * i.size) (hnews : ∀ j u, news[j]? = some u → ∃ A, b = some A ∧ w.cell? (A.add j) = some u) (h1 : ∀ u ∈ news, u.oneCell' = true)
    (hn : n ≤ 1000000000) (hk : k ≤ 1000000000) :
    ∃ a' m' w' row, (Builtin.append_ #[ty, ty] tt #[.slice a n m, .slice b k c]).run P w = .ok (.slice a' (n + k) m') w' ∧ OwnV w' B e i.size a' (n + k) m' (xs ++ news) ∧ w.grownBy w' row ∧
      (∀ g, row = some g → m ≠ 0 ∧ a.map (·.block) = some g) ∧ (∀ g, m' ≠ 0 → a'.map (·.block) = some g → g < w'.heap.size ∧ (w.heap.size ≤ g ∨ row = some g)) := by
  have hxs : xs.length = n * i.size := by
    rcases O with ⟨rfl, _, rfl⟩ | O
    · simp
    · exact O.1
  have hnm : n ≤ m := by
    rcases O with ⟨rfl, rfl, _⟩ | O
    · exact Nat.le_refl _
    · rcases O.2 with ⟨hv, rfl⟩ | ⟨g, cap, cur, hv, _, _, hc, _⟩
      · exact Nat.zero_le _
      · simp only [Value.slice.injEq, true_and] at hv
        rw [hv.2]; exact hc
  have hml : n ≤ maxLen := by simp only [maxLen]; omega
  by_cases k0 : k = 0
  · subst k0
    have hnil : news = [] := List.eq_nil_of_length_eq_zero (by simpa using hl)
    subst hnil
    refine ⟨a, m, w, if m = 0 then none else a.map (·.block), run_append_zero hu hi w tt a n m hnm b c, by simpa using O, ⟨rfl, rfl, rfl, Nat.le_refl _, fun _ _ _ => rfl⟩, fun g hg => ?_, fun g hm hg => ?_⟩
    · split at hg
      · cases hg
      · rename_i hm; exact ⟨hm, hg⟩
    · rw [if_neg hm]
      refine ⟨?_, .inr hg⟩
      rcases O with ⟨_, hm0, _⟩ | O
      · exact absurd hm0 hm
      · rcases O.2 with ⟨hv, _⟩ | ⟨g', cap, cur, hv, _, hh, _⟩
        · simp only [Value.slice.injEq] at hv
          exact absurd hv.2.2 hm
        · simp only [Value.slice.injEq] at hv
          rw [hv.1] at hg
          have : g' = g := by simpa using hg
          rw [← this]
          exact (Array.getElem?_eq_some_iff.1 hh).1
  · -- there is something to append
    have hA : ∃ A, b = some A := by
      cases hx : news with
      | nil =>
        rw [hx] at hl
        have : k * i.size = 0 := hl.symm
        rcases Nat.mul_eq_zero.1 this with h | h <;> omega
      | cons u r =>
        obtain ⟨A, hA, _⟩ := hnews 0 u (by rw [hx]; rfl)
        exact ⟨A, hA⟩
    obtain ⟨A, rfl⟩ := hA
    have hnews' : ∀ j u, news[j]? = some u → w.cell? (A.add j) = some u := by
      intro j u hj
      obtain ⟨A', hA', h⟩ := hnews j u hj
      obtain rfl := Option.some.inj hA'
      exact h
    have hmk : n + k ≤ maxLen := by simp only [maxLen]; omega
    have hbytes : ∀ q, q ≤ 2000000000 → q * i.bytes ≤ 140737488355328 := by
      intro q hq
      have : q * i.bytes ≤ 2000000000 * 10000 := Nat.mul_le_mul hq hby
      omega
    have grown : ∀ (old : Nat) (ys : List Value), ys.length = n * i.size → old < n + k →
        (w.drew.alloc (.cells (ys.toArray ++ news.toArray ++ Builtin.zeroCells z.cells (grownCap w (n + k) old e - (n + k))) e)).ownsRow B e i.size
          (.slice (some ⟨w.heap.size, 0, none⟩) (n + k) (grownCap w (n + k) old e)) (n + k) (ys ++ news) := by
      intro old ys hys ho
      have hge := grownCap_ge w (n + k) old e
      have hcm : grownCap w (n + k) old e ≤ maxLen := grownCap_le_maxLen w (n + k) old e hmk
      have hlen : (ys ++ news).length = (n + k) * i.size := by rw [List.length_append, hys, hl, Nat.add_mul]
      refine ⟨hlen, .inr ⟨w.heap.size, _, _, rfl, hlow, heap_alloc_new w.drew _, hge, hcm, ?_, ?_⟩⟩
      · simp only [Array.size_append, List.size_toArray, size_zeroCells, hzs, hys, hl, ← Nat.add_mul]
        congr 1
        omega
      · simp only [Array.toList_append, List.append_assoc]
        rw [← List.append_assoc, ← hlen]
        exact List.take_left
    have fin : ∀ (old : Nat) (ys : List Value), ys.length = n * i.size → old < n + k → ∀ row : Option Nat, (∀ g, row = some g → m ≠ 0 ∧ a.map (·.block) = some g) → ys = xs →
        (Builtin.append_ #[ty, ty] tt #[.slice a n m, .slice (some A) k c]).run P w = .ok (.slice (some ⟨w.heap.size, 0, none⟩) (n + k) (grownCap w (n + k) old e)) (w.drew.alloc (.cells (ys.toArray ++ news.toArray ++ Builtin.zeroCells z.cells (grownCap w (n + k) old e - (n + k))) e)) →
        ∃ a' m' w' row, (Builtin.append_ #[ty, ty] tt #[.slice a n m, .slice (some A) k c]).run P w = .ok (.slice a' (n + k) m') w' ∧ OwnV w' B e i.size a' (n + k) m' (xs ++ news) ∧ w.grownBy w' row ∧
      (∀ g, row = some g → m ≠ 0 ∧ a.map (·.block) = some g) ∧ (∀ g, m' ≠ 0 → a'.map (·.block) = some g → g < w'.heap.size ∧ (w.heap.size ≤ g ∨ row = some g)) := by
      intro old ys hys ho row hrow hyx hr
      refine ⟨_, _, _, none, hr, .inr ?_, ⟨rfl, rfl, rfl, by simp, fun k hk _ => heap_alloc_old w.drew _ k hk⟩, by simp, fun g _ hg => ?_⟩
      · have := grown old ys hys ho
        rw [hyx] at this ⊢
        exact this
      · have : w.heap.size = g := by simpa using hg
        subst this
        simp
    by_cases m0 : m = 0
    · have n0 : n = 0 := by omega
      subst m0 n0
      have hx0 : xs = [] := List.eq_nil_of_length_eq_zero (by simpa using hxs)
      subst hx0
      cases a with
      | none =>
        have hr := run_append_nil (P := P) w ty tt e i z hu hi hz A k c news hl hnews' (by omega) (by omega) (by have := hbytes k (by omega); omega)
        refine fin 0 [] (by simp) (by omega) none (by simp) rfl (hr.trans ?_)
        simp
      | some A0 =>
        have hr := run_append_grow (P := P) w ty tt e i z hu hi hz A0 0 0 [] (by simp) (by simp) A k c news hl hnews' (by omega) (by omega) (growslice_fits (by omega) (by have := hbytes (0 + k) (by omega); omega))
        exact fin 0 [] (by simp) (by omega) none (by simp) rfl hr
    · rcases O with ⟨_, hm0, _⟩ | O
      · exact absurd hm0 m0
      rcases O.2 with ⟨hv, _⟩ | ⟨g, cap, cur, hv, hbg, hg, hnc, hcm, hcs, htake⟩
      · simp only [Value.slice.injEq] at hv
        exact absurd hv.2.2 m0
      · simp only [Value.slice.injEq, true_and] at hv
        obtain ⟨rfl, rfl⟩ := hv
        by_cases hroom : n + k ≤ m
        · have hfit : n * i.size + news.length ≤ cur.size := by rw [hl, hcs, ← Nat.add_mul]; exact Nat.mul_le_mul_right _ hroom
          have hlen : (xs ++ news).length = (n + k) * i.size := by rw [List.length_append, hxs, hl, Nat.add_mul]
          have hr := run_append_room (P := P) w ty tt e i hu hi g n m cur hg A k c news hl hnews' h1 hroom hfit
          refine ⟨_, _, _, some g, hr, .inr ⟨hlen, .inr ⟨g, m, _, rfl, hbg, setRow_heap w g cur _ e _ hg, hroom, hcm, ?_, ?_⟩⟩, ⟨rfl, rfl, rfl, by simp, fun k _ hk => setRow_other w g k _ (fun e => hk (by simp [e]))⟩, fun g' hg' => ?_, fun g' _ hg' => ?_⟩
          · simp only [List.size_toArray, List.length_append, List.length_take, List.length_drop, Array.length_toList]
            omega
          · rw [htake, ← hlen]
            exact List.take_left
          · obtain rfl := Option.some.inj hg'
            exact ⟨m0, rfl⟩
          · have : g = g' := by simpa using hg'
            subst this
            exact ⟨by rw [setRow_size]; exact (Array.getElem?_eq_some_iff.1 hg).1, .inr rfl⟩
        · have holds : ∀ j u, xs[j]? = some u → w.cell? ((⟨g, 0, none⟩ : Addr).add j) = some u := O.cells (g := g) rfl
          have hr := run_append_grow (P := P) w ty tt e i z hu hi hz ⟨g, 0, none⟩ n m xs hxs holds A k c news hl hnews' (by omega) (by omega) (growslice_fits (by omega) (by have := hbytes (n + k) (by omega); omega))
          exact fin m xs hxs (by omega) none (by simp) rfl hr
/-! ### Rows in memory -/
theorem encR_append : ∀ (k1 k2 : List CK) (x1 x2 : List Int), x1.length = k1.length → encR (k1 ++ k2) (x1 ++ x2) = encR k1 x1 ++ encR k2 x2
  | [], k2, [], x2, _ => rfl
  | k :: k1, k2, x :: x1, x2, h => by
    simp only [List.length_cons, Nat.add_right_cancel_iff] at h
    simp only [List.cons_append, encR, encR_append k1 k2 x1 x2 h]
  | [], _, _ :: _, _, h => by simp at h
  | _ :: _, _, [], _, h => by simp at h
theorem encR_take : ∀ (ks : List CK) (r : List Int) (o : Nat), encR (ks.take o) (r.take o) = (encR ks r).take o
  | ks, r, 0 => by simp [encR]
  | [], r, o + 1 => by simp [encR]
  | k :: ks, [], o + 1 => by simp [encR]
  | k :: ks, x :: r, o + 1 => by simp [encR, encR_take ks r o]
theorem encR_drop : ∀ (ks : List CK) (r : List Int) (o : Nat), encR (ks.drop o) (r.drop o) = (encR ks r).drop o
  | ks, r, 0 => by simp
  | [], r, o + 1 => by simp [encR]
  | k :: ks, [], o + 1 => by
    simp only [List.drop_nil, encR, List.drop_succ_cons]
    cases ks.drop o <;> rfl
  | k :: ks, x :: r, o + 1 => by simp [encR, encR_drop ks r o]
theorem encR_put {ks : List CK} {r xs : List Int} {o : Nat} (hr : r.length = ks.length) (ho : o + xs.length ≤ ks.length) :
    encR ks (rowPut r o xs) = (encR ks r).take o ++ encR ((ks.drop o).take xs.length) xs ++ (encR ks r).drop (o + xs.length) := by
  have e : ks = ks.take o ++ (ks.drop o).take xs.length ++ ks.drop (o + xs.length) := by
    rw [List.append_assoc, ← List.drop_drop, List.take_append_drop, List.take_append_drop]
  unfold rowPut
  conv => lhs; rw [e]
  rw [encR_append _ _ _ _ (by simp; omega), encR_append _ _ _ _ (by simp; omega), encR_take, encR_drop]
theorem encL_set {ks : List CK} : ∀ {L : List (List Int)} {i : Nat} {r r' : List Int}, L[i]? = some r → (∀ x ∈ L, x.length = ks.length) → encL ks (L.set i r') = (encL ks L).take (i * ks.length) ++ encR ks r' ++ (encL ks L).drop (i * ks.length + ks.length)
  | [], i, r, r', h, _ => by simp at h
  | x :: L, 0, r, r', h, hw => by
    have hx := encR_length ks x (hw x (by simp))
    simp only [List.set_cons_zero, encL, List.flatMap_cons, Nat.zero_mul, Nat.zero_add, List.take_zero, List.nil_append]
    rw [List.drop_append_of_le_length (by omega), List.drop_of_length_le (by omega), List.nil_append]
  | x :: L, i + 1, r, r', h, hw => by
    have hx := encR_length ks x (hw x (by simp))
    have ih := encL_set (ks := ks) (r' := r') (show L[i]? = some r by simpa using h) (fun y hy => hw y (by simp [hy]))
    simp only [List.set_cons_succ, encL, List.flatMap_cons] at ih ⊢
    rw [ih, Nat.add_mul, Nat.one_mul]
    have e1 : (encR ks x ++ List.flatMap (encR ks) L).take (i * ks.length + ks.length) = encR ks x ++ (List.flatMap (encR ks) L).take (i * ks.length) := by
      have := List.take_length_add_append (l₁ := encR ks x) (l₂ := List.flatMap (encR ks) L) (i * ks.length)
      rw [hx, Nat.add_comm] at this
      exact this
    have e2 : (encR ks x ++ List.flatMap (encR ks) L).drop (i * ks.length + ks.length + ks.length) = (List.flatMap (encR ks) L).drop (i * ks.length + ks.length) := by
      have := List.drop_length_add_append (l₁ := encR ks x) (l₂ := List.flatMap (encR ks) L) (i * ks.length + ks.length)
      rw [hx, Nat.add_comm] at this
      exact this
    rw [e1, e2]
    simp only [List.append_assoc]
theorem encL_part {ks : List CK} : ∀ {L : List (List Int)} {i : Nat} {r : List Int}, L[i]? = some r → (∀ x ∈ L, x.length = ks.length) → encL ks L = (encL ks L).take (i * ks.length) ++ encR ks r ++ (encL ks L).drop (i * ks.length + ks.length) := by
  intro L i r h hw
  have := encL_set (r' := r) h hw
  rw [← this]
  congr 1
  obtain ⟨hi, he⟩ := List.getElem?_eq_some_iff.1 h
  rw [← he, List.set_getElem_self]
theorem encL_rowSet {ks : List CK} {L : List (List Int)} {i : Int} {o : Nat} {xs : List Int} (h0 : 0 ≤ i) (h1 : i < L.length) (hw : ∀ x ∈ L, x.length = ks.length) (ho : o + xs.length ≤ ks.length) :
    encL ks (rowSet L i o xs) = (encL ks L).take (i.toNat * ks.length + o) ++ encR ((ks.drop o).take xs.length) xs ++ (encL ks L).drop (i.toNat * ks.length + o + xs.length) := by
  have hi : i.toNat < L.length := by omega
  have hr : L[i.toNat]? = some L[i.toNat] := List.getElem?_eq_getElem hi
  have hd : L.getD i.toNat [] = L[i.toNat] := by simp [List.getD_eq_getElem?_getD, hr]
  have hl := hw _ (List.getElem_mem hi)
  unfold rowSet
  rw [encL_set hr hw, hd, encR_put hl ho]
  have hp := encL_part hr hw
  have hel := encL_length ks L hw
  have hrl := encR_length ks _ hl
  have hz : i.toNat * ks.length + ks.length ≤ L.length * ks.length := by
    have := Nat.mul_le_mul_right ks.length (show i.toNat + 1 ≤ L.length by omega)
    rwa [Nat.add_mul, Nat.one_mul] at this
  generalize hX : encL ks L = X at *
  generalize hR : encR ks L[i.toNat] = R at *
  generalize hT : X.take (i.toNat * ks.length) = A at *
  generalize hD : X.drop (i.toNat * ks.length + ks.length) = D at *
  have hA : A.length = i.toNat * ks.length := by rw [← hT, List.length_take]; omega
  have e1 : X.take (i.toNat * ks.length + o) = A ++ R.take o := by
    rw [hp, List.append_assoc, List.take_append, hA, List.take_of_length_le (by omega), show i.toNat * ks.length + o - i.toNat * ks.length = o by omega, List.take_append_of_le_length (by omega)]
  have e2 : X.drop (i.toNat * ks.length + o + xs.length) = R.drop (o + xs.length) ++ D := by
    rw [hp, List.append_assoc, List.drop_append, hA, List.drop_of_length_le (by omega), List.nil_append, show i.toNat * ks.length + o + xs.length - i.toNat * ks.length = o + xs.length by omega, List.drop_append_of_le_length (by omega)]
  rw [e1, e2]
  simp only [List.append_assoc]
theorem rowPut_length {r : List Int} {o : Nat} {xs : List Int} (h : o + xs.length ≤ r.length) : (rowPut r o xs).length = r.length := by
  unfold rowPut
  simp only [List.length_append, List.length_take, List.length_drop]
  omega
theorem rowSet_length (L : List (List Int)) (i : Int) (o : Nat) (xs : List Int) : (rowSet L i o xs).length = L.length := by simp [rowSet]
theorem rowSet_wf {L : List (List Int)} {i : Int} {o n : Nat} {xs : List Int} (hw : ∀ x ∈ L, x.length = n) (ho : o + xs.length ≤ n) : ∀ x ∈ rowSet L i o xs, x.length = n := by
  intro x hx
  unfold rowSet at hx
  by_cases hi : i.toNat < L.length
  · rcases List.mem_or_eq_of_mem_set hx with hx | rfl
    · exact hw x hx
    · have hr : L[i.toNat]? = some L[i.toNat] := List.getElem?_eq_getElem hi
      have hl := hw _ (List.getElem_mem hi)
      rw [List.getD_eq_getElem?_getD, hr, Option.getD_some, rowPut_length (by omega)]
      exact hl
  · rw [List.set_eq_of_length_le (by omega)] at hx
    exact hw x hx
/-! ### A name in the place of another one -/
def subA (s : Nat × Nat × Nat) : AV → AV
  | .ls b j => bif Nat.beq b s.1 && Nat.beq j s.2.1 then .ls s.2.2 0 else .ls b j
  | .hp b j i z o => bif Nat.beq b s.1 && Nat.beq j s.2.1 then .hp s.2.2 0 i z o else .hp b j i z o
  | x => x
def subP (s : Nat × Nat × Nat) : PV → PV
  | .v x => .v (subA s x)
  | .agg l => .agg (l.map (subA s))
def subT (s : Nat × Nat × Nat) : TV → TV
  | .p x => .p (subP s x)
  | .tup l => .tup (l.map (subP s))
def subTs : Option (Nat × Nat × Nat) → List TV → List TV
  | none, t => t
  | some s, t => t.map (subT s)
def subH (s : Nat × Nat × Nat) : H → H
  | [] => []
  | (b, .blk x) :: r => (b, .blk ⟨x.cells.map (subA s), x.elem, x.full⟩) :: subH s r
  | p :: r => p :: subH s r
/-- Both names stand for the same place. -/
def SubOk (E : Env) (h : H) : Option (Nat × Nat × Nat) → Prop
  | none => True
  | some s => (E.r s.1).lv s.2.1 = (E.r s.2.2).lv 0 ∧ (E.r s.1).a s.2.1 = (E.r s.2.2).a 0 ∧ has h s.2.2 = true
theorem subA_eq {E : Env} {s : Nat × Nat × Nat} (h1 : (E.r s.1).lv s.2.1 = (E.r s.2.2).lv 0) (h2 : (E.r s.1).a s.2.1 = (E.r s.2.2).a 0) (x : AV) : cv E (subA s x) = cv E x := by
  unfold subA
  split
  · rename_i b j
    cases hb : (Nat.beq b s.1 && Nat.beq j s.2.1) with
    | false => rfl
    | true =>
      simp only [Bool.and_eq_true, Nat.beq_eq] at hb
      rw [hb.1, hb.2, cond_true]
      exact h1.symm
  · rename_i b j i z o
    cases hb : (Nat.beq b s.1 && Nat.beq j s.2.1) with
    | false => rfl
    | true =>
      simp only [Bool.and_eq_true, Nat.beq_eq] at hb
      rw [hb.1, hb.2, cond_true]
      simp only [cv, h2]
  · rfl
theorem subA_bd {h : H} {s : Nat × Nat × Nat} (hs : has h s.2.2 = true) {x : AV} (hx : bd h x = true) : bd h (subA s x) = true := by
  unfold subA
  split
  · rename_i b j
    cases hb : (Nat.beq b s.1 && Nat.beq j s.2.1) with
    | false => exact hx
    | true => exact hs
  · rename_i b j i z o
    cases hb : (Nat.beq b s.1 && Nat.beq j s.2.1) with
    | false => exact hx
    | true =>
      simp only [bd, Bool.and_eq_true] at hx
      simp only [cond_true, bd, hs, hx.2, Bool.and_self]
  · exact hx
theorem subP_eq {E : Env} {s : Nat × Nat × Nat} (h1 : (E.r s.1).lv s.2.1 = (E.r s.2.2).lv 0) (h2 : (E.r s.1).a s.2.1 = (E.r s.2.2).a 0) (x : PV) : cp E (subP s x) = cp E x := by
  cases x with
  | v x => exact subA_eq h1 h2 x
  | agg l => simp only [subP, cp, List.map_map, Function.comp_def, subA_eq h1 h2]
theorem subP_bd {h : H} {s : Nat × Nat × Nat} (hs : has h s.2.2 = true) {x : PV} (hx : bdP h x = true) : bdP h (subP s x) = true := by
  cases x with
  | v x => exact subA_bd hs hx
  | agg l =>
    simp only [subP, bdP, List.all_eq_true, List.mem_map] at *
    rintro y ⟨z, hz, rfl⟩
    exact subA_bd hs (hx z hz)
theorem subT_eq {E : Env} {s : Nat × Nat × Nat} (h1 : (E.r s.1).lv s.2.1 = (E.r s.2.2).lv 0) (h2 : (E.r s.1).a s.2.1 = (E.r s.2.2).a 0) (x : TV) : ct E (subT s x) = ct E x := by
  cases x with
  | p x => exact subP_eq h1 h2 x
  | tup l => simp only [subT, ct, List.map_map, Function.comp_def, subP_eq h1 h2]
theorem subT_bd {h : H} {s : Nat × Nat × Nat} (hs : has h s.2.2 = true) {x : TV} (hx : bdT h x = true) : bdT h (subT s x) = true := by
  cases x with
  | p x => exact subP_bd hs hx
  | tup l =>
    simp only [subT, bdT, List.all_eq_true, List.mem_map] at *
    rintro y ⟨z, hz, rfl⟩
    exact subP_bd hs (hx z hz)
theorem subTs_eq {E : Env} {h : H} {s : Option (Nat × Nat × Nat)} (k : SubOk E h s) (t : List TV) : (subTs s t).map (ct E) = t.map (ct E) := by
  cases s with
  | none => rfl
  | some s =>
    simp only [subTs, List.map_map]
    exact List.map_congr_left fun x _ => subT_eq k.1 k.2.1 x
theorem subTs_bd {E : Env} {h : H} {s : Option (Nat × Nat × Nat)} (k : SubOk E h s) {t : List TV} (ht : ∀ x ∈ t, bdT h x = true) : ∀ x ∈ subTs s t, bdT h x = true := by
  cases s with
  | none => exact ht
  | some s =>
    intro x hx
    obtain ⟨y, hy, rfl⟩ := List.mem_map.1 hx
    exact subT_bd k.2.2 (ht y hy)
theorem subH_look (s : Nat × Nat × Nat) : ∀ (h : H) (b : Nat), look (subH s h) b = match look h b with | some (.blk x) => some (.blk ⟨x.cells.map (subA s), x.elem, x.full⟩) | o => o
  | [], b => rfl
  | (k, .blk x) :: r, b => by
    simp only [subH, look_cons]
    split
    · rfl
    · exact subH_look s r b
  | (k, .dead) :: r, b => by
    simp only [subH, look_cons]
    split
    · rfl
    · exact subH_look s r b
  | (k, .lst l) :: r, b => by
    simp only [subH, look_cons]
    split
    · rfl
    · exact subH_look s r b
  | (k, .mp es n) :: r, b => by
    simp only [subH, look_cons]
    split
    · rfl
    · exact subH_look s r b
theorem subH_has (s : Nat × Nat × Nat) (h : H) (b : Nat) : has (subH s h) b = has h b := by
  unfold has
  rw [subH_look]
  split
  · rename_i x hx; rw [hx]; rfl
  · rfl
theorem subH_lk (s : Nat × Nat × Nat) (h : H) (b j : Nat) : lk (subH s h) b j = lk h b j := by
  unfold lk
  rw [subH_look]
  cases hl : look h b with
  | none => rfl
  | some x => cases x <;> rfl
theorem subH_mget (s : Nat × Nat × Nat) (h : H) (b : Nat) : mget (subH s h) b = mget h b := by
  unfold mget
  rw [subH_look]
  cases look h b with
  | none => rfl
  | some x => cases x <;> rfl
theorem subH_get (s : Nat × Nat × Nat) (h : H) (b : Nat) : hget (subH s h) b = (hget h b).map fun x => ⟨x.cells.map (subA s), x.elem, x.full⟩ := by
  unfold hget
  rw [subH_look]
  cases hl : look h b with
  | none => rfl
  | some x => cases x <;> rfl
/-! ### Cells that are rows -/
def b01 : AV → Option Bool
  | .val (.bool b) => some b
  | _ => none
theorem b01_eq {x : AV} {b : Bool} (h : b01 x = some b) : x = .val (.bool b) := by
  unfold b01 at h
  split at h
  · obtain rfl := Option.some.inj h; rfl
  · cases h
def rowCells (ks : List CK) (cs : List AV) : Option (List Ex) := match ks, cs with
  | [], _ => some []
  | .int k :: ks, x :: cs => match numA x, rowCells ks cs with
    | some (k', e), some r => bif keq k k' then some (e :: r) else none
    | _, _ => none
  | .bool :: ks, x :: cs => match b01 x, rowCells ks cs with
    | some b, some r => some (.n (bif b then 1 else 0) :: r)
    | _, _ => none
  | _, _ => none
def rowsCells (ks : List CK) : Nat → List AV → Option (List (List Ex))
  | 0, _ => some []
  | n + 1, cs => match rowCells ks cs, rowsCells ks n (cs.drop ks.length) with
    | some r, some l => some (r :: l)
    | _, _ => none
section
variable {E : Env} {h : H}
theorem rowCells_len : ∀ {ks : List CK} {cs : List AV} {r : List Ex}, rowCells ks cs = some r → r.length = ks.length
  | [], cs, r, hr => by simp only [rowCells, Option.some.injEq] at hr; subst hr; rfl
  | .int k :: ks, [], r, hr => by simp [rowCells] at hr
  | .int k :: ks, x :: cs, r, hr => by
    simp only [rowCells] at hr
    split at hr
    · rename_i k' e r' h1 h2
      cases hk : keq k k' with
      | false => rw [hk] at hr; cases hr
      | true =>
        rw [hk, cond_true, Option.some.injEq] at hr
        subst hr
        simp [rowCells_len h2]
    · cases hr
  | .bool :: ks, [], r, hr => by simp [rowCells] at hr
  | .bool :: ks, x :: cs, r, hr => by
    simp only [rowCells] at hr
    split at hr
    · rename_i b r' h1 h2
      obtain rfl := Option.some.inj hr
      simp [rowCells_len h2]
    · cases hr
theorem rowCells_eq : ∀ {ks : List CK} {cs : List AV} {r : List Ex}, rowCells ks cs = some r → encR ks (r.map (Ex.den E)) = (cs.take ks.length).map (cv E)
  | [], cs, r, hr => by simp [encR]
  | .int k :: ks, [], r, hr => by simp [rowCells] at hr
  | .int k :: ks, x :: cs, r, hr => by
    simp only [rowCells] at hr
    split at hr
    · rename_i k' e r' h1 h2
      cases hk : keq k k' with
      | false => rw [hk] at hr; cases hr
      | true =>
        rw [hk, cond_true, Option.some.injEq] at hr
        subst hr
        simp [encR, CK.val, rowCells_eq h2, numA_eq h1, keq_eq hk]
    · cases hr
  | .bool :: ks, [], r, hr => by simp [rowCells] at hr
  | .bool :: ks, x :: cs, r, hr => by
    simp only [rowCells] at hr
    split at hr
    · rename_i b r' h1 h2
      obtain rfl := Option.some.inj hr
      obtain rfl := b01_eq h1
      cases b <;> simp [encR, CK.val, rowCells_eq h2, Ex.den, cv]
    · cases hr
theorem rowsCells_len : ∀ {n : Nat} {ks : List CK} {cs : List AV} {l : List (List Ex)}, rowsCells ks n cs = some l → l.length = n ∧ ∀ r ∈ l, r.length = ks.length
  | 0, ks, cs, l, hl => by simp only [rowsCells, Option.some.injEq] at hl; subst hl; simp
  | n + 1, ks, cs, l, hl => by
    simp only [rowsCells] at hl
    split at hl
    · rename_i r l' h1 h2
      obtain rfl := Option.some.inj hl
      obtain ⟨e1, e2⟩ := rowsCells_len h2
      refine ⟨by simp [e1], fun r' hr => ?_⟩
      rcases List.mem_cons.1 hr with rfl | hr
      · exact rowCells_len h1
      · exact e2 r' hr
    · cases hl
theorem rowsCells_eq : ∀ {n : Nat} {ks : List CK} {cs : List AV} {l : List (List Ex)}, rowsCells ks n cs = some l → n * ks.length ≤ cs.length → encL ks (l.map fun r => r.map (Ex.den E)) = (cs.take (n * ks.length)).map (cv E)
  | 0, ks, cs, l, hl, _ => by simp only [rowsCells, Option.some.injEq] at hl; subst hl; simp [encL]
  | n + 1, ks, cs, l, hl, hle => by
    simp only [rowsCells] at hl
    split at hl
    · rename_i r l' h1 h2
      obtain rfl := Option.some.inj hl
      rw [Nat.add_mul, Nat.one_mul] at hle ⊢
      have ih := rowsCells_eq h2 (by rw [List.length_drop]; omega)
      simp only [encL, List.map_cons, List.flatMap_cons] at ih ⊢
      rw [ih, rowCells_eq h1, ← List.map_append]
      congr 1
      rw [Nat.add_comm, List.take_add]
    · cases hl
theorem rowCells_bd : ∀ {ks : List CK} {cs : List AV} {r : List Ex}, rowCells ks cs = some r → (∀ x ∈ cs, bd h x = true) → ∀ e ∈ r, e.bd h = true
  | [], cs, r, hr, _, e, he => by simp only [rowCells, Option.some.injEq] at hr; subst hr; simp at he
  | .int k :: ks, [], r, hr, _, _, _ => by simp [rowCells] at hr
  | .int k :: ks, x :: cs, r, hr, hb, e, he => by
    simp only [rowCells] at hr
    split at hr
    · rename_i k' e' r' h1 h2
      cases hk : keq k k' with
      | false => rw [hk] at hr; cases hr
      | true =>
        rw [hk, cond_true, Option.some.injEq] at hr
        subst hr
        rcases List.mem_cons.1 he with rfl | he
        · exact numA_bd h1 (hb x (by simp))
        · exact rowCells_bd h2 (fun y hy => hb y (by simp [hy])) e he
    · cases hr
  | .bool :: ks, [], r, hr, _, _, _ => by simp [rowCells] at hr
  | .bool :: ks, x :: cs, r, hr, hb, e, he => by
    simp only [rowCells] at hr
    split at hr
    · rename_i b r' h1 h2
      obtain rfl := Option.some.inj hr
      rcases List.mem_cons.1 he with rfl | he
      · rfl
      · exact rowCells_bd h2 (fun y hy => hb y (by simp [hy])) e he
    · cases hr
theorem rowsCells_bd : ∀ {n : Nat} {ks : List CK} {cs : List AV} {l : List (List Ex)}, rowsCells ks n cs = some l → (∀ x ∈ cs, bd h x = true) → ∀ r ∈ l, ∀ e ∈ r, e.bd h = true
  | 0, ks, cs, l, hl, _, r, hr => by simp only [rowsCells, Option.some.injEq] at hl; subst hl; simp at hr
  | n + 1, ks, cs, l, hl, hb, r, hr => by
    simp only [rowsCells] at hl
    split at hl
    · rename_i r' l' h1 h2
      obtain rfl := Option.some.inj hl
      rcases List.mem_cons.1 hr with rfl | hr
      · exact rowCells_bd h1 hb
      · exact rowsCells_bd h2 (fun y hy => hb y (List.mem_of_mem_drop hy)) r hr
    · cases hl
end
section
variable {E : Env} {h : H} {B : Bd} {w : World}
/-! ### Lists that come up under a new name -/
theorem fps_one (d : Dat) : fps d [[]] = d.fp := by simp [fps, Dat.sub]
theorem HR.lists (r : HR E h B w) {id : Nat} (hid : has h id = false) (rec : Rec) (sts : List LK) (hs : ∀ j, sts.getD j .gone = .gone ∨ (∃ k, sts.getD j .gone = .obj k [[]] [] ∨ sts.getD j .gone = .vw k) ∨ (∃ fs, sts.getD j .gone = .fb fs) ∨ (∃ ks e, sts.getD j .gone = .own ks e) ∨ (∃ x y, sts.getD j .gone = .al x y) ∨ (∃ k, sts.getD j .gone = .ov k) ∨ ∃ ks old, sts.getD j .gone = .rd ks old ∧ ROk w rec j ks ∧ ∀ n, (LK.rd ks old).occ rec j n → n < w.heap.size ∧ (∀ c x, hget h c = some x → E.s c ≠ n) ∧ (∀ b' j' ks' e, lk h b' j' = .own ks' e → ¬ (LK.own ks' e).occ (E.r b') j' n) ∧ (B.free n ∨ (old = true ∧ has (hput h id (.lst sts)) 0 = true ∧ InR ((E.setR id rec).r 0) n)) ∧ (∀ b' j' k ps os, lk h b' j' = .obj k ps os → n ∉ fps ((E.r b').t j') ps))
    (ho : ∀ j k, sts.getD j .gone = .obj k [[]] [] → (rec.t j).holds w k ∧ (rec.t j).fp.Nodup ∧ ∀ n ∈ (rec.t j).fp, n < w.heap.size ∧ (∀ c x, hget h c = some x → E.s c ≠ n) ∧ (∀ b' j', ¬ (lk h b' j').occ (E.r b') j' n) ∧ B.free n ∧ ∀ i, (sts.getD i .gone).occ rec i n → i = j ∨ (sts.getD i .gone).isVw)
    (hv : ∀ j k, sts.getD j .gone = .vw k → (rec.t j).holds w k ∧ ∀ n ∈ (rec.t j).fp, n < w.heap.size ∧ (∀ c x, hget h c = some x → E.s c ≠ n) ∧ (∀ b' j' ks' e, lk h b' j' = .own ks' e → ¬ (LK.own ks' e).occ (E.r b') j' n))
    (hf : ∀ j fs, sts.getD j .gone = .fb fs → (LK.fb fs).ok B.n w rec j ∧ ∀ n, (LK.fb fs).occ rec j n → n < w.heap.size ∧ (∀ c x, hget h c = some x → E.s c ≠ n) ∧ (∀ b' j' ks' e, lk h b' j' = .own ks' e → ¬ (LK.own ks' e).occ (E.r b') j' n) ∧ ∀ b' j' k ps os, lk h b' j' = .obj k ps os → n ∉ fps ((E.r b').t j') ps)
    (hw : ∀ j ks e, sts.getD j .gone = .own ks e → OOk 0 w rec j ks e ∧ ∀ n, (LK.own ks e).occ rec j n → n < w.heap.size ∧ (∀ c x, hget h c = some x → E.s c ≠ n) ∧ (∀ b' j', ¬ (lk h b' j').occ (E.r b') j' n) ∧ B.free n ∧ ∀ i, (sts.getD i .gone).occ rec i n → i = j)
    (hu : ∀ j k, sts.getD j .gone = .ov k → (rec.t j).holds w k ∧ ∀ n ∈ (rec.t j).fp, n < w.heap.size ∧ (∀ c x, hget h c = some x → E.s c ≠ n) ∧ ¬ B.free n)
    (ha : ∀ j x y, sts.getD j .gone = .al x y → bd (hput h id (.lst sts)) x = true ∧ bd (hput h id (.lst sts)) y = true ∧ cv (E.setR id rec) x = cv (E.setR id rec) y) :
    HR (E.setR id rec) (hput h id (.lst sts)) B w := by
  have ag := ag_setR hid E rec
  have hne : ∀ {b : Nat}, has h b = true → b ≠ id := by rintro b hb rfl; rw [hid] at hb; cases hb
  have blk : ∀ {b x}, hget (hput h id (.lst sts)) b = some x → b ≠ id ∧ hget h b = some x := by
    intro b x hx
    by_cases e : id = b
    · subst e; rw [hget_lst] at hx; cases hx
    · rw [hget_ne _ e] at hx; exact ⟨fun q => e q.symm, hx⟩
  have lks : ∀ {b j}, lk (hput h id (.lst sts)) b j ≠ .gone → (b = id ∧ lk (hput h id (.lst sts)) b j = sts.getD j .gone) ∨ (b ≠ id ∧ lk (hput h id (.lst sts)) b j = lk h b j) := by
    intro b j hg
    by_cases e : id = b
    · subst e; exact .inl ⟨rfl, lk_lst _ _ _ _⟩
    · exact .inr ⟨fun q => e q.symm, lk_ne _ e _ _⟩
  refine ⟨r.low, fun b x hx => ?_, fun b c x y hx hy he => ?_, fun b x hx v hv => ?_, fun b m hm => r.mps b m (mget_put (fun es n => by simp) hm).2, fun b j => ?_, fun b j k hk => ?_, fun b j ks e hq b' j' k hk hk' => ?_, fun b j ks old hq k hk => ?_, fun b j hq x hx => ?_, fun b j k ps os hq b' j' x hk hk' => ?_, fun b j k ps os hq q hq' => ?_, fun b j x y hq => ?_, fun b j k hq x hx => ?_⟩
  · obtain ⟨_, hx⟩ := blk hx
    obtain ⟨h1, sp, h2, h3⟩ := r.blk b x hx
    exact ⟨h1, sp, by rw [← cvs_ag ag (r.bnd b x hx)]; exact h2, h3⟩
  · exact r.inj b c x y (blk hx).2 (blk hy).2 he
  · exact bd_sub (sub_put _ _ _) (r.bnd b x (blk hx).2 v hv)
  · by_cases hg : lk (hput h id (.lst sts)) b j = .gone
    · rw [hg]; trivial
    · rcases lks hg with ⟨rfl, e⟩ | ⟨hb, e⟩
      · rw [e, Env.setR_r]
        rcases hs j with h1 | ⟨k, h1 | h1⟩ | ⟨fs, h1⟩ | ⟨ks, e', h1⟩ | ⟨x, y, h1⟩ | ⟨ko, h1⟩ | ⟨ks, old, h1, h2, _⟩
        · rw [h1]; trivial
        · rw [h1]; exact ⟨fun p hp => by obtain rfl := List.mem_singleton.1 hp; exact (ho j k h1).1, by rw [fps_one]; exact (ho j k h1).2.1⟩
        · rw [h1]; exact (hv j k h1).1
        · rw [h1]; exact (hf j fs h1).1
        · rw [h1]; exact (hw j ks e' h1).1
        · rw [h1]; trivial
        · rw [h1]; exact (hu j ko h1).1
        · rw [h1]; exact h2
      · rw [e, Env.setR_ne _ _ hb]; exact r.lst.ok b j
  · have hg : lk (hput h id (.lst sts)) b j ≠ .gone := fun e => by rw [e] at hk; exact hk
    rcases lks hg with ⟨rfl, e⟩ | ⟨hb, e⟩
    · rw [e, Env.setR_r] at hk
      rcases hs j with h1 | ⟨k', h1 | h1⟩ | ⟨fs, h1⟩ | ⟨ks, e', h1⟩ | ⟨x, y, h1⟩ | ⟨ko, h1⟩ | ⟨ks, old, h1, h2, h3⟩
      · rw [h1] at hk; exact hk.elim
      · rw [h1] at hk
        have h3 := (ho j k' h1).2.2 k (by rw [← fps_one]; exact hk)
        exact ⟨h3.1, fun c x hx => h3.2.1 c x (blk hx).2⟩
      · rw [h1] at hk
        have h3 := (hv j k' h1).2 k hk
        exact ⟨h3.1, fun c x hx => h3.2.1 c x (blk hx).2⟩
      · rw [h1] at hk
        have h3 := (hf j fs h1).2 k hk
        exact ⟨h3.1, fun c x hx => h3.2.1 c x (blk hx).2⟩
      · rw [h1] at hk
        have h3 := (hw j ks e' h1).2 k hk
        exact ⟨h3.1, fun c x hx => h3.2.1 c x (blk hx).2⟩
      · rw [h1] at hk; exact hk.elim
      · rw [h1] at hk
        have h3 := (hu j ko h1).2 k hk
        exact ⟨h3.1, fun c x hx => h3.2.1 c x (blk hx).2⟩
      · rw [h1] at hk
        exact ⟨(h3 k hk).1, fun c x hx => (h3 k hk).2.1 c x (blk hx).2⟩
    · rw [e, Env.setR_ne _ _ hb] at hk
      exact ⟨(r.lst.lt b j k hk).1, fun c x hx => (r.lst.lt b j k hk).2 c x (blk hx).2⟩
  · have hg : lk (hput h id (.lst sts)) b j ≠ .gone := fun e' => by rw [e'] at hq; cases hq
    have hg' : lk (hput h id (.lst sts)) b' j' ≠ .gone := fun e => by rw [e] at hk'; exact hk'
    rcases lks hg with ⟨rfl, e1⟩ | ⟨hb, e1⟩
    · rw [e1] at hq hk
      rw [Env.setR_r] at hk
      obtain ⟨_, h3⟩ := hw j ks e hq
      rw [hq] at hk
      have h3 := h3 k hk
      rcases lks hg' with ⟨rfl, e2⟩ | ⟨hb', e2⟩
      · rw [e2, Env.setR_r] at hk'
        exact ⟨rfl, (h3.2.2.2.2 j' hk').symm⟩
      · rw [e2, Env.setR_ne _ _ hb'] at hk'
        exact (h3.2.2.1 b' j' hk').elim
    · rw [e1] at hq hk
      rw [Env.setR_ne _ _ hb] at hk
      rcases lks hg' with ⟨rfl, e2⟩ | ⟨hb', e2⟩
      · exfalso
        rw [e2, Env.setR_r] at hk'
        rcases hs j' with h1 | ⟨k', h1 | h1⟩ | ⟨fs, h1⟩ | ⟨ks', e', h1⟩ | ⟨x, y, h1⟩ | ⟨ko, h1⟩ | ⟨ks', old, h1, h2, h3⟩
        · rw [h1] at hk'; exact hk'
        · rw [h1] at hk'
          exact ((ho j' k' h1).2.2 k (by rw [← fps_one]; exact hk')).2.2.1 b j hk
        · rw [h1] at hk'
          rw [hq] at hk
          exact ((hv j' k' h1).2 k hk').2.2 b j ks e hq hk
        · rw [h1] at hk'
          rw [hq] at hk
          exact ((hf j' fs h1).2 k hk').2.2.1 b j ks e hq hk
        · rw [h1] at hk'
          exact ((hw j' ks' e' h1).2 k hk').2.2.1 b j hk
        · rw [h1] at hk'; exact hk'
        · rw [h1] at hk'
          exact ((hu j' ko h1).2 k hk').2.2 (r.lst.fre b j (by rw [hq]; trivial) k hk)
        · rw [h1] at hk'
          rw [hq] at hk
          exact (h3 k hk').2.2.1 b j ks e hq hk
      · rw [e2, Env.setR_ne _ _ hb'] at hk'
        exact r.lst.sep b j ks e hq b' j' k hk hk'
  · have hg : lk (hput h id (.lst sts)) b j ≠ .gone := fun e' => by rw [e'] at hq; cases hq
    rcases lks hg with ⟨rfl, e1⟩ | ⟨hb, e1⟩
    · rw [e1, Env.setR_r] at hk
      rw [e1] at hq
      rcases hs j with h1 | ⟨k', h1 | h1⟩ | ⟨fs, h1⟩ | ⟨ks', e', h1⟩ | ⟨x, y, h1⟩ | ⟨ko, h1⟩ | ⟨ks', old', h1, h2, h3⟩
      · rw [h1] at hq; cases hq
      · rw [h1] at hq; cases hq
      · rw [h1] at hq; cases hq
      · rw [h1] at hq; cases hq
      · rw [h1] at hq; cases hq
      · rw [h1] at hq; cases hq
      · rw [h1] at hq; cases hq
      · rw [h1] at hq hk
        cases hq
        exact (h3 k hk).2.2.2.1
    · rw [e1] at hq hk
      rw [Env.setR_ne _ _ hb] at hk
      rcases r.lst.inn b j ks old hq k hk with h1 | ⟨h1, h2, h3⟩
      · exact .inl h1
      · exact .inr ⟨h1, sub_put _ _ _ 0 h2, by rw [Env.setR_ne _ _ (hne h2)]; exact h3⟩
  · have hg : lk (hput h id (.lst sts)) b j ≠ .gone := fun e' => by rw [e'] at hq; exact hq
    rcases lks hg with ⟨rfl, e1⟩ | ⟨hb, e1⟩
    · rw [e1] at hq hx
      rw [Env.setR_r] at hx
      rcases hs j with h1 | ⟨k', h1 | h1⟩ | ⟨fs, h1⟩ | ⟨ks', e', h1⟩ | ⟨x', y', h1⟩ | ⟨ko, h1⟩ | ⟨ks', old, h1, _⟩ <;> rw [h1] at hq hx
      · exact hq.elim
      · exact ((ho j k' h1).2.2 x (by rw [← fps_one]; exact hx)).2.2.2.1
      · exact hq.elim
      · exact hq.elim
      · exact ((hw j ks' e' h1).2 x hx).2.2.2.1
      · exact hq.elim
      · exact hq.elim
      · exact hq.elim
    · rw [e1] at hq hx
      rw [Env.setR_ne _ _ hb] at hx
      exact r.lst.fre b j hq x hx
  · have hg : lk (hput h id (.lst sts)) b j ≠ .gone := fun e' => by rw [e'] at hq; cases hq
    have hg' : lk (hput h id (.lst sts)) b' j' ≠ .gone := fun e => by rw [e] at hk'; exact hk'
    rcases lks hg with ⟨rfl, e1⟩ | ⟨hb, e1⟩
    · rw [e1] at hq
      rw [Env.setR_r] at hk
      rcases hs j with h1 | ⟨k', h1 | h1⟩ | ⟨fs, h1⟩ | ⟨ks', e', h1⟩ | ⟨x', y', h1⟩ | ⟨ko, h1⟩ | ⟨ks', old, h1, _⟩ <;> rw [h1] at hq <;> cases hq
      rw [fps_one] at hk
      have h3 := (ho j k h1).2.2 x hk
      rcases lks hg' with ⟨rfl, e2⟩ | ⟨hb', e2⟩
      · rw [e2, Env.setR_r] at hk'
        rw [e2]
        rcases h3.2.2.2.2 j' hk' with h4 | h4
        · exact .inl ⟨rfl, h4.symm⟩
        · exact .inr h4
      · rw [e2, Env.setR_ne _ _ hb'] at hk'
        exact (h3.2.2.1 b' j' hk').elim
    · rw [e1] at hq
      rw [Env.setR_ne _ _ hb] at hk
      have hoc : (lk h b j).occ (E.r b) j x := by rw [hq]; exact hk
      rcases lks hg' with ⟨rfl, e2⟩ | ⟨hb', e2⟩
      · rw [e2, Env.setR_r] at hk'
        rw [e2]
        rcases hs j' with h1 | ⟨k', h1 | h1⟩ | ⟨fs, h1⟩ | ⟨ks', e', h1⟩ | ⟨x', y', h1⟩ | ⟨ko, h1⟩ | ⟨ks', old, h1, h2, h3⟩
        · rw [h1] at hk'; exact hk'.elim
        · rw [h1] at hk'
          exact (((ho j' k' h1).2.2 x (by rw [← fps_one]; exact hk')).2.2.1 b j hoc).elim
        · rw [h1]; exact .inr trivial
        · rw [h1] at hk'
          exact (((hf j' fs h1).2 x hk').2.2.2 b j k ps os hq hk).elim
        · rw [h1] at hk'
          exact (((hw j' ks' e' h1).2 x hk').2.2.1 b j hoc).elim
        · rw [h1] at hk'; exact hk'.elim
        · rw [h1] at hk'
          exact (((hu j' ko h1).2 x hk').2.2 (r.lst.fro hq hk)).elim
        · rw [h1] at hk'
          exact ((h3 x hk').2.2.2.2 b j k ps os hq hk).elim
      · rw [e2, Env.setR_ne _ _ hb'] at hk'
        rw [e2]
        exact r.lst.alo b j k ps os hq b' j' x hk hk'
  · have hg : lk (hput h id (.lst sts)) b j ≠ .gone := fun e' => by rw [e'] at hq; cases hq
    rcases lks hg with ⟨rfl, e1⟩ | ⟨hb, e1⟩
    · rw [e1] at hq
      rcases hs j with h1 | ⟨k', h1 | h1⟩ | ⟨fs, h1⟩ | ⟨ks', e', h1⟩ | ⟨x', y', h1⟩ | ⟨ko, h1⟩ | ⟨ks', old, h1, _⟩ <;> rw [h1] at hq <;> cases hq
      cases hq'
    · rw [e1] at hq
      obtain ⟨g1, g2, g3⟩ := r.lst.opn b j k ps os hq q hq'
      rw [Env.setR_ne _ _ hb]
      exact ⟨g1, g2, sub_put _ _ _ _ g3⟩
  · have hg : lk (hput h id (.lst sts)) b j ≠ .gone := fun e' => by rw [e'] at hq; cases hq
    rcases lks hg with ⟨rfl, e1⟩ | ⟨hb, e1⟩
    · rw [e1] at hq
      exact ha j x y hq
    · rw [e1] at hq
      obtain ⟨g1, g2, g3⟩ := r.lst.ali b j x y hq
      exact ⟨bd_sub (sub_put _ _ _) g1, bd_sub (sub_put _ _ _) g2, by rw [← cv_ag ag g1, ← cv_ag ag g2]; exact g3⟩
  · have hg : lk (hput h id (.lst sts)) b j ≠ .gone := fun e' => by rw [e'] at hq; cases hq
    rcases lks hg with ⟨rfl, e⟩ | ⟨hb, e⟩
    · rw [e] at hq hx
      rw [Env.setR_r, hq] at hx
      exact ((hu j k hq).2 x hx).2.2
    · rw [e] at hq hx
      rw [Env.setR_ne _ _ hb] at hx
      exact r.lst.old b j k hq x hx
end
end Go.Proofs.Ytkepkjahbcddlaa.Sy
