/- part between: objects that are opened. -/
import Derived.Test.YtkepkjahbcddlaaSyOwnOp
namespace Go.Proofs.Ytkepkjahbcddlaa.Sy
open Go Go.RowKit
set_option linter.unusedVariables false
set_option linter.unusedSimpArgs false
set_option linter.unusedSectionVars false
variable [Kinds]
/-! ### Names in the place of others, that stand for the same -/
def mapP (f : AV → AV) : PV → PV
  | .v x => .v (f x)
  | .agg l => .agg (l.map f)
def mapT (f : AV → AV) : TV → TV
  | .p x => .p (mapP f x)
  | .tup l => .tup (l.map (mapP f))
def mapH (f : AV → AV) : H → H
  | [] => []
  | (b, .blk x) :: r => (b, .blk ⟨x.cells.map f, x.elem, x.full⟩) :: mapH f r
  | p :: r => p :: mapH f r
def SameA (E : Env) (h : H) (f : AV → AV) : Prop := ∀ x, bd h x = true → cv E (f x) = cv E x ∧ bd h (f x) = true
theorem mapP_eq {E : Env} {h : H} {f : AV → AV} (s : SameA E h f) {x : PV} (hx : bdP h x = true) : cp E (mapP f x) = cp E x ∧ bdP h (mapP f x) = true := by
  cases x with
  | v x => exact s x hx
  | agg l =>
    simp only [bdP, List.all_eq_true] at hx
    refine ⟨?_, ?_⟩
    · simp only [mapP, cp, List.map_map]
      congr 2
      exact List.map_congr_left fun y hy => (s y (hx y hy)).1
    · simp only [mapP, bdP, List.all_eq_true, List.mem_map]
      rintro y ⟨z, hz, rfl⟩
      exact (s z (hx z hz)).2
theorem mapT_eq {E : Env} {h : H} {f : AV → AV} (s : SameA E h f) {x : TV} (hx : bdT h x = true) : ct E (mapT f x) = ct E x ∧ bdT h (mapT f x) = true := by
  cases x with
  | p x => exact mapP_eq s hx
  | tup l =>
    simp only [bdT, List.all_eq_true] at hx
    refine ⟨?_, ?_⟩
    · simp only [mapT, ct, List.map_map]
      congr 2
      exact List.map_congr_left fun y hy => (mapP_eq s (hx y hy)).1
    · simp only [mapT, bdT, List.all_eq_true, List.mem_map]
      rintro y ⟨z, hz, rfl⟩
      exact (mapP_eq s (hx z hz)).2
theorem mapH_look (f : AV → AV) : ∀ (h : H) (b : Nat), look (mapH f h) b = match look h b with | some (.blk x) => some (.blk ⟨x.cells.map f, x.elem, x.full⟩) | o => o
  | [], b => rfl
  | (k, .blk x) :: r, b => by
    simp only [mapH, look_cons]
    split
    · rfl
    · exact mapH_look f r b
  | (k, .dead) :: r, b => by
    simp only [mapH, look_cons]
    split
    · rfl
    · exact mapH_look f r b
  | (k, .lst l) :: r, b => by
    simp only [mapH, look_cons]
    split
    · rfl
    · exact mapH_look f r b
  | (k, .mp es n) :: r, b => by
    simp only [mapH, look_cons]
    split
    · rfl
    · exact mapH_look f r b
theorem mapH_has (f : AV → AV) (h : H) (b : Nat) : has (mapH f h) b = has h b := by
  unfold has
  rw [mapH_look]
  split
  · rename_i x hx; rw [hx]; rfl
  · rfl
theorem mapH_lk (f : AV → AV) (h : H) (b j : Nat) : lk (mapH f h) b j = lk h b j := by
  unfold lk
  rw [mapH_look]
  cases hl : look h b with
  | none => rfl
  | some x => cases x <;> rfl
theorem mapH_mget (f : AV → AV) (h : H) (b : Nat) : mget (mapH f h) b = mget h b := by
  unfold mget
  rw [mapH_look]
  cases look h b with
  | none => rfl
  | some x => cases x <;> rfl
theorem mapH_get (f : AV → AV) (h : H) (b : Nat) : hget (mapH f h) b = (hget h b).map fun x => ⟨x.cells.map f, x.elem, x.full⟩ := by
  unfold hget
  rw [mapH_look]
  cases hl : look h b with
  | none => rfl
  | some x => cases x <;> rfl
theorem mapH_step {E : Env} {h : H} {B : Bd} {w : World} {f : AV → AV} (r : HR E h B w) (s : SameA E h f) : Step E h B w E (mapH f h) w := by
  have sub : Sub h (mapH f h) := fun c hc => by rw [mapH_has]; exact hc
  have get : ∀ {c y}, hget (mapH f h) c = some y → ∃ x, hget h c = some x ∧ y = ⟨x.cells.map f, x.elem, x.full⟩ := by
    intro c y hy
    rw [mapH_get] at hy
    obtain ⟨x, hx, e⟩ := Option.map_eq_some_iff.1 hy
    exact ⟨x, hx, e.symm⟩
  refine ⟨Ag.refl _ _, sub, ⟨r.low, fun c y hy => ?_, fun c d x y hx hy he => ?_, fun c y hy v hv => ?_, fun c m hm => r.mps c m (by rw [mapH_mget] at hm; exact hm), r.lst.names (fun b j => .inl (mapH_lk f h b j)) (Ag.refl _ _) sub (fun c y hy => by obtain ⟨x, hx, _⟩ := get hy; exact .inr ⟨c, x, hx, rfl⟩)⟩, Bel.refl _ _⟩
  · obtain ⟨x, hx, rfl⟩ := get hy
    obtain ⟨h1, sp, h2, h3⟩ := r.blk c x hx
    refine ⟨h1, sp, ?_, ?_⟩
    · rw [h2]
      simp only [List.map_map]
      congr 4
      exact List.map_congr_left fun v hv => ((s v (r.bnd c x hx v hv)).1).symm
    · rw [List.length_map]; exact h3
  · obtain ⟨x', hx', _⟩ := get hx
    obtain ⟨y', hy', _⟩ := get hy
    exact r.inj c d x' y' hx' hy' he
  · obtain ⟨x, hx, rfl⟩ := get hy
    obtain ⟨z, hz, rfl⟩ := List.mem_map.1 hv
    exact bd_sub sub (s z (r.bnd c x hx z hz)).2
/-! ### Views are dropped -/
def unvw : LK → LK
  | .vw _ => .gone
  | s => s
def dropVw : H → H
  | [] => []
  | (b, .lst l) :: r => (b, .lst (l.map unvw)) :: dropVw r
  | p :: r => p :: dropVw r
theorem dropVw_look : ∀ (h : H) (b : Nat), look (dropVw h) b = match look h b with | some (.lst l) => some (.lst (l.map unvw)) | o => o
  | [], b => rfl
  | (k, .blk x) :: r, b => by
    simp only [dropVw, look_cons]
    split
    · rfl
    · exact dropVw_look r b
  | (k, .dead) :: r, b => by
    simp only [dropVw, look_cons]
    split
    · rfl
    · exact dropVw_look r b
  | (k, .lst l) :: r, b => by
    simp only [dropVw, look_cons]
    split
    · rfl
    · exact dropVw_look r b
  | (k, .mp es n) :: r, b => by
    simp only [dropVw, look_cons]
    split
    · rfl
    · exact dropVw_look r b
theorem dropVw_has (h : H) (b : Nat) : has (dropVw h) b = has h b := by
  unfold has
  rw [dropVw_look]
  split
  · rename_i x hx; rw [hx]; rfl
  · rfl
theorem dropVw_get (h : H) (b : Nat) : hget (dropVw h) b = hget h b := by
  unfold hget
  rw [dropVw_look]
  cases hl : look h b with
  | none => rfl
  | some x => cases x <;> rfl
theorem dropVw_mget (h : H) (b : Nat) : mget (dropVw h) b = mget h b := by
  unfold mget
  rw [dropVw_look]
  cases hl : look h b with
  | none => rfl
  | some x => cases x <;> rfl
theorem dropVw_lk (h : H) (b j : Nat) : lk (dropVw h) b j = unvw (lk h b j) := by
  unfold lk
  rw [dropVw_look]
  cases hl : look h b with
  | none => rfl
  | some x => cases x with
    | lst l =>
      simp only [List.getD_eq_getElem?_getD, List.getElem?_map]
      cases l[j]? <;> rfl
    | _ => rfl
/-! ### What is at a path gives way to its children -/
def opn1 (p : List Bool) : List (List Bool) → List (List Bool)
  | [] => []
  | a :: r => bif pthq a p then (p ++ [false]) :: (p ++ [true]) :: r else a :: opn1 p r
theorem opn1_mem {p : List Bool} : ∀ {ps : List (List Bool)} {q : List Bool}, q ∈ opn1 p ps → q ∈ ps ∨ q = p ++ [false] ∨ q = p ++ [true]
  | [], q, h => by cases h
  | a :: r, q, h => by
    simp only [opn1] at h
    cases hc : pthq a p with
    | true =>
      rw [hc, cond_true] at h
      rcases List.mem_cons.1 h with h | h
      · exact .inr (.inl h)
      · rcases List.mem_cons.1 h with h | h
        · exact .inr (.inr h)
        · exact .inl (List.mem_cons_of_mem _ h)
    | false =>
      rw [hc, cond_false] at h
      rcases List.mem_cons.1 h with h | h
      · exact .inl (by rw [h]; exact List.mem_cons_self)
      · rcases opn1_mem h with h | h
        · exact .inl (List.mem_cons_of_mem _ h)
        · exact .inr h
theorem fps_cons (d : Dat) (a : List Bool) (r : List (List Bool)) : fps d (a :: r) = (d.sub a).fp ++ fps d r := by simp [fps]
theorem fps_opn1 {d : Dat} {p : List Bool} (hn : (d.sub p).isLeaf = false) : ∀ {ps : List (List Bool)}, ps.any (fun a => pthq a p) = true → (fps d ps).Perm ((d.sub p).blk :: fps d (opn1 p ps))
  | [], h => by cases h
  | a :: r, h => by
    simp only [opn1]
    cases hc : pthq a p with
    | true =>
      have e := pthq_eq hc
      subst e
      rw [cond_true, fps_cons, fps_cons, fps_cons, Dat.sub_append, Dat.sub_append]
      cases hd : d.sub a with
      | leaf => rw [hd] at hn; cases hn
      | nd g ns bs l r' =>
        simp only [Dat.fp, Dat.blk, Dat.sub, Dat.kid, cond_true, cond_false, List.cons_append, List.append_assoc]
        exact List.Perm.refl _
    | false =>
      rw [cond_false, fps_cons, fps_cons]
      simp only [List.any_cons, hc, Bool.false_or] at h
      exact (List.Perm.append_left _ (fps_opn1 hn h)).trans List.perm_middle
def opened (h : H) (b j kd : Nat) (ps : List (List Bool)) (os : List (List Bool × Nat)) (p : List Bool) (id : Nat) : H :=
  hput (setLk (dropVw h) b j (.obj kd (opn1 p ps) ((p, id) :: os))) id (.blk ⟨(Kinds.lay (kat kd p)).cells.map (cdAV b j p), (Kinds.lay (kat kd p)).elem, none⟩)
theorem HR.open {E : Env} {h : H} {B : Bd} {w : World} (r : HR E h B w) {b j kd id : Nat} {ps : List (List Bool)} {os : List (List Bool × Nat)} {p : List Bool} (hl : lk h b j = .obj kd ps os) (hp : ps.any (fun a => pthq a p) = true) (hn : (((E.r b).t j).sub p).isLeaf = false) (hid : has h id = false) :
    Step E h B w (E.set id (((E.r b).t j).sub p).blk 0) (opened h b j kd ps os p id) w := by
  have ag := ag_set hid E (((E.r b).t j).sub p).blk 0
  have hpm : p ∈ ps := by
    obtain ⟨a, ha, e⟩ := List.any_eq_true.1 hp
    rw [← pthq_eq e]; exact ha
  have perm := fps_opn1 hn hp
  have ok0 := r.lst.ok b j
  rw [hl] at ok0
  have nod := perm.nodup_iff.1 ok0.2
  have g0 : ∀ n, n ∈ fps ((E.r b).t j) (opn1 p ps) → n ∈ fps ((E.r b).t j) ps := fun n hn => perm.symm.subset (List.mem_cons_of_mem _ hn)
  have g1 : (((E.r b).t j).sub p).blk ∈ fps ((E.r b).t j) ps := perm.symm.subset List.mem_cons_self
  have hb : has h b = true := has_of_lk (j := j) (by rw [hl]; simp)
  have hbi : b ≠ id := by rintro rfl; rw [hid] at hb; cases hb
  have hne1 : lk (dropVw h) b j ≠ .gone := by rw [dropVw_lk, hl]; simp [unvw]
  have hhas : ∀ c, has (opened h b j kd ps os p id) c = (decide (id = c) || has h c) := fun c => by
    rw [opened, has_put, setLk_has, dropVw_has]
  have sub : Sub h (opened h b j kd ps os p id) := fun c hc => by rw [hhas, hc, Bool.or_true]
  have get : ∀ {c x}, hget (opened h b j kd ps os p id) c = some x → (c = id ∧ x = ⟨(Kinds.lay (kat kd p)).cells.map (cdAV b j p), (Kinds.lay (kat kd p)).elem, none⟩) ∨ (c ≠ id ∧ hget h c = some x) := by
    intro c x hx
    unfold opened at hx
    by_cases e : id = c
    · subst e
      rw [hget_same] at hx
      exact .inl ⟨rfl, (Option.some.inj hx).symm⟩
    · rw [hget_ne _ e, setLk_get, dropVw_get] at hx
      exact .inr ⟨fun q => e q.symm, hx⟩
  have hsne : ∀ {c}, c ≠ id → (E.set id (((E.r b).t j).sub p).blk 0).s c = E.s c ∧ (E.set id (((E.r b).t j).sub p).blk 0).k c = E.k c := fun hc => E.set_ne _ 0 hc
  have lks : ∀ c i, lk (opened h b j kd ps os p id) c i = .gone ∨ (c = b ∧ i = j ∧ lk (opened h b j kd ps os p id) c i = .obj kd (opn1 p ps) ((p, id) :: os)) ∨ (¬ (c = b ∧ i = j) ∧ lk (opened h b j kd ps os p id) c i = lk h c i ∧ ¬ (lk h c i).isVw) := by
    intro c i
    unfold opened
    by_cases e : id = c
    · subst e; exact .inl (lk_blk _ _ _ _)
    · rw [lk_ne _ e]
      by_cases e2 : c = b ∧ i = j
      · obtain ⟨rfl, rfl⟩ := e2
        exact .inr (.inl ⟨rfl, rfl, setLk_same hne1⟩)
      · rw [setLk_ne e2, dropVw_lk]
        cases hx : lk h c i with
        | vw k => exact .inl rfl
        | _ => exact .inr (.inr ⟨e2, rfl, fun q => q⟩)
  have occ0 : ∀ {c i n}, (lk (opened h b j kd ps os p id) c i).occ (E.r c) i n → (lk h c i).occ (E.r c) i n ∧ ¬ (lk h c i).isVw ∧ n ≠ (((E.r b).t j).sub p).blk := by
    intro c i n ho
    rcases lks c i with e | ⟨rfl, rfl, e⟩ | ⟨ne, e, nv⟩
    · rw [e] at ho; exact ho.elim
    · rw [e] at ho
      rw [hl]
      refine ⟨g0 n ho, fun q => q, ?_⟩
      rintro rfl
      exact (List.nodup_cons.1 nod).1 ho
    · rw [e] at ho
      refine ⟨ho, nv, ?_⟩
      rintro rfl
      rcases r.lst.alo b j kd ps os hl c i _ g1 ho with ⟨rfl, rfl⟩ | hv
      · exact ne ⟨rfl, rfl⟩
      · exact nv hv
  refine ⟨ag, sub, ⟨r.low, fun c x hx => ?_, fun c d x y hx hy he => ?_, fun c x hx v hv => ?_, fun c m hm => ?_, ⟨fun c i => ?_, fun c i n ho => ?_, fun c i ks e ho c' i' n hn hn' => ?_, fun c i ks old ho n hn => ?_, fun c i ho x hx => ?_, fun c i k ps' os' ho c' i' x hx hx' => ?_, fun c i k ps' os' ho q hq => ?_, fun c i x y ho => ?_, fun c i k ho x hx => ?_⟩⟩, Bel.refl _ _⟩
  · rcases get hx with ⟨rfl, rfl⟩ | ⟨hc, hx⟩
    · rw [Env.set_s]
      refine ⟨r.lst.fro hl g1, [], ?_, rfl⟩
      have nd := (ok0.1 p hpm).node hn
      rw [nd]
      simp only [List.append_nil, List.map_map]
      congr 4
      funext z
      show _ = cv (E.set c _ 0) (cdAV b j p z)
      rw [← cv_ag ag (cdAV_bd hb j p z), cdAV_eq]
    · obtain ⟨h1, sp, h2, h3⟩ := r.blk c x hx
      rw [(hsne hc).1, (hsne hc).2]
      exact ⟨h1, sp, by rw [← cvs_ag ag (r.bnd c x hx)]; exact h2, h3⟩
  · have g2 : (lk h b j).occ (E.r b) j (((E.r b).t j).sub p).blk := by rw [hl]; exact g1
    rcases get hx with ⟨hc, _⟩ | ⟨hc, hx2⟩
    · rcases get hy with ⟨hd, _⟩ | ⟨hd, hy2⟩
      · rw [hc, hd]
      · exfalso
        rw [hc, Env.set_s, (hsne hd).1] at he
        exact (r.lst.lt b j _ g2).2 d y hy2 he.symm
    · rcases get hy with ⟨hd, _⟩ | ⟨hd, hy2⟩
      · exfalso
        rw [hd, Env.set_s, (hsne hc).1] at he
        exact (r.lst.lt b j _ g2).2 c x hx2 he
      · rw [(hsne hc).1, (hsne hd).1] at he
        exact r.inj c d x y hx2 hy2 he
  · rcases get hx with ⟨rfl, rfl⟩ | ⟨hc, hx⟩
    · obtain ⟨z, _, rfl⟩ := List.mem_map.1 hv
      exact bd_sub sub (cdAV_bd hb j p z)
    · exact bd_sub sub (r.bnd c x hx v hv)
  · unfold opened at hm
    obtain ⟨hc, hm⟩ := mget_put (fun es n => by simp) hm
    rw [setLk_mget, dropVw_mget] at hm
    rw [(hsne hc).1]
    exact r.mps c m hm
  · show (lk (opened h b j kd ps os p id) c i).ok B.n w (E.r c) i
    rcases lks c i with e | ⟨rfl, rfl, e⟩ | ⟨_, e, _⟩
    · rw [e]; trivial
    · rw [e]
      refine ⟨fun q hq => ?_, (List.nodup_cons.1 nod).2⟩
      rcases opn1_mem hq with hq | rfl | rfl
      · exact ok0.1 q hq
      · rw [Dat.sub_append, kat_append]; exact (ok0.1 p hpm).sub _
      · rw [Dat.sub_append, kat_append]; exact (ok0.1 p hpm).sub _
    · rw [e]; exact r.lst.ok c i
  · obtain ⟨h1, _, h3⟩ := occ0 ho
    obtain ⟨h4, h5⟩ := r.lst.lt c i n h1
    refine ⟨h4, fun d x hx he => ?_⟩
    rcases get hx with ⟨rfl, rfl⟩ | ⟨hd, hx⟩
    · rw [Env.set_s] at he; exact h3 he.symm
    · rw [(hsne hd).1] at he; exact h5 d x hx he
  · rcases lks c i with e' | ⟨rfl, rfl, e'⟩ | ⟨_, e', _⟩
    · rw [e'] at ho; cases ho
    · rw [e'] at ho; cases ho
    · exact r.lst.sep c i ks e (e' ▸ ho) c' i' n (occ0 hn).1 (occ0 hn').1
  · rcases lks c i with e' | ⟨rfl, rfl, e'⟩ | ⟨_, e', _⟩
    · rw [e'] at ho; cases ho
    · rw [e'] at ho; cases ho
    · rcases r.lst.inn c i ks old (e' ▸ ho) n (occ0 hn).1 with h1 | ⟨h1, h2, h3⟩
      · exact .inl h1
      · exact .inr ⟨h1, sub 0 h2, h3⟩
  · rcases lks c i with e' | ⟨rfl, rfl, e'⟩ | ⟨_, e', _⟩
    · rw [e'] at ho; exact ho.elim
    · rw [e'] at hx
      exact r.lst.fro hl (g0 x hx)
    · rw [e'] at ho hx
      exact r.lst.fre c i ho x hx
  · have h1 := occ0 hx'
    have h2 : ∃ k0 ps0 os0, lk h c i = .obj k0 ps0 os0 ∧ x ∈ fps ((E.r c).t i) ps0 := by
      rcases lks c i with e' | ⟨rfl, rfl, e'⟩ | ⟨_, e', _⟩
      · rw [e'] at ho; cases ho
      · rw [e'] at ho; cases ho
        exact ⟨kd, ps, os, hl, g0 x hx⟩
      · exact ⟨k, ps', os', e' ▸ ho, hx⟩
    obtain ⟨k0, ps0, os0, h3, h4⟩ := h2
    rcases r.lst.alo c i k0 ps0 os0 h3 c' i' x h4 h1.1 with h5 | h5
    · exact .inl h5
    · exact absurd h5 h1.2.1
  · rcases lks c i with e' | ⟨rfl, rfl, e'⟩ | ⟨_, e', _⟩
    · rw [e'] at ho; cases ho
    · rw [e'] at ho; cases ho
      rcases List.mem_cons.1 hq with rfl | hq
      · exact ⟨hn, Env.set_s _ _ _ _, by rw [hhas]; simp⟩
      · obtain ⟨h1, h2, h3⟩ := r.lst.opn c i kd ps os hl q hq
        have : q.2 ≠ id := by rintro e; rw [e, hid] at h3; cases h3
        exact ⟨h1, by rw [(hsne this).1]; exact h2, sub _ h3⟩
    · obtain ⟨h1, h2, h3⟩ := r.lst.opn c i k ps' os' (e' ▸ ho) q hq
      have : q.2 ≠ id := by rintro e; rw [e, hid] at h3; cases h3
      exact ⟨h1, by rw [(hsne this).1]; exact h2, sub _ h3⟩
  · rcases lks c i with e' | ⟨rfl, rfl, e'⟩ | ⟨_, e', _⟩
    · rw [e'] at ho; cases ho
    · rw [e'] at ho; cases ho
    · obtain ⟨h1, h2, h3⟩ := r.lst.ali c i x y (e' ▸ ho)
      exact ⟨bd_sub sub h1, bd_sub sub h2, by rw [← cv_ag ag h1, ← cv_ag ag h2]; exact h3⟩
  · rcases lks c i with e' | ⟨rfl, rfl, e'⟩ | ⟨_, e', _⟩
    · rw [e'] at ho; cases ho
    · rw [e'] at ho; cases ho
    · rw [e'] at ho hx
      exact r.lst.old c i k ho x hx
/-- The pointers to a node that was opened. -/
def opA (b j : Nat) (p : List Bool) (id : Nat) : AV → AV
  | .ob c i q => bif Nat.beq c b && Nat.beq i j && pthq q p then .ptr id 0 else .ob c i q
  | .op c i q k => bif Nat.beq c b && Nat.beq i j && pthq q p then .ptr id k else .op c i q k
  | x => x
theorem opA_same {E : Env} {h : H} {b j id : Nat} {p : List Bool} (hid : has h id = true) (hn : (((E.r b).t j).sub p).isLeaf = false) (hs : E.s id = (((E.r b).t j).sub p).blk) : SameA E h (opA b j p id) := by
  intro x hx
  unfold opA
  split
  · rename_i c i q
    cases hc : (Nat.beq c b && Nat.beq i j && pthq q p) with
    | false => exact ⟨rfl, hx⟩
    | true =>
      simp only [Bool.and_eq_true, Nat.beq_eq] at hc
      obtain ⟨⟨e1, e2⟩, e3⟩ := hc
      have e3 := pthq_eq e3
      subst e1; subst e2; subst e3
      exact ⟨by simp only [cond_true, cv, Dat.addr_of hn, hs], hid⟩
  · rename_i c i q k
    cases hc : (Nat.beq c b && Nat.beq i j && pthq q p) with
    | false => exact ⟨rfl, hx⟩
    | true =>
      simp only [Bool.and_eq_true, Nat.beq_eq] at hc
      obtain ⟨⟨e1, e2⟩, e3⟩ := hc
      have e3 := pthq_eq e3
      subst e1; subst e2; subst e3
      exact ⟨by simp only [cond_true, cv, hs], hid⟩
  · exact ⟨rfl, hx⟩
/-- The names of a state's values turn; they stand for the same. -/
theorem mapH_ok {T : Tab} {E : Env} {t : List TV} {h : H} {q : List Fact} {B : Bd} {a : Act} {w : World} {f : AV → AV} (k : Ok T E t h q B a w) (s : SameA E h f) : Ok T E (t.map (mapT f)) (mapH f h) q B a w := by
  have st := mapH_step k.hr s
  refine ⟨?_, k.defs, fun x hx => ?_, st.hr, bdQ_sub st.sub k.qb, k.qd⟩
  · rw [k.tmps, List.map_map]
    congr 1
    exact List.map_congr_left fun x hx => ((mapT_eq s (k.bd x hx)).1).symm
  · obtain ⟨y, hy, rfl⟩ := List.mem_map.1 hx
    exact bdT_sub st.sub (mapT_eq s (k.bd y hy)).2
def openOne (b j : Nat) (p : List Bool) (id : Nat) (s : St) : St := match lk s.h b j with
  | .obj kd ps os => bif ps.any (fun a => pthq a p) && !(has s.h id) && (match seeIs s.q (.nil b j p) with | some false => true | _ => false) then
      ⟨s.t.map (mapT (opA b j p id)), mapH (opA b j p id) (opened s.h b j kd ps os p id), s.q, s.n⟩ else s
  | _ => s
theorem openOne_ok {T : Tab} {B : Bd} {E0 : Env} {h0 : H} {w0 : World} {s : St} {a : Act} {w : World} (b j : Nat) (p : List Bool) (id : Nat) (r : ∃ E, Ok T E s.t s.h s.q B a w ∧ Step E0 h0 B w0 E s.h w) :
    ∃ E, Ok T E (openOne b j p id s).t (openOne b j p id s).h (openOne b j p id s).q B a w ∧ Step E0 h0 B w0 E (openOne b j p id s).h w := by
  unfold openOne
  split
  · rename_i kd ps os hl
    cases hc : (ps.any (fun a => pthq a p) && !(has s.h id) && (match seeIs s.q (.nil b j p) with | some false => true | _ => false)) with
    | false => exact r
    | true =>
      rw [cond_true]
      simp only [Bool.and_eq_true, Bool.not_eq_true'] at hc
      obtain ⟨⟨hp, hid⟩, hs⟩ := hc
      obtain ⟨E, k, st⟩ := r
      have hn : (((E.r b).t j).sub p).isLeaf = false := by
        split at hs
        · rename_i hse; exact seeIs_eq hse k.qd
        · cases hs
      have so := k.hr.open hl hp hn hid
      have k1 : Ok T (E.set id (((E.r b).t j).sub p).blk 0) s.t (opened s.h b j kd ps os p id) s.q B a w :=
        ⟨by rw [k.tmps, cts_ag so.ag k.bd], k.defs, fun x hx => bdT_sub so.sub (k.bd x hx), so.hr, bdQ_sub so.sub k.qb, k.qd.ag so.ag k.qb⟩
      have hids : has (opened s.h b j kd ps os p id) id = true := by
        unfold opened; rw [has_put]; simp
      have sm : SameA (E.set id (((E.r b).t j).sub p).blk 0) (opened s.h b j kd ps os p id) (opA b j p id) := opA_same hids hn (Env.set_s _ _ _ _)
      exact ⟨_, mapH_ok k1 sm, (st.trans so).trans (mapH_step k1.hr sm)⟩
  · exact r
/-- All that is above it, and it. -/
def openGo (b j id : Nat) : List Bool → List Bool → St → St
  | a, [], s => openOne b j a (id + (a.length + 1) * 16777216) s
  | a, x :: r, s => openGo b j id (a ++ [x]) r (openOne b j a (id + (a.length + 1) * 16777216) s)
theorem openGo_ok {T : Tab} {B : Bd} {E0 : Env} {h0 : H} {w0 : World} {a : Act} {w : World} (b j id : Nat) : ∀ (p r : List Bool) (s : St), (∃ E, Ok T E s.t s.h s.q B a w ∧ Step E0 h0 B w0 E s.h w) →
    ∃ E, Ok T E (openGo b j id p r s).t (openGo b j id p r s).h (openGo b j id p r s).q B a w ∧ Step E0 h0 B w0 E (openGo b j id p r s).h w
  | p, [], s, k => openOne_ok b j p _ k
  | p, x :: r, s, k => openGo_ok b j id (p ++ [x]) r _ (openOne_ok b j p _ k)
/-- What is above an object that is handed on. -/
def above : List Bool → Option (List Bool)
  | [] => none
  | [_] => some []
  | x :: y :: r => (above (y :: r)).map (x :: ·)
def openAbove (id : Nat) (s : St) : AV → St
  | .ob b j p => match above p with
    | some p' => openGo b j id [] p' s
    | none => s
  | _ => s
def openArg (id : Nat) (s : St) (x : Operand) : St := match opd s.t x with
  | some (.p (.v y)) => openAbove id s y
  | some (.p (.agg [y])) => openAbove id s y
  | _ => s
def openArgs (id : Nat) : List Operand → St → St
  | [], s => s
  | x :: l, s => openArgs (id + 2097152) l (openArg id s x)
/-- What a store is to write is opened. -/
def openFor (o : Oper) (id : Nat) (s : St) : St := match o.op with
  | .store _ x _ => match opd s.t x with
    | some (.p (.v (.op b j p _))) => openGo b j id [] p s
    | some (.p (.v (.ob b j p))) => openGo b j id [] p s
    | _ => s
  | _ => s
/-- What is above objects that are handed on is opened. -/
def openCall (o : Oper) (id : Nat) (s : St) : Option St := match o.op with
  | .call c => some (openArgs id c.args.toList s)
  | _ => none
theorem openAbove_ok {T : Tab} {B : Bd} {E0 : Env} {h0 : H} {w0 : World} {s : St} {a : Act} {w : World} (id : Nat) (y : AV) (r : ∃ E, Ok T E s.t s.h s.q B a w ∧ Step E0 h0 B w0 E s.h w) :
    ∃ E, Ok T E (openAbove id s y).t (openAbove id s y).h (openAbove id s y).q B a w ∧ Step E0 h0 B w0 E (openAbove id s y).h w := by
  unfold openAbove
  split
  · split
    · exact openGo_ok _ _ _ _ _ _ r
    · exact r
  · exact r
theorem openArg_ok {T : Tab} {B : Bd} {E0 : Env} {h0 : H} {w0 : World} {s : St} {a : Act} {w : World} (id : Nat) (x : Operand) (r : ∃ E, Ok T E s.t s.h s.q B a w ∧ Step E0 h0 B w0 E s.h w) :
    ∃ E, Ok T E (openArg id s x).t (openArg id s x).h (openArg id s x).q B a w ∧ Step E0 h0 B w0 E (openArg id s x).h w := by
  unfold openArg
  split
  · exact openAbove_ok _ _ r
  · exact openAbove_ok _ _ r
  · exact r
theorem openArgs_ok {T : Tab} {B : Bd} {E0 : Env} {h0 : H} {w0 : World} {a : Act} {w : World} : ∀ (id : Nat) (l : List Operand) (s : St), (∃ E, Ok T E s.t s.h s.q B a w ∧ Step E0 h0 B w0 E s.h w) →
    ∃ E, Ok T E (openArgs id l s).t (openArgs id l s).h (openArgs id l s).q B a w ∧ Step E0 h0 B w0 E (openArgs id l s).h w
  | _, [], _, r => r
  | id, x :: l, s, r => openArgs_ok (id + 2097152) l _ (openArg_ok id x r)
theorem openFor_ok {T : Tab} {B : Bd} {E0 : Env} {h0 : H} {w0 : World} {s : St} {a : Act} {w : World} (o : Oper) (id : Nat) (r : ∃ E, Ok T E s.t s.h s.q B a w ∧ Step E0 h0 B w0 E s.h w) :
    ∃ E, Ok T E (openFor o id s).t (openFor o id s).h (openFor o id s).q B a w ∧ Step E0 h0 B w0 E (openFor o id s).h w := by
  unfold openFor
  split
  · split
    · exact openGo_ok _ _ _ _ _ _ r
    · exact openGo_ok _ _ _ _ _ _ r
    · exact r
  · exact r
theorem openCall_ok {T : Tab} {B : Bd} {E0 : Env} {h0 : H} {w0 : World} {s s' : St} {a : Act} {w : World} {o : Oper} {id : Nat} (he : openCall o id s = some s') (r : ∃ E, Ok T E s.t s.h s.q B a w ∧ Step E0 h0 B w0 E s.h w) :
    ∃ E, Ok T E s'.t s'.h s'.q B a w ∧ Step E0 h0 B w0 E s'.h w := by
  unfold openCall at he
  split at he
  · obtain rfl := Option.some.inj he
    exact openArgs_ok _ _ _ r
  · cases he
/-- Pointers to what was opened meanwhile, by a call. -/
def resA (h : H) : AV → AV
  | .ob b j p => match lk h b j with
    | .obj _ _ os => match os.find? (fun q => pthq q.1 p) with
      | some q => .ptr q.2 0
      | none => .ob b j p
    | _ => .ob b j p
  | .op b j p k => match lk h b j with
    | .obj _ _ os => match os.find? (fun q => pthq q.1 p) with
      | some q => .ptr q.2 k
      | none => .op b j p k
    | _ => .op b j p k
  | x => x
theorem resA_same {E : Env} {h : H} {B : Bd} {w : World} (r : HR E h B w) : SameA E h (resA h) := by
  intro x hx
  unfold resA
  split
  · rename_i b j p
    split
    · rename_i kd ps os hl
      split
      · rename_i q hq
        have h1 := List.find?_some hq
        have h2 := List.mem_of_find?_eq_some hq
        have e := pthq_eq h1
        obtain ⟨h3, h4, h5⟩ := r.lst.opn b j kd ps os hl q h2
        rw [e] at h3 h4
        exact ⟨by simp only [cv, Dat.addr_of h3, h4], h5⟩
      · exact ⟨rfl, hx⟩
    · exact ⟨rfl, hx⟩
  · rename_i b j p k
    split
    · rename_i kd ps os hl
      split
      · rename_i q hq
        have h1 := List.find?_some hq
        have h2 := List.mem_of_find?_eq_some hq
        have e := pthq_eq h1
        obtain ⟨h3, h4, h5⟩ := r.lst.opn b j kd ps os hl q h2
        rw [e] at h3 h4
        exact ⟨by simp only [cv, h4], h5⟩
      · exact ⟨rfl, hx⟩
    · exact ⟨rfl, hx⟩
  · exact ⟨rfl, hx⟩
/-- Names that stand for the same place. -/
def alsOf (l : List LK) : List (AV × AV) := (List.range l.length).filterMap fun j => match l.getD j .gone with
  | .al x y => some (x, y)
  | _ => none
def aliases (h : H) : List (AV × AV) := h.flatMap fun p => match look h p.1 with
  | some (.lst l) => alsOf l
  | _ => []
def alA : List (AV × AV) → AV → AV
  | [], z => z
  | p :: l, z => alA l (bif aeq z p.1 then p.2 else z)
theorem aliases_mem {h : H} {p : AV × AV} (hp : p ∈ aliases h) : ∃ b j, lk h b j = .al p.1 p.2 := by
  obtain ⟨e, _, he⟩ := List.mem_flatMap.1 hp
  split at he
  · rename_i l hl
    obtain ⟨j, _, hj⟩ := List.mem_filterMap.1 he
    refine ⟨e.1, j, ?_⟩
    unfold lk
    rw [hl]
    split at hj
    · rename_i x y hx
      obtain rfl := Option.some.inj hj
      exact hx
    · cases hj
  · cases he
theorem alA_same {E : Env} {h : H} {B : Bd} {w : World} (r : HR E h B w) : ∀ {l : List (AV × AV)}, (∀ p ∈ l, ∃ b j, lk h b j = .al p.1 p.2) → SameA E h (alA l)
  | [], _ => fun x hx => ⟨rfl, hx⟩
  | p :: l, hl => fun x hx => by
    have ih := alA_same r (l := l) fun q hq => hl q (List.mem_cons_of_mem _ hq)
    simp only [alA]
    cases hc : aeq x p.1 with
    | false => exact ih x hx
    | true =>
      rw [cond_true]
      have e := aeq_eq hc
      subst e
      obtain ⟨b, j, hb⟩ := hl p List.mem_cons_self
      obtain ⟨_, h2, h3⟩ := r.lst.ali b j _ _ hb
      obtain ⟨h4, h5⟩ := ih p.2 h2
      exact ⟨h4.trans h3.symm, h5⟩
theorem SameA.comp {E : Env} {h : H} {f g : AV → AV} (hf : SameA E h f) (hg : SameA E h g) : SameA E h fun x => f (g x) := fun x hx => by
  obtain ⟨h1, h2⟩ := hg x hx
  obtain ⟨h3, h4⟩ := hf (g x) h2
  exact ⟨h3.trans h1, h4⟩
def resN (h : H) (l : List (AV × AV)) (x : AV) : AV := resA h (alA l (resA h (alA l (resA h (alA l (resA h x))))))
theorem resN_same {E : Env} {h : H} {B : Bd} {w : World} (r : HR E h B w) : SameA E h (resN h (aliases h)) := by
  have h1 := resA_same r
  have h2 := alA_same r (l := aliases h) fun p hp => aliases_mem hp
  exact h1.comp (h2.comp (h1.comp (h2.comp (h1.comp (h2.comp h1)))))
def anyOs (h : H) : Bool := h.any fun p => match p.2 with
  | .lst l => l.any fun s => match s with
    | .obj _ _ (_ :: _) => true
    | .al _ _ => true
    | _ => false
  | _ => false
def resS (o : Oper) (h : H) (t : List TV) : List TV × H := match o.op with
  | .call _ => bif anyOs h then (t.map (mapT (resN h (aliases h))), mapH (resN h (aliases h)) h) else (t, h)
  | _ => (t, h)
theorem resS_ok {E : Env} {h : H} {B : Bd} {w : World} (r : HR E h B w) (o : Oper) {t : List TV} (ht : ∀ x ∈ t, bdT h x = true) : (resS o h t).1.map (ct E) = t.map (ct E) ∧ (∀ x ∈ (resS o h t).1, bdT (resS o h t).2 x = true) ∧ Step E h B w E (resS o h t).2 w := by
  unfold resS
  split
  · cases anyOs h with
    | false => exact ⟨rfl, ht, Step.refl r⟩
    | true =>
      rw [cond_true]
      have s := resN_same r
      have st := mapH_step r s
      refine ⟨?_, fun x hx => ?_, st⟩
      · rw [List.map_map]
        exact List.map_congr_left fun x hx => (mapT_eq s (ht x hx)).1
      · obtain ⟨y, hy, rfl⟩ := List.mem_map.1 hx
        exact bdT_sub st.sub (mapT_eq s (ht y hy)).2
  · exact ⟨rfl, ht, Step.refl r⟩
end Go.Proofs.Ytkepkjahbcddlaa.Sy
