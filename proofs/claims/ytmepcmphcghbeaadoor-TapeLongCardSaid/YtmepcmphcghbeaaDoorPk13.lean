/- Texts of the abstract walk, of the contracts and of the plain laws, packed (part 13 of 48): Ab11. Conditions: none. -/
import Derived.Test.YtmepcmphcghbeaaDoorPk12
namespace Go.Proofs.YtmepcmphcghbeaaDoor
open Go Go.RowKit
set_option linter.unnecessarySimpa false
def news (X : List (AV × Option Ob)) (i : Nat) : Nat := ((X.take i).filter (fun p => p.2.isSome)).length
theorem news_zero (X : List (AV × Option Ob)) : news X 0 = 0 := by simp [news]
theorem news_succ (p : AV × Option Ob) (X : List (AV × Option Ob)) (i : Nat) : news (p :: X) (i + 1) = (if p.2.isSome then 1 else 0) + news X i := by
  unfold news
  simp only [List.take_succ_cons, List.filter_cons]
  split <;> simp <;> omega
theorem news_lt : ∀ (X : List (AV × Option Ob)) (i j : Nat) (p : AV × Option Ob), X[i]? = some p → p.2.isSome = true → i < j → news X i < news X j
  | [], i, j, p, h, _, _ => by simp at h
  | q :: X, 0, j + 1, p, h, hp, _ => by simp at h; subst h; rw [news_zero, news_succ, if_pos hp]; omega
  | q :: X, i + 1, j + 1, p, h, hp, hij => by
    rw [news_succ, news_succ]
    have := news_lt X i j p (by simpa using h) hp (by omega)
    omega
theorem news_inj {X : List (AV × Option Ob)} {i j : Nat} {p q : AV × Option Ob} (hi : X[i]? = some p) (hp : p.2.isSome = true) (hj : X[j]? = some q) (hq : q.2.isSome = true) (h : news X i = news X j) : i = j := by
  rcases Nat.lt_trichotomy i j with h1 | h1 | h1
  · have := news_lt X i j p hi hp h1; omega
  · exact h1
  · have := news_lt X j i q hj hq h1; omega
section
variable {P : Program} {ops : List Oper} {os : Os}
theorem upd_get (st : St) (o : Oper) (x : AV) (ob : Option Ob) (t : Nat) : (st.upd o x ob).get t = if o.dst = some t ∧ t < st.sl.length then x else st.get t := by
  have key : ∀ st : St, (st.put o.dst x).get t = if o.dst = some t ∧ t < st.sl.length then x else st.get t := by
    intro st
    cases hd : o.dst with
    | none => simp [St.put]
    | some d =>
      simp only [St.put, St.get, List.getD_eq_getElem?_getD, List.getElem?_set, Option.some.injEq]
      by_cases h : d = t
      · subst h
        by_cases hl : d < st.sl.length
        · simp [hl]
        · simp [hl]
      · simp [h]
  cases ob with
  | none => exact key st
  | some b => exact key (st.new b)
theorem upd_len (st : St) (o : Oper) (x : AV) (ob : Option Ob) : (st.upd o x ob).sl.length = st.sl.length := by
  cases ob <;> cases hd : o.dst <;> simp [St.upd, St.put, St.new, hd]
theorem upd_nx (st : St) (o : Oper) (x : AV) (ob : Option Ob) : (st.upd o x ob).nx = st.nx + if ob.isSome then 1 else 0 := by
  cases ob <;> cases hd : o.dst <;> simp [St.upd, St.put, St.new, hd]
theorem upd_os (st : St) (o : Oper) (x : AV) (ob : Option Ob) : (st.upd o x ob).os = match ob with | none => st.os | some b => (st.nx, b) :: st.os := by
  cases ob <;> cases hd : o.dst <;> simp [St.upd, St.put, St.new, hd]
theorem Facts_len : ∀ {l : List Oper} {X : List (AV × Option Ob)} {st stF : St}, Facts P ops os l X st stF → X.length = l.length ∧ stF.sl.length = st.sl.length ∧ stF.nx = st.nx + news X l.length
  | [], [], st, stF, h => by cases h; simp [news]
  | o :: l, (x, ob) :: X, st, stF, h => by
    obtain ⟨h1, h2, h3⟩ := Facts_len h.2
    refine ⟨by simp [h1], by rw [h2, upd_len], ?_⟩
    rw [h3, upd_nx, List.length_cons, news_succ]
    simp only; omega
theorem upd_n0 (st : St) (o : Oper) (x : AV) (ob : Option Ob) : (st.upd o x ob).n0 = st.n0 := by
  cases ob <;> cases hd : o.dst <;> simp [St.upd, St.put, St.new, hd]
theorem Facts_n0 : ∀ {l : List Oper} {X : List (AV × Option Ob)} {st stF : St}, Facts P ops os l X st stF → stF.n0 = st.n0
  | [], [], st, stF, h => by cases h; rfl
  | o :: l, (x, ob) :: X, st, stF, h => (Facts_n0 h.2).trans (upd_n0 st o x ob)
theorem Facts_old : ∀ {l : List Oper} {X : List (AV × Option Ob)} {st stF : St}, Facts P ops os l X st stF → ∀ t, (∀ (k : Nat) o, l[k]? = some o → o.dst ≠ some t) → stF.get t = st.get t
  | [], [], st, stF, h, t, _ => by cases h; rfl
  | o :: l, (x, ob) :: X, st, stF, h, t, ht => by
    rw [Facts_old h.2 t (fun k o' hk => ht (k + 1) o' (by simpa using hk)), upd_get, if_neg (fun hh => ht 0 o rfl hh.1)]
theorem Facts_new : ∀ {l : List Oper} {X : List (AV × Option Ob)} {st stF : St}, Facts P ops os l X st stF → ∀ (i : Nat) o p t, l[i]? = some o → X[i]? = some p → o.dst = some t → t < st.sl.length →
    (∀ (k : Nat) o', i < k → l[k]? = some o' → o'.dst ≠ some t) → stF.get t = p.1
  | [], [], st, stF, h, i, o, p, t, hi, _, _, _, _ => by simp at hi
  | o0 :: l, (x, ob) :: X, st, stF, h, 0, o, p, t, hi, hx, hd, hl, ht => by
    simp at hi hx; subst hi; subst hx
    rw [Facts_old h.2 t (fun k o' hk => ht (k + 1) o' (by omega) (by simpa using hk)), upd_get, if_pos ⟨hd, hl⟩]
  | o0 :: l, (x, ob) :: X, st, stF, h, i + 1, o, p, t, hi, hx, hd, hl, ht =>
    Facts_new h.2 i o p t (by simpa using hi) (by simpa using hx) hd (by rw [upd_len]; exact hl) (fun k o' hk hk' => ht (k + 1) o' (by omega) (by simpa using hk'))
theorem Facts_at : ∀ {l : List Oper} {X : List (AV × Option Ob)} {st stF : St}, Facts P ops os l X st stF → ∀ (i : Nat) o p, l[i]? = some o → X[i]? = some p →
    (∀ t ∈ o.looksAt ops.toArray, ∀ (k : Nat) o', i ≤ k → l[k]? = some o' → o'.dst ≠ some t) → OF P ops os o stF.get (st.nx + news X i) p.1 p.2
  | [], [], st, stF, h, i, o, p, hi, _, _ => by simp at hi
  | o0 :: l, (x, ob) :: X, st, stF, h, 0, o, p, hi, hx, ht => by
    simp at hi hx; subst hi; subst hx
    rw [news_zero, Nat.add_zero]
    exact OF_congr (fun t hm => (Facts_old (l := o0 :: l) (X := (x, ob) :: X) h t (fun k o' hk => ht t hm k o' (by omega) hk)).symm) h.1
  | o0 :: l, (x, ob) :: X, st, stF, h, i + 1, o, p, hi, hx, ht => by
    have := Facts_at h.2 i o p (by simpa using hi) (by simpa using hx) (fun t hm k o' hk hk' => ht t hm (k + 1) o' (by omega) (by simpa using hk'))
    rw [upd_nx] at this
    rw [news_succ]
    simp only at this ⊢
    rwa [Nat.add_assoc] at this
theorem Facts_os : ∀ {l : List Oper} {X : List (AV × Option Ob)} {st stF : St}, Facts P ops os l X st stF → (∀ id ob, getO st.os id = some ob → id < st.nx) → ∀ id ob,
    getO stF.os id = some ob ↔ getO st.os id = some ob ∨ ∃ (i : Nat) (p : AV × Option Ob), i < l.length ∧ X[i]? = some p ∧ p.2 = some ob ∧ id = st.nx + news X i
  | [], [], st, stF, h, _, id, ob => by cases h; simp
  | o :: l, (x, ob0) :: X, st, stF, h, hlt, id, ob => by
    have hlt' : ∀ id ob, getO (st.upd o x ob0).os id = some ob → id < (st.upd o x ob0).nx := by
      intro id ob hg
      rw [upd_os] at hg
      rw [upd_nx]
      cases ob0 with
      | none => exact hlt id ob hg
      | some b =>
        simp only [getO] at hg
        split at hg
        · simp; omega
        · have := hlt id ob hg; simp; omega
    rw [Facts_os h.2 hlt' id ob, upd_nx, upd_os]
    constructor
    · rintro (h1 | ⟨i, p, h1, h2, h3, h4⟩)
      · cases ob0 with
        | none => exact .inl h1
        | some b0 =>
          simp only [getO] at h1
          split at h1
          · rename_i he
            cases h1
            exact .inr ⟨0, _, by simp, rfl, rfl, by rw [news_zero]; omega⟩
          · exact .inl h1
      · exact .inr ⟨i + 1, p, by simp; omega, by simpa using h2, h3, by rw [h4, news_succ]; simp only; omega⟩
    · rintro (h1 | ⟨i, p, h1, h2, h3, h4⟩)
      · cases ob0 with
        | none => exact .inl h1
        | some b =>
          have := hlt id ob h1
          refine .inl ?_
          simp only [getO]
          rw [if_neg (by omega)]
          exact h1
      · cases i with
        | zero =>
          simp at h2; subst h2
          simp only at h3
          subst h3
          refine .inl ?_
          simp only [getO]
          rw [if_pos (by rw [h4, news_zero, Nat.add_zero])]
        | succ i => exact .inr ⟨i, p, by simpa using h1, by simpa using h2, h3, by rw [h4, news_succ]; simp only; omega⟩
end
structure DInv (A0 : Nat → Nat → Prop) (E0 : Env) (os0 : Os) (w0 : World) (l : List Oper) (X : List (AV × Option Ob)) (st : St) (D : Nat → Prop) (E : Env) (osD : Os) (a : Act) (w : World) : Prop where
  size : a.tmps.size = st.sl.length
  old : ∀ (t : Nat) (c : AV) (u : Value), (∀ (i : Nat) o, D i → l[i]? = some o → o.dst ≠ some t) → st.sl[t]? = some c → a.tmps[t]? = some u → Rp E (AvX A0 E osD) w c u
  new : ∀ (i t : Nat) (o : Oper) (p : AV × Option Ob) (u : Value), D i → l[i]? = some o → o.dst = some t → X[i]? = some p → a.tmps[t]? = some u → Rp E (AvX A0 E osD) w p.1 u
  os : OsOk A0 E osD w
  has : ∀ id ob, getO osD id = some ob ↔ getO st.os id = some ob ∨ ∃ (i : Nat) (p : AV × Option Ob), D i ∧ X[i]? = some p ∧ p.2 = some ob ∧ id = st.nx + news X i
  nx : ∀ id, E.valid id ↔ id < st.nx ∨ ∃ (i : Nat) (p : AV × Option Ob), D i ∧ X[i]? = some p ∧ p.2.isSome = true ∧ id = st.nx + news X i
  defers : DefOk E.hb w a.defers
  hbl : E.hb ≤ w.heap.size
  ext : Ext E0 E
  stp : Stp (Av E0 os0) w0 w
  sub : ∀ b o, Av E osD b o → Av E0 os0 b o ∨ w0.heap.size ≤ b
  base : ∀ id, E0.valid id → id < st.n0
section
variable {P : Program} {A0 : Nat → Nat → Prop} {E0 : Env} {os0 : Os} {w0 : World} {l : List Oper} {X : List (AV × Option Ob)} {st : St} {D : Nat → Prop} {E : Env} {osD : Os} {a : Act} {w : World}
theorem put_get (a : Act) (d : Option Nat) (v : Value) (t : Nat) (u : Value) (h : (a.put d v).tmps[t]? = some u) : (d = some t ∧ u = v) ∨ (d ≠ some t ∧ a.tmps[t]? = some u) := by
  cases d with
  | none => exact .inr ⟨by simp, h⟩
  | some d =>
    simp only [Act.put, Array.getElem?_setIfInBounds] at h
    by_cases hd : d = t
    · subst hd
      rw [if_pos rfl] at h
      split at h
      · cases h; exact .inl ⟨rfl, rfl⟩
      · cases h
    · rw [if_neg hd] at h; exact .inr ⟨by simpa using hd, h⟩
theorem DInv.val (h : DInv A0 E0 os0 w0 l X st D E osD a w) {i : Nat} {o : Oper} {p : AV × Option Ob} (hi : l[i]? = some o) (hX : X[i]? = some p) (hn : p.2 = none)
    (hap : ∀ (j : Nat) o' t, D j → l[j]? = some o' → o'.dst = some t → o.dst ≠ some t) {w' : World} {v : Value} (hb : Below w.heap.size w w') (hr : Rp E (AvX A0 E osD) w' p.1 v) :
    DInv A0 E0 os0 w0 l X st (fun j => D j ∨ j = i) E osD (a.put o.dst v) w' where
  size := by rw [← h.size]; cases o.dst <;> simp [Act.put]
  old t c u hno hc hu := by
    rcases put_get a o.dst v t u hu with ⟨hd, rfl⟩ | ⟨hd, hu'⟩
    · exact absurd hd (hno i o (.inr rfl) hi)
    · exact (h.old t c u (fun j o' hj => hno j o' (.inl hj)) hc hu').keep hb
  new j t o' p' u hj hl hd hX' hu := by
    rcases put_get a o.dst v t u hu with ⟨hd', rfl⟩ | ⟨hd', hu'⟩
    · rcases hj with hj | rfl
      · exact absurd hd' (hap j o' t hj hl hd)
      · rw [hX] at hX'; cases hX'; exact hr
    · rcases hj with hj | rfl
      · exact (h.new j t o' p' u hj hl hd hX' hu').keep hb
      · rw [hi] at hl; cases hl; exact absurd hd hd'
  os := h.os.keep hb
  has id ob := by
    rw [h.has id ob]
    constructor
    · rintro (h1 | ⟨j, q, h1, h2, h3, h4⟩)
      · exact .inl h1
      · exact .inr ⟨j, q, .inl h1, h2, h3, h4⟩
    · rintro (h1 | ⟨j, q, h1 | rfl, h2, h3, h4⟩)
      · exact .inl h1
      · exact .inr ⟨j, q, h1, h2, h3, h4⟩
      · rw [hX] at h2; cases h2; rw [hn] at h3; cases h3
  nx id := by
    rw [h.nx id]
    constructor
    · rintro (h1 | ⟨j, q, h1, h2, h3, h4⟩)
      · exact .inl h1
      · exact .inr ⟨j, q, .inl h1, h2, h3, h4⟩
    · rintro (h1 | ⟨j, q, h1 | rfl, h2, h3, h4⟩)
      · exact .inl h1
      · exact .inr ⟨j, q, h1, h2, h3, h4⟩
      · rw [hX] at h2; cases h2; rw [hn] at h3; cases h3
  defers := by
    have : (a.put o.dst v).defers = a.defers := by cases o.dst <;> rfl
    rw [this]; exact h.defers.keep hb
  hbl := Nat.le_trans h.hbl hb.size
  ext := h.ext
  stp := h.stp.trans (.of_below hb) h.sub
  sub := h.sub
  base := h.base
theorem DInv.obj (h : DInv A0 E0 os0 w0 l X st D E osD a w) {i : Nat} {o : Oper} {p : AV × Option Ob} {b : Ob} (hi : l[i]? = some o) (hX : X[i]? = some p) (hn : p.2 = some b) (hDi : ¬ D i)
    (hap : ∀ (j : Nat) o' t, D j → l[j]? = some o' → o'.dst = some t → o.dst ≠ some t) {w' : World} {v : Value} {B : Nat} {S : Value} {C : Nat} (hb : Below w.heap.size w w')
    (hfresh : ∀ k, b.blk (E.add (st.nx + news X i) B S C) (st.nx + news X i) = some k → w.heap.size ≤ k) (hok : ∀ A, b.ok (E.add (st.nx + news X i) B S C) A w' (st.nx + news X i))
    (hr : ∀ A, Rp (E.add (st.nx + news X i) B S C) A w' p.1 v) (hlt : ∀ id ob, getO st.os id = some ob → id < st.nx) :
    DInv A0 E0 os0 w0 l X st (fun j => D j ∨ j = i) (E.add (st.nx + news X i) B S C) ((st.nx + news X i, b) :: osD) (a.put o.dst v) w' := by
  generalize hN : st.nx + news X i = N at *
  have hnv : ¬ E.valid N := by
    rw [h.nx]
    rintro (h1 | ⟨j, q, h1, h2, h3, h4⟩)
    · omega
    · have : news X i = news X j := by omega
      have := news_inj hX (by rw [hn]; rfl) h2 h3 this
      subst this
      exact hDi h1
  have hne : ∀ id, E.valid id → id ≠ N := fun id hv he => hnv (he ▸ hv)
  have hext : Ext E (E.add N B S C) := ⟨rfl, fun id hv => .inl hv, fun id hv => by simp [Env.add, hne id hv], fun id hv => by simp [Env.add, hne id hv], fun id hv _ => by simp [Env.add, hne id hv]⟩
  have hget : ∀ id o, getO ((N, b) :: osD) id = some o → (id = N ∧ o = b) ∨ (id ≠ N ∧ getO osD id = some o) := by
    intro id o hg
    simp only [getO] at hg
    split at hg
    · rename_i he; cases hg; exact .inl ⟨he.symm, rfl⟩
    · rename_i he; exact .inr ⟨fun e => he e.symm, hg⟩
  have hgN : getO osD N = none := by
    cases hg : getO osD N with
    | none => rfl
    | some o => exact absurd (h.os.ok N o hg).1 hnv
  have hsub : ∀ b' o, Av (E.add N B S C) ((N, b) :: osD) b' o → Av E osD b' o ∨ w.heap.size ≤ b' := by
    rintro b' o ⟨id, o', hg, hbk, hav⟩
    rcases hget id o' hg with ⟨rfl, rfl⟩ | ⟨hn, hg'⟩
    · exact .inr (hfresh b' hbk)
    · rw [Ob.blk_add hn] at hbk; exact .inl ⟨id, o', hg', hbk, hav⟩
  have hA : ∀ b' o, AvX A0 (E.add N B S C) ((N, b) :: osD) b' o → AvX A0 E osD b' o ∨ w.heap.size ≤ b' := fun b' o ha => by
    rcases ha with ha | ha
    · exact .inl (.inl ha)
    · exact (hsub b' o ha).imp .inr (fun h => h)
  have keep : ∀ {c u}, Rp E (AvX A0 E osD) w c u → Rp (E.add N B S C) (AvX A0 (E.add N B S C) ((N, b) :: osD)) w' c u := fun hr => hr.step (.of_below hb) hext hA
  refine ⟨?_, ?_, ?_, ?_, ?_, ?_, ?_, Nat.le_trans h.hbl hb.size, h.ext.trans hext, h.stp.trans (.of_below hb) h.sub, ?_, h.base⟩
  · rw [← h.size]; cases o.dst <;> simp [Act.put]
  · intro t c u hno hc hu
    rcases put_get a o.dst v t u hu with ⟨hd, rfl⟩ | ⟨hd, hu'⟩
    · exact absurd hd (hno i o (.inr rfl) hi)
    · exact keep (h.old t c u (fun j o' hj => hno j o' (.inl hj)) hc hu')
  · intro j t o' p' u hj hl hd hX' hu
    rcases put_get a o.dst v t u hu with ⟨hd', rfl⟩ | ⟨hd', hu'⟩
    · rcases hj with hj | rfl
      · exact absurd hd' (hap j o' t hj hl hd)
      · rw [hX] at hX'; cases hX'; exact hr _
    · rcases hj with hj | rfl
      · exact keep (h.new j t o' p' u hj hl hd hX' hu')
      · rw [hi] at hl; cases hl; exact absurd hd hd'
  · refine ⟨fun id o' hg => ?_, fun i' j oi oj b' hi' hj hbi hbj => ?_, fun id o' b' hg hbk => ?_, fun b' o' ha => Nat.lt_of_lt_of_le (h.os.bnd b' o' ha) hb.size, h.os.gl.step (.of_below hb) hA⟩
    · rcases hget id o' hg with ⟨rfl, rfl⟩ | ⟨hn', hg'⟩
      · exact ⟨.inr rfl, hok _⟩
      · obtain ⟨hv, ho⟩ := h.os.ok id o' hg'
        exact ⟨.inl hv, Ob.ok_step ho hv hext (.of_below hb) hA (by simp [Env.add, hn']) (fun b' hbb => hb.block b' (Ob.blk_lt ho hbb))⟩
    · rcases hget i' oi hi' with ⟨rfl, rfl⟩ | ⟨hn', hg'⟩ <;> rcases hget j oj hj with ⟨rfl, rfl⟩ | ⟨hn2, hg2⟩
      · rfl
      · rw [Ob.blk_add hn2] at hbj
        have h1 := Ob.blk_lt (h.os.ok j oj hg2).2 hbj
        have h2 := hfresh b' hbi
        omega
      · rw [Ob.blk_add hn'] at hbi
        have h1 := Ob.blk_lt (h.os.ok i' oi hg').2 hbi
        have h2 := hfresh b' hbj
        omega
      · rw [Ob.blk_add hn'] at hbi
        rw [Ob.blk_add hn2] at hbj
        exact h.os.inj i' j oi oj b' hg' hg2 hbi hbj
    · rcases hget id o' hg with ⟨rfl, rfl⟩ | ⟨hn', hg'⟩
      · intro o'' ha
        have h1 := hfresh b' hbk
        have h2 := h.os.bnd b' o'' ha
        omega
      · rw [Ob.blk_add hn'] at hbk; exact h.os.out id o' b' hg' hbk
  · intro id ob
    constructor
    · intro hg
      rcases hget id ob hg with ⟨rfl, rfl⟩ | ⟨hn', hg'⟩
      · exact .inr ⟨i, p, .inr rfl, hX, hn, by omega⟩
      · rcases (h.has id ob).1 hg' with h1 | ⟨j, q, h1, h2, h3, h4⟩
        · exact .inl h1
        · exact .inr ⟨j, q, .inl h1, h2, h3, h4⟩
    · intro hh
      simp only [getO]
      rcases hh with h1 | ⟨j, q, h1 | rfl, h2, h3, h4⟩
      · rw [if_neg (fun e => by have := hlt id ob h1; omega)]; exact (h.has id ob).2 (.inl h1)
      · have hg := (h.has id ob).2 (.inr ⟨j, q, h1, h2, h3, h4⟩)
        rw [if_neg (fun e => by rw [← e, hgN] at hg; cases hg)]; exact hg
      · rw [hX] at h2; cases h2; rw [hn] at h3; cases h3; rw [if_pos (by omega)]
  · intro id
    simp only [Env.add, h.nx id]
    constructor
    · rintro ((h1 | ⟨j, q, h1, h2, h3, h4⟩) | h1)
      · exact .inl h1
      · exact .inr ⟨j, q, .inl h1, h2, h3, h4⟩
      · exact .inr ⟨i, p, .inr rfl, hX, by rw [hn]; rfl, by omega⟩
    · rintro (h1 | ⟨j, q, h1 | rfl, h2, h3, h4⟩)
      · exact .inl (.inl h1)
      · exact .inl (.inr ⟨j, q, h1, h2, h3, h4⟩)
      · exact .inr (by omega)
  · have : (a.put o.dst v).defers = a.defers := by cases o.dst <;> rfl
    rw [this]; exact h.defers.keep hb
  · intro b' o' ha
    rcases hsub b' o' ha with h1 | h1
    · exact h.sub b' o' h1
    · exact .inr (Nat.le_trans h.stp.size h1)
theorem wantG_sound {ops : List Oper} {o : Oper} {get : Nat → AV} {A : Nat → Nat → Prop} {T F : Prop} (hr : ∀ d ∈ o.looksAt ops.toArray, Rp E A w (get d) (a.tmps.getD d undef)) (hw : wantG ops o get T F) :
    (Region.wanted o (yielded ops.toArray a.tmps) = true ∧ T) ∨ (Region.wanted o (yielded ops.toArray a.tmps) = false ∧ F) := by
  unfold wantG at hw
  unfold Region.wanted
  split at hw
  · rename_i hg; rw [hg]; exact .inl ⟨rfl, hw⟩
  · rename_i j want hg
    rw [hg]
    split at hw
    · rename_i hd; exact .inr ⟨by simp [yielded, hd], hw⟩
    · rename_i d hd
      have h1 := hr d (by
        simp only [Oper.looksAt, List.mem_append]
        refine .inr ?_
        rw [hg]
        simp only [List.getElem?_toArray, hd, Option.toList_some, List.mem_singleton])
      have hval : ∀ x, get d = .v x → a.tmps.getD d undef = x := fun x hx => by
        rw [hx] at h1
        generalize a.tmps.getD d undef = v at h1 ⊢
        cases h1; rfl
      split at hw
      · rename_i b hb
        have h2 := hval _ hb
        have h3 : a.tmps[d]? = some (.bool b) := by
          simp only [Array.getD] at h2
          split at h2
          · rename_i hlt; rw [Array.getElem?_eq_getElem hlt]; simpa using h2
          · simp [undef] at h2
        have h4 : yielded ops.toArray a.tmps j = some b := by simp [yielded, hd, h3]
        simp only [h4]
        split at hw
        · rename_i hbw; exact .inl ⟨by simp [hbw], hw⟩
        · rename_i hbw; exact .inr ⟨by simp [hbw], hw⟩
      · rename_i vs hvs
        have h2 := hval _ hvs
        have h4 : yielded ops.toArray a.tmps j = none := by
          simp only [yielded, List.getElem?_toArray, hd, Option.bind_some]
          simp only [Array.getD] at h2
          split at h2
          · rename_i hlt
            have : a.tmps[d]? = some (.tuple vs) := by rw [Array.getElem?_eq_getElem hlt]; simpa using h2
            simp [this]
          · rename_i hge; simp [Array.getElem?_eq_none (Nat.le_of_not_lt hge)]
        simp only [h4]
        exact .inr ⟨rfl, hw⟩
      · exact hw.elim
end
def drawDeps (ops : Array Oper) (m : Nat) : Bool :=
  (List.range m).all fun i => match ops[i]? with
    | none => false
    | some o => (o.after.all fun e => !Region.binds .any e || decide (e.on < i)) &&
      (List.range ops.size).all fun j => match ops[j]? with
        | none => true
        | some oj => match oj.dst with
          | none => true
          | some d => (decide (m ≤ j) || !(o.looksAt ops).contains d || (j != i && o.after.any fun e => Region.binds .any e && e.on == j)) && (j == i || decide (m ≤ j) || o.dst != some d)
def listedAt (n m : Nat) : Array Bool := ((List.range n).map fun i => decide (i < m)).toArray
def drawB (ops : Array Oper) (m : Nat) : Bool :=
  Region.noSelect ops && decide (m ≤ ops.size) && drawDeps ops m && (decide (m = ops.size) || (Region.sinkB .any ops m && Region.chainB .any ops m)) && Region.seqB .any ops (ops.size - m) m (listedAt ops.size m)
def floatB (ops : Array Oper) (m : Nat) (F : List Nat) : Bool :=
  F.all fun f => decide (f < m) && match ops[f]? with
    | none => false
    | some o => (match o.op, o.guard with | .extract (.tmp _) _, none => true | _, _ => false) &&
      (List.range ops.size).all fun j => j == f || (decide (j < m) && !F.contains j) || match ops[j]? with
        | some oj => oj.after.any (fun e => Region.binds .any e && e.on == f) || o.apart ops oj
        | none => true
def sinkF (ops : Array Oper) (m : Nat) (F : List Nat) : Bool :=
  (List.range m).all fun i => F.contains i || (List.range (m + 1)).any fun j => decide (i < j) && !F.contains j && Region.waitsFor .any ops j i
def drawF (ops : Array Oper) (m : Nat) (F : List Nat) : Bool :=
  decide (m ≤ ops.size) && drawDeps ops m && (decide (m = ops.size) || (sinkF ops m F && Region.chainB .any ops m)) && Region.seqB .any ops (ops.size - m) m (listedAt ops.size m) && floatB ops m F && Region.noSelect ops
theorem tail_waitsF {ops : Array Oper} {n : Nat} {F : List Nat} {listed : Array Bool} (hs : sinkF ops n F = true) (hc : Region.chainB .any ops n = true) (hn : n < ops.size) (inv : HeadInv .any ops n listed) :
    ∀ (d i : Nat), n - i = d → i < n → F.contains i = false → listed.getD i true = false → ∀ t, n ≤ t → t ∉ Region.ready .any ops listed := by
  intro d
  induction d using Nat.strongRecOn with
  | _ d ih =>
    intro i hd hi hiF hun t ht hr
    obtain ⟨_, ot, hot, hall⟩ := mem_ready.1 hr
    have htlt : t < ops.size := (Array.getElem?_eq_some_iff.1 hot).1
    by_cases htn : t = n
    · subst htn
      have h1 := List.all_eq_true.1 hs i (List.mem_range.2 hi)
      rw [hiF, Bool.false_or] at h1
      obtain ⟨j, hj, hj2⟩ := List.any_eq_true.1 h1
      simp only [Bool.and_eq_true, decide_eq_true_eq, Bool.not_eq_true'] at hj2
      obtain ⟨oj, hoj, e, he, hb, hon⟩ := Region.waitsFor_spec hj2.2
      have hjle : j ≤ t := by have := List.mem_range.1 hj; omega
      by_cases hjt : j = t
      · subst hjt
        have : oj = ot := Option.some.inj (hoj.symm.trans hot)
        subst this
        have h2 := hall e he hb
        rw [hon, getD_both hun] at h2
        cases h2
      · cases hl : listed.getD j false with
        | true =>
          have h2 := inv.closed j oj hoj hl e he hb
          rw [hon, getD_both hun] at h2
          cases h2
        | false =>
          have hjs : j < listed.size := by rw [inv.size]; omega
          exact ih (t - j) (by omega) j rfl (by omega) hj2.1.2 (getD_in hjs hl) t (Nat.le_refl _) hr
    · have h1 := List.all_eq_true.1 hc t (List.mem_range.2 htlt)
      simp only [Bool.or_eq_true, decide_eq_true_eq] at h1
      rcases h1 with h1 | h1
      · omega
      · obtain ⟨o', ho', e, he, hb, hon⟩ := Region.waitsFor_spec h1
        have : o' = ot := Option.some.inj (ho'.symm.trans hot)
        subst this
        have h2 := hall e he hb
        have h3 := inv.tail (t - 1) (by omega) (by omega)
        rw [hon, getD_both h3] at h2
        cases h2
def cntU (f : Nat → Bool) : Nat → Nat
  | 0 => 0
  | m + 1 => cntU f m + if f m then 0 else 1
theorem cntU_congr {f g : Nat → Bool} : ∀ m, (∀ i, i < m → f i = g i) → cntU f m = cntU g m
  | 0, _ => rfl
  | m + 1, h => by simp only [cntU, h m (by omega), cntU_congr m (fun i hi => h i (by omega))]
theorem cntU_set (f : Nat → Bool) (i : Nat) : ∀ m, i < m → f i = false → cntU (fun j => if j = i then true else f j) m + 1 = cntU f m
  | 0, h, _ => by omega
  | m + 1, h, hf => by
    simp only [cntU]
    by_cases hm : m = i
    · subst hm
      rw [cntU_congr (g := f) m (fun j hj => by rw [if_neg (by omega)])]
      simp [hf]
    · have := cntU_set f i m (by omega) hf
      simp only [if_neg hm]
      omega
theorem cntU_zero (f : Nat → Bool) : ∀ m, cntU f m = 0 → ∀ i, i < m → f i = true
  | 0, _, i, h => by omega
  | m + 1, h0, i, h => by
    simp only [cntU] at h0
    by_cases hm : i = m
    · subst hm
      cases hf : f i with
      | true => rfl
      | false => simp [hf] at h0
    · exact cntU_zero f m (by omega) i (by omega)
theorem AWp_drawF {ro : Option Nat} {P : Program} {Q : Exit → St → Prop} {st : St} {id : Nat} {l : List Oper} (m : Nat) (F : List Nat) (hm : P.follows .mixedOrders = true) (hB : drawF l.toArray m F = true) (hQ : F = [] ∨ ∀ c st, ¬ Q (.panic c) st)
    (h : dRun P l st.os (l.take m) st fun st' => aops P l (l.drop m) st' (Q .normal)) : AWp ro P (.region id l.toArray true) Q st := by
  intro hno hnd A0 E0 os0 w0 E a w hs
  obtain ⟨X, stF, hF, hK⟩ := dRun_facts (l.take m) st h
  simp only [drawF, Bool.and_eq_true, Bool.or_eq_true, decide_eq_true_eq, List.size_toArray] at hB
  obtain ⟨⟨⟨⟨⟨hml, hdeps⟩, hsink⟩, hseq⟩, hfl⟩, hsel⟩ := hB
  obtain ⟨hXl, hFl, hFn⟩ := Facts_len hF
  have hFn0 := Facts_n0 hF
  have htl : (l.take m).length = m := by simp; omega
  have hgt : ∀ i o, i < m → (l[i]? = some o ↔ (l.take m)[i]? = some o) := fun i o hi => by rw [List.getElem?_take, if_pos hi]
  have hlt : ∀ id ob, getO st.os id = some ob → id < st.nx := fun id ob hg => (hs.nx id).1 (hs.os.ok id ob hg).1
  -- what the checks say
  have dep : ∀ (i : Nat) (o : Oper), i < m → l[i]? = some o → (∀ e ∈ o.after, Region.binds .any e = true → e.on < i) ∧
      ∀ (j : Nat) (oj : Oper) (d : Nat), l[j]? = some oj → oj.dst = some d → (d ∈ o.looksAt l.toArray → j < m → j ≠ i ∧ ∃ e ∈ o.after, Region.binds .any e = true ∧ e.on = j) ∧ (j ≠ i → j < m → o.dst ≠ some d) := by
    intro i o hi ho
    have h1 := List.all_eq_true.1 hdeps i (List.mem_range.2 hi)
    simp only [List.getElem?_toArray, ho, Bool.and_eq_true] at h1
    refine ⟨fun e he hb => ?_, fun j oj d hj hd => ?_⟩
    · have := Array.all_eq_true'.1 h1.1 e he
      simpa [hb] using this
    · have hjl : j < l.length := (List.getElem?_eq_some_iff.1 hj).1
      have h2 := List.all_eq_true.1 h1.2 j (List.mem_range.2 (by simpa using hjl))
      simp only [hj, hd, Bool.and_eq_true, Bool.or_eq_true, Bool.not_eq_true', bne_iff_ne, beq_iff_eq, decide_eq_true_eq, ne_eq] at h2
      refine ⟨fun hm' hjm => ?_, fun hne hlt' => ?_⟩
      · rcases h2.1 with (h3 | h3) | ⟨h3, h5⟩
        · omega
        · rw [List.contains_eq_mem, decide_eq_false_iff_not] at h3; exact absurd hm' h3
        · refine ⟨h3, ?_⟩
          obtain ⟨e, he, hb⟩ := Array.any_eq_true'.1 h5
          simp only [Bool.and_eq_true, beq_iff_eq] at hb
          exact ⟨e, he, hb.1, hb.2⟩
      · rcases h2.2 with (h3 | h3) | h3
        · exact absurd h3 hne
        · omega
        · exact h3
  have hFnew : ∀ (j : Nat) (oj : Oper) (p : AV × Option Ob) (t : Nat), j < m → l[j]? = some oj → X[j]? = some p → oj.dst = some t → t < st.sl.length → stF.get t = p.1 := by
    intro j oj p t hj hl hp hd ht
    refine Facts_new hF j oj p t ((hgt j oj hj).1 hl) hp hd ht (fun k o' hk hk' => ?_)
    have hkm : k < m := by have := (List.getElem?_eq_some_iff.1 hk').1; omega
    exact ((dep k o' hkm ((hgt k o' hkm).2 hk')).2 j oj t hl hd).2 (by omega) hj
  have hFold : ∀ (t : Nat), (∀ (j : Nat) o, j < m → l[j]? = some o → o.dst ≠ some t) → stF.get t = st.get t := fun t ht =>
    Facts_old hF t (fun k o hk => by
      have hkm : k < m := by have := (List.getElem?_eq_some_iff.1 hk).1; omega
      exact ht k o hkm ((hgt k o hkm).2 hk))
  refine rn_region_any hm hnd (noOut hno) ?_
  generalize hw1 : ({ w with drawn := w.drawn + 1 } : World) = w1
  have hbel : Below w.heap.size w w1 := by subst hw1; exact (Below.refl _ w).drew
  let Q' : Exit → Act → World → Prop := fun e a' w' => ∃ st' E', Q e st' ∧ SimC A0 E0 os0 w0 E' st' a' w'
  let Dl : Array Bool → Nat → Prop := fun listed i => i < m ∧ listed.getD i false = true
  have main : ∀ (c : Nat) (listed : Array Bool) (a : Act) (w : World) (E : Env) (osD : Os), cntU (fun i => listed.getD i false) m = c → DInv A0 E0 os0 w0 l X st (Dl listed) E osD a w →
      HeadInv .any l.toArray m listed → wpAny P .any l.toArray Q' (c + (l.length - m)) listed a w := by
    intro c
    induction c with
    | zero =>
      intro listed a w E osD hc hD hH
      have hall := cntU_zero _ m hc
      -- all of the head is done
      have hlisted : listed = listedAt l.length m := by
        apply Array.ext
        · rw [hH.size]; simp [listedAt]
        · intro i h1 h2
          have hil : i < l.length := by rw [hH.size] at h1; simpa using h1
          simp only [listedAt, List.getElem_toArray, List.getElem_map, List.getElem_range]
          by_cases hi : i < m
          · have := hall i hi
            simp only [Array.getD, h1, dif_pos] at this
            simp [hi]; simpa using this
          · have := hH.tail i (by omega) (by simpa using hil)
            simp only [Array.getD, h1, dif_pos] at this
            simp [hi]; simpa using this
      have hsim : SimC A0 E0 os0 w0 E stF a w := by
        have hget : ∀ id ob, getO stF.os id = some ob ↔ getO osD id = some ob := fun id ob => by
          rw [Facts_os hF hlt id ob, hD.has id ob]
          constructor
          · rintro (h1 | ⟨i, p, h1, h2, h3, h4⟩)
            · exact .inl h1
            · exact .inr ⟨i, p, ⟨by omega, hall i (by omega)⟩, h2, h3, h4⟩
          · rintro (h1 | ⟨i, p, h1, h2, h3, h4⟩)
            · exact .inl h1
            · exact .inr ⟨i, p, by have := h1.1; omega, h2, h3, h4⟩
        have hAv : ∀ b o, Av E stF.os b o ↔ Av E osD b o := fun b o =>
          ⟨fun ⟨id, ob, hg, r⟩ => ⟨id, ob, (hget id ob).1 hg, r⟩, fun ⟨id, ob, hg, r⟩ => ⟨id, ob, (hget id ob).2 hg, r⟩⟩
        have hAx : ∀ b o, AvX A0 E stF.os b o → AvX A0 E osD b o := fun b o ha => ha.imp (fun h => h) (hAv b o).1
        refine ⟨by rw [hD.size, hFl], fun i c u hc hu => ?_, ⟨fun id ob hg => ?_, fun i j oi oj b hi hj => hD.os.inj i j oi oj b ((hget _ _).1 hi) ((hget _ _).1 hj), fun id ob b hg => hD.os.out id ob b ((hget _ _).1 hg), hD.os.bnd, hD.os.gl.mono hAx⟩, fun id => ?_, hD.defers, hD.hbl, hD.ext, hD.stp, fun b o ha => hD.sub b o ((hAv b o).1 ha), fun id hv => hFn0 ▸ hD.base id hv⟩
        · have hi : i < st.sl.length := by rw [← hFl]; exact (List.getElem?_eq_some_iff.1 hc).1
          have hci : c = stF.get i := by simp [St.get, List.getD_eq_getElem?_getD, hc]
          by_cases hw : ∃ (j : Nat) (o : Oper), j < m ∧ l[j]? = some o ∧ o.dst = some i
          · obtain ⟨j, o, hj, hl, hd⟩ := hw
            have hjX : j < X.length := by omega
            have hp := List.getElem?_eq_getElem hjX
            rw [hci, hFnew j o _ i hj hl hp hd hi]
            exact (hD.new j i o _ u ⟨hj, hall j hj⟩ hl hd hp hu).mono hAx
          · have hno : ∀ (j : Nat) o, j < m → l[j]? = some o → o.dst ≠ some i := fun j o hj hl hd => hw ⟨j, o, hj, hl, hd⟩
            rw [hci, hFold i hno]
            have h1 : st.sl[i]? = some (st.get i) := by simp [St.get, List.getD_eq_getElem?_getD, List.getElem?_eq_getElem hi]
            exact (hD.old i _ u (fun j o hj hl => hno j o hj.1 hl) h1 hu).mono hAx
        · obtain ⟨hv, ho⟩ := hD.os.ok id ob ((hget _ _).1 hg)
          exact ⟨hv, Ob.ok_step ho hv (.refl E) (.refl _ w) (fun b o h => .inl (hAx b o h)) rfl (fun _ _ => rfl)⟩
        · rw [hD.nx id, hFn, htl]
          constructor
          · rintro (h1 | ⟨i, p, h1, h2, h3, h4⟩)
            · omega
            · have := news_lt X i m p h2 h3 h1.1; omega
          · intro h1
            rcases Nat.lt_or_ge id st.nx with h2 | h2
            · exact .inl h2
            · -- which one
              have key : ∀ k, k ≤ m → id < st.nx + news X k → ∃ (i : Nat) (p : AV × Option Ob), i < k ∧ X[i]? = some p ∧ p.2.isSome = true ∧ id = st.nx + news X i := by
                intro k
                induction k with
                | zero => intro _ hk; rw [news_zero] at hk; omega
                | succ k ih =>
                  intro hkm hk
                  rcases Nat.lt_or_ge id (st.nx + news X k) with h3 | h3
                  · obtain ⟨i, p, h4, h5⟩ := ih (by omega) h3
                    exact ⟨i, p, by omega, h5⟩
                  · have hkX : k < X.length := by omega
                    have hp := List.getElem?_eq_getElem hkX
                    have hstep : news X (k + 1) = news X k + if (X[k].2).isSome then 1 else 0 := by
                      unfold news
                      rw [List.take_add_one, hp]
                      simp only [Option.toList_some, List.filter_append, List.length_append, List.filter_cons, List.filter_nil]
                      split <;> simp
                    cases hsome : (X[k].2).isSome with
                    | false => rw [hstep, hsome] at hk; simp at hk; omega
                    | true =>
                      rw [hstep, hsome] at hk
                      simp at hk
                      exact ⟨k, _, by omega, hp, hsome, by omega⟩
              obtain ⟨i, p, h4, h5, h6, h7⟩ := key m (Nat.le_refl _) h1
              exact .inr ⟨i, p, ⟨h4, hall i h4⟩, h5, h6, h7⟩
      rw [Nat.zero_add]
      have hdl : (l.drop m).length = l.length - m := by simp
      rw [← hdl]
      refine wpAny_of_seq (l.drop m) m listed a w (fun j => by simp [List.getElem?_drop]) (by rw [hdl, hlisted]; exact hseq) ?_
      exact aops_sound (fun st' E' a' w' q s => ⟨st', E', q, s⟩) (l.drop m) stF E a w hsim hK
    | succ c ih =>
      intro listed a w E osD hc hD hH
      -- something of the head is still to be done
      have hex : ∃ i, i < m ∧ listed.getD i false = false := by
        rcases Classical.em (∃ i, i < m ∧ listed.getD i false = false) with h1 | h1
        · exact h1
        · have hz : cntU (fun i => listed.getD i false) m = 0 := by
            have : ∀ k, k ≤ m → cntU (fun i => listed.getD i false) k = 0 := by
              intro k
              induction k with
              | zero => intro _; rfl
              | succ k ihk =>
                intro hk
                have : listed.getD k false = true := by
                  cases hv : listed.getD k false with
                  | true => rfl
                  | false => exact absurd ⟨k, by omega, hv⟩ h1
                simp only [cntU, ihk (by omega), this]; rfl
            exact this m (Nat.le_refl _)
          omega
      have hsz : listed.size = l.length := by rw [hH.size]; simp
      by_cases hexF : ∃ i, i < m ∧ F.contains i = false ∧ listed.getD i false = false
      case neg =>
        -- only parts of tuples are still to be done: the next one is taken
        obtain ⟨f, hf, hfu⟩ := hex
        have hdone : ∀ i, i < m → F.contains i = false → listed.getD i false = true := fun i hi hiF => by
          cases hv : listed.getD i false with
          | true => rfl
          | false => exact absurd ⟨i, hi, hiF, hv⟩ hexF
        -- the least that is still to be done
        have least : ∀ n i, i ≤ n → i < m → listed.getD i false = false → ∃ i, i < m ∧ listed.getD i false = false ∧ ∀ j, j < i → listed.getD j false = true := by
          intro n
          induction n with
          | zero => intro i hn hi hiu; exact ⟨i, hi, hiu, fun j hj => by omega⟩
          | succ n ihn =>
            intro i hn hi hiu
            rcases Classical.em (∃ j, j < i ∧ listed.getD j false = false) with ⟨j, hj, hju⟩ | h1
            · exact ihn j (by omega) (by omega) hju
            · exact ⟨i, hi, hiu, fun j hj => by
                cases hv : listed.getD j false with
                | true => rfl
                | false => exact absurd ⟨j, hj, hv⟩ h1⟩
        obtain ⟨i, him, hiu', hbefore⟩ := least f f (Nat.le_refl _) hf hfu
        have hiF : F.contains i = true := by
          cases hv : F.contains i with
          | true => rfl
          | false => rw [hdone i him hv] at hiu'; cases hiu'
        have hil : i < l.length := by omega
        have ho : l[i]? = some l[i] := List.getElem?_eq_getElem hil
        have hsz : listed.size = l.length := by rw [hH.size]; simp
        have hX := List.getElem?_eq_getElem (show i < X.length by omega)
        obtain ⟨hd1, hd2⟩ := dep i _ him ho
        have hir : i ∈ Region.ready .any l.toArray listed := mem_ready.2 ⟨getD_in (by omega) hiu', l[i], by simp, fun e he hb => hbefore _ (hd1 e he hb)⟩
        have hfi := List.all_eq_true.1 hfl i (by simpa using hiF)
        simp only [List.getElem?_toArray, ho, Bool.and_eq_true] at hfi
        obtain ⟨_, hop, hfree⟩ := hfi
        have hOF := Facts_at hF i l[i] _ ((hgt i l[i] him).1 ho) hX (fun t ht k o' hk hk' hd => by
          have hkm : k < m := by have := (List.getElem?_eq_some_iff.1 hk').1; omega
          obtain ⟨h1, e, he, hb, hon⟩ := (hd2 k o' t ((hgt k o' hkm).2 hk') hd).1 ht hkm
          have := hd1 e he hb
          omega)
        have hap : ∀ (j : Nat) o' t, Dl listed j → l[j]? = some o' → o'.dst = some t → (l[i]).dst ≠ some t := fun j o' t hj hl hd => (hd2 j o' t hl hd).2 (fun e => by have h9 := hj.2; rw [e, hiu'] at h9; cases h9) hj.1
        -- the slot that it looks at
        have hslot : ∀ t ∈ (l[i]).looksAt l.toArray, Rp E (AvX A0 E osD) w (stF.get t) (a.tmps.getD t undef) := by
          intro t ht
          rcases Nat.lt_or_ge t st.sl.length with hlt' | hge
          · have hu : a.tmps[t]? = some (a.tmps.getD t undef) := by
              have : t < a.tmps.size := by rw [hD.size]; exact hlt'
              simp [Array.getD, this]
            by_cases hw : ∃ (j : Nat) (oj : Oper), j < m ∧ l[j]? = some oj ∧ oj.dst = some t
            · obtain ⟨j, oj, hj, hl, hd⟩ := hw
              obtain ⟨h1, e, he, hb, hon⟩ := (hd2 j oj t hl hd).1 ht hj
              have hjd : listed.getD j false = true := by rw [← hon]; exact hbefore _ (hd1 e he hb)
              have hp := List.getElem?_eq_getElem (show j < X.length by omega)
              rw [hFnew j oj _ t hj hl hp hd hlt']
              exact hD.new j t oj _ _ ⟨hj, hjd⟩ hl hd hp hu
            · have hno : ∀ (j : Nat) o, j < m → l[j]? = some o → o.dst ≠ some t := fun j o hj hl hd => hw ⟨j, o, hj, hl, hd⟩
              rw [hFold t hno]
              have h1 : st.sl[t]? = some (st.get t) := by simp [St.get, List.getD_eq_getElem?_getD, List.getElem?_eq_getElem hlt']
              exact hD.old t _ _ (fun j o hj hl => hno j o hj.1 hl) h1 hu
          · have : stF.get t = .any := by rw [St.get, List.getD_eq_getElem?_getD, List.getElem?_eq_none (by omega)]; rfl
            rw [this]; exact .any _
        have hyield : ∃ v, Yields P l.toArray l[i] v a ∧ Rp E (AvX A0 E osD) w X[i].1 v ∧ X[i].2 = none := by
          generalize l[i] = oi at hop hOF hslot
          generalize X[i] = xi at hOF
          obtain ⟨dst, op, ty, pos, after, guard⟩ := oi
          simp only at hop
          have hop' : ∃ t k, op = .extract (.tmp t) k ∧ guard = none := by
            split at hop
            · exact ⟨_, _, rfl, rfl⟩
            · cases hop
          obtain ⟨t, k, rfl, rfl⟩ := hop'
          have hs0 := hslot t (by simp [Oper.looksAt, Op.operands])
          unfold OF wantG at hOF
          simp only at hOF
          unfold OpF at hOF
          simp only at hOF
          obtain ⟨hn, hv⟩ := hOF
          unfold aVal at hv
          simp only [evG] at hv
          unfold aExtract at hv
          split at hv
          case h_2 => exact hv.elim
          rename_i cs hcs
          rw [hcs] at hs0
          generalize hu : a.tmps.getD t undef = u at hs0
          cases hs0 with
          | @tup _ us hus hr =>
            obtain ⟨hk, hx⟩ := hv
            have g1 : us[k]? = some us[k] := Array.getElem?_eq_getElem (by omega)
            have g2 : cs[k]? = some (cs.getD k .any) := by rw [List.getD_eq_getElem?_getD, List.getElem?_eq_getElem hk]; rfl
            refine ⟨us[k], .inl ⟨by simp [Region.wanted], fun w' => ?_⟩, by rw [← hx]; exact hr k _ _ g2 g1, hn⟩
            have hev : a.eval (.tmp t) = .tuple us := hu
            simp [execOp, hev, Instr.extract, g1]
        obtain ⟨v, hy, hrv, hn⟩ := hyield
        rw [show c + 1 + (l.length - m) = (c + (l.length - m)) + 1 by omega]
        have hFne : F ≠ [] := fun e => by rw [e] at hiF; simp at hiF
        have hQ' : ∀ c st, ¬ Q (.panic c) st := hQ.elim (fun e => absurd e hFne) (fun h => h)
        refine wpAny_take (i := i) (oi := l[i]) (v := v) (by simp) hsel ?_ (by simpa using hir) (fun c a w ⟨st', E', hq, _⟩ => absurd hq (hQ' c st')) hy ?_
        · unfold Region.free
          simp only [List.getElem?_toArray, ho]
          refine List.all_eq_true.2 fun j hj => ?_
          have h1 := List.all_eq_true.1 hfree j hj
          simp only [Bool.or_eq_true, Bool.and_eq_true, Bool.not_eq_true', decide_eq_true_eq, List.getElem?_toArray] at h1 ⊢
          rcases h1 with (h1 | ⟨h1, h2⟩) | h1
          · exact .inl (.inl h1)
          · have h3 := hdone j h1 h2
            refine .inl (.inr ?_)
            have : j < listed.size := by omega
            simp only [Array.getD, this, dif_pos] at h3 ⊢
            exact h3
          · exact .inr h1
        · have hgd : ∀ j, (listed.setIfInBounds i true).getD j false = if j = i then true else listed.getD j false := by
            intro j
            by_cases hj : j = i
            · subst hj; rw [if_pos rfl]; simp [Array.getD, show j < listed.size by omega]
            · rw [if_neg hj, getD_set_ne false (Ne.symm hj)]
          refine ih _ _ w E osD ?_ ?_ (hH.set hir him)
          · have h1 := cntU_set (fun j => listed.getD j false) i m him hiu'
            have h2 : cntU (fun j => (listed.setIfInBounds i true).getD j false) m = cntU (fun j => if j = i then true else listed.getD j false) m := cntU_congr m (fun j _ => hgd j)
            omega
          · have hDeq : (fun j => Dl listed j ∨ j = i) = Dl (listed.setIfInBounds i true) := by
              funext j
              simp only [Dl, hgd, eq_iff_iff]
              constructor
              · rintro (⟨h1, h2⟩ | rfl)
                · refine ⟨h1, ?_⟩; split <;> simp [h2]
                · exact ⟨him, by simp⟩
              · rintro ⟨h1, h2⟩
                by_cases hj : j = i
                · exact .inr hj
                · rw [if_neg hj] at h2; exact .inl ⟨h1, h2⟩
            rw [← hDeq]
            exact hD.val ho hX hn hap (.refl _ w) hrv
      have hnotail : ∀ t, m ≤ t → t ∉ Region.ready .any l.toArray listed := by
        intro t ht hr
        obtain ⟨i, hi, hiF, hiu⟩ := hexF
        have hmn : m < l.length := by
          have := (mem_ready.1 hr).2
          obtain ⟨o, ho, _⟩ := this
          have := (List.getElem?_eq_some_iff.1 (by simpa using ho)).1
          omega
        rcases hsink with h1 | ⟨h1, h2⟩
        · omega
        · exact tail_waitsF h1 h2 (by simpa using hmn) hH _ i rfl hi hiF (getD_in (by omega) hiu) t ht hr
      have hready : Region.ready .any l.toArray listed ≠ [] := by
        -- the least that is still to be done
        obtain ⟨i, hi, hiu⟩ := hex
        have least : ∀ n i, i ≤ n → i < m → listed.getD i false = false → ∃ i, i < m ∧ listed.getD i false = false ∧ ∀ j, j < i → listed.getD j false = true := by
          intro n
          induction n with
          | zero => intro i hn hi hiu; exact ⟨i, hi, hiu, fun j hj => by omega⟩
          | succ n ihn =>
            intro i hn hi hiu
            rcases Classical.em (∃ j, j < i ∧ listed.getD j false = false) with ⟨j, hj, hju⟩ | h1
            · exact ihn j (by omega) (by omega) hju
            · exact ⟨i, hi, hiu, fun j hj => by
                cases hv : listed.getD j false with
                | true => rfl
                | false => exact absurd ⟨j, hj, hv⟩ h1⟩
        obtain ⟨i, hi, hiu, hbefore⟩ := least i i (Nat.le_refl _) hi hiu
        have ho := List.getElem?_eq_getElem (show i < l.length by omega)
        have : i ∈ Region.ready .any l.toArray listed := mem_ready.2 ⟨getD_in (by omega) hiu, l[i], by simp, fun e he hb => hbefore _ ((dep i _ hi ho).1 e he hb)⟩
        intro h0
        rw [h0] at this
        cases this
      rw [show c + 1 + (l.length - m) = (c + (l.length - m)) + 1 by omega]
      refine ⟨fun h0 => absurd h0 hready, fun i hir => ?_⟩
      have him : i < m := by
        rcases Nat.lt_or_ge i m with h1 | h1
        · exact h1
        · exact absurd hir (hnotail i h1)
      obtain ⟨hiu, o, hoA, hafter⟩ := mem_ready.1 hir
      have ho : l[i]? = some o := by simpa using hoA
      have hiu' := getD_both hiu
      have hX := List.getElem?_eq_getElem (show i < X.length by omega)
      obtain ⟨hd1, hd2⟩ := dep i o him ho
      have hOF := Facts_at hF i o _ ((hgt i o him).1 ho) hX (fun t ht k o' hk hk' hd => by
        have hkm : k < m := by have := (List.getElem?_eq_some_iff.1 hk').1; omega
        obtain ⟨h1, e, he, hb, hon⟩ := (hd2 k o' t ((hgt k o' hkm).2 hk') hd).1 ht hkm
        have := hd1 e he hb
        omega)
      -- the slots it looks at
      have hslot : ∀ t ∈ o.looksAt l.toArray, Rp E (AvX A0 E osD) w (stF.get t) (a.tmps.getD t undef) := by
        intro t ht
        rcases Nat.lt_or_ge t st.sl.length with hlt' | hge
        · have hu : a.tmps[t]? = some (a.tmps.getD t undef) := by
            have : t < a.tmps.size := by rw [hD.size]; exact hlt'
            simp [Array.getD, this]
          by_cases hw : ∃ (j : Nat) (oj : Oper), j < m ∧ l[j]? = some oj ∧ oj.dst = some t
          · obtain ⟨j, oj, hj, hl, hd⟩ := hw
            obtain ⟨h1, e, he, hb, hon⟩ := (hd2 j oj t hl hd).1 ht hj
            have hjd : listed.getD j false = true := by rw [← hon]; exact hafter e he hb
            have hp := List.getElem?_eq_getElem (show j < X.length by omega)
            rw [hFnew j oj _ t hj hl hp hd hlt']
            exact hD.new j t oj _ _ ⟨hj, hjd⟩ hl hd hp hu
          · have hno : ∀ (j : Nat) o, j < m → l[j]? = some o → o.dst ≠ some t := fun j o hj hl hd => hw ⟨j, o, hj, hl, hd⟩
            rw [hFold t hno]
            have h1 : st.sl[t]? = some (st.get t) := by simp [St.get, List.getD_eq_getElem?_getD, List.getElem?_eq_getElem hlt']
            exact hD.old t _ _ (fun j o hj hl => hno j o hj.1 hl) h1 hu
        · have : stF.get t = .any := by rw [St.get, List.getD_eq_getElem?_getD, List.getElem?_eq_none (by omega)]; rfl
          rw [this]; exact .any _
      have hap : ∀ (j : Nat) o' t, Dl listed j → l[j]? = some o' → o'.dst = some t → o.dst ≠ some t := fun j o' t hj hl hd => (hd2 j o' t hl hd).2 (fun e => by have h9 := hj.2; rw [e, hiu'] at h9; cases h9) hj.1
      have hnext : ∀ (E' : Env) (osD' : Os) (a' : Act) (w' : World), DInv A0 E0 os0 w0 l X st (fun j => Dl listed j ∨ j = i) E' osD' a' w' → wpAny P .any l.toArray Q' (c + (l.length - m)) (listed.setIfInBounds i true) a' w' := by
        intro E' osD' a' w' hD'
        have hgd : ∀ j, (listed.setIfInBounds i true).getD j false = if j = i then true else listed.getD j false := by
          intro j
          by_cases hj : j = i
          · subst hj; rw [if_pos rfl]; simp [Array.getD, show j < listed.size by omega]
          · rw [if_neg hj, getD_set_ne false (Ne.symm hj)]
        refine ih _ a' w' E' osD' ?_ ?_ (hH.set hir him)
        · have h1 := cntU_set (fun j => listed.getD j false) i m him hiu'
          have h2 : cntU (fun j => (listed.setIfInBounds i true).getD j false) m = cntU (fun j => if j = i then true else listed.getD j false) m := cntU_congr m (fun j _ => hgd j)
          omega
        · have hDeq : (fun j => Dl listed j ∨ j = i) = Dl (listed.setIfInBounds i true) := by
            funext j
            simp only [Dl, hgd, eq_iff_iff]
            constructor
            · rintro (⟨h1, h2⟩ | rfl)
              · refine ⟨h1, ?_⟩; split <;> simp [h2]
              · exact ⟨him, by simp⟩
            · rintro ⟨h1, h2⟩
              by_cases hj : j = i
              · exact .inr hj
              · rw [if_neg hj] at h2; exact .inl ⟨h1, h2⟩
          rw [← hDeq]; exact hD'
      unfold wpOp
      simp only [hoA]
      rcases wantG_sound hslot hOF with ⟨h1, h2⟩ | ⟨h1, h2⟩
      · rw [if_pos h1]
        refine .inl ?_
        unfold Oper.wp
        have hev : ∀ y ∈ o.op.operands, Rp E (AvX A0 E osD) w (evG stF.get y) (a.eval y) := by
          intro y hy
          cases y with
          | tmp t => exact hslot t (by simp only [Oper.looksAt, List.mem_append, List.mem_filterMap]; exact .inl ⟨.tmp t, by simpa using hy, rfl⟩)
          | const v => exact .v v
          | global g => exact hD.os.gl.ev E g
          | func f => exact .clo (by simp) (fun i c u hc _ => by simp at hc)
        rcases OpF_sound hD.os (fun id ob hg => (hD.has id ob).2 (.inl hg)) hev h2 with ⟨hn, ⟨v, w', h3, h4, h5⟩ | ⟨g, vs, h3, h4⟩⟩ | ⟨b, v, w', B, S, C, hn, h3, h4, h5, h6, h7⟩
        · rw [h3, Oper.upon_value]
          exact hnext _ _ _ _ (hD.val ho hX hn hap h4 h5)
        · rw [h3, Oper.upon_enter]
          refine h4.mono ?_
          rintro e w' ⟨v, rfl, hb, hr⟩
          exact hnext _ _ _ _ (hD.val ho hX hn hap hb hr)
        · rw [h3, Oper.upon_value]
          exact hnext _ _ _ _ (hD.obj ho hX hn (fun hd => by have h9 := hd.2; rw [hiu'] at h9; cases h9) hap h4 h5 h6 h7 hlt)
      · rw [h1]
        simp only [Bool.false_eq_true, if_false]
        exact hnext _ _ _ _ (hD.val ho hX h2.2 hap (.refl _ w) (by rw [h2.1]; exact .v _))
  have hinit := main m (Array.replicate l.length false) a w1 E st.os (by
      rw [cntU_congr (g := fun _ => false) m (fun i _ => getD_replicate_false _ _)]
      have : ∀ k, cntU (fun _ => false) k = k := fun k => by
        induction k with
        | zero => rfl
        | succ k ih => simp [cntU, ih]
      exact this m)
    (by
      have hno : ∀ i, ¬ Dl (Array.replicate l.length false) i := fun i hd => by have := hd.2; rw [getD_replicate_false] at this; cases this
      refine ⟨hs.size, fun t c u _ hc hu => (hs.sl t c u hc hu).keep hbel, fun i t o p u hd => absurd hd (hno i), hs.os.keep hbel, fun id ob => ?_, fun id => ?_, hs.defers.keep hbel, Nat.le_trans hs.hbl hbel.size, hs.ext, hs.stp.trans (.of_below hbel) hs.sub, hs.sub, hs.base⟩
      · constructor
        · exact .inl
        · rintro (h1 | ⟨i, p, hd, _⟩)
          · exact h1
          · exact absurd hd (hno i)
      · rw [hs.nx id]
        constructor
        · exact .inl
        · rintro (h1 | ⟨i, p, hd, _⟩)
          · exact h1
          · exact absurd hd (hno i))
    ⟨by simp, fun j oj _ hl => (by rw [getD_replicate_false] at hl; cases hl), fun t _ ht => (by simp at ht; simp [ht])⟩
  have he : m + (l.length - m) = l.toArray.size := by simp; omega
  rw [he] at hinit
  have e2 : Array.replicate l.length false = Array.replicate l.toArray.size false := by simp
  rw [e2] at hinit
  exact hinit
theorem drawF_of {ops : Array Oper} {m : Nat} (h : drawB ops m = true) : drawF ops m [] = true := by
  simp only [drawB, Bool.and_eq_true, Bool.or_eq_true, decide_eq_true_eq] at h
  have hs : Region.noSelect ops = true := h.1.1.1.1
  replace h : ((m ≤ ops.size ∧ drawDeps ops m = true) ∧ (m = ops.size ∨ Region.sinkB .any ops m = true ∧ Region.chainB .any ops m = true)) ∧ Region.seqB .any ops (ops.size - m) m (listedAt ops.size m) = true := ⟨⟨⟨h.1.1.1.2, h.1.1.2⟩, h.1.2⟩, h.2⟩
  simp only [drawF, Bool.and_eq_true, Bool.or_eq_true, decide_eq_true_eq]
  refine ⟨⟨⟨⟨h.1.1, ?_⟩, h.2⟩, rfl⟩, hs⟩
  rcases h.1.2 with h1 | ⟨h1, h2⟩
  · exact .inl h1
  · refine .inr ⟨?_, h2⟩
    unfold sinkF
    refine List.all_eq_true.2 fun i hi => ?_
    have := List.all_eq_true.1 h1 i hi
    obtain ⟨j, hj, hj2⟩ := List.any_eq_true.1 this
    simp only [Bool.or_eq_true]
    exact .inr (List.any_eq_true.2 ⟨j, hj, by simpa using hj2⟩)
theorem AWp_draw {ro : Option Nat} {P : Program} {Q : Exit → St → Prop} {st : St} {id : Nat} {l : List Oper} (m : Nat) (hm : P.follows .mixedOrders = true) (hB : drawB l.toArray m = true)
    (h : dRun P l st.os (l.take m) st fun st' => aops P l (l.drop m) st' (Q .normal)) : AWp ro P (.region id l.toArray true) Q st :=
  AWp_drawF m [] hm (drawF_of hB) (.inl rfl) h
end Go.Proofs.YtmepcmphcghbeaaDoor
