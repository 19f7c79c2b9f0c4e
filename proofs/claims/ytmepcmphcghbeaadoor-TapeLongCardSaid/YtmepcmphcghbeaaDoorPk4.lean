/- Texts of the abstract walk, of the contracts and of the plain laws, packed (part 4 of 48): Ab3. Conditions: none. -/
import Derived.Test.YtmepcmphcghbeaaDoorPk3
namespace Go.Proofs.YtmepcmphcghbeaaDoor
open Go Go.RowKit
set_option linter.unnecessarySimpa false
theorem addr_add (b o j : Nat) : (⟨b, o, none⟩ : Addr).add j = ⟨b, o + j, none⟩ := by unfold Addr.add; split <;> simp_all
section
variable {P : Program} {E : Env} {A : Nat → Nat → Prop} {w : World}
theorem tinf_spec {t : Nat} {agg : Bool} {n : Nat} (h : tinf P t = some (agg, n)) :
    (∀ w, (isAgg t).run P w = .ok agg w) ∧ (∀ w, (sizeOf t).run P w = .ok n w) ∧ ∃ d i, P.underlying t = some d ∧ P.info? t = some i ∧ i.size = n := by
  unfold tinf at h
  split at h
  · rename_i fs i hd hi
    cases h
    exact ⟨fun w => by simp [isAgg, run_underlying hd], fun w => by simp [sizeOf, typeInfo, hi], _, _, hd, hi, rfl⟩
  · rename_i m e i hd hi
    cases h
    exact ⟨fun w => by simp [isAgg, run_underlying hd], fun w => by simp [sizeOf, typeInfo, hi], _, _, hd, hi, rfl⟩
  · rename_i d i h1 h2 hd hi
    cases h
    refine ⟨fun w => ?_, fun w => by simp [sizeOf, typeInfo, hi], _, _, hd, hi, rfl⟩
    cases d <;> first | (exact absurd rfl (h1 _)) | (exact absurd rfl (h2 _ _)) | simp [isAgg, run_underlying hd]
  · cases h
theorem run_loadVar_abs {t : Nat} {agg : Bool} {n : Nat} (ht : tinf P t = some (agg, n)) (b o : Nat) (l : List AV) (g : Nat → Value) (hl : l.length = if agg then n else 1)
    (hc : ∀ j c, l[j]? = some c → w.cell? ⟨b, o + j, none⟩ = some (g j) ∧ Rp E A w c (g j)) :
    ∃ v, (loadVar t ⟨b, o, none⟩).run P w = .ok v w ∧ Rp E A w (pack agg l) v := by
  obtain ⟨h1, h2, _⟩ := tinf_spec ht
  cases agg with
  | true =>
    simp only [if_true] at hl
    refine ⟨.agg ((List.range n).map g).toArray, ?_, ?_⟩
    · have h3 := run_loadCells (P := P) w ⟨b, o, none⟩ n g (fun j hj => by
        rw [addr_add]
        exact (hc j _ (List.getElem?_eq_getElem (by omega))).1)
      simp [loadVar, h1, h2, h3]
    · refine .agg (by simp [hl]) (fun i c u hi hu => ?_)
      have hlt : i < n := by rw [← hl]; exact (List.getElem?_eq_some_iff.1 hi).1
      have : u = g i := by simp [hlt] at hu; exact hu.symm
      subst this
      exact (hc i c hi).2
  | false =>
    simp only [Bool.false_eq_true, if_false] at hl
    match l, hl with
    | [c], _ =>
      obtain ⟨h3, h4⟩ := hc 0 c rfl
      simp only [Nat.add_zero] at h3
      exact ⟨g 0, by simp [loadVar, h1, h3], h4⟩
end
theorem take_drop_get {α : Type} (cs : List α) (off m j : Nat) (c : α) (h : ((cs.drop off).take m)[j]? = some c) : cs[off + j]? = some c ∧ j < m := by
  rw [List.getElem?_take] at h
  split at h
  · rename_i hj; rw [List.getElem?_drop] at h; exact ⟨h, hj⟩
  · cases h
theorem flatten_get {α : Type} (sz : Nat) : ∀ (xs : List (List α)) (h : ∀ x ∈ xs, x.length = sz) (i j : Nat), j < sz → xs.flatten[i * sz + j]? = (xs.getD i [])[j]?
  | [], _, i, j, _ => by simp
  | x :: xs, h, 0, j, hj => by
    have := h x (by simp)
    simp only [List.flatten_cons, Nat.zero_mul, Nat.zero_add, List.getD_cons_zero]
    rw [List.getElem?_append_left (by omega)]
  | x :: xs, h, i + 1, j, hj => by
    have hx := h x (by simp)
    simp only [List.flatten_cons, List.getD_cons_succ]
    rw [List.getElem?_append_right (by rw [hx, Nat.add_mul]; omega)]
    rw [show (i + 1) * sz + j - x.length = i * sz + j by rw [hx, Nat.add_mul]; omega]
    exact flatten_get sz xs (fun y hy => h y (by simp [hy])) i j hj
theorem flatten_len {α : Type} (sz : Nat) : ∀ (xs : List (List α)) (_ : ∀ x ∈ xs, x.length = sz), xs.flatten.length = xs.length * sz
  | [], _ => by simp
  | x :: xs, h => by
    simp only [List.flatten_cons, List.length_append, List.length_cons, h x (by simp), flatten_len sz xs (fun y hy => h y (by simp [hy])), Nat.add_mul]
    omega
theorem ownBlock_eq {s : Value} {b : Nat} (h : s.ownBlock = some b) {t sz n : Nat} {w : World} {C : Array Value → Prop} (hr : RowAt w s t sz n C) :
    ∃ cap cur, s = .slice (some ⟨b, 0, none⟩) n cap ∧ n ≤ cap ∧ cap ≤ maxLen ∧ w.heap[b]? = some (.cells cur t (0, 0)) ∧ cur.size = cap * sz ∧ C cur := by
  rcases hr with h0 | ⟨b', cap, cur, hs', hn, hcap, hh, hsz, hCC⟩
  · rw [h0.1] at h; cases h
  · rw [hs'] at h; cases h; exact ⟨cap, cur, hs', hn, hcap, hh, hsz, hCC⟩
section
variable {P : Program} {A0 : Nat → Nat → Prop} {E : Env} {os : Os} {w : World}
theorem aLoad_sound {t : Nat} {x : AV} {u : Value} {K : AV → Prop} (hos : OsOk A0 E os w) (hr : Rp E (AvX A0 E os) w x u) (h : aLoad P t x os K) :
    ∃ a y v, u = .pointer (some a) ∧ (loadVar t a).run P w = .ok v w ∧ Rp E (AvX A0 E os) w y v ∧ K y := by
  unfold aLoad at h
  split at h
  · exact h.elim
  · rename_i agg n ht
    split at h
    · -- a pointer to an object
      rename_i id off
      split at h
      · rename_i t' cs hg
        obtain ⟨hle, hk⟩ := h
        obtain ⟨hv, cur, hh, hsz, hc⟩ := hos.ok id _ hg
        cases hr
        obtain ⟨v, h1, h2⟩ := run_loadVar_abs (P := P) (w := w) (E := E) (A := AvX A0 E os) ht (E.blk id) off ((cs.drop off).take (if agg then n else 1)) (fun j => cur.getD (off + j) undef)
          (by simp; omega) (fun j c hj => by
            obtain ⟨h1, _⟩ := take_drop_get cs off _ j c hj
            have hlt : off + j < cur.size := by rw [hsz]; exact (List.getElem?_eq_some_iff.1 h1).1
            have h2 : cur[off + j]? = some (cur.getD (off + j) undef) := by simp [Array.getD, hlt]
            exact ⟨by rw [cell_of_row w _ _ cur t' (0, 0) hh, h2], hc _ _ _ h1 h2⟩)
        exact ⟨_, _, v, rfl, h1, h2, hk⟩
      · exact h.elim
    · -- a pointer into a row
      rename_i id n' sz i off
      split at h
      · rename_i t' sz' xs hg
        obtain ⟨rfl, rfl, hi, hle, hk⟩ := h
        obtain ⟨hv, hcnt, hlen, hrow⟩ := hos.ok id _ hg
        cases hr with
        | @rptr _ _ _ _ _ a _ _ hcur =>
          obtain ⟨hb, ha⟩ := hcur hcnt.symm
          obtain ⟨cap, cur, hs, hn, hcap, hh, hsz, hc⟩ := ownBlock_eq hb hrow
          have hfl := flatten_len sz xs hlen
          have hmem : (xs.getD i []) ∈ xs := by
            rw [List.getD_eq_getElem?_getD, List.getElem?_eq_getElem hi]; exact List.getElem_mem hi
          have hxl := hlen _ hmem
          obtain ⟨v, h1, h2⟩ := run_loadVar_abs (P := P) (w := w) (E := E) (A := AvX A0 E os) ht a.block (i * sz + off) (((xs.getD i []).drop off).take (if agg then n else 1))
            (fun j => cur.getD (i * sz + off + j) undef) (by simp only [List.length_take, List.length_drop, hxl]; omega) (fun j c hj => by
              obtain ⟨h1, hj'⟩ := take_drop_get _ off _ j c hj
              have h3 : xs.flatten[i * sz + (off + j)]? = some c := by rw [flatten_get sz xs hlen i (off + j) (by omega)]; exact h1
              have hlt : i * sz + (off + j) < cur.size := by
                have h5 : i * sz + (off + j) < xs.flatten.length := (List.getElem?_eq_some_iff.1 h3).1
                have h6 := Nat.mul_le_mul_right sz hn
                omega
              have h2 : cur[i * sz + (off + j)]? = some (cur.getD (i * sz + off + j) undef) := by simp [Array.getD, hlt, Nat.add_assoc]
              exact ⟨by rw [cell_of_row w _ _ cur t' (0, 0) hh, Nat.add_assoc, h2, Nat.add_assoc], hc _ _ _ h3 h2⟩)
          rw [← ha] at h1
          exact ⟨a, _, v, rfl, h1, h2, hk⟩
      · exact h.elim
    · -- a pointer to cells that stay
      rename_i cs
      obtain ⟨hle, hk⟩ := h
      cases hr with
      | eptr g hcell hc =>
        rename_i b o
        obtain ⟨v, h1, h2⟩ := run_loadVar_abs (P := P) (w := w) (E := E) (A := AvX A0 E os) ht b o (cs.take (if agg then n else 1)) g (by simp; omega) (fun j c hj => by
            have h1 := take_drop_get cs 0 _ j c (by simpa using hj)
            simp only [Nat.zero_add] at h1
            exact ⟨(hcell j (List.getElem?_eq_some_iff.1 h1.1).1).1, hc _ _ h1.1⟩)
        exact ⟨_, _, v, rfl, h1, h2, hk⟩
    · exact h.elim
end
def resOne (tmps : Array Value) : ResultVar → Sem Value
  | .tmp t => pure (tmps.getD t undef)
  | .cell a t => do loadVar t (← asAddr (tmps.getD a undef))
section
variable {P : Program} {A0 : Nat → Nat → Prop} {E0 : Env} {os0 : Os} {w0 : World} {E : Env} {st : St} {a : Act} {w : World}
theorem aRes_sound : ∀ (rs : List ResultVar) (K : List AV → Prop) (_ : SimC A0 E0 os0 w0 E st a w) (_ : aRes P rs st K),
    ∃ l vs, (rs.mapM (resOne a.tmps)).run P w = .ok vs w ∧
      vs.length = l.length ∧ (∀ (i : Nat) (c : AV) (u : Value), l[i]? = some c → vs[i]? = some u → Rp E (AvX A0 E st.os) w c u) ∧ K l
  | [], K, hs, h => ⟨[], [], by simp, rfl, by simp, h⟩
  | .tmp t :: rest, K, hs, h => by
    simp only [aRes] at h
    obtain ⟨l, vs, h1, h2, h3, h4⟩ := aRes_sound rest _ hs h
    have hr : Rp E (AvX A0 E st.os) w (st.get t) (a.tmps.getD t undef) := hs.ev (.tmp t)
    refine ⟨st.get t :: l, a.tmps.getD t undef :: vs, ?_, by simp [h2], fun i c u hc hu => ?_, h4⟩
    · simp only [List.mapM_cons, Sem.run_bind, h1, resOne, Sem.run_pure, Result.andThen_ok]
    · cases i with
      | zero => simp only [List.getElem?_cons_zero, Option.some.injEq] at hc hu; subst hc; subst hu; exact hr
      | succ i => exact h3 i c u (by simpa using hc) (by simpa using hu)
  | .cell b t :: rest, K, hs, h => by
    simp only [aRes] at h
    have hr : Rp E (AvX A0 E st.os) w (st.get b) (a.tmps.getD b undef) := hs.ev (.tmp b)
    obtain ⟨ad, y, v, h1, h2, h3, hk⟩ := aLoad_sound hs.os hr h
    obtain ⟨l, vs, h5, h6, h7, h8⟩ := aRes_sound rest _ hs hk
    refine ⟨y :: l, v :: vs, ?_, by simp [h6], fun i c u hc hu => ?_, h8⟩
    · simp only [List.mapM_cons, Sem.run_bind, h5, resOne, h1, asAddr, Sem.run_pure, Result.andThen_ok, h2]
    · cases i with
      | zero => simp only [List.getElem?_cons_zero, Option.some.injEq] at hc hu; subst hc; subst hu; exact h3
      | succ i => exact h7 i c u (by simpa using hc) (by simpa using hu)
theorem results_sound {fn : Func} {Q : AV → Os → Nat → Prop} (hs : SimC A0 E0 os0 w0 E st a w) (h : aRes P fn.results.toList st fun l => Q (tupOf l) st.os st.nx) :
    ∃ r v, (results fn a.tmps).run P w = .ok v w ∧ Rp E (AvX A0 E st.os) w r v ∧ Q r st.os st.nx := by
  obtain ⟨l, vs, h1, h2, h3, h4⟩ := aRes_sound _ _ hs h
  have e : results fn a.tmps = (do
      let vs ← fn.results.mapM (resOne a.tmps)
      pure (if h : vs.size = 1 then vs[0] else .tuple vs)) := by
    unfold results
    congr 1
  have h5 : (fn.results.mapM (resOne a.tmps)).run P w = .ok vs.toArray w := by
    rw [Array.mapM_eq_mapM_toList]
    simp only [← bind_pure_comp, Sem.run_bind, h1, Result.andThen_ok, Sem.run_pure]
  refine ⟨tupOf l, if h : vs.toArray.size = 1 then vs.toArray[0] else .tuple vs.toArray, ?_, ?_, h4⟩
  · rw [e]
    simp only [Sem.run_bind, h5, Result.andThen_ok, Sem.run_pure]
  · match l, vs, h2, h3 with
    | [], [], _, h3 => simp only [tupOf]; exact .tup rfl (fun i c u hc _ => by simp at hc)
    | [x], [y], _, h3 => exact h3 0 x y rfl rfl
    | x :: y :: l, z :: u :: vs, h2, h3 =>
      simp only [tupOf, List.size_toArray, List.length_cons]
      rw [dif_neg (by omega)]
      exact .tup (by simpa using h2) (fun i c u hc hu => h3 i c u hc (by simpa using hu))
theorem Ob.ok_at {E : Env} {A : Nat → Nat → Prop} {w : World} {id : Nat} {ob : Ob} (h : ob.ok E A w id) (n : Nat) : ob.ok (E.at n) A w id := by
  cases ob with
  | cells t cs => obtain ⟨cur, h1, h2, h3⟩ := h; exact ⟨cur, h1, h2, fun i c u hc hu => (h3 i c u hc hu).at n⟩
  | tok t sz n => exact h
  | row t sz xs =>
    obtain ⟨h1, h2, h3⟩ := h
    refine ⟨h1, h2, ?_⟩
    rcases h3 with h3 | ⟨b, cap, cur, g1, g2, g3, g4, g5, g6⟩
    · exact .inl h3
    · exact .inr ⟨b, cap, cur, g1, g2, g3, g4, g5, fun j c u hc hu => (g6 j c u hc hu).at n⟩
  | map es => obtain ⟨ents, clock, h1, h2, h3, h4⟩ := h; exact ⟨ents, clock, h1, h2, fun i p e hp he => ⟨(h3 i p e hp he).1, (h3 i p e hp he).2.at n⟩, h4⟩
  | raw o => exact h
  | loop r sl => exact ⟨h.1, h.2.1, fun i c u hc hu => (h.2.2 i c u hc hu).at n⟩
theorem Ob.blk_at (E : Env) (n id : Nat) (ob : Ob) : ob.blk (E.at n) id = ob.blk E id := by cases ob <;> rfl
theorem Av_at (E : Env) (n : Nat) (os : Os) : Av (E.at n) os = Av E os := by
  funext b o
  unfold Av
  simp only [Ob.blk_at]
theorem AvX_at (A0 : Nat → Nat → Prop) (E : Env) (n : Nat) (os : Os) : AvX A0 (E.at n) os = AvX A0 E os := by
  funext b o
  unfold AvX
  rw [Av_at]
theorem OsOk.at {os : Os} (h : OsOk A0 E os w) (n : Nat) : OsOk A0 (E.at n) os w := by
  refine ⟨fun id ob hg => ?_, fun i j oi oj b hi hj hbi hbj => ?_, fun id ob b hg hb => ?_, h.bnd, ?_⟩
  · rw [AvX_at]
    exact ⟨(h.ok id ob hg).1, Ob.ok_at (h.ok id ob hg).2 n⟩
  · rw [Ob.blk_at] at hbi hbj
    exact h.inj i j oi oj b hi hj hbi hbj
  · rw [Ob.blk_at] at hb
    exact h.out id ob b hg hb
  · rw [AvX_at]
    exact h.gl
theorem Ext.at {E E' : Env} {m : Nat} (h : Ext (E.at m) E') : Ext E (E'.at E.hb) := ⟨rfl, h.valid, h.blk, h.cnt, h.cur⟩
theorem SimC.shut (hs : SimC A0 E0 os0 w0 E st a w) (h0 : Gl (AvX A0 E0 os0) w0) {D : Nat} {Ds : List Nat} (hd : a.defers = mark D :: Ds.map mark) (hnd : (D :: Ds).Nodup) (hall : ∀ d ∈ D :: Ds, w.heap[d]? = some (.deferred (some [])) ∧ E.hb ≤ d) (hle : w0.heap.size ≤ D) :
    SimC A0 E0 os0 w0 E st { a with defers := Ds.map mark } (w.putObj D (.deferred none)) := by
  have hD := (hall D (List.mem_cons_self ..)).1
  have hlt : D < w.heap.size := (Array.getElem?_eq_some_iff.1 hD).1
  have hoth : ∀ b, b ≠ D → (w.putObj D (.deferred none)).heap[b]? = w.heap[b]? := fun b hb => World.putObj_heap_other hb
  have hnoc : ∀ o, w.cell? ⟨D, o, none⟩ = none := fun o => by simp [World.cell?, hD]
  have kc : ∀ b o y, w.cell? ⟨b, o, none⟩ = some y → (w.putObj D (.deferred none)).cell? ⟨b, o, none⟩ = some y := fun b o y hc => by
    by_cases hb : b = D
    · subst hb; rw [hnoc] at hc; cases hc
    · unfold World.cell? at hc ⊢
      simp only at hc ⊢
      rw [hoth b hb]; exact hc
  have hblk : ∀ id ob b, getO st.os id = some ob → ob.blk E id = some b → b ≠ D := fun id ob b hg hb e => by
    subst e
    obtain ⟨o, ho⟩ : ∃ o, ob.av o := by
      cases ob with
      | tok t sz n => exact ⟨n * sz, Nat.le_refl _⟩
      | _ => exact ⟨0, trivial⟩
    exact hs.os.no_def hD o ⟨id, ob, hg, hb, ho⟩
  have hstp : Stp (Av E0 os0) w0 (w.putObj D (.deferred none)) := ⟨hs.stp.os, hs.stp.tape, hs.stp.output, by rw [World.putObj_size]; exact hs.stp.size,
    fun b hb hn => (hoth b (by omega)).trans (hs.stp.block b hb hn), fun b o hb hn => by
      refine Eq.trans ?_ (hs.stp.cell b o hb hn)
      unfold World.cell?
      simp only
      rw [hoth b (by omega)]⟩
  refine ⟨hs.size, fun i c u hc hu => (hs.sl i c u hc hu).gen (.refl E) (fun b o y h => ⟨kc b o y h.1, h.2⟩), ⟨fun id ob hg => ?_, hs.os.inj, hs.os.out, fun b o ha => by rw [World.putObj_size]; exact hs.os.bnd b o ha, ?_⟩, hs.nx, ⟨Ds, (List.nodup_cons.1 hnd).2, rfl, fun d hd => ⟨(hoth d (fun e => (List.nodup_cons.1 hnd).1 (by rw [← e]; exact hd))).trans (hall d (List.mem_cons_of_mem _ hd)).1, (hall d (List.mem_cons_of_mem _ hd)).2⟩⟩, by rw [World.putObj_size]; exact hs.hbl, hs.ext, hstp, hs.sub, hs.base⟩
  · obtain ⟨hv, ho⟩ := hs.os.ok id ob hg
    exact ⟨hv, Ob.ok_gen ho hv (.refl E) (fun b o y h => ⟨kc b o y h.1, h.2⟩) rfl (fun b hb => hoth b (hblk id ob b hg hb))⟩
  · exact h0.step (hstp.mono fun b o _ ha => .inr ha) fun b o ha => by
      rcases ha with ha | ha
      · exact .inl (.inl ha)
      · exact (hs.sub b o ha).imp .inr id
theorem ACalls_intro {f : Nat} {args : List AV} {os : Os} {nx : Nat} {Q : AV → Os → Nat → Prop} {fn : Func} {c : Code} (hf : P.funcs[f]? = some fn) (hn : (fn.name == "runtime.NumGoroutine") = false) (hb : fn.body = some c)
    (hlen : args.length ≤ fn.ntmps) (h : Met args → AWp none P c (retQ P fn.results.toList Q) ⟨args ++ List.replicate (fn.ntmps - args.length) (.v undef), os, nx, nx⟩) (hnd : noDefC c = true := by kernel_rfl) : ACalls P f args os nx Q := by
  refine ⟨⟨fn, hf, hn, by simp [hb]⟩, fun A0 E w vs hos hnx hr => ?_⟩
  refine calls_of_rnd (ro := none) (n := 0) (callsIn_of_wp_marks hf hb trivial ?_ rfl)
  have hos1 := hos.at w.heap.size
  have hsim : SimC A0 (E.at w.heap.size) os w (E.at w.heap.size) ⟨args ++ List.replicate (fn.ntmps - args.length) (.v undef), os, nx, nx⟩ { tmps := vs ++ Array.replicate (fn.ntmps - vs.size) undef, defers := [] } w := by
    refine ⟨by simp [hr.1], fun i c u hc hu => ?_, hos1, hnx, .nil _ _, Nat.le_refl _, .refl _, .refl _ w, fun b o h => .inl h, fun id hv => (hnx id).1 hv⟩
    rcases Nat.lt_or_ge i args.length with hi | hi
    · rw [List.getElem?_append_left hi] at hc
      rw [Array.getElem?_append_left (by rw [hr.1]; exact hi)] at hu
      rw [AvX_at]
      exact (hr.2 i c u hc hu).at _
    · rw [List.getElem?_append_right hi] at hc
      rw [Array.getElem?_append_right (by rw [hr.1]; exact hi)] at hu
      rw [List.getElem?_replicate] at hc
      rw [Array.getElem?_replicate] at hu
      split at hc
      · split at hu
        · cases hc; cases hu; exact .v _
        · cases hu
      · cases hc
  refine wpIn_mono (h ⟨E, _, w, vs, hr⟩ (fun _ q => q) hnd A0 _ os w _ _ w hsim) ?_
  rintro e a' w' ⟨st', E', q, hs'⟩
  have last : ∀ w2, SimC A0 (E.at w.heap.size) os w E' st' { a' with defers := [] } w2 → (aRes P fn.results.toList st' fun l => Q (tupOf l) st'.os st'.nx) → LeavesInM (rnd none) 0 P fn a'.tmps (Ret A0 E os w Q) [] .returning w2 := fun w2 hs2 q => by
    obtain ⟨r, v, h1, h2, h3⟩ := results_sound hs2 q
    refine ⟨v, h1, r, v, st'.os, st'.nx, E'.at E.hb, rfl, h3, ?_, hs2.os.at _, hs2.nx, hs2.ext.at, ?_, fun b o ha => ?_⟩
    · rw [AvX_at]; exact h2.at _
    · have := hs2.stp; rwa [Av_at] at this
    · rw [Av_at] at ha
      have := hs2.sub b o ha
      rwa [Av_at] at this
  have fin : (aRes P fn.results.toList st' fun l => Q (tupOf l) st'.os st'.nx) → LeavesInM (rnd none) 0 P fn a'.tmps (Ret A0 E os w Q) a'.defers .returning w' := fun q => by
    have e : E'.hb = w.heap.size := hs'.ext.hb
    obtain ⟨Ds, hnd, hd, hall⟩ := hs'.defers
    clear hsim
    revert a' w' Ds
    intro a' w' hs' last Ds hnd
    induction Ds generalizing a' w' with
    | nil =>
      intro hd _
      rw [hd]
      refine last w' ?_ q
      rw [show ({ a' with defers := [] } : Act) = a' from by rw [← (show a'.defers = [] from hd)]]
      exact hs'
    | cons D Ds ih =>
      intro hd hall
      rw [hd]
      have hs2 := hs'.shut hos1.gl hd hnd hall (by have := (hall D (List.mem_cons_self ..)).2; omega)
      refine ⟨by simp, .inl ⟨D, _, rfl, run_takeDeferred (hall D (List.mem_cons_self ..)).1, ?_⟩⟩
      refine ih { a' with defers := Ds.map mark } _ hs2 last (List.nodup_cons.1 hnd).2 rfl fun d hdm => ?_
      refine ⟨(World.putObj_heap_other (k := d) (r := D) (fun e => (List.nodup_cons.1 hnd).1 (by rw [← e]; exact hdm))).trans (hall d (List.mem_cons_of_mem _ hdm)).1, (hall d (List.mem_cons_of_mem _ hdm)).2⟩
  cases e with
  | normal => exact fin q
  | ret => exact fin q
  | _ => exact q.elim
end
end Go.Proofs.YtmepcmphcghbeaaDoor
