/- Texts of the abstract walk, of the contracts and of the plain laws, packed (part 7 of 48): Ab6. Conditions: none. -/
import Derived.Test.YtmepcmphcghbeaaDoorPk6
namespace Go.Proofs.YtmepcmphcghbeaaDoor
open Go Go.RowKit
set_option linter.unnecessarySimpa false
def Env.add (E : Env) (n B : Nat) (S : Value) (C : Nat) : Env :=
  { valid := fun id => E.valid id ∨ id = n, blk := fun id => if id = n then B else E.blk id, cur := fun id => if id = n then S else E.cur id, cnt := fun id => if id = n then C else E.cnt id, hb := E.hb }
def Env.chg (E : Env) (n : Nat) (S : Value) (C : Nat) : Env :=
  { E with cur := fun id => if id = n then S else E.cur id, cnt := fun id => if id = n then C else E.cnt id }
section
variable {P : Program} {A0 : Nat → Nat → Prop} {E0 : Env} {os0 : Os} {w0 : World} {E : Env} {st : St} {a : Act} {w : World}
theorem Ob.blk_add {n B : Nat} {S : Value} {C id : Nat} {ob : Ob} (h : id ≠ n) : ob.blk (E.add n B S C) id = ob.blk E id := by
  cases ob <;> simp [Ob.blk, Env.add, h]
theorem Ob.blk_chg {n : Nat} {S : Value} {C id : Nat} {ob : Ob} (h : id ≠ n) : ob.blk (E.chg n S C) id = ob.blk E id := by
  cases ob <;> simp [Ob.blk, Env.chg, h]
theorem SimC.add (h : SimC A0 E0 os0 w0 E st a w) {w' : World} (hb : Below w.heap.size w w') (B : Nat) (S : Value) (C : Nat) (ob : Ob)
    (hfresh : ∀ b, ob.blk (E.add st.nx B S C) st.nx = some b → w.heap.size ≤ b)
    (hok : ob.ok (E.add st.nx B S C) (AvX A0 (E.add st.nx B S C) ((st.nx, ob) :: st.os)) w' st.nx) :
    SimC A0 E0 os0 w0 (E.add st.nx B S C) { st with os := (st.nx, ob) :: st.os, nx := st.nx + 1 } a w' := by
  have hne : ∀ id, E.valid id → id ≠ st.nx := fun id hv he => by have := (h.nx id).1 hv; omega
  have hext : Ext E (E.add st.nx B S C) := ⟨rfl, fun id hv => .inl hv, fun id hv => by simp [Env.add, hne id hv], fun id hv => by simp [Env.add, hne id hv], fun id hv _ => by simp [Env.add, hne id hv]⟩
  have hget : ∀ id o, getO ((st.nx, ob) :: st.os) id = some o → (id = st.nx ∧ o = ob) ∨ (id ≠ st.nx ∧ getO st.os id = some o) := by
    intro id o hg
    simp only [getO] at hg
    split at hg
    · rename_i he; cases hg; exact .inl ⟨he.symm, rfl⟩
    · rename_i he; exact .inr ⟨fun e => he e.symm, hg⟩
  have hsub : ∀ b o, Av (E.add st.nx B S C) ((st.nx, ob) :: st.os) b o → Av E st.os b o ∨ w.heap.size ≤ b := by
    rintro b o ⟨id, o', hg, hbk, hav⟩
    rcases hget id o' hg with ⟨rfl, rfl⟩ | ⟨hn, hg'⟩
    · exact .inr (hfresh b hbk)
    · rw [Ob.blk_add hn] at hbk; exact .inl ⟨id, o', hg', hbk, hav⟩
  refine h.upd hext (.of_below hb) hsub ⟨fun id o hg => ?_, fun i j oi oj b hi hj hbi hbj => ?_, fun id o b hg hbk => ?_, fun b o ha => Nat.lt_of_lt_of_le (h.os.bnd b o ha) hb.size, h.os.gl.step (.of_below hb) (fun b o ha => ha.elim (fun x => .inl (.inl x)) fun x => (hsub b o x).imp .inr fun h => h)⟩ (fun id => ?_)
  · rcases hget id o hg with ⟨rfl, rfl⟩ | ⟨hn, hg'⟩
    · exact ⟨.inr rfl, hok⟩
    · obtain ⟨hv, ho⟩ := h.os.ok id o hg'
      exact ⟨.inl hv, Ob.ok_step ho hv hext (.of_below hb) (fun b o ha => by
        rcases ha with ha | ha
        · exact .inl (.inl ha)
        · exact (hsub b o ha).imp .inr (fun h => h)) (by simp [Env.add, hn]) (fun b hbb => hb.block b (Ob.blk_lt ho hbb))⟩
  · rcases hget i oi hi with ⟨rfl, rfl⟩ | ⟨hn, hg'⟩ <;> rcases hget j oj hj with ⟨rfl, rfl⟩ | ⟨hn2, hg2⟩
    · rfl
    · rw [Ob.blk_add hn2] at hbj
      have h1 := Ob.blk_lt (h.os.ok j oj hg2).2 hbj
      have h2 := hfresh b hbi
      omega
    · rw [Ob.blk_add hn] at hbi
      have h1 := Ob.blk_lt (h.os.ok i oi hg').2 hbi
      have h2 := hfresh b hbj
      omega
    · rw [Ob.blk_add hn] at hbi
      rw [Ob.blk_add hn2] at hbj
      exact h.os.inj i j oi oj b hg' hg2 hbi hbj
  · rcases hget id o hg with ⟨rfl, rfl⟩ | ⟨hn, hg'⟩
    · intro o' ha
      have h1 := hfresh b hbk
      have h2 := h.os.bnd b o' ha
      omega
    · rw [Ob.blk_add hn] at hbk; exact h.os.out id o b hg' hbk
  · simp only [Env.add, h.nx id]; omega
theorem SimC.chg (h : SimC A0 E0 os0 w0 E st a w) {id : Nat} {ob ob' : Ob} {w' : World} (hg : getO st.os id = some ob) (S : Value) (C : Nat) (hC : E.cnt id ≤ C) (hS : C = E.cnt id → S = E.cur id)
    (hstp : Stp (Av E st.os) w w') (hkeep : ∀ b, b < w.heap.size → ob.blk E id ≠ some b → w'.heap[b]? = w.heap[b]?)
    (hblk : ∀ b, ob'.blk (E.chg id S C) id = some b → ob.blk E id = some b ∨ w.heap.size ≤ b)
    (hav : ∀ b o, ob'.blk (E.chg id S C) id = some b → ob'.av o → b < w.heap.size → ob.av o)
    (hok : ob'.ok (E.chg id S C) (AvX A0 (E.chg id S C) (putO st.os id ob')) w' id) :
    SimC A0 E0 os0 w0 (E.chg id S C) { st with os := putO st.os id ob' } a w' := by
  have hv := (h.os.ok id ob hg).1
  have hext : Ext E (E.chg id S C) := ⟨rfl, fun _ hv => hv, fun _ _ => rfl, fun j _ => by by_cases hj : j = id <;> simp [Env.chg, hj]; exact hC, fun j _ he => by
    by_cases hj : j = id
    · subst hj
      simp only [Env.chg, if_true] at he ⊢
      exact hS he
    · simp [Env.chg, hj]⟩
  have hget : ∀ j o, getO (putO st.os id ob') j = some o → (j = id ∧ o = ob') ∨ (j ≠ id ∧ getO st.os j = some o) := by
    intro j o hj
    rw [getO_putO] at hj
    split at hj
    · rename_i he; cases hj; exact .inl ⟨he, rfl⟩
    · rename_i he; exact .inr ⟨he, hj⟩
  have hsub : ∀ b o, Av (E.chg id S C) (putO st.os id ob') b o → Av E st.os b o ∨ w.heap.size ≤ b := by
    rintro b o ⟨j, o', hj, hbk, hav'⟩
    rcases hget j o' hj with ⟨rfl, rfl⟩ | ⟨hn, hg'⟩
    · rcases hblk b hbk with hb1 | hb1
      · exact .inl ⟨_, ob, hg, hb1, hav b o hbk hav' (Ob.blk_lt (h.os.ok _ ob hg).2 hb1)⟩
      · exact .inr hb1
    · rw [Ob.blk_chg hn] at hbk; exact .inl ⟨j, o', hg', hbk, hav'⟩
  refine h.upd hext hstp hsub ⟨fun j o hj => ?_, fun i j oi oj b hi hj hbi hbj => ?_, fun j o b hj hbk => ?_, fun b o ha => Nat.lt_of_lt_of_le (h.os.bnd b o ha) hstp.size, h.os.gl.step (hstp.mono fun b o _ ha => .inr ha) (fun b o ha => ha.elim (fun x => .inl (.inl x)) fun x => (hsub b o x).imp .inr fun h => h)⟩ h.nx
  · rcases hget j o hj with ⟨rfl, rfl⟩ | ⟨hn, hg'⟩
    · exact ⟨hv, hok⟩
    · obtain ⟨hvj, ho⟩ := h.os.ok j o hg'
      exact ⟨hvj, Ob.ok_step ho hvj hext (hstp.mono fun b o _ ha => .inr ha) (fun b o ha => by
        rcases ha with ha | ha
        · exact .inl (.inl ha)
        · exact (hsub b o ha).imp .inr (fun h => h)) (by simp [Env.chg, hn]) (fun b hbb => hkeep b (Ob.blk_lt ho hbb) (fun e => hn (h.os.inj j id o ob b hg' hg hbb e)))⟩
  · rcases hget i oi hi with ⟨rfl, rfl⟩ | ⟨hn, hg'⟩ <;> rcases hget j oj hj with ⟨rfl, rfl⟩ | ⟨hn2, hg2⟩
    · rfl
    · rw [Ob.blk_chg hn2] at hbj
      rcases hblk b hbi with h1 | h1
      · exact h.os.inj _ _ _ _ b hg hg2 h1 hbj
      · have h2 := Ob.blk_lt (h.os.ok j oj hg2).2 hbj; omega
    · rw [Ob.blk_chg hn] at hbi
      rcases hblk b hbj with h1 | h1
      · exact h.os.inj _ _ _ _ b hg' hg hbi h1
      · have h2 := Ob.blk_lt (h.os.ok i oi hg').2 hbi; omega
    · rw [Ob.blk_chg hn] at hbi
      rw [Ob.blk_chg hn2] at hbj
      exact h.os.inj i j oi oj b hg' hg2 hbi hbj
  · rcases hget j o hj with ⟨rfl, rfl⟩ | ⟨hn, hg'⟩
    · intro o' ha
      rcases hblk b hbk with h1 | h1
      · exact h.os.out _ ob b hg h1 o' ha
      · have h2 := h.os.bnd b o' ha; omega
    · rw [Ob.blk_chg hn] at hbk; exact h.os.out j o b hg' hbk
theorem below_alloc (w : World) (o : Obj) : Below w.heap.size w (w.alloc o) := (Below.refl _ w).alloc (Nat.le_refl _) o
theorem SimC.newCells (h : SimC A0 E0 os0 w0 E st a w) (t : Nat) (cs : List AV) (us : Array Value) (hs : us.size = cs.length)
    (hr : ∀ (i : Nat) (c : AV) (u : Value), cs[i]? = some c → us[i]? = some u → Rp E (AvX A0 E st.os) w c u) :
    ∃ E', SimC A0 E0 os0 w0 E' { st with os := (st.nx, .cells t cs) :: st.os, nx := st.nx + 1 } a (w.alloc (.cells us t)) ∧
      Rp E' (AvX A0 E' ((st.nx, .cells t cs) :: st.os)) (w.alloc (.cells us t)) (.ptr st.nx 0) (.pointer (some ⟨w.heap.size, 0, none⟩)) := by
  have hne : ∀ id, E.valid id → id ≠ st.nx := fun id hv he => by have := (h.nx id).1 hv; omega
  have hext : Ext E (E.add st.nx w.heap.size undef 0) := ⟨rfl, fun id hv => .inl hv, fun id hv => by simp [Env.add, hne id hv], fun id hv => by simp [Env.add, hne id hv], fun id hv _ => by simp [Env.add, hne id hv]⟩
  refine ⟨E.add st.nx w.heap.size undef 0, h.add (below_alloc w _) w.heap.size undef 0 (.cells t cs) (fun b hb => ?_) ?_, ?_⟩
  · simp [Ob.blk, Env.add] at hb; omega
  · refine ⟨us, ?_, hs, fun i c u hc hu => (hr i c u hc hu).step (.of_below (below_alloc w _)) hext ?_⟩
    · simp only [Env.add, if_true]; exact heap_alloc_new w _
    · intro b o ha
      rcases ha with ha | ⟨id, o', hg, hbk, hav⟩
      · exact .inl (.inl ha)
      · simp only [getO] at hg
        split at hg
        · rename_i he; cases hg; subst he; simp [Ob.blk, Env.add] at hbk; exact .inr (by omega)
        · rename_i he
          rw [Ob.blk_add (fun e => he e.symm)] at hbk
          exact .inl (.inr ⟨id, o', hg, hbk, hav⟩)
  · have : (⟨w.heap.size, 0, none⟩ : Addr) = ⟨(E.add st.nx w.heap.size undef 0).blk st.nx, 0, none⟩ := by simp [Env.add]
    rw [this]
    exact .ptr (.inr rfl)
theorem SimC.store (h : SimC A0 E0 os0 w0 E st a w) {id t off : Nat} {cs ds : List AV} {vs : List Value} (hg : getO st.os id = some (.cells t cs)) (hle : off + ds.length ≤ cs.length) (hvs : vs.length = ds.length)
    (hr : ∀ (i : Nat) (c : AV) (u : Value), ds[i]? = some c → vs[i]? = some u → Rp E (AvX A0 E st.os) w c u) (h1 : ∀ v ∈ vs, v.oneCell' = true) :
    ∃ E' w', (storeCells ⟨E.blk id, off, none⟩ vs).run P w = .ok () w' ∧ SimC A0 E0 os0 w0 E' { st with os := putO st.os id (.cells t (splice cs off ds)) } a w' := by
  obtain ⟨hv, cur, hh, hsz, hc⟩ := h.os.ok id _ hg
  have hfit : off + 0 + vs.length ≤ cur.size := by omega
  have hst := run_storeCells_at P (E.blk id) off t vs 0 cur w hh hfit h1
  simp only [Nat.add_zero] at hst
  refine ⟨E, _, hst, ?_⟩
  generalize hnew : (cur.toList.take off ++ vs ++ cur.toList.drop (off + vs.length)).toArray = new
  have hlt : E.blk id < w.heap.size := (Array.getElem?_eq_some_iff.1 hh).1
  have hnl : new.size = cur.size := by subst hnew; simp; omega
  have hnget : ∀ j, new[j]? = if off ≤ j ∧ j < off + vs.length then vs[j - off]? else cur[j]? := by
    intro j
    subst hnew
    by_cases c1 : j < off
    · rw [if_neg (by omega)]; simp [List.getElem?_append, c1, List.getElem?_take]; intro; omega
    · by_cases c2 : j < off + vs.length
      · rw [if_pos ⟨by omega, c2⟩]
        rw [List.getElem?_toArray, List.append_assoc, List.getElem?_append_right (by simp; omega), List.getElem?_append_left (by simp; omega)]
        congr 1; simp; omega
      · rw [if_neg (by omega)]
        rw [List.getElem?_toArray, List.getElem?_append_right (by simp; omega), List.getElem?_drop]
        rw [← Array.getElem?_toList]
        congr 1; simp; omega
  have hblk : (w.setRow (E.blk id) new).heap[E.blk id]? = some (.cells new t (0, 0)) := setRow_heap w _ cur new t _ hh
  have hoth : ∀ b, b ≠ E.blk id → (w.setRow (E.blk id) new).heap[b]? = w.heap[b]? := fun b hb => setRow_other w _ b _ (fun e => hb e)
  have hsize : (w.setRow (E.blk id) new).heap.size = w.heap.size := by simp [World.setRow]
  have hstp : Stp (Av E st.os) w (w.setRow (E.blk id) new) := by
    refine ⟨rfl, rfl, rfl, by omega, fun b hb hn => hoth b (fun e => hn 0 ⟨id, _, hg, by rw [e]; rfl, trivial⟩), fun b o hb hn => ?_⟩
    exact World.cell?_of_block (hoth b (fun e => hn ⟨id, _, hg, by rw [e]; rfl, trivial⟩))
  have e0 : E.chg id (E.cur id) (E.cnt id) = E := by
    cases E with | mk v b c n => simp only [Env.chg]; congr 1 <;> (funext j; by_cases hj : j = id <;> simp [hj])
  have hput : ∀ b o, Av E (putO st.os id (.cells t (splice cs off ds))) b o → Av E st.os b o := by
    rintro b o ⟨j, o', hj, hbk, hav⟩
    rw [getO_putO] at hj
    split at hj
    · rename_i he; cases hj; subst he; exact ⟨_, _, hg, hbk, trivial⟩
    · exact ⟨j, o', hj, hbk, hav⟩
  have hA : ∀ b o, AvX A0 E (putO st.os id (.cells t (splice cs off ds))) b o → AvX A0 E st.os b o := fun b o ha => ha.imp (fun h => h) (hput b o)
  have := h.chg (ob' := .cells t (splice cs off ds)) hg (E.cur id) (E.cnt id) (Nat.le_refl _) (fun _ => rfl) hstp
    (fun b _ hb => hoth b (fun e => hb (by rw [e]; rfl))) (by rw [e0]; intro b hb; exact .inl hb) (fun _ _ _ _ _ => trivial)
    (by
      rw [e0]
      refine ⟨new, hblk, by rw [hnl, hsz, splice_len hle], fun i c u hi hu => ?_⟩
      rw [splice_get hle] at hi
      rw [hnget] at hu
      rw [hvs] at hu
      have stepA : ∀ {c u}, Rp E (AvX A0 E st.os) w c u → Rp E (AvX A0 E (putO st.os id (.cells t (splice cs off ds)))) (w.setRow (E.blk id) new) c u := fun hrp =>
        hrp.step (hstp.mono fun b o _ ha => .inr ha) (.refl E) (fun b o ha => .inl (hA b o ha))
      split at hi
      · rename_i hj; rw [if_pos hj] at hu; exact stepA (hr _ c u hi hu)
      · rename_i hj; rw [if_neg hj] at hu; exact stepA (hc i c u hi hu))
  rw [e0] at this
  exact this
end
end Go.Proofs.YtmepcmphcghbeaaDoor
