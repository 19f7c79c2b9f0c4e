/- Texts of the abstract walk, of the contracts and of the plain laws, packed (part 9 of 48): Ab21. Conditions: none. -/
import Derived.Test.YtmepcmphcghbeaaDoorPk8
namespace Go.Proofs.YtmepcmphcghbeaaDoor
open Go Go.RowKit
set_option linter.unnecessarySimpa false
section
variable {P : Program} {A0 : Nat → Nat → Prop} {E0 : Env} {os0 : Os} {w0 : World} {E : Env} {st : St} {a : Act} {w : World}
theorem SimC.grownRow (h : SimC A0 E0 os0 w0 E st a w) {id e sz m : Nat} {xs zs : List (List AV)} (hg : getO st.os id = some (.row e sz xs)) (hz : zs.length = xs.length + m) (hzs : ∀ x ∈ zs, x.length = sz)
    {w' : World} {B cap : Nat} {cur' : Array Value} (G : Nat → Value) (hh : w'.heap[B]? = some (.cells cur' e (0, 0))) (hsz : cur'.size = cap * sz) (hcap : xs.length + m ≤ cap) (hcm : cap ≤ maxLen) (hm : 0 < m)
    (hG : ∀ j, j < (xs.length + m) * sz → cur'[j]? = some (G j)) (hR : ∀ (j : Nat) (c : AV), zs.flatten[j]? = some c → Rp E (AvX A0 E st.os) w c (G j))
    (hstp : Stp (Av E st.os) w w') (hkeep : ∀ b, b < w.heap.size → (Ob.row e sz xs).blk E id ≠ some b → w'.heap[b]? = w.heap[b]?)
    (hB : (Ob.row e sz xs).blk E id = some B ∨ w.heap.size ≤ B) :
    ∃ E', SimC A0 E0 os0 w0 E' { st with os := putO st.os id (.row e sz zs) } a w' ∧
      Rp E' (AvX A0 E' (putO st.os id (.row e sz zs))) w' (.own id (xs.length + m)) (.slice (some ⟨B, 0, none⟩) (xs.length + m) cap) := by
  obtain ⟨hv, hcnt, hxl, hrow⟩ := h.os.ok id _ hg
  have hext : Ext E (E.chg id (.slice (some ⟨B, 0, none⟩) (xs.length + m) cap) (xs.length + m)) := ⟨rfl, fun _ hv => hv, fun _ _ => rfl, fun j _ => by
      by_cases hj : j = id
      · subst hj; simp only [Env.chg, if_true]; omega
      · simp [Env.chg, hj], fun j _ he => by
    by_cases hj : j = id
    · subst hj; simp only [Env.chg, if_true] at he ⊢; omega
    · simp [Env.chg, hj]⟩
  have hsub : ∀ b o, Av (E.chg id (.slice (some ⟨B, 0, none⟩) (xs.length + m) cap) (xs.length + m)) (putO st.os id (.row e sz zs)) b o → Av E st.os b o ∨ w.heap.size ≤ b := by
    rintro b o ⟨j, o', hj, hbk, hav⟩
    rw [getO_putO] at hj
    split at hj
    · rename_i he
      cases hj; subst he
      simp [Ob.blk, Env.chg, Value.ownBlock] at hbk
      subst hbk
      exact hB.imp (fun hb => ⟨_, _, hg, hb, trivial⟩) (fun h => h)
    · rename_i he
      rw [Ob.blk_chg he] at hbk
      exact .inl ⟨j, o', hj, hbk, hav⟩
  have hfl := flatten_len sz zs hzs
  have hsim := h.chg (ob' := .row e sz zs) hg (.slice (some ⟨B, 0, none⟩) (xs.length + m) cap) (xs.length + m) (by omega) (fun e => by omega) hstp hkeep
    (fun b hb => by simp [Ob.blk, Env.chg, Value.ownBlock] at hb; subst hb; exact hB)
    (fun b o hb hav hlt => trivial)
    ⟨by simp [Env.chg, hz], hzs, .inr ⟨B, cap, cur', by simp [Env.chg, hz], by omega, hcm, hh, hsz, fun j c u hc hu => by
      have hj := (List.getElem?_eq_some_iff.1 hc).1
      rw [hfl, hz] at hj
      rw [hG j hj] at hu
      cases hu
      exact (hR j c hc).step (hstp.mono fun b o _ ha => .inr ha) hext (fun b o ha => by
        rcases ha with ha | ha
        · exact .inl (.inl ha)
        · exact (hsub b o ha).imp .inr (fun h => h))⟩⟩
  exact ⟨_, hsim, .own hv (by simp [Env.chg]) (fun _ => by simp [Env.chg]) rfl⟩
theorem appendRow_sound (h : SimC A0 E0 os0 w0 E st a w) {t ty e sz bytes id : Nat} {xs ys : List (List AV)} {u v : Value} (he : elemInf P t = some (e, sz, bytes)) (hg : getO st.os id = some (.row e sz xs))
    (hu : Rp E (AvX A0 E st.os) w (.own id xs.length) u) (hv : SlV E (AvX A0 E st.os) w sz ys v) (hone : ∀ y ∈ ys, ∀ c ∈ y, c.one = true) (hbytes : (xs.length + ys.length) * bytes ≤ 140737488355328) (hlen : xs.length + ys.length ≤ maxLen) :
    ∃ E' z w', (Builtin.append_ #[t, t] ty #[u, v]).run P w = .ok z w' ∧ SimC A0 E0 os0 w0 E' { st with os := putO st.os id (.row e sz (xs ++ ys)) } a w' ∧
      Rp E' (AvX A0 E' (putO st.os id (.row e sz (xs ++ ys)))) w' (.own id (xs.length + ys.length)) z := by
  obtain ⟨i, zv, ht, hi, hzero, rfl, rfl, hzs, hsz0⟩ := elemInf_spec he
  obtain ⟨hval, hcnt, hxsz, hrow⟩ := h.os.ok id _ hg
  cases hu with
  | @own _ _ _ hvv hl hcur h1c =>
  have hue := hcur hcnt.symm
  rcases Nat.eq_zero_or_pos ys.length with hm | hm
  · -- nothing is appended
    have hy : ys = [] := List.eq_nil_of_length_eq_zero hm
    subst hy
    have hvs : ∃ B k, v = .slice B 0 k := hv.1 rfl
    obtain ⟨B, k, rfl⟩ := hvs
    have hus : ∃ A c, u = .slice A xs.length c ∧ xs.length ≤ c := by
      rcases hrow with ⟨h1, h2⟩ | ⟨b, cap, cur, h1, h2, _⟩
      · exact ⟨_, _, by rw [hue, h1, h2], by omega⟩
      · exact ⟨_, _, by rw [hue, h1], h2⟩
    obtain ⟨A, c, rfl, hc⟩ := hus
    have e0 : E.chg id (E.cur id) (E.cnt id) = E := by
      cases E with | mk v b c n => simp only [Env.chg]; congr 1 <;> (funext j; by_cases hj : j = id <;> simp [hj])
    have hput : ∀ b o, AvX A0 E (putO st.os id (.row e i.size xs)) b o → AvX A0 E st.os b o := by
      refine fun b o ha => ha.imp (fun h => h) ?_
      rintro ⟨j, o', hj, hbk, hav⟩
      rw [getO_putO] at hj
      split at hj
      · rename_i hji; cases hj; subst hji; exact ⟨_, _, hg, hbk, hav⟩
      · exact ⟨j, o', hj, hbk, hav⟩
    have hsim := h.chg (ob' := .row e i.size xs) hg (E.cur id) (E.cnt id) (Nat.le_refl _) (fun _ => rfl) (.refl _ w) (fun _ _ _ => rfl) (by rw [e0]; intro b hb; exact .inl hb) (fun _ _ _ h _ => h)
      (by rw [e0]; exact Ob.ok_step (ob := .row e i.size xs) (h.os.ok id _ hg).2 hval (.refl E) (.refl _ w) (fun b o ha => .inl (hput b o ha)) rfl (fun _ _ => rfl))
    rw [e0] at hsim
    simp only [List.append_nil, List.length_nil, Nat.add_zero]
    exact ⟨E, _, w, run_append_none w t ty e i ht hi A B _ c k hc, hsim, .own hvv hl hcur h1c⟩
  · obtain ⟨b2, o2, cap2, g2, rfl, hysz, hnl, hnews, hr2⟩ := hv.2 hm
    have hone' : ∀ u ∈ (List.range (ys.length * i.size)).map g2, u.oneCell' = true := by
      intro u hu
      obtain ⟨j, hj, rfl⟩ := List.mem_map.1 hu
      have hj' : j < ys.flatten.length := by rw [flatten_len i.size ys hysz]; exact List.mem_range.1 hj
      have hc := List.getElem?_eq_getElem hj'
      have hmem := List.getElem_mem hj'
      obtain ⟨y, hy, hcy⟩ := List.mem_flatten.1 hmem
      exact (hr2 j _ hc).oneCell (hone y hy _ hcy)
    have hz2 : ∀ x ∈ xs ++ ys, x.length = i.size := fun x hx => (List.mem_append.1 hx).elim (hxsz x) (hysz x)
    have hfx := flatten_len i.size xs hxsz
    have hflen : (xs ++ ys).flatten.length = (xs.length + ys.length) * i.size := by rw [flatten_len i.size _ hz2, List.length_append]
    have h63 : ((xs.length + ys.length : Nat) : Int) ≤ 9223372036854775807 := by simp only [maxLen] at hlen; omega
    -- what stands at a place of the whole
    have hRof : ∀ (olds : List Value), olds.length = xs.length * i.size → (∀ (j : Nat) (c : AV) (u : Value), xs.flatten[j]? = some c → olds[j]? = some u → Rp E (AvX A0 E st.os) w c u) →
        ∀ (j : Nat) (c : AV), (xs ++ ys).flatten[j]? = some c → Rp E (AvX A0 E st.os) w c ((olds ++ (List.range (ys.length * i.size)).map g2).getD j undef) := by
      intro olds hol hor j c hj
      rw [List.flatten_append] at hj
      rcases Nat.lt_or_ge j (xs.length * i.size) with hlt | hge
      · rw [List.getElem?_append_left (by omega)] at hj
        have h1 : olds[j]? = some olds[j] := List.getElem?_eq_getElem (by omega)
        have h2 : (olds ++ (List.range (ys.length * i.size)).map g2).getD j undef = olds[j] := by
          rw [List.getD_eq_getElem?_getD, List.getElem?_append_left (by omega), h1]; rfl
        rw [h2]; exact hor j c _ hj h1
      · rw [List.getElem?_append_right (by omega)] at hj
        have hlt := (List.getElem?_eq_some_iff.1 hj).1
        rw [flatten_len i.size ys hysz] at hlt
        have h2 : (olds ++ (List.range (ys.length * i.size)).map g2).getD j undef = g2 (j - xs.length * i.size) := by
          rw [List.getD_eq_getElem?_getD, List.getElem?_append_right (by omega), hol, List.getElem?_map, List.getElem?_range (by omega)]; rfl
        rw [h2]
        rw [hfx] at hj
        exact hr2 _ c hj
    have hgd : ∀ (olds : List Value), olds.length = xs.length * i.size → ∀ j, j < (xs.length + ys.length) * i.size →
        (olds ++ (List.range (ys.length * i.size)).map g2)[j]? = some ((olds ++ (List.range (ys.length * i.size)).map g2).getD j undef) := by
      intro olds hol j hj
      rw [Nat.add_mul] at hj
      rw [List.getD_eq_getElem?_getD, List.getElem?_eq_getElem (by simp [hol]; omega)]; rfl
    have hbel : ∀ o : Obj, Below w.heap.size w (w.drew.alloc o) := fun o => ((Below.refl _ w).drew).alloc (Nat.le_refl _) o
    rcases hrow with ⟨hnil, hn0⟩ | ⟨b, cap, cur, hs, hncap, hcapm, hh, hcsz, hCC⟩
    · -- the nil slice
      have hx : xs = [] := List.eq_nil_of_length_eq_zero hn0
      subst hx
      have hun : u = .slice none 0 0 := by rw [hue, hnil]
      subst hun
      simp only [List.length_nil, Nat.zero_add] at hbytes hlen h63 hg ⊢
      have hrun := run_append_nil (P := P) w t ty e i zv ht hi hzero ⟨b2, o2, none⟩ ys.length cap2 _ hnl hnews hm h63 (by omega)
      have hge := grownCap_ge w ys.length 0 e
      have hcm := grownCap_le_maxLen w ys.length 0 e hlen
      have hblk : (Ob.row e i.size []).blk E id = none := by simp [Ob.blk, hnil, Value.ownBlock]
      obtain ⟨E', h1, h2⟩ := h.grownRow (id := id) (e := e) (sz := i.size) (xs := []) (m := ys.length) (zs := ys) hg (by simp) hysz (w' := w.drew.alloc _) (B := w.heap.size) (cap := grownCap w ys.length 0 e)
        (cur' := ((List.range (ys.length * i.size)).map g2).toArray ++ Builtin.zeroCells zv.cells (grownCap w ys.length 0 e - ys.length))
        (fun j => (([] : List Value) ++ (List.range (ys.length * i.size)).map g2).getD j undef) (heap_alloc_new w.drew _) (by
          simp only [Array.size_append, List.size_toArray, size_zeroCells, hzs, hnl, ← Nat.add_mul]; congr 1; omega) (by omega) hcm hm
        (fun j hj => by
          have := hgd [] (by simp) j (by simpa using hj)
          rw [Array.getElem?_append_left (by simp; simpa using hj)]
          rw [← Array.getElem?_toList]
          exact this)
        (fun j c hj => hRof [] (by simp) (by simp) j c (by simpa using hj)) (.of_below (hbel _)) (fun b hb _ => (hbel _).block b hb) (.inr (Nat.le_refl _))
      simp only [List.length_nil, Nat.zero_add] at h1 h2
      exact ⟨E', _, _, hrun, h1, h2⟩
    · -- a row of its own
      have hub : u = .slice (some ⟨b, 0, none⟩) xs.length cap := by rw [hue, hs]
      subst hub
      have hblk : (Ob.row e i.size xs).blk E id = some b := by simp [Ob.blk, hs, Value.ownBlock]
      -- the old cells
      have holds : ∀ (j : Nat) (c : AV) (u : Value), xs.flatten[j]? = some c → (cur.toList.take (xs.length * i.size))[j]? = some u → Rp E (AvX A0 E st.os) w c u := by
        intro j c u hc hu
        rw [List.getElem?_take] at hu
        split at hu
        · rw [Array.getElem?_toList] at hu; exact hCC j c u hc hu
        · cases hu
      have hmul : xs.length * i.size ≤ cur.size := by rw [hcsz]; exact Nat.mul_le_mul_right _ hncap
      have hol : (cur.toList.take (xs.length * i.size)).length = xs.length * i.size := by simp; omega
      by_cases hroom : xs.length + ys.length ≤ cap
      · have hfit : xs.length * i.size + ((List.range (ys.length * i.size)).map g2).length ≤ cur.size := by
          rw [hnl, hcsz, ← Nat.add_mul]; exact Nat.mul_le_mul_right _ hroom
        have hrun := run_append_room (P := P) w t ty e i ht hi b xs.length cap cur hh ⟨b2, o2, none⟩ ys.length cap2 _ hnl hnews hone' hroom hfit
        generalize hnew : (cur.toList.take (xs.length * i.size) ++ (List.range (ys.length * i.size)).map g2 ++ cur.toList.drop (xs.length * i.size + ((List.range (ys.length * i.size)).map g2).length)).toArray = new at hrun
        have hoth : ∀ k, k ≠ b → (w.setRow b new).heap[k]? = w.heap[k]? := fun k hk => setRow_other w b k _ (fun e => hk e)
        have hbh := setRow_heap w b cur new e (0, 0) hh
        have hlow : ∀ o, o < xs.length * i.size → new[o]? = cur[o]? := by
          intro o ho
          subst hnew
          rw [List.getElem?_toArray, List.append_assoc, List.getElem?_append_left (by omega), List.getElem?_take, if_pos ho, Array.getElem?_toList]
        have hstp : Stp (Av E st.os) w (w.setRow b new) := by
          refine ⟨rfl, rfl, rfl, by simp [World.setRow], fun k hk hn => hoth k (fun e => ?_), fun k o hk hn => ?_⟩
          · subst e
            exact hn 0 ⟨id, _, hg, hblk, trivial⟩
          · by_cases hkb : k = b
            · subst hkb
              have ho : o < xs.length * i.size := by
                rcases Nat.lt_or_ge o (xs.length * i.size) with h1 | h1
                · exact h1
                · exact absurd ⟨id, _, hg, hblk, trivial⟩ hn
              rw [cell_of_row _ k o new e (0, 0) hbh, cell_of_row w k o cur e (0, 0) hh, hlow o ho]
            · exact World.cell?_of_block (hoth k hkb)
        obtain ⟨E', h1, h2⟩ := h.grownRow (id := id) (e := e) (sz := i.size) (xs := xs) (m := ys.length) (zs := xs ++ ys) hg (by simp) hz2 (w' := w.setRow b new) (B := b) (cap := cap) (cur' := new)
          (fun j => (cur.toList.take (xs.length * i.size) ++ (List.range (ys.length * i.size)).map g2).getD j undef) hbh (by subst hnew; simp; rw [hnl] at hfit; omega) hroom hcapm hm
          (fun j hj => by
            have h3 := hgd _ hol j hj
            rw [Nat.add_mul] at hj
            subst hnew
            rw [List.getElem?_toArray, List.getElem?_append_left (by simp; omega)]
            exact h3)
          (hRof _ hol holds) hstp (fun k hk hn => hoth k (fun e => hn (by rw [e]; exact hblk))) (.inl hblk)
        exact ⟨E', _, _, hrun, h1, h2⟩
      · have hcells : ∀ j v, (cur.toList.take (xs.length * i.size))[j]? = some v → w.cell? ((⟨b, 0, none⟩ : Addr).add j) = some v := by
          intro j v hj
          rw [addr_add, Nat.zero_add, cell_of_row w b j cur e (0, 0) hh]
          rw [List.getElem?_take] at hj
          split at hj
          · rwa [Array.getElem?_toList] at hj
          · cases hj
        have hrun := run_append_grow (P := P) w t ty e i zv ht hi hzero ⟨b, 0, none⟩ xs.length cap _ hol hcells ⟨b2, o2, none⟩ ys.length cap2 _ hnl hnews (by omega) h63 (growslice_fits (by omega) hbytes)
        have hge := grownCap_ge w (xs.length + ys.length) cap e
        have hcm := grownCap_le_maxLen w (xs.length + ys.length) cap e hlen
        obtain ⟨E', h1, h2⟩ := h.grownRow (id := id) (e := e) (sz := i.size) (xs := xs) (m := ys.length) (zs := xs ++ ys) hg (by simp) hz2 (w' := w.drew.alloc _) (B := w.heap.size) (cap := grownCap w (xs.length + ys.length) cap e)
          (cur' := (cur.toList.take (xs.length * i.size)).toArray ++ ((List.range (ys.length * i.size)).map g2).toArray ++ Builtin.zeroCells zv.cells (grownCap w (xs.length + ys.length) cap e - (xs.length + ys.length)))
          (fun j => (cur.toList.take (xs.length * i.size) ++ (List.range (ys.length * i.size)).map g2).getD j undef) (heap_alloc_new w.drew _) (by
            simp only [Array.size_append, List.size_toArray, size_zeroCells, hzs, hnl, hol, ← Nat.add_mul]; congr 1; omega) hge hcm hm
          (fun j hj => grown_get _ _ _ j _ (hgd _ hol j hj)) (hRof _ hol holds) (.of_below (hbel _)) (fun b hb _ => (hbel _).block b hb) (.inr (Nat.le_refl _))
        exact ⟨E', _, _, hrun, h1, h2⟩
theorem Rp.ownV {A0 : Nat → Nat → Prop} {os : Os} (hos : OsOk A0 E os w) {id e sz n : Nat} {xs : List (List AV)} {v : Value} (hg : getO os id = some (.row e sz xs)) (hn : n = xs.length) (h : Rp E (AvX A0 E os) w (.own id n) v) : SlV E (AvX A0 E os) w sz xs v := by
  obtain ⟨hv, hcnt, hxl, hrow⟩ := hos.ok id _ hg
  cases h with
  | own _ hle hcur h1 =>
    have hue := hcur (by omega)
    rcases hrow with ⟨h2, h3⟩ | ⟨b, cap, cur, h2, h3, h4, h5, h6, h7⟩
    · have hx : xs = [] := List.eq_nil_of_length_eq_zero h3
      subst hx
      exact ⟨fun _ => ⟨none, 0, by rw [hue, h2]⟩, fun h => by simp at h⟩
    · refine ⟨fun hx => by subst hx; exact ⟨_, _, by rw [hue, h2]; rfl⟩, fun _ => ⟨b, 0, cap, fun j => cur.getD j undef, by rw [hue, h2], hxl, by simp, fun j u hj => ?_, fun j c hj => ?_⟩⟩
      · have hjl : j < xs.length * sz := by
          have := (List.getElem?_eq_some_iff.1 hj).1
          simpa using this
        have hmul := Nat.mul_le_mul_right sz h3
        rw [List.getElem?_map, List.getElem?_range hjl] at hj
        cases hj
        rw [addr_add, Nat.zero_add, cell_of_row w b j cur e (0, 0) h5]
        simp [Array.getD, show j < cur.size by omega]
      · have hjl := (List.getElem?_eq_some_iff.1 hj).1
        rw [flatten_len sz xs hxl] at hjl
        have hmul := Nat.mul_le_mul_right sz h3
        exact h7 j c _ hj (by simp [Array.getD, show j < cur.size by omega])
theorem SimC.storeRow (h : SimC A0 E0 os0 w0 E st a w) {id e sz i off : Nat} {xs : List (List AV)} {ds : List AV} {vs : List Value} (hg : getO st.os id = some (.row e sz xs)) (hi : i < xs.length) (hle : off + ds.length ≤ sz) (hvs : vs.length = ds.length)
    (hr : ∀ (j : Nat) (c : AV) (u : Value), ds[j]? = some c → vs[j]? = some u → Rp E (AvX A0 E st.os) w c u) (h1 : ∀ v ∈ vs, v.oneCell' = true) {b : Nat} (hb : (E.cur id).ownBlock = some b) :
    ∃ w', (storeCells ⟨b, i * sz + off, none⟩ vs).run P w = .ok () w' ∧ SimC A0 E0 os0 w0 E { st with os := putO st.os id (.row e sz (xs.set i (splice (xs.getD i []) off ds))) } a w' := by
  obtain ⟨hv, hcnt, hxl, hrow⟩ := h.os.ok id _ hg
  obtain ⟨cap, cur, hs, hncap, hcapm, hh, hsz, hc⟩ := ownBlock_eq hb hrow
  have hxi : xs.getD i [] ∈ xs := by rw [List.getD_eq_getElem?_getD, List.getElem?_eq_getElem hi]; exact List.getElem_mem hi
  have hxil := hxl _ hxi
  have hmul : (i + 1) * sz ≤ cap * sz := Nat.mul_le_mul_right _ (by omega)
  rw [Nat.add_mul, Nat.one_mul] at hmul
  have hfit : i * sz + off + 0 + vs.length ≤ cur.size := by omega
  have hst := run_storeCells_at P b (i * sz + off) e vs 0 cur w hh hfit h1
  simp only [Nat.add_zero] at hst
  refine ⟨_, hst, ?_⟩
  generalize hnew : (cur.toList.take (i * sz + off) ++ vs ++ cur.toList.drop (i * sz + off + vs.length)).toArray = new
  have hlt : b < w.heap.size := (Array.getElem?_eq_some_iff.1 hh).1
  have hnl : new.size = cur.size := by subst hnew; simp; omega
  have hnget : ∀ j, new[j]? = if i * sz + off ≤ j ∧ j < i * sz + off + vs.length then vs[j - (i * sz + off)]? else cur[j]? := by
    intro j
    subst hnew
    by_cases c1 : j < i * sz + off
    · rw [if_neg (by omega)]; simp [List.getElem?_append, c1, List.getElem?_take]; intro; omega
    · by_cases c2 : j < i * sz + off + vs.length
      · rw [if_pos ⟨by omega, c2⟩]
        rw [List.getElem?_toArray, List.append_assoc, List.getElem?_append_right (by simp; omega), List.getElem?_append_left (by simp; omega)]
        congr 1; simp; omega
      · rw [if_neg (by omega)]
        rw [List.getElem?_toArray, List.getElem?_append_right (by simp; omega), List.getElem?_drop]
        rw [← Array.getElem?_toList]
        congr 1; simp; omega
  have hblk : (w.setRow b new).heap[b]? = some (.cells new e (0, 0)) := setRow_heap w _ cur new e _ hh
  have hoth : ∀ k, k ≠ b → (w.setRow b new).heap[k]? = w.heap[k]? := fun k hk => setRow_other w _ k _ (fun e => hk e)
  have hstp : Stp (Av E st.os) w (w.setRow b new) := by
    refine ⟨rfl, rfl, rfl, by simp [World.setRow], fun k hk hn => hoth k (fun e => hn 0 ⟨id, _, hg, by rw [e]; exact hb, trivial⟩), fun k o hk hn => ?_⟩
    exact World.cell?_of_block (hoth k (fun e => hn ⟨id, _, hg, by rw [e]; exact hb, trivial⟩))
  have e0 : E.chg id (E.cur id) (E.cnt id) = E := by
    cases E with | mk v b c n => simp only [Env.chg]; congr 1 <;> (funext j; by_cases hj : j = id <;> simp [hj])
  generalize hxs' : xs.set i (splice (xs.getD i []) off ds) = xs'
  have hl' : xs'.length = xs.length := by rw [← hxs']; simp
  have hspl : (splice (xs.getD i []) off ds).length = sz := by rw [splice_len (by omega)]; exact hxil
  have hxl' : ∀ x ∈ xs', x.length = sz := by
    intro x hx
    rw [← hxs'] at hx
    rcases List.mem_or_eq_of_mem_set hx with h2 | h2
    · exact hxl x h2
    · rw [h2]; exact hspl
  have hput : ∀ k o, Av E (putO st.os id (.row e sz xs')) k o → Av E st.os k o := by
    rintro k o ⟨j, o', hj, hbk, hav⟩
    rw [getO_putO] at hj
    split at hj
    · rename_i he; cases hj; subst he; exact ⟨_, _, hg, hbk, trivial⟩
    · exact ⟨j, o', hj, hbk, hav⟩
  have hA : ∀ k o, AvX A0 E (putO st.os id (.row e sz xs')) k o → AvX A0 E st.os k o := fun k o ha => ha.imp (fun h => h) (hput k o)
  have stepA : ∀ {c u}, Rp E (AvX A0 E st.os) w c u → Rp E (AvX A0 E (putO st.os id (.row e sz xs'))) (w.setRow b new) c u := fun hrp =>
    hrp.step (hstp.mono fun b o _ ha => .inr ha) (.refl E) (fun b o ha => .inl (hA b o ha))
  have hfl := flatten_len sz xs hxl
  have hfl' := flatten_len sz xs' hxl'
  have hsz0 : ∀ j, j < xs.length * sz → 0 < sz := fun j hj => by
    rcases Nat.eq_zero_or_pos sz with h2 | h2
    · rw [h2] at hj; omega
    · exact h2
  have := h.chg (ob' := .row e sz xs') hg (E.cur id) (E.cnt id) (Nat.le_refl _) (fun _ => rfl) hstp
    (fun k _ hk => hoth k (fun e => hk (by rw [e]; exact hb))) (by rw [e0]; intro k hk; exact .inl hk) (fun _ _ _ _ _ => trivial)
    (by
      rw [e0]
      refine ⟨by rw [hcnt, hl'], hxl', .inr ⟨b, cap, new, by rw [hs, hl'], by omega, hcapm, hblk, by rw [hnl, hsz], fun j c u hj hu => ?_⟩⟩
      have hjl := (List.getElem?_eq_some_iff.1 hj).1
      rw [hfl', hl'] at hjl
      have hp := hsz0 j hjl
      have hdm := Nat.div_add_mod j sz
      have hmod := Nat.mod_lt j hp
      have hq : j / sz < xs.length := Nat.div_lt_of_lt_mul (by rw [Nat.mul_comm]; exact hjl)
      have hjq : j = j / sz * sz + j % sz := by rw [Nat.mul_comm]; omega
      rw [hjq, flatten_get sz xs' hxl' _ _ hmod] at hj
      rw [hnget] at hu
      by_cases hqi : j / sz = i
      · have hget : xs'.getD (j / sz) [] = splice (xs.getD i []) off ds := by
          rw [← hxs', hqi, List.getD_eq_getElem?_getD, List.getElem?_set_self hi]; rfl
        rw [hget, splice_get (by omega)] at hj
        split at hj
        · rename_i hr3
          rw [if_pos (by rw [hvs]; rw [hqi] at hjq; omega)] at hu
          have : j - (i * sz + off) = j % sz - off := by rw [hqi] at hjq; omega
          rw [this] at hu
          exact stepA (hr _ c u hj hu)
        · rename_i hr3
          rw [if_neg (by rw [hvs]; rw [hqi] at hjq; omega)] at hu
          refine stepA (hc j c u ?_ hu)
          rw [hjq, flatten_get sz xs hxl _ _ hmod, hqi]; exact hj
      · have hget : xs'.getD (j / sz) [] = xs.getD (j / sz) [] := by
          rw [← hxs', List.getD_eq_getElem?_getD, List.getElem?_set_ne (Ne.symm hqi), ← List.getD_eq_getElem?_getD]
        rw [hget] at hj
        have hne : ¬ (i * sz + off ≤ j ∧ j < i * sz + off + vs.length) := by
          rintro ⟨h2, h3⟩
          rw [hvs] at h3
          apply hqi
          have h4 : i * sz ≤ j := by omega
          have h5 : j < (i + 1) * sz := by rw [Nat.add_mul, Nat.one_mul]; omega
          exact Nat.div_eq_of_lt_le (by rw [Nat.mul_comm] at h4 ⊢; first | exact h4 | (rw [Nat.mul_comm]; exact h4)) (by first | exact h5 | (rw [Nat.mul_comm]; exact h5))
        rw [if_neg hne] at hu
        refine stepA (hc j c u ?_ hu)
        rw [hjq, flatten_get sz xs hxl _ _ hmod]; exact hj)
  rw [e0] at this
  exact this
def delO (os : Os) (id : Nat) : Os := os.filter fun p => !(p.1 == id)
theorem getO_delO (id j : Nat) : ∀ os : Os, getO (delO os id) j = if j = id then none else getO os j
  | [] => by simp [delO, getO]
  | (i, o) :: os => by
    have ih := getO_delO id j os
    unfold delO at ih ⊢
    rw [List.filter_cons]
    by_cases hi : i = id
    · subst hi
      simp only [beq_self_eq_true, Bool.not_true, Bool.false_eq_true, if_false, ih, getO]
      by_cases hj : j = i
      · simp [hj]
      · rw [if_neg hj, if_neg hj, if_neg (Ne.symm hj)]
    · have hb : (i == id) = false := by simpa using hi
      simp only [hb, Bool.not_false, if_true, getO, ih]
      by_cases hj : i = j
      · subst hj; simp [hi]
      · simp [hj]
theorem SimC.reslice (h : SimC A0 E0 os0 w0 E st a w) {id e sz k : Nat} {xs : List (List AV)} (hg : getO st.os id = some (.row e sz xs)) (hk : k ≤ xs.length) {z : Value}
    (hz : (E.cur id = .slice none 0 0 ∧ z = .slice none 0 0) ∨ ∃ b cap, E.cur id = .slice (some ⟨b, 0, none⟩) xs.length cap ∧ z = .slice (some ⟨b, 0, none⟩) k cap) :
    SimC A0 E0 os0 w0 (E.add st.nx 0 z k) { st with os := (st.nx, .row e sz (xs.take k)) :: delO st.os id, nx := st.nx + 1 } a w ∧
      Rp (E.add st.nx 0 z k) (AvX A0 (E.add st.nx 0 z k) ((st.nx, .row e sz (xs.take k)) :: delO st.os id)) w (.own st.nx k) z := by
  obtain ⟨hv, hcnt, hxl, hrow⟩ := h.os.ok id _ hg
  have hne : ∀ j, E.valid j → j ≠ st.nx := fun j hv he => by have := (h.nx j).1 hv; omega
  have hext : Ext E (E.add st.nx 0 z k) := ⟨rfl, fun _ hv => .inl hv, fun j hv => by simp [Env.add, hne j hv], fun j hv => by simp [Env.add, hne j hv], fun j hv _ => by simp [Env.add, hne j hv]⟩
  have hget : ∀ j o, getO ((st.nx, .row e sz (xs.take k)) :: delO st.os id) j = some o → (j = st.nx ∧ o = .row e sz (xs.take k)) ∨ (j ≠ st.nx ∧ j ≠ id ∧ getO st.os j = some o) := by
    intro j o hj
    simp only [getO] at hj
    split at hj
    · rename_i he; cases hj; exact .inl ⟨he.symm, rfl⟩
    · rename_i he
      rw [getO_delO] at hj
      split at hj
      · cases hj
      · rename_i hji; exact .inr ⟨fun e => he e.symm, hji, hj⟩
  have hblk : ∀ b, (Ob.row e sz (xs.take k)).blk (E.add st.nx 0 z k) st.nx = some b → (Ob.row e sz xs).blk E id = some b := by
    intro b hb
    simp only [Ob.blk, Env.add, if_true] at hb ⊢
    rcases hz with ⟨h1, h2⟩ | ⟨b', cap, h1, h2⟩
    · rw [h2] at hb; cases hb
    · rw [h2] at hb; rw [h1]; exact hb
  have hav : ∀ b o, Av (E.add st.nx 0 z k) ((st.nx, .row e sz (xs.take k)) :: delO st.os id) b o → Av E st.os b o := by
    rintro b o ⟨j, o', hj, hbk, ha⟩
    rcases hget j o' hj with ⟨rfl, rfl⟩ | ⟨hn, _, hg'⟩
    · exact ⟨id, _, hg, hblk b hbk, trivial⟩
    · rw [Ob.blk_add hn] at hbk; exact ⟨j, o', hg', hbk, ha⟩
  have hAX : ∀ b o, AvX A0 (E.add st.nx 0 z k) ((st.nx, .row e sz (xs.take k)) :: delO st.os id) b o → AvX A0 E st.os b o := fun b o ha => ha.imp (fun h => h) (hav b o)
  have stepA : ∀ {c u}, Rp E (AvX A0 E st.os) w c u → Rp (E.add st.nx 0 z k) (AvX A0 (E.add st.nx 0 z k) ((st.nx, .row e sz (xs.take k)) :: delO st.os id)) w c u := fun hr =>
    hr.step (.refl _ w) hext (fun b o ha => .inl (hAX b o ha))
  have htl : (xs.take k).length = k := by simp; omega
  have hone : z.oneCell' = true := by rcases hz with ⟨_, h2⟩ | ⟨b, cap, _, h2⟩ <;> rw [h2] <;> rfl
  refine ⟨h.upd hext (.refl _ w) (fun b o ha => .inl (hav b o ha)) ⟨fun j o hj => ?_, fun i j oi oj b hi hj hbi hbj => ?_, fun j o b hj hbk => ?_, h.os.bnd, h.os.gl.mono hAX⟩ (fun j => ?_), .own (.inr rfl) (by simp [Env.add]) (fun _ => by simp [Env.add]) hone⟩
  · rcases hget j o hj with ⟨rfl, rfl⟩ | ⟨hn, hni, hg'⟩
    · refine ⟨.inr rfl, by simp [Env.add, htl], fun x hx => hxl x (List.mem_of_mem_take hx), ?_⟩
      simp only [Env.add, if_true, htl]
      rcases hz with ⟨h1, h2⟩ | ⟨b, cap, h1, h2⟩
      · rcases hrow with ⟨_, h3⟩ | ⟨b', cap', cur', h3, _⟩
        · exact .inl ⟨h2, by omega⟩
        · rw [h1] at h3; cases h3
      · rcases hrow with ⟨h3, _⟩ | ⟨b', cap', cur', h3, h4, h5, h6, h7, h8⟩
        · rw [h1] at h3; cases h3
        · rw [h1] at h3
          cases h3
          refine .inr ⟨b, cap, cur', h2, by omega, h5, h6, h7, fun j c u hj hu => stepA (h8 j c u ?_ hu)⟩
          have e1 : xs.flatten = (xs.take k).flatten ++ (xs.drop k).flatten := by rw [← List.flatten_append, List.take_append_drop]
          rw [e1, List.getElem?_append_left (List.getElem?_eq_some_iff.1 hj).1]
          exact hj
    · obtain ⟨h1, h2⟩ := h.os.ok j o hg'
      exact ⟨.inl h1, Ob.ok_step h2 h1 hext (.refl _ w) (fun b o ha => .inl (hAX b o ha)) (by simp [Env.add, hn]) (fun _ _ => rfl)⟩
  · rcases hget i oi hi with ⟨rfl, rfl⟩ | ⟨hn, hni, hg'⟩ <;> rcases hget j oj hj with ⟨rfl, rfl⟩ | ⟨hn2, hni2, hg2⟩
    · rfl
    · rw [Ob.blk_add hn2] at hbj
      exact absurd (h.os.inj _ _ _ _ b hg2 hg hbj (hblk b hbi)) hni2
    · rw [Ob.blk_add hn] at hbi
      exact absurd (h.os.inj _ _ _ _ b hg' hg hbi (hblk b hbj)) hni
    · rw [Ob.blk_add hn] at hbi
      rw [Ob.blk_add hn2] at hbj
      exact h.os.inj i j oi oj b hg' hg2 hbi hbj
  · rcases hget j o hj with ⟨rfl, rfl⟩ | ⟨hn, _, hg'⟩
    · exact h.os.out id _ b hg (hblk b hbk)
    · rw [Ob.blk_add hn] at hbk; exact h.os.out j o b hg' hbk
  · simp only [Env.add, h.nx j]; omega
def aReslice (P : Program) (t id n : Nat) (y : AV) (st : St) (K : AV → St → Prop) : Prop :=
  match elemSz P t, getO st.os id, y with
  | some sz', some (.row e sz xs), .v (.int _ k) => sz' = sz ∧ n = xs.length ∧ 0 ≤ k ∧ k ≤ (n : Int) ∧ K (.own st.nx k.toNat) { st with os := (st.nx, .row e sz (xs.take k.toNat)) :: delO st.os id, nx := st.nx + 1 }
  | _, _, _ => False
theorem aReslice_sound (h : SimC A0 E0 os0 w0 E st a w) {t id n : Nat} {y : AV} {u v : Value} {K : AV → St → Prop} (hu : Rp E (AvX A0 E st.os) w (.own id n) u) (hv : Rp E (AvX A0 E st.os) w y v) (hk : aReslice P t id n y st K) :
    ∃ r st' E' z, (Instr.sliceAt t u none (some v) none).run P w = .ok z w ∧ SimC A0 E0 os0 w0 E' st' a w ∧ Rp E' (AvX A0 E' st'.os) w r z ∧ K r st' ∧ st'.sl = st.sl ∧ st'.n0 = st.n0 := by
  unfold aReslice at hk
  split at hk
  case h_2 => exact hk.elim
  rename_i sz' e sz xs kk k he hg
  obtain ⟨rfl, hn, h0, h1, hK⟩ := hk
  obtain ⟨el, inf, hu1, hinf, hsz⟩ := elemSz_spec he
  obtain ⟨hv0, hcnt, hxl, hrow⟩ := h.os.ok id _ hg
  cases hv
  cases hu with
  | own hvv hle hcur h1c =>
    have hue := hcur (by omega)
    rcases hrow with ⟨h2, h3⟩ | ⟨b, cap, cur, h2, h3, h4, h5, h6, h7⟩
    · have : u = .slice none 0 0 := by rw [hue, h2]
      subst this
      have hk0 : k = 0 := by omega
      subst hk0
      obtain ⟨hs1, hs2⟩ := h.reslice (k := 0) hg (by omega) (.inl ⟨h2, rfl⟩)
      have hb := sliceBounds_run (P := P) (w := w) (isS := true) (n := 0) (cap := 0) (lo := none) (hi := some (.int kk 0)) (l := 0) (h := 0) (.inl ⟨rfl, rfl⟩) (.inr ⟨_, rfl⟩) (by omega) (by omega) (by omega) (by omega)
      refine ⟨_, _, _, .slice none 0 0, ?_, hs1, hs2, hK, rfl, rfl⟩
      simp [Instr.sliceAt, run_underlying hu1, Instr.slice, hb, sizeOf, typeInfo, hinf]
    · have : u = .slice (some ⟨b, 0, none⟩) xs.length cap := by rw [hue, h2]
      subst this
      obtain ⟨hs1, hs2⟩ := h.reslice (k := k.toNat) (z := .slice (some ⟨b, 0, none⟩) k.toNat cap) hg (by omega) (.inr ⟨b, cap, h2, rfl⟩)
      have hb := sliceBounds_run (P := P) (w := w) (isS := true) (n := xs.length) (cap := cap) (lo := none) (hi := some (.int kk k)) (l := 0) (h := k) (.inl ⟨rfl, rfl⟩) (.inr ⟨_, rfl⟩) (by omega) (by omega) (by omega) h3
      refine ⟨_, _, _, .slice (some ⟨b, 0, none⟩) k.toNat cap, ?_, hs1, hs2, hK, rfl, rfl⟩
      simp [Instr.sliceAt, run_underlying hu1, Instr.slice, hb, sizeOf, typeInfo, hinf, addr_add]
theorem SimC.newRow (h : SimC A0 E0 os0 w0 E st a w) {e sz n : Nat} {xs : List (List AV)} {w' : World} (hb : Below w.heap.size w w') {cells : Array Value} (hn : n = xs.length) (hn0 : n ≤ maxLen) (hh : w'.heap[w.heap.size]? = some (.cells cells e (0, 0))) (hsz : cells.size = n * sz)
    (hxl : ∀ x ∈ xs, x.length = sz) (hr : ∀ (j : Nat) (c : AV) (u : Value), xs.flatten[j]? = some c → cells[j]? = some u → Rp E (AvX A0 E st.os) w c u) :
    ∃ E', SimC A0 E0 os0 w0 E' { st with os := (st.nx, .row e sz xs) :: st.os, nx := st.nx + 1 } a w' ∧ Rp E' (AvX A0 E' ((st.nx, .row e sz xs) :: st.os)) w' (.own st.nx n) (.slice (some ⟨w.heap.size, 0, none⟩) n n) := by
  have hne : ∀ j, E.valid j → j ≠ st.nx := fun j hv he => by have := (h.nx j).1 hv; omega
  have hext : Ext E (E.add st.nx 0 (.slice (some ⟨w.heap.size, 0, none⟩) n n) n) := ⟨rfl, fun _ hv => .inl hv, fun j hv => by simp [Env.add, hne j hv], fun j hv => by simp [Env.add, hne j hv], fun j hv _ => by simp [Env.add, hne j hv]⟩
  have hs := h.add hb 0 (.slice (some ⟨w.heap.size, 0, none⟩) n n) n (.row e sz xs) (fun b hb => by simp [Ob.blk, Env.add, Value.ownBlock] at hb; omega)
    ⟨by simp [Env.add, hn], hxl, .inr ⟨w.heap.size, n, cells, by simp [Env.add, hn], by omega, hn0, hh, hsz, fun j c u hj hu => (hr j c u hj hu).step (.of_below hb) hext (fun b o ha => by
      rcases ha with ha | ⟨id, o', hg, hbk, hav⟩
      · exact .inl (.inl ha)
      · simp only [getO] at hg
        split at hg
        · rename_i he; cases hg; subst he; simp [Ob.blk, Env.add, Value.ownBlock] at hbk
          subst hbk
          exact .inr (Nat.le_refl _)
        · rename_i he
          rw [Ob.blk_add (fun e => he e.symm)] at hbk
          exact .inl (.inr ⟨id, o', hg, hbk, hav⟩))⟩⟩
  exact ⟨_, hs, .own (.inr rfl) (by simp [Env.add]) (fun _ => by simp [Env.add]) rfl⟩
end
end Go.Proofs.YtmepcmphcghbeaaDoor
