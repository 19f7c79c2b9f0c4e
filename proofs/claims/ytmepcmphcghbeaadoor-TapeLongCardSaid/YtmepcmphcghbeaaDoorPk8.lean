/- Texts of the abstract walk, of the contracts and of the plain laws, packed (part 8 of 48): Ab7. Conditions: none. -/
import Derived.Test.YtmepcmphcghbeaaDoorPk7
namespace Go.Proofs.YtmepcmphcghbeaaDoor
open Go Go.RowKit
set_option linter.unnecessarySimpa false
def slOf : AV → Option (Nat × List (List AV))
  | .sl sz xs => some (sz, xs)
  | .osl _ sz xs => some (sz, xs)
  | _ => none
def elemInf (P : Program) (t : Nat) : Option (Nat × Nat × Nat) :=
  match P.underlying t with
  | some (.slice e) => (P.info? e).bind fun i => i.zero.bind fun z => if z.cells.size = i.size ∧ 0 < i.size then some (e, i.size, i.bytes) else none
  | _ => none
theorem elemInf_spec {P : Program} {t e sz by' : Nat} (h : elemInf P t = some (e, sz, by')) : ∃ i z, P.underlying t = some (.slice e) ∧ P.info? e = some i ∧ i.zero = some z ∧ i.size = sz ∧ i.bytes = by' ∧ z.cells.size = sz ∧ 0 < sz := by
  unfold elemInf at h
  split at h
  · rename_i e' hu
    cases hi : P.info? e' with
    | none => simp [hi] at h
    | some i =>
      cases hz : i.zero with
      | none => simp [hi, hz] at h
      | some z =>
        simp only [hi, Option.bind_some, hz] at h
        split at h
        · rename_i hc
          cases h
          exact ⟨i, z, hu, hi, hz, rfl, rfl, hc.1, hc.2⟩
        · cases h
  · cases h
section
variable {P : Program} {A0 : Nat → Nat → Prop} {E0 : Env} {os0 : Os} {w0 : World} {E : Env} {st : St} {a : Act} {w : World}
theorem Rp.slOf {A : Nat → Nat → Prop} {x : AV} {u : Value} {sz : Nat} {xs : List (List AV)} (h : Rp E A w x u) (hs : slOf x = some (sz, xs)) : Rp E A w (.sl sz xs) u := by
  cases x with
  | sl => simp [Go.Proofs.YtmepcmphcghbeaaDoor.slOf] at hs; obtain ⟨rfl, rfl⟩ := hs; exact h
  | osl => simp [Go.Proofs.YtmepcmphcghbeaaDoor.slOf] at hs; obtain ⟨rfl, rfl⟩ := hs; exact Le.osl _ _ _ _ _ _ _ h
  | _ => simp [Go.Proofs.YtmepcmphcghbeaaDoor.slOf] at hs
theorem SimC.grown (h : SimC A0 E0 os0 w0 E st a w) {id e sz n m : Nat} {zs : List (List AV)} (hg : getO st.os id = some (.tok e sz n)) (hz : zs.length = n + m) (hzs : ∀ x ∈ zs, x.length = sz)
    {w' : World} {B cap : Nat} {cur' : Array Value} (G : Nat → Value) (hh : w'.heap[B]? = some (.cells cur' e (0, 0))) (hsz : cur'.size = cap * sz) (hcap : n + m ≤ cap) (hcm : cap ≤ maxLen) (hm : 0 < m)
    (hG : ∀ j, j < (n + m) * sz → cur'[j]? = some (G j)) (hR : ∀ (j : Nat) (c : AV), zs.flatten[j]? = some c → Rp E (AvX A0 E st.os) w c (G j))
    (hstp : Stp (Av E st.os) w w') (hkeep : ∀ b, b < w.heap.size → (Ob.tok e sz n).blk E id ≠ some b → w'.heap[b]? = w.heap[b]?)
    (hB : (Ob.tok e sz n).blk E id = some B ∨ w.heap.size ≤ B) :
    ∃ E', SimC A0 E0 os0 w0 E' { st with os := putO st.os id (.tok e sz (n + m)) } a w' ∧
      Rp E' (AvX A0 E' (putO st.os id (.tok e sz (n + m)))) w' (.osl id sz zs) (.slice (some ⟨B, 0, none⟩) (n + m) cap) := by
  obtain ⟨hv, hcnt, hrow⟩ := h.os.ok id _ hg
  have hsim := h.chg (ob' := .tok e sz (n + m)) hg (.slice (some ⟨B, 0, none⟩) (n + m) cap) (n + m) (by omega) (fun e => by omega) hstp hkeep
    (fun b hb => by simp [Ob.blk, Env.chg, Value.ownBlock] at hb; subst hb; exact hB)
    (fun b o hb hav hlt => Nat.le_trans (Nat.mul_le_mul_right sz (Nat.le_add_right n m)) hav)
    ⟨by simp [Env.chg], .inr ⟨B, cap, cur', by simp [Env.chg], hcap, hcm, hh, hsz, trivial⟩⟩
  refine ⟨_, hsim, ?_⟩
  have hfl := flatten_len sz zs hzs
  have hsub : ∀ b o, Av (E.chg id (.slice (some ⟨B, 0, none⟩) (n + m) cap) (n + m)) (putO st.os id (.tok e sz (n + m))) b o → Av E st.os b o ∨ w.heap.size ≤ b := by
    rintro b o ⟨j, o', hj, hbk, hav⟩
    rw [getO_putO] at hj
    split at hj
    · rename_i he
      cases hj; subst he
      simp [Ob.blk, Env.chg, Value.ownBlock] at hbk
      subst hbk
      exact hB.imp (fun hb => ⟨_, _, hg, hb, Nat.le_trans (Nat.mul_le_mul_right sz (Nat.le_add_right n m)) hav⟩) (fun h => h)
    · rename_i he
      rw [Ob.blk_chg he] at hbk
      exact .inl ⟨j, o', hj, hbk, hav⟩
  have hext : Ext E (E.chg id (.slice (some ⟨B, 0, none⟩) (n + m) cap) (n + m)) := ⟨rfl, fun _ hv => hv, fun _ _ => rfl, fun j _ => by
      by_cases hj : j = id
      · subst hj; simp only [Env.chg, if_true]; omega
      · simp [Env.chg, hj], fun j _ he => by
    by_cases hj : j = id
    · subst hj; simp only [Env.chg, if_true] at he ⊢; omega
    · simp [Env.chg, hj]⟩
  refine .osl hv (.sl G (by omega) hcap hcm hzs (fun j hj => ⟨?_, ?_⟩) (fun j c hj => ?_)) (by simp [Env.chg]; omega) (fun _ => by simp [Env.chg])
  · rw [Nat.zero_add, cell_of_row w' B j cur' e (0, 0) hh]
    exact hG j (by rw [hfl, hz] at hj; exact hj)
  · rw [Nat.zero_add]
    rintro (ha | ⟨j', o', hj', hbk, hav⟩)
    · rcases hB with hb | hb
      · exact h.os.out id _ B hg hb j ha
      · have := h.os.bnd B j ha; omega
    · rw [getO_putO] at hj'
      split at hj'
      · rename_i he
        cases hj'
        have : (n + m) * sz ≤ j := hav
        rw [hfl, hz] at hj
        omega
      · rename_i he
        rw [Ob.blk_chg he] at hbk
        rcases hB with hb | hb
        · exact he (h.os.inj j' id o' _ B hj' hg hbk hb)
        · have := Ob.blk_lt (h.os.ok j' o' hj').2 hbk; omega
  · exact (hR j c hj).step (hstp.mono fun b o _ ha => .inr ha) hext (fun b o ha => by
      rcases ha with ha | ha
      · exact .inl (.inl ha)
      · exact (hsub b o ha).imp .inr (fun h => h))
theorem run_append_none (w : World) (t ty e : TypeId) (i : TypeInfo) (ht : P.underlying t = some (.slice e)) (hi : P.info? e = some i) (A B : Option Addr) (n c k : Nat) (hn : n ≤ c) :
    (Builtin.append_ #[t, t] ty #[.slice A n c, .slice B 0 k]).run P w = .ok (.slice A n c) w := by
  cases A <;> cases B <;> simp [Builtin.append_, run_underlying ht, sizeOf, typeInfo, hi, Builtin.lenOf, Builtin.firstCells, hn, storeCells, loadCells, loadCellsFrom]
theorem Rp.slCells {A : Nat → Nat → Prop} {sz : Nat} {ys : List (List AV)} {v : Value} (h : Rp E A w (.sl sz ys) v) (h0 : 0 < ys.length) :
    ∃ (b o cap : Nat) (g : Nat → Value), v = .slice (some ⟨b, o, none⟩) ys.length cap ∧ (∀ x ∈ ys, x.length = sz) ∧ ((List.range (ys.length * sz)).map g).length = ys.length * sz ∧
      (∀ j u, ((List.range (ys.length * sz)).map g)[j]? = some u → w.cell? ((⟨b, o, none⟩ : Addr).add j) = some u) ∧ ∀ (j : Nat) (c : AV), ys.flatten[j]? = some c → Rp E A w c (g j) := by
  cases h with
  | sl0 hc => simp at h0
  | @sl _ _ b o n cap g hn hcap hc hsz hcell hr =>
    subst hn
    refine ⟨b, o, cap, g, rfl, hsz, by simp, fun j u hj => ?_, hr⟩
    simp only [List.getElem?_map, List.getElem?_range] at hj
    rw [addr_add]
    rcases Nat.lt_or_ge j (ys.length * sz) with hlt | hge
    · rw [List.getElem?_range hlt] at hj
      cases hj
      exact (hcell j (by rw [flatten_len sz ys hsz]; exact hlt)).1
    · rw [List.getElem?_eq_none (by simpa using hge)] at hj; cases hj
theorem grown_get (news olds : List Value) (z : Array Value) (j : Nat) (v : Value) (h : (olds ++ news)[j]? = some v) : (olds.toArray ++ news.toArray ++ z)[j]? = some v := by
  have hl := (List.getElem?_eq_some_iff.1 h).1
  rw [Array.getElem?_append_left (by simpa using hl), ← Array.getElem?_toList]
  simpa using h
def SlV (E : Env) (A : Nat → Nat → Prop) (w : World) (sz : Nat) (ys : List (List AV)) (v : Value) : Prop :=
  (ys = [] → ∃ B k, v = .slice B 0 k) ∧ (0 < ys.length → ∃ (b o cap : Nat) (g : Nat → Value), v = .slice (some ⟨b, o, none⟩) ys.length cap ∧ (∀ x ∈ ys, x.length = sz) ∧ ((List.range (ys.length * sz)).map g).length = ys.length * sz ∧
      (∀ j u, ((List.range (ys.length * sz)).map g)[j]? = some u → w.cell? ((⟨b, o, none⟩ : Addr).add j) = some u) ∧ ∀ (j : Nat) (c : AV), ys.flatten[j]? = some c → Rp E A w c (g j))
theorem Rp.slV {A : Nat → Nat → Prop} {sz : Nat} {ys : List (List AV)} {v : Value} (h : Rp E A w (.sl sz ys) v) : SlV E A w sz ys v :=
  ⟨fun hy => by
    subst hy
    cases h with
    | sl0 => exact ⟨_, _, rfl⟩
    | sl _ hn => simp at hn; subst hn; exact ⟨_, _, rfl⟩, fun h0 => h.slCells h0⟩
theorem append_sound (h : SimC A0 E0 os0 w0 E st a w) {t ty e sz bytes id : Nat} {xs ys : List (List AV)} {u v : Value} (he : elemInf P t = some (e, sz, bytes)) (hg : getO st.os id = some (.tok e sz xs.length))
    (hu : Rp E (AvX A0 E st.os) w (.osl id sz xs) u) (hv : SlV E (AvX A0 E st.os) w sz ys v) (hone : ∀ y ∈ ys, ∀ c ∈ y, c.one = true) (hbytes : (xs.length + ys.length) * bytes ≤ 140737488355328) (hlen : xs.length + ys.length ≤ maxLen) :
    ∃ E' z w', (Builtin.append_ #[t, t] ty #[u, v]).run P w = .ok z w' ∧ SimC A0 E0 os0 w0 E' { st with os := putO st.os id (.tok e sz (xs.length + ys.length)) } a w' ∧
      Rp E' (AvX A0 E' (putO st.os id (.tok e sz (xs.length + ys.length)))) w' (.osl id sz (xs ++ ys)) z := by
  obtain ⟨i, zv, ht, hi, hzero, rfl, rfl, hzs, hsz0⟩ := elemInf_spec he
  obtain ⟨hval, hcnt, hrow⟩ := h.os.ok id _ hg
  cases hu with
  | @osl _ _ _ _ hvv hsl hl hcur =>
  have hue := hcur hcnt.symm
  have hxsz : ∀ x ∈ xs, x.length = i.size := by
    cases hsl with
    | sl0 => intro x hx; cases hx
    | sl _ _ _ _ h _ _ => exact h
  rcases Nat.eq_zero_or_pos ys.length with hm | hm
  · -- nothing is appended
    have hy : ys = [] := List.eq_nil_of_length_eq_zero hm
    subst hy
    have hvs : ∃ B k, v = .slice B 0 k := hv.1 rfl
    obtain ⟨B, k, rfl⟩ := hvs
    have hus : ∃ A c, u = .slice A xs.length c ∧ xs.length ≤ c := by
      cases hsl with
      | sl0 => exact ⟨_, _, rfl, by simp⟩
      | sl _ hn hcap => exact ⟨_, _, by rw [hn], by omega⟩
    obtain ⟨A, c, rfl, hc⟩ := hus
    have e0 : E.chg id (E.cur id) (E.cnt id) = E := by
      cases E with | mk v b c n => simp only [Env.chg]; congr 1 <;> (funext j; by_cases hj : j = id <;> simp [hj])
    have hput : ∀ b o, AvX A0 E (putO st.os id (.tok e i.size xs.length)) b o → AvX A0 E st.os b o := by
      refine fun b o ha => ha.imp (fun h => h) ?_
      rintro ⟨j, o', hj, hbk, hav⟩
      rw [getO_putO] at hj
      split at hj
      · rename_i hji; cases hj; subst hji; exact ⟨_, _, hg, hbk, hav⟩
      · exact ⟨j, o', hj, hbk, hav⟩
    have hsim := h.chg (ob' := .tok e i.size xs.length) hg (E.cur id) (E.cnt id) (Nat.le_refl _) (fun _ => rfl) (.refl _ w) (fun _ _ _ => rfl) (by rw [e0]; intro b hb; exact .inl hb) (fun _ _ _ h _ => h)
      (by rw [e0]; exact Ob.ok_step (ob := .tok e i.size xs.length) (h.os.ok id _ hg).2 hval (.refl E) (.refl _ w) (fun b o ha => .inl (hput b o ha)) rfl (fun _ _ => rfl))
    rw [e0] at hsim
    refine ⟨E, _, w, run_append_none w t ty e i ht hi A B _ c k hc, hsim, ?_⟩
    rw [List.append_nil]
    exact (Rp.osl hvv hsl hl hcur).mono hput
  · obtain ⟨b2, o2, cap2, g2, rfl, hysz, hnl, hnews, hr2⟩ := hv.2 hm
    have hone' : ∀ u ∈ (List.range (ys.length * i.size)).map g2, u.oneCell' = true := by
      intro u hu
      obtain ⟨j, hj, rfl⟩ := List.mem_map.1 hu
      have hj' : j < ys.flatten.length := by rw [flatten_len i.size ys hysz]; exact List.mem_range.1 hj
      have hc := List.getElem?_eq_getElem hj'
      have hmem := List.getElem_mem hj'
      obtain ⟨y, hy, hcy⟩ := List.mem_flatten.1 hmem
      exact (hr2 j _ hc).oneCell (hone y hy _ hcy)
    have hz2 : ∀ x ∈ xs ++ ys, x.length = i.size := fun x hx => (List.mem_append.1 hx).elim (hxsz x) (hysz x)
    have hfx := flatten_len i.size xs hxsz
    have hflen : (xs ++ ys).flatten.length = (xs.length + ys.length) * i.size := by rw [flatten_len i.size _ hz2, List.length_append]
    have h63 : ((xs.length + ys.length : Nat) : Int) ≤ 9223372036854775807 := by simp only [maxLen] at hlen; omega
    -- what stands at a place of the whole
    have hRof : ∀ (olds : List Value), olds.length = xs.length * i.size → (∀ (j : Nat) (c : AV) (u : Value), xs.flatten[j]? = some c → olds[j]? = some u → Rp E (AvX A0 E st.os) w c u) →
        ∀ (j : Nat) (c : AV), (xs ++ ys).flatten[j]? = some c → Rp E (AvX A0 E st.os) w c ((olds ++ (List.range (ys.length * i.size)).map g2).getD j undef) := by
      intro olds hol hor j c hj
      rw [List.flatten_append] at hj
      rcases Nat.lt_or_ge j (xs.length * i.size) with hlt | hge
      · rw [List.getElem?_append_left (by omega)] at hj
        have h1 : olds[j]? = some olds[j] := List.getElem?_eq_getElem (by omega)
        have h2 : (olds ++ (List.range (ys.length * i.size)).map g2).getD j undef = olds[j] := by
          rw [List.getD_eq_getElem?_getD, List.getElem?_append_left (by omega), h1]; rfl
        rw [h2]; exact hor j c _ hj h1
      · rw [List.getElem?_append_right (by omega)] at hj
        have hlt := (List.getElem?_eq_some_iff.1 hj).1
        rw [flatten_len i.size ys hysz] at hlt
        have h2 : (olds ++ (List.range (ys.length * i.size)).map g2).getD j undef = g2 (j - xs.length * i.size) := by
          rw [List.getD_eq_getElem?_getD, List.getElem?_append_right (by omega), hol, List.getElem?_map, List.getElem?_range (by omega)]; rfl
        rw [h2]
        rw [hfx] at hj
        exact hr2 _ c hj
    have hgd : ∀ (olds : List Value), olds.length = xs.length * i.size → ∀ j, j < (xs.length + ys.length) * i.size →
        (olds ++ (List.range (ys.length * i.size)).map g2)[j]? = some ((olds ++ (List.range (ys.length * i.size)).map g2).getD j undef) := by
      intro olds hol j hj
      rw [Nat.add_mul] at hj
      rw [List.getD_eq_getElem?_getD, List.getElem?_eq_getElem (by simp [hol]; omega)]; rfl
    have hbel : ∀ o : Obj, Below w.heap.size w (w.drew.alloc o) := fun o => ((Below.refl _ w).drew).alloc (Nat.le_refl _) o
    rcases hrow with ⟨hnil, hn0⟩ | ⟨b, cap, cur, hs, hncap, hcapm, hh, hcsz, _⟩
    · -- the nil slice
      have hx : xs = [] := List.eq_nil_of_length_eq_zero hn0
      subst hx
      have hun : u = .slice none 0 0 := by rw [hue, hnil]
      subst hun
      simp only [List.length_nil, Nat.zero_add] at hbytes hlen h63 hg ⊢
      have hrun := run_append_nil (P := P) w t ty e i zv ht hi hzero ⟨b2, o2, none⟩ ys.length cap2 _ hnl hnews hm h63 (by omega)
      have hge := grownCap_ge w ys.length 0 e
      have hcm := grownCap_le_maxLen w ys.length 0 e hlen
      have hblk : (Ob.tok e i.size 0).blk E id = none := by simp [Ob.blk, hnil, Value.ownBlock]
      obtain ⟨E', h1, h2⟩ := h.grown (id := id) (e := e) (sz := i.size) (n := 0) (m := ys.length) (zs := ys) hg (by simp) hysz (w' := w.drew.alloc _) (B := w.heap.size) (cap := grownCap w ys.length 0 e)
        (cur' := ((List.range (ys.length * i.size)).map g2).toArray ++ Builtin.zeroCells zv.cells (grownCap w ys.length 0 e - ys.length))
        (fun j => (([] : List Value) ++ (List.range (ys.length * i.size)).map g2).getD j undef) (heap_alloc_new w.drew _) (by
          simp only [Array.size_append, List.size_toArray, size_zeroCells, hzs, hnl, ← Nat.add_mul]; congr 1; omega) (by omega) hcm hm
        (fun j hj => by
          have := hgd [] (by simp) j (by simpa using hj)
          rw [Array.getElem?_append_left (by simp; simpa using hj)]
          rw [← Array.getElem?_toList]
          exact this)
        (fun j c hj => hRof [] (by simp) (by simp) j c (by simpa using hj)) (.of_below (hbel _)) (fun b hb _ => (hbel _).block b hb) (.inr (Nat.le_refl _))
      simp only [Nat.zero_add] at h1 h2
      exact ⟨E', _, _, hrun, h1, by simpa using h2⟩
    · -- a row of its own
      have hub : u = .slice (some ⟨b, 0, none⟩) xs.length cap := by rw [hue, hs]
      subst hub
      have hblk : (Ob.tok e i.size xs.length).blk E id = some b := by simp [Ob.blk, hs, Value.ownBlock]
      -- the old cells
      have holds : ∀ (j : Nat) (c : AV) (u : Value), xs.flatten[j]? = some c → (cur.toList.take (xs.length * i.size))[j]? = some u → Rp E (AvX A0 E st.os) w c u := by
        intro j c u hc hu
        cases hsl with
        | sl0 => simp at hc
        | sl g hn hcap' hc' hsz' hcell hr =>
          have hj := (List.getElem?_eq_some_iff.1 hc).1
          have h1 := (hcell j hj).1
          rw [Nat.zero_add, cell_of_row w b j cur e (0, 0) hh] at h1
          rw [List.getElem?_take] at hu
          split at hu
          · rw [Array.getElem?_toList, h1] at hu; cases hu; exact hr j c hc
          · cases hu
      have hmul : xs.length * i.size ≤ cur.size := by rw [hcsz]; exact Nat.mul_le_mul_right _ hncap
      have hol : (cur.toList.take (xs.length * i.size)).length = xs.length * i.size := by simp; omega
      by_cases hroom : xs.length + ys.length ≤ cap
      · have hfit : xs.length * i.size + ((List.range (ys.length * i.size)).map g2).length ≤ cur.size := by
          rw [hnl, hcsz, ← Nat.add_mul]; exact Nat.mul_le_mul_right _ hroom
        have hrun := run_append_room (P := P) w t ty e i ht hi b xs.length cap cur hh ⟨b2, o2, none⟩ ys.length cap2 _ hnl hnews hone' hroom hfit
        generalize hnew : (cur.toList.take (xs.length * i.size) ++ (List.range (ys.length * i.size)).map g2 ++ cur.toList.drop (xs.length * i.size + ((List.range (ys.length * i.size)).map g2).length)).toArray = new at hrun
        have hoth : ∀ k, k ≠ b → (w.setRow b new).heap[k]? = w.heap[k]? := fun k hk => setRow_other w b k _ (fun e => hk e)
        have hbh := setRow_heap w b cur new e (0, 0) hh
        have hlow : ∀ o, o < xs.length * i.size → new[o]? = cur[o]? := by
          intro o ho
          subst hnew
          rw [List.getElem?_toArray, List.append_assoc, List.getElem?_append_left (by omega), List.getElem?_take, if_pos ho, Array.getElem?_toList]
        have hstp : Stp (Av E st.os) w (w.setRow b new) := by
          refine ⟨rfl, rfl, rfl, by simp [World.setRow], fun k hk hn => hoth k (fun e => ?_), fun k o hk hn => ?_⟩
          · subst e
            exact hn (xs.length * i.size) ⟨id, _, hg, hblk, Nat.le_refl _⟩
          · by_cases hkb : k = b
            · subst hkb
              have ho : o < xs.length * i.size := by
                rcases Nat.lt_or_ge o (xs.length * i.size) with h1 | h1
                · exact h1
                · exact absurd ⟨id, _, hg, hblk, h1⟩ hn
              rw [cell_of_row _ k o new e (0, 0) hbh, cell_of_row w k o cur e (0, 0) hh, hlow o ho]
            · exact World.cell?_of_block (hoth k hkb)
        obtain ⟨E', h1, h2⟩ := h.grown (id := id) (e := e) (sz := i.size) (n := xs.length) (m := ys.length) (zs := xs ++ ys) hg (by simp) hz2 (w' := w.setRow b new) (B := b) (cap := cap) (cur' := new)
          (fun j => (cur.toList.take (xs.length * i.size) ++ (List.range (ys.length * i.size)).map g2).getD j undef) hbh (by subst hnew; simp; rw [hnl] at hfit; omega) hroom hcapm hm
          (fun j hj => by
            have h3 := hgd _ hol j hj
            rw [Nat.add_mul] at hj
            subst hnew
            rw [List.getElem?_toArray, List.getElem?_append_left (by simp; omega)]
            exact h3)
          (hRof _ hol holds) hstp (fun k hk hn => hoth k (fun e => hn (by rw [e]; exact hblk))) (.inl hblk)
        exact ⟨E', _, _, hrun, h1, h2⟩
      · have hcells : ∀ j v, (cur.toList.take (xs.length * i.size))[j]? = some v → w.cell? ((⟨b, 0, none⟩ : Addr).add j) = some v := by
          intro j v hj
          rw [addr_add, Nat.zero_add, cell_of_row w b j cur e (0, 0) hh]
          rw [List.getElem?_take] at hj
          split at hj
          · rwa [Array.getElem?_toList] at hj
          · cases hj
        have hrun := run_append_grow (P := P) w t ty e i zv ht hi hzero ⟨b, 0, none⟩ xs.length cap _ hol hcells ⟨b2, o2, none⟩ ys.length cap2 _ hnl hnews (by omega) h63 (growslice_fits (by omega) hbytes)
        have hge := grownCap_ge w (xs.length + ys.length) cap e
        have hcm := grownCap_le_maxLen w (xs.length + ys.length) cap e hlen
        obtain ⟨E', h1, h2⟩ := h.grown (id := id) (e := e) (sz := i.size) (n := xs.length) (m := ys.length) (zs := xs ++ ys) hg (by simp) hz2 (w' := w.drew.alloc _) (B := w.heap.size) (cap := grownCap w (xs.length + ys.length) cap e)
          (cur' := (cur.toList.take (xs.length * i.size)).toArray ++ ((List.range (ys.length * i.size)).map g2).toArray ++ Builtin.zeroCells zv.cells (grownCap w (xs.length + ys.length) cap e - (xs.length + ys.length)))
          (fun j => (cur.toList.take (xs.length * i.size) ++ (List.range (ys.length * i.size)).map g2).getD j undef) (heap_alloc_new w.drew _) (by
            simp only [Array.size_append, List.size_toArray, size_zeroCells, hzs, hnl, hol, ← Nat.add_mul]; congr 1; omega) hge hcm hm
          (fun j hj => grown_get _ _ _ j _ (hgd _ hol j hj)) (hRof _ hol holds) (.of_below (hbel _)) (fun b hb _ => (hbel _).block b hb) (.inr (Nat.le_refl _))
        exact ⟨E', _, _, hrun, h1, h2⟩
end
end Go.Proofs.YtmepcmphcghbeaaDoor
