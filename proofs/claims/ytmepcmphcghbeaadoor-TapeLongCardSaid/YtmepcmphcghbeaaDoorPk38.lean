/- Texts of the abstract walk, of the contracts and of the plain laws, packed (part 38 of 48): Ab34. Conditions: none. -/
import Derived.Test.YtmepcmphcghbeaaDoorPk37
import Derived.Lib.Builder
import Derived.Laws.Externs
import Derived.Lib.AppendStr
namespace Go.Proofs.YtmepcmphcghbeaaDoor
open Go Go.RowKit
set_option linter.unnecessarySimpa false
def MidAt (P : Program) (l mid : List Oper) (st : St) (K : St → Prop) : Prop :=
  ∀ (A0 : Nat → Nat → Prop) (E0 : Env) (os0 : Os) (w0 : World) (E : Env) (a : Act) (w : World) (Q : Exit → Act → World → Prop) (rest : List Oper), SimC A0 E0 os0 w0 E st a w →
    (∀ st2 E2 a2 w2, K st2 → SimC A0 E0 os0 w0 E2 st2 a2 w2 → wpList P l.toArray Q rest a2 w2) → wpList P l.toArray Q (mid ++ rest) a w
theorem AWp_mid {ro : Option Nat} {P : Program} {Q : Exit → St → Prop} {st : St} {id : Nat} {l : List Oper} (n : Nat) (mid post : List Oper) (hl : l = l.take n ++ (mid ++ post)) (h : aops P l (l.take n) st fun st1 => MidAt P l mid st1 fun st2 => aops P l post st2 (Q .normal)) :
    AWp ro P (.region id l.toArray false) Q st := by
  intro hno hnd A0 E0 os0 w0 E a w hs
  refine rn_region_lit hnd (noOut hno) ?_
  have key := aops_soundK (P := P) (ops := l) (rest2 := mid ++ post) (Q := fun e a' w' => ∃ st' E', Q e st' ∧ SimC A0 E0 os0 w0 E' st' a' w') (A0 := A0) (E0 := E0) (os0 := os0) (w0 := w0)
    (K := fun st1 => MidAt P l mid st1 fun st2 => aops P l post st2 (Q .normal)) (fun st1 E1 a1 w1 hk hsim => ?_) (l.take n) st E a w hs h
  · rw [← hl] at key; exact key
  · exact hk A0 E0 os0 w0 E1 a1 w1 _ post hsim fun st2 E2 a2 w2 hk2 hs2 => aops_sound (fun st3 E3 _ _ q s => ⟨st3, E3, q, s⟩) post st2 E2 a2 w2 hs2 hk2
def strRows (s : ByteArray) : List (List AV) := (Lib.strCells s).map fun v => [AV.v v]
theorem strRows_len (s : ByteArray) : (strRows s).length = s.size := by rw [strRows, List.length_map, Lib.strCells_length]
theorem strRows_flat (s : ByteArray) : (strRows s).flatten = (Lib.strCells s).map AV.v := by
  unfold strRows
  generalize Lib.strCells s = l
  induction l with
  | nil => rfl
  | cons x l ih => simp only [List.map_cons, List.flatten_cons, ih]; rfl
def selfOk (P : Program) (tp tu t n : Nat) : Bool :=
  (match P.underlying tp with | some (.pointer t') => t' == t | _ => false) && (match P.underlying tu with | some .unsafePointer => true | _ => false) && (match P.info? t with | some j => j.size != 0 | none => false) && liesAt P P.depth t (n / P.cellsOf t) 0 t 1
theorem selfOk_spec {P : Program} {tp tu t n : Nat} (h : selfOk P tp tu t n = true) : P.underlying tp = some (.pointer t) ∧ P.underlying tu = some .unsafePointer ∧ (∃ j, P.info? t = some j ∧ j.size ≠ 0) ∧ liesAt P P.depth t (n / P.cellsOf t) 0 t 1 = true := by
  simp only [selfOk, Bool.and_eq_true] at h
  obtain ⟨⟨⟨h1, h2⟩, h3⟩, h4⟩ := h
  refine ⟨?_, ?_, ?_, h4⟩
  · split at h1
    · rename_i t' e; rw [e, eq_of_beq h1]
    · cases h1
  · split at h2
    · rename_i e; exact e
    · cases h2
  · split at h3
    · rename_i j e; exact ⟨j, e, by simpa using h3⟩
    · cases h3
theorem MidAt_selfPtr {P : Program} {l : List Oper} {st : St} {K : St → Prop} {d1 d2 d3 f tp tu t id ty1 ty2 ty3 : Nat} {x : Operand} {p1 p2 p3 : String} {a1 a2 a3 : Array Edge} {tys : Array TypeId} {cs : List AV} {fn : Func}
    (hx : st.ev x = .ptr id 0) (ho : getO st.os id = some (.cells t cs)) (h0 : 0 < cs.length) (hd1 : d1 < st.sl.length) (hd2 : d2 < st.sl.length)
    (hok : selfOk P tp tu t cs.length = true)
    (hf : P.funcs[f]? = some fn) (hname : (fn.name == "runtime.NumGoroutine") = false) (hb : fn.body.isNone = true) (hn : Extern.findNext fn = none) (he : Extern.find fn = some Extern.AbiNoEscape.same)
    (hK : K (((st.put (some d1) (.ptr id 0)).put (some d2) (.ptr id 0)).put (some d3) (.ptr id 0))) :
    MidAt P l [{ dst := some d1, op := .convert tp tu x, type := ty1, pos := p1, after := a1, guard := none }, { dst := some d2, op := .call { callee := .value (.func f), args := ⟨[.tmp d1]⟩, argTypes := tys }, type := ty2, pos := p2, after := a2, guard := none },
      { dst := some d3, op := .convert tu tp (.tmp d2), type := ty3, pos := p3, after := a3, guard := none }] st K := by
  have val : ∀ (s : Sem Value) (v : Value) (w w' : World), s.run P w = .ok v w' → ((do pure (.value (← s))) : Sem Next).run P w = .ok (.value v) w' := fun s v w w' h => by
    simp only [Sem.run_bind, h, Result.andThen_ok, Sem.run_pure]
  intro A0 E0 os0 w0 E a w Q rest h hq
  obtain ⟨hs, hd, ⟨j, ht, hj⟩, hlies⟩ := selfOk_spec hok
  have hsz : a.tmps.size = st.sl.length := h.size
  have hxr := h.ev x
  rw [hx] at hxr
  generalize hxv : a.eval x = xv at hxr
  obtain ⟨hv, cur, hh, hcl, -⟩ := h.os.ok id _ ho
  cases hxr with
  | ptr hvv =>
  have hshape : w.shape? (E.blk id) = some (t, cs.length) := by simp [World.shape?, hh, hcl]
  have r1 := Lib.run_to_unsafe (P := P) w (src := tp) (dst := tu) (t := t) (e := t) (cells := cs.length) ⟨E.blk id, 0, none⟩ hs hd ht hj hshape h0
  have r3 := Lib.run_from_unsafe (P := P) w (src := tu) (dst := tp) (u := t) (e := t) (cells := cs.length) ⟨E.blk id, 0, none⟩ hd hs ht hshape hlies
  have r2 : (callFunc f #[Value.pointer (some ⟨E.blk id, 0, none⟩)]).run P w = .ok (.value (.pointer (some ⟨E.blk id, 0, none⟩))) w := by
    rw [run_callFunc_extern hf hname hb hn he, Lib.run_noEscape]; rfl
  have q : ∀ {st' : St} {a' : Act} (d : Nat), SimC A0 E0 os0 w0 E st' a' w → SimC A0 E0 os0 w0 E (st'.put (some d) (.ptr id 0)) (a'.put (some d) (.pointer (some ⟨E.blk id, 0, none⟩))) w := fun d hs => hs.set (.ptr hvv) (some d)
  refine wpList_step fun K1 hK1 => ?_
  rw [if_pos (by simp [Region.wanted])]
  unfold Oper.wp
  simp only [execOp, hxv, val _ _ _ _ r1, Oper.upon_value]
  refine hK1 _ _ (wpList_step fun K2 hK2 => ?_)
  rw [if_pos (by simp [Region.wanted])]
  unfold Oper.wp
  have ef : (a.put (some d1) (Value.pointer (some ⟨E.blk id, 0, none⟩))).eval (.func f) = .func (.func f) #[] #[] := rfl
  simp only [execOp, resolve, ef, Sem.run_bind, run_ofValue, Result.andThen_ok, invoke, List.map_toArray, List.map_cons, List.map_nil, Array.append_empty, Array.empty_append, eval_put_self (a := a) (d := d1) (by omega), r2, Oper.upon_value]
  refine hK2 _ _ (wpList_step fun K3 hK3 => ?_)
  rw [if_pos (by simp [Region.wanted])]
  unfold Oper.wp
  simp only [execOp, eval_put_self (a := a.put (some d1) (Value.pointer (some ⟨E.blk id, 0, none⟩))) (d := d2) (by simp only [Act.put, Array.size_setIfInBounds]; omega), val _ _ _ _ r3, Oper.upon_value]
  exact hK3 _ _ (hq _ E _ _ hK (q d3 (q d2 (q d1 h))))
theorem appendStr_sound {P : Program} {A0 : Nat → Nat → Prop} {E0 : Env} {os0 : Os} {w0 : World} {E : Env} {a : Act} {w : World} {st : St} (h : SimC A0 E0 os0 w0 E st a w) {t t' ty e bytes id : Nat} {xs : List (List AV)} {u : Value} {bs : ByteArray} (he : elemInf P t = some (e, 1, bytes)) (hu' : P.underlying t' = some .string)
    (hg : getO st.os id = some (.row e 1 xs)) (hu : Rp E (AvX A0 E st.os) w (.own id xs.length) u) (h0 : 0 < bs.size) (hbytes : (xs.length + bs.size) * bytes ≤ 140737488355328) (hlen : xs.length + bs.size ≤ maxLen) :
    ∃ E' z w', (Builtin.append_ #[t, t'] ty #[u, .string bs]).run P w = .ok z w' ∧ SimC A0 E0 os0 w0 E' { st with os := putO st.os id (.row e 1 (xs ++ strRows bs)) } a w' ∧
      Rp E' (AvX A0 E' (putO st.os id (.row e 1 (xs ++ strRows bs)))) w' (.own id (xs.length + bs.size)) z := by
  obtain ⟨i, zv, ht, hi, hzero, hsz, hby, hzs, hsz0⟩ := elemInf_spec he
  subst hby
  obtain ⟨hval, hcnt, hxsz, hrow⟩ := h.os.ok id _ hg
  cases hu with
  | @own _ _ _ hvv hl hcur h1c =>
  have hue := hcur hcnt.symm
  have hysz : ∀ y ∈ strRows bs, y.length = 1 := fun y hy => by obtain ⟨v, _, rfl⟩ := List.mem_map.1 hy; rfl
  have hz2 : ∀ x ∈ xs ++ strRows bs, x.length = 1 := fun x hx => (List.mem_append.1 hx).elim (hxsz x) (hysz x)
  have hfx : xs.flatten.length = xs.length := by rw [flatten_len 1 xs hxsz, Nat.mul_one]
  have hsc := Lib.strCells_length bs
  have h63 : ((xs.length + bs.size : Nat) : Int) ≤ 9223372036854775807 := by simp only [maxLen] at hlen; omega
  have hRof : ∀ (olds : List Value), olds.length = xs.length → (∀ (j : Nat) (c : AV) (u : Value), xs.flatten[j]? = some c → olds[j]? = some u → Rp E (AvX A0 E st.os) w c u) →
      ∀ (j : Nat) (c : AV), (xs ++ strRows bs).flatten[j]? = some c → Rp E (AvX A0 E st.os) w c ((olds ++ Lib.strCells bs).getD j undef) := by
    intro olds hol hor j c hj
    rw [List.flatten_append] at hj
    rcases Nat.lt_or_ge j xs.length with hlt | hge
    · rw [List.getElem?_append_left (by omega)] at hj
      have h1 : olds[j]? = some olds[j] := List.getElem?_eq_getElem (by omega)
      have h2 : (olds ++ Lib.strCells bs).getD j undef = olds[j] := by
        rw [List.getD_eq_getElem?_getD, List.getElem?_append_left (by omega), h1]; rfl
      rw [h2]; exact hor j c _ hj h1
    · rw [List.getElem?_append_right (by omega), strRows_flat, List.getElem?_map, hfx] at hj
      cases hv : (Lib.strCells bs)[j - xs.length]? with
      | none => rw [hv] at hj; cases hj
      | some v =>
        rw [hv] at hj
        simp only [Option.map_some, Option.some.injEq] at hj
        subst hj
        rw [List.getD_eq_getElem?_getD, List.getElem?_append_right (by omega), hol, hv]
        exact .v _
  have hgd : ∀ (olds : List Value), olds.length = xs.length → ∀ j, j < xs.length + bs.size → (olds ++ Lib.strCells bs)[j]? = some ((olds ++ Lib.strCells bs).getD j undef) := by
    intro olds hol j hj
    rw [List.getD_eq_getElem?_getD, List.getElem?_eq_getElem (by simp [hol, hsc]; omega)]; rfl
  have hbel : ∀ o : Obj, Below w.heap.size w (w.drew.alloc o) := fun o => ((Below.refl _ w).drew).alloc (Nat.le_refl _) o
  have hzl : (xs ++ strRows bs).length = xs.length + bs.size := by rw [List.length_append, strRows_len]
  rcases hrow with ⟨hnil, hn0⟩ | ⟨b, cap, cur, hs, hncap, hcapm, hh, hcsz, hCC⟩
  · have hx : xs = [] := List.eq_nil_of_length_eq_zero hn0
    subst hx
    have hun : u = .slice none 0 0 := by rw [hue, hnil]
    subst hun
    simp only [List.length_nil, Nat.zero_add] at hbytes hlen h63 hg hzl ⊢
    have hm1 : 1 * i.bytes = i.bytes := Nat.one_mul _
    have hrun := run_append_nil_string (P := P) (w := w) (ty := ty) t t' e i zv ht hu' hi hzero bs h0 (by omega) (by omega)
    have hge := grownCap_ge w bs.size 0 e
    have hcm := grownCap_le_maxLen w bs.size 0 e hlen
    have hdl : (bs.data.map (fun b => Value.int .u8 b.toNat)).toList = Lib.strCells bs := by simp [Lib.strCells]
    have hds : (bs.data.map (fun b : UInt8 => Value.int .u8 b.toNat)).size = bs.size := by rw [Array.size_map]; rfl
    obtain ⟨E', g1, g2⟩ := h.grownRow (id := id) (e := e) (sz := 1) (xs := []) (m := bs.size) (zs := strRows bs) hg (by simp [strRows_len]) hysz (w' := w.drew.alloc _) (B := w.heap.size) (cap := grownCap w bs.size 0 e)
      (cur' := bs.data.map (fun b => Value.int .u8 b.toNat) ++ Builtin.zeroCells zv.cells (grownCap w bs.size 0 e - bs.size))
      (fun j => (([] : List Value) ++ Lib.strCells bs).getD j undef) (heap_alloc_new w.drew _) (by
        rw [Array.size_append, hds, size_zeroCells, hzs]; omega) (by simpa using hge) hcm h0
      (fun j hj => by
        have hj' : j < bs.size := by simpa using hj
        have := hgd [] rfl j (by simpa using hj')
        rw [Array.getElem?_append_left (by rw [hds]; exact hj'), ← Array.getElem?_toList, hdl]; exact this)
      (fun j c hj => hRof [] rfl (by simp) j c (by simpa using hj)) (.of_below (hbel _)) (fun b hb _ => (hbel _).block b hb) (.inr (Nat.le_refl _))
    simp only [List.length_nil, Nat.zero_add] at g1 g2
    exact ⟨E', _, _, hrun, g1, g2⟩
  · have hub : u = .slice (some ⟨b, 0, none⟩) xs.length cap := by rw [hue, hs]
    subst hub
    have hblk : (Ob.row e 1 xs).blk E id = some b := by simp [Ob.blk, hs, Value.ownBlock]
    rw [Nat.mul_one] at hcsz
    have holds : ∀ (j : Nat) (c : AV) (u : Value), xs.flatten[j]? = some c → (cur.toList.take xs.length)[j]? = some u → Rp E (AvX A0 E st.os) w c u := by
      intro j c u hc hu
      rw [List.getElem?_take] at hu
      split at hu
      · rw [Array.getElem?_toList] at hu; exact hCC j c u hc hu
      · cases hu
    have hol : (cur.toList.take xs.length).length = xs.length := by simp; omega
    by_cases hroom : xs.length + bs.size ≤ cap
    · have hrun := Lib.run_append_room_string (P := P) w t t' ty e i ht hu' hi hsz b xs.length cap cur hh bs hroom (by omega)
      generalize hnew : (cur.toList.take xs.length ++ Lib.strCells bs ++ cur.toList.drop (xs.length + bs.size)).toArray = new at hrun
      have hoth : ∀ k, k ≠ b → (w.setRow b new).heap[k]? = w.heap[k]? := fun k hk => setRow_other w b k _ (fun e => hk e)
      have hbh := setRow_heap w b cur new e (0, 0) hh
      have hlow : ∀ o, o < xs.length → new[o]? = cur[o]? := by
        intro o ho
        subst hnew
        rw [List.getElem?_toArray, List.append_assoc, List.getElem?_append_left (by omega), List.getElem?_take, if_pos ho, Array.getElem?_toList]
      have hstp : Stp (Av E st.os) w (w.setRow b new) := by
        refine ⟨rfl, rfl, rfl, by simp [World.setRow], fun k hk hn => hoth k (fun e => ?_), fun k o hk hn => ?_⟩
        · subst e
          exact hn 0 ⟨id, _, hg, hblk, trivial⟩
        · by_cases hkb : k = b
          · subst hkb
            exact absurd ⟨id, _, hg, hblk, trivial⟩ hn
          · exact World.cell?_of_block (hoth k hkb)
      obtain ⟨E', h1, h2⟩ := h.grownRow (id := id) (e := e) (sz := 1) (xs := xs) (m := bs.size) (zs := xs ++ strRows bs) hg hzl hz2 (w' := w.setRow b new) (B := b) (cap := cap) (cur' := new)
        (fun j => (cur.toList.take xs.length ++ Lib.strCells bs).getD j undef) hbh (by subst hnew; simp [hsc]; omega) hroom hcapm h0
        (fun j hj => by
          have h3 := hgd _ hol j (by omega)
          subst hnew
          rw [List.getElem?_toArray, List.getElem?_append_left (by simp [hsc]; omega)]
          exact h3)
        (hRof _ hol holds) hstp (fun k hk hn => hoth k (fun e => hn (by rw [e]; exact hblk))) (.inl hblk)
      exact ⟨E', _, _, hrun, h1, h2⟩
    · have hcells : ∀ j v, (cur.toList.take xs.length)[j]? = some v → w.cell? ((⟨b, 0, none⟩ : Addr).add j) = some v := by
        intro j v hj
        rw [addr_add, Nat.zero_add, cell_of_row w b j cur e (0, 0) hh]
        rw [List.getElem?_take] at hj
        split at hj
        · rwa [Array.getElem?_toList] at hj
        · cases hj
      have hrun := Lib.run_append_grow_string (P := P) w t t' ty e i zv ht hu' hi hzero ⟨b, 0, none⟩ xs.length cap _ (by rw [hsz, Nat.mul_one]; exact hol) hcells bs (by omega) h63 (growslice_fits (by omega) hbytes)
      have hge := grownCap_ge w (xs.length + bs.size) cap e
      have hcm := grownCap_le_maxLen w (xs.length + bs.size) cap e hlen
      obtain ⟨E', h1, h2⟩ := h.grownRow (id := id) (e := e) (sz := 1) (xs := xs) (m := bs.size) (zs := xs ++ strRows bs) hg hzl hz2 (w' := w.drew.alloc _) (B := w.heap.size) (cap := grownCap w (xs.length + bs.size) cap e)
        (cur' := (cur.toList.take xs.length).toArray ++ (Lib.strCells bs).toArray ++ Builtin.zeroCells zv.cells (grownCap w (xs.length + bs.size) cap e - (xs.length + bs.size)))
        (fun j => (cur.toList.take xs.length ++ Lib.strCells bs).getD j undef) (heap_alloc_new w.drew _) (by
          rw [Array.size_append, Array.size_append, List.size_toArray, List.size_toArray, size_zeroCells, hzs, hsc, hol]; omega) hge hcm h0
        (fun j hj => grown_get _ _ _ j _ (hgd _ hol j (by omega))) (hRof _ hol holds) (.of_below (hbel _)) (fun b hb _ => (hbel _).block b hb) (.inr (Nat.le_refl _))
      exact ⟨E', _, _, hrun, h1, h2⟩
theorem MidAt_appendStr {P : Program} {l : List Oper} {st : St} {K : St → Prop} {d t t' ty e bytes id n : Nat} {s x : Operand} {pos : String} {after : Array Edge} {bs : ByteArray} {xs : List (List AV)}
    (hs : st.ev s = .own id n) (hx : st.ev x = .v (.string bs)) (hg : getO st.os id = some (.row e 1 xs)) (hn : n = xs.length) (he : elemInf P t = some (e, 1, bytes)) (hu : P.underlying t' = some .string) (h0 : 0 < bs.size) (hbytes : (xs.length + bs.size) * bytes ≤ 140737488355328) (hlen : xs.length + bs.size ≤ maxLen)
    (hK : K (({ st with os := putO st.os id (.row e 1 (xs ++ strRows bs)) } : St).put (some d) (.own id (xs.length + bs.size)))) :
    MidAt P l [{ dst := some d, op := .call { callee := .builtin .append, args := ⟨[s, x]⟩, argTypes := ⟨[t, t']⟩ }, type := ty, pos := pos, after := after, guard := none }] st K := by
  have val : ∀ (s : Sem Value) (v : Value) (w w' : World), s.run P w = .ok v w' → ((do pure (.value (← s))) : Sem Next).run P w = .ok (.value v) w' := fun s v w w' h => by
    simp only [Sem.run_bind, h, Result.andThen_ok, Sem.run_pure]
  intro A0 E0 os0 w0 E a w Q rest h hq
  subst hn
  have hsr := h.ev s
  rw [hs] at hsr
  have hxr := h.ev x
  rw [hx] at hxr
  generalize hxv : a.eval x = xv at hxr
  cases hxr
  obtain ⟨E', z, w', hrun, g1, g2⟩ := appendStr_sound (ty := ty) h he hu hg hsr h0 hbytes hlen
  refine wpList_step fun K1 hK1 => ?_
  rw [if_pos (by simp [Region.wanted])]
  unfold Oper.wp
  simp only [execOp, resolve, Sem.run_bind, Sem.run_pure, Result.andThen_ok, invoke, builtin, List.map_toArray, List.map_cons, List.map_nil, hxv, hrun, Oper.upon_value]
  exact hK1 _ _ (hq _ E' _ _ hK (g1.set g2 (some d)))
theorem AWp_midK {ro : Option Nat} {P : Program} {Q : Exit → St → Prop} {st : St} {id : Nat} {l : List Oper} (n : Nat) (mid post : List Oper) (hl : l = l.take n ++ (mid ++ post))
    (h : ∀ K : St → Prop, (∀ st1, MidAt P l mid st1 (fun st2 => aops P l post st2 (Q .normal)) → K st1) → aops P l (l.take n) st K) : AWp ro P (.region id l.toArray false) Q st :=
  AWp_mid n mid post hl (h _ fun _ h => h)
def ptrOk (P : Program) (tp : Nat) : Bool := match P.underlying tp with | some (.pointer te) => (P.info? te).isSome | _ => false
theorem MidAt_neqSelf {P : Program} {l : List Oper} {st : St} {K : St → Prop} {d tp id off ty : Nat} {x y : Operand} {pos : String} {after : Array Edge} {z}
    (hx : st.ev x = .ptr id off) (hy : st.ev y = .ptr id off) (hok : ptrOk P tp = true) (hK : K (st.put (some d) (.v (.bool false)))) :
    MidAt P l [{ dst := some d, op := .binOp .neq tp x y z, type := ty, pos := pos, after := after, guard := none }] st K := by
  have val : ∀ (s : Sem Value) (v : Value) (w w' : World), s.run P w = .ok v w' → ((do pure (.value (← s))) : Sem Next).run P w = .ok (.value v) w' := fun s v w w' h => by
    simp only [Sem.run_bind, h, Result.andThen_ok, Sem.run_pure]
  obtain ⟨te, j, hp, hte⟩ : ∃ te j, P.underlying tp = some (.pointer te) ∧ P.info? te = some j := by
    unfold ptrOk at hok
    split at hok
    · rename_i te e; obtain ⟨j, hj⟩ := Option.isSome_iff_exists.1 hok; exact ⟨te, j, e, hj⟩
    · cases hok
  intro A0 E0 os0 w0 E a w Q rest h hq
  have hxr := h.ev x
  rw [hx] at hxr
  generalize hxv : a.eval x = xv at hxr
  have hyr := h.ev y
  rw [hy] at hyr
  generalize hyv : a.eval y = yv at hyr
  cases hxr with
  | ptr _ =>
  cases hyr with
  | ptr _ =>
  have hg : (eqGuard .neq tp x y (.pointer (some ⟨E.blk id, off, none⟩)) (.pointer (some ⟨E.blk id, off, none⟩))).run P w = .ok () w := run_eqGuard (by simp) (by simp)
  have hrun : (do eqGuard .neq tp x y (.pointer (some ⟨E.blk id, off, none⟩)) (.pointer (some ⟨E.blk id, off, none⟩)); binOp .neq tp (.pointer (some ⟨E.blk id, off, none⟩)) (.pointer (some ⟨E.blk id, off, none⟩)) : Sem Value).run P w = .ok (.bool false) w := by
    rw [Sem.run_bind, hg, Result.andThen_ok, Lib.run_neq_ptr_same w ⟨E.blk id, off, none⟩ hp hte]
  refine wpList_step fun K1 hK1 => ?_
  rw [if_pos (by simp [Region.wanted])]
  unfold Oper.wp
  simp only [execOp, hxv, hyv, val _ _ _ _ hrun, Oper.upon_value]
  exact hK1 _ _ (hq _ E _ _ hK (h.set (.v _) (some d)))
end Go.Proofs.YtmepcmphcghbeaaDoor
