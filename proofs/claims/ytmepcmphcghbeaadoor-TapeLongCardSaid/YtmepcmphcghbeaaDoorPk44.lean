/- Texts of the abstract walk, of the contracts and of the plain laws, packed (part 44 of 48): Ab35. Conditions: none. -/
import Derived.Test.YtmepcmphcghbeaaDoorPk43
import Derived.Lib.UnsafeStr
namespace Go.Proofs.YtmepcmphcghbeaaDoor
open Go Go.RowKit
set_option linter.unnecessarySimpa false
theorem cell_freeze (w : World) (a : Addr) (n : Nat) (x : Addr) : (w.freeze a n).cell? x = w.cell? x := by
  unfold World.freeze
  split
  · rfl
  · simp only [World.cell?, Array.getElem?_modify]
    by_cases h : a.block = x.block
    · rw [if_pos h]
      cases hh : w.heap[x.block]? with
      | none => rfl
      | some o => cases o <;> rfl
    · rw [if_neg h]
theorem heap_freeze (w : World) (a : Addr) (n b : Nat) (hb : b ≠ a.block) : (w.freeze a n).heap[b]? = w.heap[b]? := by
  unfold World.freeze
  split
  · rfl
  · simp only [Array.getElem?_modify]
    rw [if_neg (fun e => hb e.symm)]
theorem size_freeze (w : World) (a : Addr) (n : Nat) : (w.freeze a n).heap.size = w.heap.size := by
  unfold World.freeze
  split
  · rfl
  · simp
section
variable {P : Program} {A0 : Nat → Nat → Prop} {E0 : Env} {os0 : Os} {w0 : World} {E : Env} {a : Act} {w : World} {st : St}
theorem SimC.freezeRow (h : SimC A0 E0 os0 w0 E st a w) {id e : Nat} {bs : ByteArray} (hg : getO st.os id = some (.row e 1 (strRows bs))) (h0 : 0 < bs.size) :
    ∃ b cap cells, E.cur id = .slice (some ⟨b, 0, none⟩) bs.size cap ∧ bs.size ≤ cap ∧ w.shape? b = some (e, cells) ∧ bs.size ≤ cells ∧ cap ≤ maxLen ∧
      (∀ j x, bs.data.toList[j]? = some x → w.cell? ((⟨b, 0, none⟩ : Addr).add j) = some (.int .u8 x.toNat)) ∧
      SimC A0 E0 os0 w0 E { st with os := delO st.os id } a (w.freeze ⟨b, 0, none⟩ bs.size) := by
  obtain ⟨hv, hcnt, hxl, hrow⟩ := h.os.ok id _ hg
  rcases hrow with ⟨_, hz⟩ | ⟨b, cap, cur, hs, hncap, hcapm, hh, hcsz, hCC⟩
  · rw [strRows_len] at hz; omega
  rw [strRows_len] at hs hncap
  have hblk : (Ob.row e 1 (strRows bs)).blk E id = some b := by simp [Ob.blk, hs, Value.ownBlock]
  have hav : Av E st.os b 0 := ⟨id, _, hg, hblk, trivial⟩
  have hsub : ∀ k o, Av E (delO st.os id) k o → Av E st.os k o := by
    rintro k o ⟨j, o', hj, hbk, hav⟩
    rw [getO_delO] at hj
    split at hj
    · cases hj
    · exact ⟨j, o', hj, hbk, hav⟩
  have hstp : Stp (Av E st.os) w (w.freeze ⟨b, 0, none⟩ bs.size) :=
    ⟨by unfold World.freeze; split <;> rfl, by unfold World.freeze; split <;> rfl, by unfold World.freeze; split <;> rfl, by rw [size_freeze]; exact Nat.le_refl _,
      fun k hk hn => heap_freeze w _ _ k fun e => hn 0 (by rw [e]; exact hav), fun k o _ _ => cell_freeze w _ _ _⟩
  have hok : OsOk A0 E (delO st.os id) (w.freeze ⟨b, 0, none⟩ bs.size) := by
    refine ⟨fun j ob hj => ?_, fun i j oi oj b' hi hj hbi hbj => ?_, fun j ob b' hj hb' => ?_, fun b' o ha => by rw [size_freeze]; exact h.os.bnd b' o ha, h.os.gl.step (hstp.mono fun b o _ ha => .inr ha) (fun b o ha => .inl (ha.imp (fun x => x) (hsub b o)))⟩
    · rw [getO_delO] at hj
      split at hj
      · cases hj
      · rename_i hne
        obtain ⟨g1, g2⟩ := h.os.ok j ob hj
        refine ⟨g1, Ob.ok_step g2 g1 (.refl E) (hstp.mono fun b o _ ha => .inr ha) (fun b o ha => ?_) rfl fun b' hb' => heap_freeze w _ _ b' fun e => ?_⟩
        · exact .inl (ha.imp (fun x => x) (hsub b o))
        · subst e
          exact hne (h.os.inj j id _ _ _ hj hg hb' hblk)
    · rw [getO_delO] at hi hj
      split at hi
      · cases hi
      · split at hj
        · cases hj
        · exact h.os.inj i j oi oj b' hi hj hbi hbj
    · rw [getO_delO] at hj
      split at hj
      · cases hj
      · exact h.os.out j ob b' hj hb'
  refine ⟨b, cap, cur.size, hs, hncap, by simp [World.shape?, hh], by omega, hcapm, fun j x hj => ?_, ?_⟩
  · have hjl : j < bs.size := (List.getElem?_eq_some_iff.1 hj).1
    rw [addr_add, Nat.zero_add, cell_of_row w b j cur e (0, 0) hh]
    have hc : cur[j]? = some cur[j] := Array.getElem?_eq_getElem (by omega)
    have hf : (strRows bs).flatten[j]? = some (AV.v (.int .u8 x.toNat)) := by rw [strRows_flat, List.getElem?_map, Lib.strCells, List.getElem?_map, hj]; rfl
    have hr := hCC j _ _ hf hc
    rw [hc]
    generalize cur[j] = u at hr
    cases hr
    rfl
  · have := h.upd (os' := delO st.os id) (nx' := st.nx) (.refl E) hstp (fun k o ha => .inl (hsub k o ha)) hok h.nx
    exact this
end
section
variable {P : Program} {l : List Oper} {Q : Exit → St → Prop} {H : Held} {fuel : Nat} {listed : Array Bool} {st : St}
theorem AAny_takeY (i : Nat) {o : Oper} {x : AV} (hi : l[i]? = some o) (hs : Region.noSelect l.toArray = true) (hf : Region.free .any l.toArray listed i = true) (hr : (Region.ready .any l.toArray listed).contains i = true)
    (hQ : ∀ c st, ¬ Q (.panic c) st) (hy : ∀ A0 Er os0 w0 E a w, SimC A0 Er os0 w0 E st a w → ∃ v, Rp E (AvX A0 E st.os) w x v ∧ Yields P l.toArray o v a)
    (h : AAny P l Q H fuel (listed.setIfInBounds i true) (st.put o.dst x)) : AAny P l Q H (fuel + 1) listed st := by
  intro A0 Er os0 w0 E a w hE hW hsim
  obtain ⟨v, hrp, hy⟩ := hy _ _ _ _ _ _ _ hsim
  refine wpAnyH_take (oi := o) (v := v) (by simpa using hi) hs hf hr ?_ hy.yieldsIf hW ?_
  · rintro c a w ⟨st', E', hq, _⟩; exact absurd hq (hQ c st')
  · exact h A0 Er os0 w0 E _ w hE hW (hsim.set hrp o.dst)
theorem own_slice {A0 : Nat → Nat → Prop} {E0 : Env} {os0 : Os} {w0 : World} {E : Env} {a : Act} {w : World} (hsim : SimC A0 E0 os0 w0 E st a w) {x : Operand} {id n e sz : Nat} {xs : List (List AV)} (hx : st.ev x = .own id n) (hg : getO st.os id = some (.row e sz xs)) (hn : n = xs.length) :
    E.valid id ∧ E.cnt id = n ∧ a.eval x = E.cur id ∧ ((E.cur id = .slice none 0 0 ∧ n = 0) ∨ ∃ b cap, E.cur id = .slice (some ⟨b, 0, none⟩) n cap ∧ n ≤ cap) := by
  obtain ⟨hv, hcnt, hxl, hrow⟩ := hsim.os.ok id _ hg
  have hr := hsim.ev x
  rw [hx] at hr
  generalize a.eval x = u at hr
  cases hr with
  | own _ hle hcur h1 =>
    refine ⟨hv, by omega, hcur (by omega), ?_⟩
    rcases hrow with ⟨h2, h3⟩ | ⟨b, cap, cur, h2, h3, _⟩
    · exact .inl ⟨h2, by omega⟩
    · exact .inr ⟨b, cap, by rw [h2, hn], by omega⟩
theorem AAny_lenOwn (i : Nat) {d t ty id n e sz : Nat} {x : Operand} {pos : String} {after : Array Edge} {xs : List (List AV)} (hi : l[i]? = some { dst := some d, op := .call { callee := .builtin .len, args := ⟨[x]⟩, argTypes := ⟨[t]⟩ }, type := ty, pos := pos, after := after, guard := none })
    (hs : Region.noSelect l.toArray = true) (hf : Region.free .any l.toArray listed i = true) (hr : (Region.ready .any l.toArray listed).contains i = true) (hQ : ∀ c st, ¬ Q (.panic c) st)
    (hx : st.ev x = .own id n) (hg : getO st.os id = some (.row e sz xs)) (hn : n = xs.length) (ht : lenT P t = some true)
    (h : AAny P l Q H fuel (listed.setIfInBounds i true) (st.put (some d) (.v (.int .i64 n)))) : AAny P l Q H (fuel + 1) listed st := by
  refine AAny_takeY i hi hs hf hr hQ (fun A0 Er os0 w0 E a w hsim => ⟨_, .v _, ?_⟩) h
  obtain ⟨_, _, he, hc⟩ := own_slice hsim hx hg hn
  have hu : ∃ a' cap, a.eval x = .slice a' n cap := by
    rcases hc with ⟨h1, h2⟩ | ⟨b, cap, h1, _⟩
    · exact ⟨_, _, by rw [he, h1, h2]⟩
    · exact ⟨_, _, by rw [he, h1]⟩
  obtain ⟨a', cap, hu⟩ := hu
  refine .inl ⟨by simp [Region.wanted], fun w' => ?_⟩
  obtain ⟨r, z, h1, h2, h3⟩ := aLen_sound (P := P) (ty := ty) (E := E) (w := w') (A := fun _ _ => False) (t := t) (K := fun y => y = .v (.int .i64 n)) (Rp.v (.slice a' n cap)) (by simp [aLen, ht])
  subst h3
  cases h2
  simp only [execOp, resolve, Sem.run_bind, Sem.run_pure, Result.andThen_ok, invoke, builtin, List.map_toArray, List.map_cons, List.map_nil, hu, h1]
theorem AAny_dataOwn (i : Nat) {d t ty id n e sz : Nat} {x : Operand} {pos : String} {after : Array Edge} {xs : List (List AV)} (hi : l[i]? = some { dst := some d, op := .call { callee := .builtin .unsafeSliceData, args := ⟨[x]⟩, argTypes := ⟨[t]⟩ }, type := ty, pos := pos, after := after, guard := none })
    (hs : Region.noSelect l.toArray = true) (hf : Region.free .any l.toArray listed i = true) (hr : (Region.ready .any l.toArray listed).contains i = true) (hQ : ∀ c st, ¬ Q (.panic c) st)
    (hx : st.ev x = .own id n) (hg : getO st.os id = some (.row e sz xs)) (hn : n = xs.length) (h0 : 0 < n)
    (h : AAny P l Q H fuel (listed.setIfInBounds i true) (st.put (some d) (.rptr id n sz 0 0))) : AAny P l Q H (fuel + 1) listed st := by
  refine AAny_takeY i hi hs hf hr hQ (fun A0 Er os0 w0 E a w hsim => ?_) h
  obtain ⟨hv, hcnt, he, hc⟩ := own_slice hsim hx hg hn
  rcases hc with ⟨_, h2⟩ | ⟨b, cap, h1, hcap⟩
  · omega
  refine ⟨.pointer (some ⟨b, 0, none⟩), .rptr hv (by omega) (fun _ => ⟨by rw [h1]; rfl, by simp⟩), .inl ⟨by simp [Region.wanted], fun w' => ?_⟩⟩
  have hu := Lib.run_unsafeSliceData_row (P := P) w' #[t] ty ⟨b, 0, none⟩ n cap (by omega)
  simp only [execOp, resolve, Sem.run_bind, Sem.run_pure, Result.andThen_ok, invoke, builtin, List.map_toArray, List.map_cons, List.map_nil, he, h1, hu]
theorem AAny_str {i : Nat} (hr : Region.ready .any l.toArray listed = [i]) {d pt it ty id k e : Nat} {p n : Operand} {pos : String} {after : Array Edge} {bs : ByteArray} (hi : l[i]? = some { dst := some d, op := .call { callee := .builtin .unsafeString, args := ⟨[p, n]⟩, argTypes := ⟨[pt, it]⟩ }, type := ty, pos := pos, after := after, guard := none })
    (hp : st.ev p = .rptr id k 1 0 0) (hn : st.ev n = .v (.int .i64 k)) (hg : getO st.os id = some (.row e 1 (strRows bs))) (hk : k = bs.size) (h0 : 0 < bs.size) (hpt : P.underlying pt = some (.pointer e)) (hc : P.cellsOf e = 1)
    (h : AAny P l Q H fuel (listed.setIfInBounds i true) (({ st with os := delO st.os id } : St).put (some d) (.v (.string bs)))) : AAny P l Q H (fuel + 1) listed st := by
  have val : ∀ (s : Sem Value) (v : Value) (w w' : World), s.run P w = .ok v w' → ((do pure (.value (← s))) : Sem Next).run P w = .ok (.value v) w' := fun s v w w' h => by
    simp only [Sem.run_bind, h, Result.andThen_ok, Sem.run_pure]
  intro A0 Er os0 w0 E a w hE hW hsim
  subst hk
  refine wpAnyH_all hr (by simp) fun j hj => ?_
  obtain rfl : j = i := by simpa using hj
  obtain ⟨b, cap, cells, hcur, hcap, hsh, hcells, hcm, hcell, hsim'⟩ := hsim.freezeRow hg h0
  have hcnt : E.cnt id = bs.size := by
    have := (hsim.os.ok id _ hg).2.1
    rw [strRows_len] at this; exact this
  have hpr := hsim.ev p
  rw [hp] at hpr
  generalize hpv : a.eval p = pv at hpr
  have hnr := hsim.ev n
  rw [hn] at hnr
  generalize hnv : a.eval n = nv at hnr
  cases hnr
  cases hpr with
  | @rptr _ _ _ _ _ a' hv hl hcu =>
    obtain ⟨h1, h2⟩ := hcu hcnt.symm
    rw [hcur] at h1
    simp only [Value.ownBlock, Option.some.injEq] at h1
    rw [← h1] at h2
    simp only [Nat.zero_mul, Nat.zero_add] at h2
    subst h2
    have hlen : bs.data.toList.length = bs.size := Array.length_toList
    have hrun := Lib.run_unsafeString_row (P := P) w pt it ty e hpt hc b cells hsh bs.data.toList (by intro e; rw [e] at hlen; simp at hlen; omega) (by omega) (by unfold maxLen at hcm; omega) hcell
    rw [hlen] at hrun
    have hbs : (⟨bs.data.toList.toArray⟩ : ByteArray) = bs := by cases bs; simp
    rw [hbs] at hrun
    unfold wpOp
    simp only [List.getElem?_toArray, hi]
    rw [if_pos (by simp [Region.wanted])]
    refine .inl ?_
    unfold Oper.wp
    simp only [execOp, resolve, Sem.run_bind, Sem.run_pure, Result.andThen_ok, invoke, builtin, List.map_toArray, List.map_cons, List.map_nil, hpv, hnv, hrun, Oper.upon_value]
    have hW' : HeldW Er H (w.freeze ⟨b, 0, none⟩ bs.size) := fun k hk j c x hj hx => by rw [cell_freeze]; exact hW k hk j c x hj hx
    exact ⟨hW', h A0 Er os0 w0 E _ _ hE hW' (hsim'.set (.v _) (some d))⟩
end
end Go.Proofs.YtmepcmphcghbeaaDoor
