/- Texts of the abstract walk, of the contracts and of the plain laws, packed (part 16 of 48): Ab14. Conditions: none. -/
import Derived.Test.YtmepcmphcghbeaaDoorPk15
import Derived.OrdersHeld
namespace Go.Proofs.YtmepcmphcghbeaaDoor
open Go Go.RowKit
set_option linter.unnecessarySimpa false
abbrev Held := List (Nat × Nat × List AV)
def exactV (E : Env) : AV → Option Value
  | .v x => some x
  | .map id => some (.map (some (E.blk id)))
  | .ptr id off => some (.pointer (some ⟨E.blk id, off, none⟩))
  | .own id _ => some (E.cur id)
  | _ => none
def isEx : AV → Bool
  | .v _ | .map _ | .ptr _ _ | .own _ _ => true
  | _ => false
def exOk (E : Env) : AV → Prop
  | .v _ => True
  | .map id | .ptr id _ => E.valid id
  | .own id n => E.valid id ∧ E.cnt id = n ∧ (E.cur id).oneCell' = true
  | _ => False
def CurOk (os : Os) : AV → Prop
  | .own id n => match getO os id with
    | some (.row _ _ xs) => n = xs.length
    | _ => False
  | _ => True
def CurL (os : Os) : List AV → Prop
  | [] => True
  | c :: l => CurOk os c ∧ CurL os l
theorem CurL.mem {os : Os} : ∀ {l : List AV}, CurL os l → ∀ c ∈ l, CurOk os c
  | x :: l, h, c, hc => by
    rcases List.mem_cons.1 hc with e | hc
    · rw [e]; exact h.1
    · exact CurL.mem h.2 c hc
theorem CurOk.cnt {A0 : Nat → Nat → Prop} {E : Env} {os : Os} {w : World} (hos : OsOk A0 E os w) {id n : Nat} (h : CurOk os (.own id n)) : E.cnt id = n ∧ E.valid id := by
  unfold CurOk at h
  simp only at h
  split at h
  · rename_i hg
    obtain ⟨h1, h2, _⟩ := hos.ok _ _ hg
    exact ⟨h2.trans h.symm, h1⟩
  · exact h.elim
theorem exact_of {E Er : Env} {A : Nat → Nat → Prop} {w : World} {c : AV} {u : Value} (hx : exOk Er c) (he : Ext Er E) (hc : ∀ id n, c = .own id n → E.cnt id = n) (hr : Rp E A w c u) : exactV Er c = some u := by
  cases c with
  | own id n =>
    cases hr with
    | own hv hl hcur h1 =>
      have h9 := hc id n rfl
      rw [hcur h9.symm]
      simp only [exactV]
      rw [he.cur id hx.1 (by rw [h9, hx.2.1])]
  | v x => cases hr; rfl
  | map id => cases hr; simp only [exactV]; rw [he.blk _ hx]
  | ptr id off => cases hr; simp only [exactV]; rw [he.blk _ hx]
  | _ => exact hx.elim
theorem exact_rp {E : Env} {A : Nat → Nat → Prop} {w : World} {c : AV} {u : Value} (hx : exOk E c) (h : exactV E c = some u) : Rp E A w c u := by
  cases c with
  | own id n => simp only [exactV, Option.some.injEq] at h; subst h; exact .own hx.1 (by rw [hx.2.1]; exact Nat.le_refl _) (fun _ => rfl) hx.2.2
  | v x => simp only [exactV, Option.some.injEq] at h; subst h; exact .v x
  | map id => simp only [exactV, Option.some.injEq] at h; subst h; exact .map hx
  | ptr id off => simp only [exactV, Option.some.injEq] at h; subst h; exact .ptr hx
  | _ => exact hx.elim
theorem exOk_of {E : Env} {A : Nat → Nat → Prop} {w : World} {c : AV} {u : Value} (hx : isEx c = true) (hc : ∀ id n, c = .own id n → E.cnt id = n) (hr : Rp E A w c u) : exOk E c := by
  cases c with
  | own id n =>
    cases hr with
    | own hv hl hcur h1 =>
      have h9 := hc id n rfl
      exact ⟨hv, h9, by rw [← hcur h9.symm]; exact h1⟩
  | v x => trivial
  | map id => cases hr with | map hv => exact hv
  | ptr id off => cases hr with | ptr hv => exact hv
  | _ => cases hx
def HeldW (E : Env) (H : Held) (w : World) : Prop := ∀ h ∈ H, ∀ (j : Nat) (c : AV) (x : Value), h.2.2[j]? = some c → exactV E c = some x → w.cell? ⟨E.blk h.1, h.2.1 + j, none⟩ = some x
def HeldE (E : Env) (H : Held) : Prop := ∀ h ∈ H, E.valid h.1 ∧ ∀ c ∈ h.2.2, exOk E c
def HeldS : Held → St → Prop
  | [], _ => True
  | h :: H, st => (∃ t cs, getO st.os h.1 = some (.cells t cs) ∧ h.2.1 + h.2.2.length ≤ cs.length ∧ (cs.drop h.2.1).take h.2.2.length = h.2.2 ∧ CurL st.os h.2.2) ∧ HeldS H st
theorem HeldS.mem {st : St} : ∀ {H : Held}, HeldS H st → ∀ h ∈ H, ∃ t cs, getO st.os h.1 = some (.cells t cs) ∧ h.2.1 + h.2.2.length ≤ cs.length ∧ (cs.drop h.2.1).take h.2.2.length = h.2.2 ∧ CurL st.os h.2.2
  | h :: H, hs, k, hk => by
    rcases List.mem_cons.1 hk with rfl | hk
    · exact hs.1
    · exact HeldS.mem hs.2 k hk
section
variable {P : Program} {A0 : Nat → Nat → Prop} {E0 : Env} {os0 : Os} {w0 : World} {E Er : Env} {st : St} {a : Act} {w : World} {H : Held}
theorem heldCell (h : SimC A0 E0 os0 w0 E st a w) {k : Nat × Nat × List AV} {t : Nat} {cs : List AV} (hg : getO st.os k.1 = some (.cells t cs)) (hl : k.2.1 + k.2.2.length ≤ cs.length) (ht : (cs.drop k.2.1).take k.2.2.length = k.2.2)
    {j : Nat} {c : AV} (hj : k.2.2[j]? = some c) : ∃ u, w.cell? ⟨E.blk k.1, k.2.1 + j, none⟩ = some u ∧ Rp E (AvX A0 E st.os) w c u := by
  obtain ⟨hv, cur, hh, hsz, hr⟩ := h.os.ok _ _ hg
  have hlt : j < k.2.2.length := (List.getElem?_eq_some_iff.1 hj).1
  have hcs : cs[k.2.1 + j]? = some c := by
    rw [← ht] at hj
    rw [List.getElem?_take] at hj
    rw [if_pos hlt, List.getElem?_drop] at hj
    exact hj
  have hlt' : k.2.1 + j < cur.size := by omega
  have h2 : cur[k.2.1 + j]? = some cur[k.2.1 + j] := Array.getElem?_eq_getElem hlt'
  exact ⟨_, by rw [cell_of_row w _ _ cur t (0, 0) hh, h2], hr _ _ _ hcs h2⟩
theorem heldW_of (h : SimC A0 E0 os0 w0 E st a w) (hs : HeldS H st) (he : Ext Er E) (hE : HeldE Er H) : HeldW Er H w := by
  intro k hk j c x hj hx
  obtain ⟨t, cs, hg, hl, ht, hcu⟩ := hs.mem k hk
  obtain ⟨u, hu, hr⟩ := heldCell h hg hl ht hj
  have hcm := List.mem_of_getElem? hj
  have := exact_of ((hE k hk).2 c hcm) he (fun id n e => by subst e; exact ((hcu.mem _ hcm).cnt h.os).1) hr
  rw [hx] at this; cases this
  rw [← he.blk _ (hE k hk).1]; exact hu
theorem heldE_of (h : SimC A0 E0 os0 w0 E st a w) (hs : HeldS H st) (hx : (H.all fun k => k.2.2.all isEx) = true) : HeldE E H := by
  intro k hk
  obtain ⟨t, cs, hg, hl, ht, hcu⟩ := hs.mem k hk
  refine ⟨(h.os.ok _ _ hg).1, fun c hc => ?_⟩
  obtain ⟨j, hj, e⟩ := List.mem_iff_getElem.1 hc
  obtain ⟨u, hu, hr⟩ := heldCell h hg hl ht (j := j) (c := c) (by rw [List.getElem?_eq_getElem hj, e])
  exact exOk_of (List.all_eq_true.1 (List.all_eq_true.1 hx k hk) c hc) (fun id n e => by subst e; exact ((hcu.mem _ hc).cnt h.os).1) hr
end
def AAny (P : Program) (l : List Oper) (Q : Exit → St → Prop) (H : Held) (fuel : Nat) (listed : Array Bool) (st : St) : Prop :=
  ∀ A0 Er os0 w0 E a w, HeldE Er H → HeldW Er H w → SimC A0 Er os0 w0 E st a w →
    wpAnyH P .any l.toArray (fun e a' w' => ∃ st' E', Q e st' ∧ SimC A0 Er os0 w0 E' st' a' w') (HeldW Er H) fuel listed a w
section
variable {P : Program} {l : List Oper} {Q : Exit → St → Prop} {H : Held} {fuel : Nat} {listed : Array Bool} {st : St}
theorem SimC.drew {A0 : Nat → Nat → Prop} {E0 : Env} {os0 : Os} {w0 : World} {E : Env} {a : Act} {w : World} (h : SimC A0 E0 os0 w0 E st a w) : SimC A0 E0 os0 w0 E st a { w with drawn := w.drawn + 1 } := by
  have hb : Below w.heap.size w { w with drawn := w.drawn + 1 } := (Below.refl _ w).drew
  exact h.upd (.refl E) (.of_below hb) (fun b o ha => .inl ha) (h.os.keep hb) h.nx
theorem SimC.rebase {A0 : Nat → Nat → Prop} {E0 : Env} {os0 : Os} {w0 : World} {E : Env} {a : Act} {w : World} (h : SimC A0 E0 os0 w0 E st a w) : SimC A0 E st.os w E { st with n0 := st.nx } a w :=
  ⟨h.size, h.sl, h.os, h.nx, h.defers, h.hbl, .refl E, .refl _ w, fun b o ha => .inl ha, fun id hv => (h.nx id).1 hv⟩
theorem SimC.over {A0 : Nat → Nat → Prop} {E0 : Env} {os0 : Os} {w0 : World} {E E' : Env} {a a' : Act} {w w' : World} {st' : St} (h : SimC A0 E0 os0 w0 E st a w) (h' : SimC A0 E st.os w E' st' a' w') : SimC A0 E0 os0 w0 E' { st' with n0 := st.n0 } a' w' :=
  ⟨h'.size, h'.sl, h'.os, h'.nx, h'.defers, h'.hbl, h.ext.trans h'.ext, h.stp.trans h'.stp h.sub, fun b o ha => (h'.sub b o ha).elim (h.sub b o) (fun hh => .inr (Nat.le_trans h.stp.size hh)), h.base⟩
theorem AAny_start {ro : Option Nat} {id : Nat} (H : Held) (n : Nat) (hn : l.length = n) (hm : P.follows .mixedOrders = true) (hs : HeldS H st) (hx : (H.all fun k => k.2.2.all isEx) = true)
    (h : AAny P l (fun e st' => Q e { st' with n0 := st.n0 }) H n (Array.replicate n false) { st with n0 := st.nx }) :
    AWp ro P (.region id l.toArray true) Q st := fun hno hnd A0 E0 os0 w0 E a w hsim => by
  subst hn
  have h0 := hsim.drew
  have h1 := h0.rebase
  have hsD : HeldS H { st with n0 := st.nx } := by
    clear h
    induction H with
    | nil => trivial
    | cons k H ih => exact ⟨hs.1, ih hs.2 (by simp only [List.all_cons, Bool.and_eq_true] at hx; exact hx.2)⟩
  have hE := heldE_of h1 hsD hx
  have h2 := h A0 E _ _ E a _ hE (heldW_of h1 hsD (.refl E) hE) h1
  have h3 : l.toArray.size = l.length := by simp
  rw [← h3] at h2
  refine wpIn_mono (rn_region_held hm hnd ?_ h2) ?_
  · rintro ⟨_, _, _, _, q, _⟩
    exact hno _ q
  rintro e a' w' ⟨st', E', hq, hs'⟩
  exact ⟨_, E', hq, h0.over hs'⟩
theorem AAny_done (hr : Region.ready .any l.toArray listed = []) (h : Q .normal st) : AAny P l Q H fuel listed st := fun _ _ _ _ E _ _ _ _ hsim => wpAnyH_done hr ⟨st, E, h, hsim⟩ fuel
def aQuiet (P : Program) (o : Oper) (ev : Operand → AV) (K : AV → Prop) : Prop :=
  o.guard = none ∧ match o.op with
  | .move y => K (ev y)
  | .assign y => K (ev y)
  | .fieldAddr s x f => match fieldOff P s f, ev x with | some o, .ptr id off => K (.ptr id (off + o)) | _, _ => False
  | .nilCheck x => match ev x with | .ptr id off => K (.ptr id off) | _ => False
  | .extract x i => aExtract (ev x) i K
  | .call { callee := .builtin .len, args := ⟨[x]⟩, argTypes := ⟨[t]⟩ } => lenT P t = some true ∧ match ev x with | .sl _ xs => K (.v (.int .i64 xs.length)) | .osl _ _ xs => K (.v (.int .i64 xs.length)) | _ => False
  | _ => False
theorem Rp.slShape {E : Env} {A : Nat → Nat → Prop} {w : World} {sz : Nat} {xs : List (List AV)} {u : Value} (h : Rp E A w (.sl sz xs) u) : ∃ a cap, u = .slice a xs.length cap := by
  cases h with
  | sl0 hc => exact ⟨_, _, rfl⟩
  | sl g hn hcap hc _ _ _ => subst hn; exact ⟨_, _, rfl⟩
theorem aQuiet_sound {A0 : Nat → Nat → Prop} {E0 : Env} {os0 : Os} {w0 : World} {E : Env} {a : Act} {w : World} {o : Oper} {K : AV → Prop} (h : SimC A0 E0 os0 w0 E st a w) (hq : aQuiet P o st.ev K) :
    ∃ x v, K x ∧ Rp E (AvX A0 E st.os) w x v ∧ Yields P l.toArray o v a := by
  obtain ⟨dst, op, ty, pos, after, guard⟩ := o
  obtain ⟨hg, hq⟩ := hq
  simp only at hg hq
  subst hg
  have wanted : ∀ v, (∀ w, (execOp a.eval { dst := dst, op := op, type := ty, pos := pos, after := after, guard := none }).run P w = .ok (.value v) w) → Yields P l.toArray { dst := dst, op := op, type := ty, pos := pos, after := after, guard := none } v a := fun v hv =>
    .inl ⟨by simp [Region.wanted], hv⟩
  split at hq
  · rename_i y; exact ⟨_, _, hq, h.ev y, wanted _ fun w => by simp [execOp]⟩
  · rename_i y; exact ⟨_, _, hq, h.ev y, wanted _ fun w => by simp [execOp]⟩
  · rename_i s x f
    split at hq
    case h_2 => exact hq.elim
    rename_i o id off ho hx
    have hr := h.ev x
    rw [hx] at hr
    generalize hu : a.eval x = u at hr
    cases hr with
    | ptr hv =>
      refine ⟨.ptr id (off + o), .pointer (some ⟨E.blk id, off + o, none⟩), hq, .ptr hv, wanted _ fun w' => ?_⟩
      have key : aField P s f (.ptr id off) (fun y => y = .ptr id (off + o)) := by simp [aField, ho]
      obtain ⟨y, v, h1, h2, h3⟩ := aField_sound (P := P) (E := E) (A := fun _ _ => False) (w := w') (Rp.ptr hv) key
      subst h3
      cases h2
      simp only [execOp, hu, Sem.run_bind, h1, Result.andThen_ok, Sem.run_pure]
  · rename_i x
    split at hq
    case h_2 => exact hq.elim
    rename_i id off hx
    have hr := h.ev x
    rw [hx] at hr
    generalize hu : a.eval x = u at hr
    cases hr with
    | ptr hv => exact ⟨.ptr id off, _, hq, .ptr hv, wanted _ fun w' => by simp [execOp, hu]⟩
  · rename_i x i
    unfold aExtract at hq
    split at hq
    case h_2 => exact hq.elim
    rename_i cs hx
    obtain ⟨hi, hk⟩ := hq
    have hr := h.ev x
    rw [hx] at hr
    generalize hu : a.eval x = u at hr
    cases hr with
    | @tup _ us hus hrr =>
      have g1 : us[i]? = some us[i] := Array.getElem?_eq_getElem (by omega)
      have g2 : cs[i]? = some (cs.getD i .any) := by rw [List.getD_eq_getElem?_getD, List.getElem?_eq_getElem hi]; rfl
      exact ⟨_, us[i], hk, hrr i _ _ g2 g1, wanted _ fun w' => by simp [execOp, hu, Instr.extract, g1]⟩
  · rename_i x t
    obtain ⟨hlt, hq⟩ := hq
    have hr := h.ev x
    have key : ∀ xs : List (List AV), (∃ a' cap, a.eval x = .slice a' xs.length cap) → K (.v (.int .i64 xs.length)) →
        ∃ y v, K y ∧ Rp E (AvX A0 E st.os) w y v ∧ Yields P l.toArray { dst := dst, op := .call { callee := .builtin .len, args := ⟨[x]⟩, argTypes := ⟨[t]⟩ }, type := ty, pos := pos, after := after, guard := none } v a := by
      rintro xs ⟨a', cap, hu⟩ hk
      refine ⟨_, .int .i64 xs.length, hk, .v _, wanted _ fun w' => ?_⟩
      obtain ⟨r, z, h1, h2, h3⟩ := aLen_sound (P := P) (ty := ty) (E := E) (w := w') (A := fun _ _ => False) (t := t) (K := fun y => y = .v (.int .i64 xs.length)) (Rp.v (.slice a' xs.length cap)) (by simp [aLen, hlt])
      subst h3
      cases h2
      simp only [execOp, resolve, Sem.run_bind, Sem.run_pure, Result.andThen_ok, invoke, builtin, List.map_toArray, List.map_cons, List.map_nil, hu, h1]
    split at hq
    · rename_i sz xs hx; rw [hx] at hr; exact key xs hr.slShape hq
    · rename_i id sz xs hx; rw [hx] at hr; exact key xs (Le.oslL _ _ _ _ hr).slShape hq
    · exact hq.elim
  · exact hq.elim
theorem AAny_take (i : Nat) {o : Oper} (hi : l[i]? = some o) (hs : Region.noSelect l.toArray = true) (hf : Region.free .any l.toArray listed i = true) (hr : (Region.ready .any l.toArray listed).contains i = true)
    (hQ : ∀ c st, ¬ Q (.panic c) st) (h : aQuiet P o st.ev fun x => AAny P l Q H fuel (listed.setIfInBounds i true) (st.put o.dst x)) : AAny P l Q H (fuel + 1) listed st := by
  intro A0 Er os0 w0 E a w hE hW hsim
  have he := hsim.ext
  obtain ⟨x, v, hk, hrp, hy⟩ := aQuiet_sound (l := l) hsim h
  refine wpAnyH_take (oi := o) (v := v) (by simpa using hi) hs hf hr ?_ hy.yieldsIf hW ?_
  · rintro c a w ⟨st', E', hq, _⟩; exact absurd hq (hQ c st')
  · exact hk A0 Er os0 w0 E _ w hE hW (hsim.set hrp o.dst)
def aHeldLoad (P : Program) (o : Oper) (ev : Operand → AV) (os : Os) (vs : List AV) (id off : Nat) (K : AV → Prop) : Prop :=
  o.guard = none ∧ CurL os vs ∧ match o.op with
  | .load t x => match tinf P t with
    | some (agg, n) => ev x = .ptr id off ∧ vs.length = (if agg then n else 1) ∧ K (pack agg vs)
    | none => False
  | _ => False
theorem AAny_load (i : Nat) {o : Oper} (k : Nat) {id off : Nat} {vs : List AV} (hk : H[k]? = some (id, off, vs)) (hi : l[i]? = some o) (hs : Region.noSelect l.toArray = true) (hf : Region.free .any l.toArray listed i = true)
    (hr : (Region.ready .any l.toArray listed).contains i = true) (hQ : ∀ c st, ¬ Q (.panic c) st)
    (h : aHeldLoad P o st.ev st.os vs id off fun x => AAny P l Q H fuel (listed.setIfInBounds i true) (st.put o.dst x)) : AAny P l Q H (fuel + 1) listed st := by
  intro A0 Er os0 w0 E a w hE hW hsim
  have he := hsim.ext
  obtain ⟨dst, op, ty, pos, after, guard⟩ := o
  obtain ⟨hg, hcu, hq⟩ := h
  simp only at hg hq
  subst hg
  split at hq
  case h_2 => exact hq.elim
  rename_i t x
  split at hq
  case h_2 => exact hq.elim
  rename_i agg n ht
  obtain ⟨hx, hl, hK⟩ := hq
  have hmem := List.mem_of_getElem? hk
  obtain ⟨hv, hex⟩ := hE _ hmem
  have hr0 := hsim.ev x
  rw [hx] at hr0
  generalize hu : a.eval x = u at hr0
  cases hr0 with
  | ptr hv' =>
    have hb := he.blk _ hv
    -- the value in any world that holds the cells
    have load : ∀ w', HeldW Er H w' → ∃ v, (loadVar t ⟨Er.blk id, off, none⟩).run P w' = .ok v w' ∧ Rp Er (fun _ _ => False) w' (pack agg vs) v := fun w' hW' => by
      obtain ⟨v, h1, h2⟩ := run_loadVar_abs (P := P) (w := w') (E := Er) (A := fun _ _ => False) ht (Er.blk id) off vs (fun j => ((vs[j]?).bind (exactV Er)).getD undef) hl (fun j c hj => by
        have hxc := hex c (List.mem_of_getElem? hj)
        have : ∃ u, exactV Er c = some u := by
          cases c with
          | v x => exact ⟨_, rfl⟩
          | map id => exact ⟨_, rfl⟩
          | ptr id off => exact ⟨_, rfl⟩
          | own id n => exact ⟨_, rfl⟩
          | _ => exact hxc.elim
        obtain ⟨u, hu⟩ := this
        simp only [hj, Option.bind_some, hu, Option.getD_some]
        exact ⟨hW' _ hmem j c u hj hu, exact_rp hxc hu⟩)
      exact ⟨v, h1, h2⟩
    have hown : ∀ c, exOk Er c → ∀ id n, c = .own id n → Er.cnt id = n := fun c hc id n e => by subst e; exact hc.2.1
    -- it is one and the same
    have same : ∀ w' w'' v' v'', Rp Er (fun _ _ => False) w' (pack agg vs) v' → Rp Er (fun _ _ => False) w'' (pack agg vs) v'' → agg = true ∨ vs.length = 1 → v' = v'' := by
      intro w' w'' v' v'' h1 h2 hc
      cases agg with
      | true =>
        simp only [pack] at h1 h2
        cases h1 with
        | @agg _ us hs1 hr1 => cases h2 with
          | @agg _ us2 hs2 hr2 =>
            congr 1
            apply Array.ext
            · omega
            · intro j hj hj2
              have hjv : j < vs.length := by omega
              have hc1 := List.getElem?_eq_getElem hjv
              have hxc := hex _ (List.mem_of_getElem? hc1)
              have e1 := exact_of hxc (.refl Er) (hown _ hxc) (hr1 j _ _ hc1 (Array.getElem?_eq_getElem hj))
              have e2 := exact_of hxc (.refl Er) (hown _ hxc) (hr2 j _ _ hc1 (Array.getElem?_eq_getElem hj2))
              exact Option.some.inj (e1.symm.trans e2)
      | false =>
        have hl1 : vs.length = 1 := by rcases hc with h | h; cases h; exact h
        match vs, hl1, hex, h1, h2 with
        | [c], _, hex, h1, h2 =>
          simp only [pack] at h1 h2
          have hxc := hex c (by simp)
          have e1 := exact_of hxc (.refl Er) (hown _ hxc) h1
          have e2 := exact_of hxc (.refl Er) (hown _ hxc) h2
          exact Option.some.inj (e1.symm.trans e2)
    have hc : agg = true ∨ vs.length = 1 := by cases agg <;> simp_all
    obtain ⟨v, h1, h2⟩ := load w hW
    refine wpAnyH_take (oi := { dst := dst, op := .load t x, type := ty, pos := pos, after := after, guard := none }) (v := v) (by simpa using hi) hs hf hr ?_ ?_ hW ?_
    · rintro c a w ⟨st', E', hq, _⟩; exact absurd hq (hQ c st')
    · refine .inl ⟨by simp [Region.wanted], fun w' hW' => ?_⟩
      obtain ⟨v', h3, h4⟩ := load w' hW'
      obtain rfl := same w' w v' v h4 h2 hc
      simp only [execOp, hu, Instr.loadAt, Instr.sureAddr, Sem.run_bind, Sem.run_pure, Result.andThen_ok, hb, h3]
    · refine hK A0 Er os0 w0 E _ w hE hW (hsim.set (x := pack agg vs) ?_ dst)
      have hp : ∀ {v}, Rp Er (fun _ _ => False) w (pack agg vs) v → Rp E (AvX A0 E st.os) w (pack agg vs) v := by
        intro v hr
        have one : ∀ c ∈ vs, ∀ u, Rp Er (fun _ _ => False) w c u → Rp E (AvX A0 E st.os) w c u := fun c hc u hr => by
          have hxc := hex c hc
          cases c with
          | v y => cases hr; exact .v _
          | map id => cases hr; rw [← he.blk _ hxc]; exact .map (he.valid _ hxc)
          | ptr id off => cases hr; rw [← he.blk _ hxc]; exact .ptr (he.valid _ hxc)
          | own id n =>
            have h9 := ((hcu.mem _ hc).cnt hsim.os).1
            cases hr with
            | own hv hl hcur h1 => exact .own (he.valid _ hxc.1) (by rw [h9]; exact Nat.le_refl _) (fun _ => by rw [hcur hxc.2.1.symm, he.cur _ hxc.1 (by rw [h9, hxc.2.1])]) h1
          | _ => exact hxc.elim
        cases agg with
        | true =>
          simp only [pack] at hr ⊢
          cases hr with
          | agg hs hr => exact .agg hs fun i c u hc hu => one c (List.mem_of_getElem? hc) u (hr i c u hc hu)
        | false =>
          have hl1 : vs.length = 1 := by rcases hc with h | h; cases h; exact h
          match vs, hl1, one, hr with
          | [c], _, one, hr => exact one c (by simp) _ hr
      exact hp h2
def aAt (P : Program) (l : List Oper) (i : Nat) (st : St) (K : St → Prop) : Prop :=
  match l[i]? with
  | none => False
  | some o => aWant l o st (aop P o st K) (K (st.put o.dst (.v undef)))
theorem AAny_all {rs : List Nat} (hr : Region.ready .any l.toArray listed = rs) (hne : rs ≠ [])
    (h : ∀ i ∈ rs, aAt P l i st fun st' => HeldS H st' ∧ AAny P l Q H fuel (listed.setIfInBounds i true) st') : AAny P l Q H (fuel + 1) listed st := by
  intro A0 Er os0 w0 E a w hE hW hsim
  have he := hsim.ext
  refine wpAnyH_all hr hne fun i hi => ?_
  have h1 := h i hi
  unfold aAt at h1
  split at h1
  · exact h1.elim
  rename_i o ho
  unfold wpOp
  simp only [List.getElem?_toArray, ho]
  have next : ∀ {E' : Env} {st' : St} {a' : Act} {w' : World}, SimC A0 Er os0 w0 E' st' a' w' → HeldS H st' ∧ AAny P l Q H fuel (listed.setIfInBounds i true) st' →
      HeldW Er H w' ∧ wpAnyH P .any l.toArray (fun e a' w' => ∃ st' E', Q e st' ∧ SimC A0 Er os0 w0 E' st' a' w') (HeldW Er H) fuel (listed.setIfInBounds i true) a' w' := fun s ⟨hH, hk⟩ => by
    have h9 := heldW_of s hH s.ext hE
    exact ⟨h9, hk A0 Er os0 w0 _ _ _ hE h9 s⟩
  rcases aWant_sound hsim h1 with ⟨hw, hop⟩ | ⟨hw, hk⟩
  · rw [if_pos hw]
    refine .inl (Oper.wp_mono (fun a' w' hh => ?_) (aop_sound hsim hop))
    obtain ⟨st', E', q, s⟩ := hh
    exact next s q
  · rw [hw]
    simp only [Bool.false_eq_true, if_false]
    exact next (hsim.set (.v _) o.dst) hk
theorem AAny_takeK (i : Nat) {o : Oper} (hi : l[i]? = some o) (hs : Region.noSelect l.toArray = true) (hf : Region.free .any l.toArray listed i = true) (hr : (Region.ready .any l.toArray listed).contains i = true)
    (hQ : ∀ c st, ¬ Q (.panic c) st) (h : ∀ K : St → Prop, (∀ st', AAny P l Q H fuel (listed.setIfInBounds i true) st' → K st') → aQuiet P o st.ev fun x => K (st.put o.dst x)) : AAny P l Q H (fuel + 1) listed st :=
  AAny_take i hi hs hf hr hQ (h _ fun _ h => h)
theorem AAny_loadK (i : Nat) {o : Oper} (k : Nat) {id off : Nat} {vs : List AV} (hk : H[k]? = some (id, off, vs)) (hi : l[i]? = some o) (hs : Region.noSelect l.toArray = true) (hf : Region.free .any l.toArray listed i = true)
    (hr : (Region.ready .any l.toArray listed).contains i = true) (hQ : ∀ c st, ¬ Q (.panic c) st)
    (h : ∀ K : St → Prop, (∀ st', AAny P l Q H fuel (listed.setIfInBounds i true) st' → K st') → aHeldLoad P o st.ev st.os vs id off fun x => K (st.put o.dst x)) : AAny P l Q H (fuel + 1) listed st :=
  AAny_load i k hk hi hs hf hr hQ (h _ fun _ h => h)
theorem aAt_op {i : Nat} {K : St → Prop} {o : Oper} (hi : l[i]? = some o) (hg : o.guard = none) (h : ∀ K' : St → Prop, (∀ st', K st' → K' st') → aop P o st K') : aAt P l i st K := by
  unfold aAt
  rw [hi]
  simp only [aWant, hg]
  exact h _ fun _ h => h
theorem AAny_all1 {i : Nat} (hr : Region.ready .any l.toArray listed = [i]) (h : aAt P l i st fun st' => HeldS H st' ∧ AAny P l Q H fuel (listed.setIfInBounds i true) st') : AAny P l Q H (fuel + 1) listed st :=
  AAny_all hr (by simp) (by simpa using h)
theorem AAny_all2 {i j : Nat} (hr : Region.ready .any l.toArray listed = [i, j]) (h : aAt P l i st fun st' => HeldS H st' ∧ AAny P l Q H fuel (listed.setIfInBounds i true) st')
    (h2 : aAt P l j st fun st' => HeldS H st' ∧ AAny P l Q H fuel (listed.setIfInBounds j true) st') : AAny P l Q H (fuel + 1) listed st :=
  AAny_all hr (by simp) (by simpa using ⟨h, h2⟩)
end
theorem AWp_joinZ {ro : Option Nat} {P : Program} {Q : Exit → St → Prop} {st : St} {x y : Code} (mask : List Bool) (upd : List (Nat × AV)) (os' : Os) (nx' : Nat) (C : Prop)
    (h1 : AWp ro P x (thenQ (fun st' => C ∧ Weak st' ⟨setsL (maskL mask st.sl) upd, os', nx', st.n0⟩) Q) st)
    (h2 : C → AWp ro P y Q ⟨setsL (maskL mask st.sl) upd, os', nx', st.n0⟩) : AWp ro P (.seq x y) Q st :=
  AWp_seq (h1.mono fun e st' q => by
    cases e with
    | normal => exact AWp_weak q.2 (h2 q.1)
    | _ => exact q)
end Go.Proofs.YtmepcmphcghbeaaDoor
