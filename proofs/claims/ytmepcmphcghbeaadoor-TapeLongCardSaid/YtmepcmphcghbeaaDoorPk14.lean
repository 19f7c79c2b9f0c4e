/- Texts of the abstract walk, of the contracts and of the plain laws, packed (part 14 of 48): Ab12. Conditions: none. -/
import Derived.Test.YtmepcmphcghbeaaDoorPk13
namespace Go.Proofs.YtmepcmphcghbeaaDoor
open Go Go.RowKit
set_option linter.unnecessarySimpa false
section
variable {P : Program} {ops l : List Oper} {os : Os} {st : St} {K : St → Prop}
theorem dOp_mono {o : Oper} {K' : St → Prop} (h : ∀ x, K x → K' x) (hk : dOp P os o st K) : dOp P os o st K' := by
  unfold dOp at hk ⊢
  split at hk
  · split at hk <;> first | exact h _ hk | exact hk.elim
  · exact h _ hk
  · split at hk
    · refine ⟨hk.1, hk.2.1, ?_⟩
      have hk := hk.2.2
      split
      · rename_i hn; rw [if_pos hn] at hk; exact h _ hk
      · rename_i hn; rw [if_neg hn] at hk; exact ⟨hk.1, h _ hk.2⟩
    · exact hk.elim
  · split at hk
    · obtain ⟨x, h1, h2⟩ := hk; exact ⟨x, h1, h _ h2⟩
    · exact hk.elim
  · obtain ⟨x, h1, h2⟩ := hk; exact ⟨x, h1, h _ h2⟩
theorem dRun_append : ∀ (a b : List Oper) (st : St) (K : St → Prop), dRun P ops os a st (fun st' => dRun P ops os b st' K) → dRun P ops os (a ++ b) st K
  | [], b, st, K, h => h
  | o :: a, b, st, K, h => by
    simp only [List.cons_append, dRun] at h ⊢
    unfold aWant at h ⊢
    have mono : ∀ st, (dOp P os o st fun st' => dRun P ops os a st' fun st' => dRun P ops os b st' K) → dOp P os o st fun st' => dRun P ops os (a ++ b) st' K := fun st h =>
      dOp_mono (fun st' h => dRun_append a b st' K h) h
    split at h
    · exact mono _ h
    · split at h
      · exact dRun_append a b _ _ h
      · split at h
        · split at h
          · rename_i hb; rw [if_pos hb]; exact mono _ h
          · rename_i hb; rw [if_neg hb]; exact dRun_append a b _ _ h
        · exact dRun_append a b _ _ h
        · exact h.elim
theorem dRun_chunk (n : Nat) (h : ∀ K' : St → Prop, (∀ st', dRun P ops os (l.drop n) st' K → K' st') → dRun P ops os (l.take n) st K') : dRun P ops os l st K := by
  have := dRun_append (P := P) (ops := ops) (os := os) (l.take n) (l.drop n) st K (h _ fun _ h => h)
  rwa [List.take_append_drop] at this
end
theorem AWp_drawK {ro : Option Nat} {P : Program} {Q : Exit → St → Prop} {st : St} {id : Nat} {l : List Oper} (m : Nat) (hm : P.follows .mixedOrders = true) (hB : drawB l.toArray m = true)
    (h : ∀ K : St → Prop, (∀ st', aops P l (l.drop m) st' (Q .normal) → K st') → dRun P l st.os (l.take m) st K) : AWp ro P (.region id l.toArray true) Q st :=
  AWp_draw m hm hB (h _ fun _ h => h)
def Env.cut (E : Env) (n : Nat) : Env := { E with valid := fun id => E.valid id ∧ id < n }
def Und (n : Nat) (x : AV) : Prop := ∀ E A w v, Rp E A w x v → Rp (E.cut n) A w x v
theorem Und.data {n : Nat} {x : AV} (h : Data x) : Und n x := fun E A w v hr => h E _ A w v hr
theorem Und.any (n : Nat) : Und n .any := .data .any
theorem Und.v (n : Nat) (x : Value) : Und n (.v x) := .data (.v x)
theorem Und.ptr {n id off : Nat} (h : id < n) : Und n (.ptr id off) := fun E A w v hr => by
  cases hr with | ptr hv => exact .ptr (E := E.cut n) ⟨hv, h⟩
theorem Und.map {n id : Nat} (h : id < n) : Und n (.map id) := fun E A w v hr => by
  cases hr with | map hv => exact .map (E := E.cut n) ⟨hv, h⟩
theorem Und.yld {n id : Nat} (h : id < n) : Und n (.yld id) := fun E A w v hr => by
  cases hr with | yld hv => exact .yld (E := E.cut n) ⟨hv, h⟩
theorem Und.own {n id k : Nat} (h : id < n) : Und n (.own id k) := fun E A w v hr => by
  cases hr with | own hv hl hc h1 => exact .own (E := E.cut n) ⟨hv, h⟩ hl hc h1
theorem Und.osl {n id sz : Nat} {xs : List (List AV)} (h : id < n) (hx : Und n (.sl sz xs)) : Und n (.osl id sz xs) := fun E A w v hr => by
  cases hr with | osl hv hs hl hc => exact .osl (E := E.cut n) ⟨hv, h⟩ (hx E A w v hs) hl hc
def UndL (n : Nat) : List AV → Prop
  | [] => True
  | x :: l => Und n x ∧ UndL n l
theorem UndL.mem {n : Nat} : ∀ {l : List AV}, UndL n l → ∀ x ∈ l, Und n x
  | x :: l, h, y, hy => by
    rcases List.mem_cons.1 hy with rfl | hy
    · exact h.1
    · exact UndL.mem h.2 y hy
theorem UndL.append {n : Nat} : ∀ {l m : List AV}, UndL n l → UndL n m → UndL n (l ++ m)
  | [], _, _, h => h
  | _ :: _, _, h, h' => ⟨h.1, h.2.append h'⟩
theorem UndL.data {n : Nat} : ∀ {l : List AV}, DataL l → UndL n l
  | [], _ => trivial
  | x :: l, h => ⟨.data (h x (by simp)), .data fun y hy => h y (by simp [hy])⟩
def Ob.Und (n : Nat) : Ob → Prop
  | .cells _ cs => UndL n cs
  | .tok .. => True
  | .row _ _ xs => ∀ x ∈ xs, UndL n x
  | .map es => ∀ p ∈ es, Go.Proofs.YtmepcmphcghbeaaDoor.Und n p.2
  | .raw _ => True
  | .loop _ sl => UndL n sl
def UndOs (n : Nat) : Os → Prop
  | [] => True
  | (id, ob) :: os => id < n ∧ ob.Und n ∧ UndOs n os
theorem UndOs.get {n : Nat} : ∀ {os : Os}, UndOs n os → ∀ id ob, getO os id = some ob → id < n ∧ ob.Und n
  | (i, o) :: os, h, id, ob, hg => by
    simp only [getO] at hg
    split at hg
    · rename_i he; cases hg; subst he; exact ⟨h.1, h.2.1⟩
    · exact h.2.2.get id ob hg
theorem Ob.ok_cut {E : Env} {A : Nat → Nat → Prop} {w : World} {id n : Nat} {ob : Ob} (h : ob.ok E A w id) (hu : ob.Und n) : ob.ok (E.cut n) A w id := by
  cases ob with
  | cells t cs =>
    obtain ⟨cur, hh, hsz, hr⟩ := h
    exact ⟨cur, hh, hsz, fun i c u hc hcu => hu.mem c (List.mem_of_getElem? hc) E A w u (hr i c u hc hcu)⟩
  | tok t sz n => exact h
  | row t sz xs =>
    refine ⟨h.1, h.2.1, ?_⟩
    rcases h.2.2 with h0 | ⟨b, cap, cur, hs', hn, hcap, hh, hsz, hCC⟩
    · exact .inl h0
    · refine .inr ⟨b, cap, cur, hs', hn, hcap, hh, hsz, fun j c u hc hcu => ?_⟩
      obtain ⟨x, hx, hcx⟩ := List.mem_flatten.1 (List.mem_of_getElem? hc)
      exact (hu x hx).mem c hcx E A w u (hCC j c u hc hcu)
  | map es =>
    obtain ⟨ents, clock, hh, hsz, hr, hst⟩ := h
    exact ⟨ents, clock, hh, hsz, fun i p e hp he => ⟨(hr i p e hp he).1, hu p (List.mem_of_getElem? hp) E A w _ (hr i p e hp he).2⟩, hst⟩
  | raw o => exact h
  | loop r sl => exact ⟨h.1, h.2.1, fun i c u hc hcu => hu.mem c (List.mem_of_getElem? hc) E A w u (h.2.2 i c u hc hcu)⟩
theorem SimC.cut {A0 : Nat → Nat → Prop} {E0 : Env} {os0 : Os} {w0 : World} {E : Env} {st : St} {a : Act} {w : World} (h : SimC A0 E0 os0 w0 E st a w) {n : Nat} (hn : n ≤ st.nx) (h1 : UndL n st.sl) (h2 : UndOs n st.os)
    (h0 : st.n0 ≤ n) : SimC A0 E0 os0 w0 (E.cut n) { st with nx := n } a w where
  size := h.size
  sl i c u hc hu := h1.mem c (List.mem_of_getElem? hc) E _ w u (h.sl i c u hc hu)
  os := {
    ok := fun id ob hg => by
      obtain ⟨h3, h4⟩ := h2.get id ob hg
      obtain ⟨h5, h6⟩ := h.os.ok id ob hg
      exact ⟨⟨h5, h3⟩, Ob.ok_cut h6 h4⟩
    inj := h.os.inj
    out := h.os.out
    bnd := h.os.bnd
    gl := h.os.gl }
  nx id := by
    have := h.nx id
    simp only [Env.cut, this]
    omega
  defers := h.defers
  hbl := h.hbl
  ext := ⟨h.ext.hb, fun id hv => ⟨h.ext.valid id hv, Nat.lt_of_lt_of_le (h.base id hv) h0⟩, h.ext.blk, h.ext.cnt, h.ext.cur⟩
  stp := h.stp
  sub := h.sub
  base := h.base
theorem Weak.cut {st : St} {n : Nat} (hn : n ≤ st.nx) (h0 : st.n0 ≤ n) (h1 : UndL n st.sl) (h2 : UndOs n st.os) : Weak st { st with nx := n } := fun _ _ _ _ E _ _ hs => ⟨E.cut n, hs.cut hn h1 h2 h0⟩
theorem Weak.all {st st' : St} (h1 : LeL st.sl st'.sl) (h2 : ∀ id ob, getO st'.os id = some ob → getO st.os id = some ob) (h3 : st'.nx ≤ st.nx) (h4 : st'.n0 = st.n0) (h5 : st'.n0 ≤ st'.nx) (h6 : UndL st'.nx st'.sl) (h7 : UndOs st'.nx st'.os) : Weak st st' :=
  (Weak.mk (st' := { st' with nx := st.nx }) h1 h2 rfl h4).trans (Weak.cut (st := { st' with nx := st.nx }) h3 h5 h6 h7)
def maskL : List Bool → List AV → List AV
  | true :: m, x :: l => x :: maskL m l
  | false :: m, _ :: l => .any :: maskL m l
  | _, _ => []
def setsL : List AV → List (Nat × AV) → List AV
  | l, [] => l
  | l, (i, x) :: r => setsL (l.set i x) r
def putsO : Os → List (Nat × Ob) → Os
  | os, [] => os
  | os, (i, x) :: r => putsO (putO os i x) r
theorem AWp_loopM {ro : Option Nat} {P : Program} {Q : Exit → St → Prop} {st : St} {σ : Type} {c : Code} (mask : List Bool) (pre : σ → Prop) (upd : σ → List (Nat × AV)) (osu : σ → List (Nat × Ob)) (μ : σ → Nat) (s0 : σ) (h0 : pre s0)
    (hw : Weak st ⟨setsL (maskL mask st.sl) (upd s0), putsO st.os (osu s0), st.nx, st.n0⟩)
    (round : ∀ s, pre s → AWp ro P c (thenQ (fun st' => ∃ s', pre s' ∧ μ s' < μ s ∧ Weak st' ⟨setsL (maskL mask st.sl) (upd s'), putsO st.os (osu s'), st.nx, st.n0⟩) Q) ⟨setsL (maskL mask st.sl) (upd s), putsO st.os (osu s), st.nx, st.n0⟩) :
    AWp ro P (.loop c) Q st :=
  AWp_loop pre (fun s => ⟨setsL (maskL mask st.sl) (upd s), putsO st.os (osu s), st.nx, st.n0⟩) μ s0 h0 hw round
theorem gM {α : Type} {f : α → List AV} {ps : List α} {k : Nat} {p : α} (h : ps[k]? = some p) : (ps.map f).getD k [] = f p := by
  simp [List.getD_eq_getElem?_getD, h]
end Go.Proofs.YtmepcmphcghbeaaDoor
