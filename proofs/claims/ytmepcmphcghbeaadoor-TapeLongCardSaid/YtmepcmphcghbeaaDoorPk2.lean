/- Texts of the abstract walk, of the contracts and of the plain laws, packed (part 2 of 48): Ab1. Conditions: none. -/
import Derived.Test.YtmepcmphcghbeaaDoorPk1
import Derived.WalkKit
import Derived.KernelRfl
import Derived.MapKept
import Derived.Laws.StructEq
import Derived.Stop.IfaceNil
import Derived.Shelf.Unicode.IsSpaceAny
namespace Go.Proofs.YtmepcmphcghbeaaDoor
open Go Go.RowKit
set_option linter.unnecessarySimpa false
inductive AV where
  | any
  | v (x : Value)
  | agg (cs : List AV)
  | tup (cs : List AV)
  | sl (sz : Nat) (xs : List (List AV))
  | osl (id sz : Nat) (xs : List (List AV))
  | own (id n : Nat)
  | ptr (id off : Nat)
  | rptr (id n sz i off : Nat)
  | eptr (cs : List AV)
  | map (id : Nat)
  | clo (f : Nat) (caps : List AV)
  | mth (f : Nat) (pre : List AV)
  | yld (id : Nat)
structure Env where
  valid : Nat → Prop
  blk : Nat → Nat
  cur : Nat → Value
  cnt : Nat → Nat
  hb : Nat
def Env.none : Env := { valid := fun _ => False, blk := fun _ => 0, cur := fun _ => undef, cnt := fun _ => 0, hb := 0 }
def Env.at (E : Env) (n : Nat) : Env := { E with hb := n }
inductive Rp (E : Env) (A : Nat → Nat → Prop) (w : World) : AV → Value → Prop
  | any (x : Value) : Rp E A w .any x
  | v (x : Value) : Rp E A w (.v x) x
  | agg {cs : List AV} {us : Array Value} (hs : us.size = cs.length)
      (h : ∀ (i : Nat) (c : AV) (u : Value), cs[i]? = some c → us[i]? = some u → Rp E A w c u) : Rp E A w (.agg cs) (.agg us)
  | tup {cs : List AV} {us : Array Value} (hs : us.size = cs.length)
      (h : ∀ (i : Nat) (c : AV) (u : Value), cs[i]? = some c → us[i]? = some u → Rp E A w c u) : Rp E A w (.tup cs) (.tuple us)
  | sl0 {sz cap : Nat} {a : Option Addr} (hc : cap ≤ maxLen) : Rp E A w (.sl sz []) (.slice a 0 cap)
  | sl {sz : Nat} {xs : List (List AV)} {b o n cap : Nat} (g : Nat → Value) (hn : n = xs.length) (hcap : n ≤ cap) (hc : cap ≤ maxLen)
      (hsz : ∀ x ∈ xs, x.length = sz)
      (hcell : ∀ j, j < xs.flatten.length → w.cell? ⟨b, o + j, none⟩ = some (g j) ∧ ¬ A b (o + j))
      (h : ∀ (j : Nat) (c : AV), xs.flatten[j]? = some c → Rp E A w c (g j)) : Rp E A w (.sl sz xs) (.slice (some ⟨b, o, none⟩) n cap)
  | osl {id sz : Nat} {xs : List (List AV)} {s : Value} (hv : E.valid id) (h : Rp E A w (.sl sz xs) s) (hl : xs.length ≤ E.cnt id)
      (hcur : xs.length = E.cnt id → s = E.cur id) : Rp E A w (.osl id sz xs) s
  | own {id n : Nat} {s : Value} (hv : E.valid id) (hl : n ≤ E.cnt id) (hcur : n = E.cnt id → s = E.cur id) (h1 : s.oneCell' = true) : Rp E A w (.own id n) s
  | ptr {id off : Nat} (hv : E.valid id) : Rp E A w (.ptr id off) (.pointer (some ⟨E.blk id, off, none⟩))
  | rptr {id n sz i off : Nat} {a : Addr} (hv : E.valid id) (hl : n ≤ E.cnt id) (hcur : n = E.cnt id → (E.cur id).ownBlock = some a.block ∧ a = ⟨a.block, i * sz + off, none⟩) :
      Rp E A w (.rptr id n sz i off) (.pointer (some a))
  | eptr {cs : List AV} {b o : Nat} (g : Nat → Value) (hcell : ∀ j, j < cs.length → w.cell? ⟨b, o + j, none⟩ = some (g j) ∧ ¬ A b (o + j))
      (h : ∀ (j : Nat) (c : AV), cs[j]? = some c → Rp E A w c (g j)) : Rp E A w (.eptr cs) (.pointer (some ⟨b, o, none⟩))
  | map {id : Nat} (hv : E.valid id) : Rp E A w (.map id) (.map (some (E.blk id)))
  | clo {f : Nat} {caps : List AV} {us : Array Value} (hs : us.size = caps.length)
      (h : ∀ (i : Nat) (c : AV) (u : Value), caps[i]? = some c → us[i]? = some u → Rp E A w c u) : Rp E A w (.clo f caps) (.func (.func f) #[] us)
  | mth {f : Nat} {pre : List AV} {us : Array Value} (hs : us.size = pre.length)
      (h : ∀ (i : Nat) (c : AV) (u : Value), pre[i]? = some c → us[i]? = some u → Rp E A w c u) : Rp E A w (.mth f pre) (.func (.func f) us #[])
  | yld {id : Nat} (hv : E.valid id) : Rp E A w (.yld id) (.func (.yield (E.blk id)) #[] #[])
structure Stp (A : Nat → Nat → Prop) (w w' : World) : Prop where
  os : w'.os = w.os
  tape : w'.tape = w.tape
  output : w'.output = w.output
  size : w.heap.size ≤ w'.heap.size
  block : ∀ b, b < w.heap.size → (∀ o, ¬ A b o) → w'.heap[b]? = w.heap[b]?
  cell : ∀ b o, b < w.heap.size → ¬ A b o → w'.cell? ⟨b, o, none⟩ = w.cell? ⟨b, o, none⟩
structure Ext (E E' : Env) : Prop where
  hb : E'.hb = E.hb
  valid : ∀ id, E.valid id → E'.valid id
  blk : ∀ id, E.valid id → E'.blk id = E.blk id
  cnt : ∀ id, E.valid id → E.cnt id ≤ E'.cnt id
  cur : ∀ id, E.valid id → E'.cnt id = E.cnt id → E'.cur id = E.cur id
theorem Ext.refl (E : Env) : Ext E E := ⟨rfl, fun _ h => h, fun _ _ => rfl, fun _ _ => Nat.le_refl _, fun _ _ _ => rfl⟩
theorem Ext.trans {E F G : Env} (h : Ext E F) (k : Ext F G) : Ext E G :=
  ⟨k.hb.trans h.hb, fun id hv => k.valid id (h.valid id hv), fun id hv => (k.blk id (h.valid id hv)).trans (h.blk id hv), fun id hv => Nat.le_trans (h.cnt id hv) (k.cnt id (h.valid id hv)),
   fun id hv he => by
    have h1 := h.cnt id hv
    have h2 := k.cnt id (h.valid id hv)
    have e1 : F.cnt id = E.cnt id := by omega
    exact (k.cur id (h.valid id hv) (by omega)).trans (h.cur id hv e1)⟩
theorem Stp.refl (A : Nat → Nat → Prop) (w : World) : Stp A w w := ⟨rfl, rfl, rfl, Nat.le_refl _, fun _ _ _ => rfl, fun _ _ _ _ => rfl⟩
theorem Stp.mono {A A' : Nat → Nat → Prop} {w w' : World} (h : Stp A w w') (hA : ∀ b o, b < w.heap.size → A b o → A' b o) : Stp A' w w' :=
  ⟨h.os, h.tape, h.output, h.size, fun b hb hn => h.block b hb (fun o ha => hn o (hA b o hb ha)), fun b o hb hn => h.cell b o hb (fun ha => hn (hA b o hb ha))⟩
theorem Stp.trans {A A' : Nat → Nat → Prop} {w w' w'' : World} (h : Stp A w w') (k : Stp A' w' w'') (hA : ∀ b o, A' b o → A b o ∨ w.heap.size ≤ b) : Stp A w w'' :=
  ⟨k.os.trans h.os, k.tape.trans h.tape, k.output.trans h.output, Nat.le_trans h.size k.size,
   fun b hb hn => (k.block b (Nat.lt_of_lt_of_le hb h.size) (fun o ha => (hA b o ha).elim (hn o) (fun hh => by omega))).trans (h.block b hb hn),
   fun b o hb hn => (k.cell b o (Nat.lt_of_lt_of_le hb h.size) (fun ha => (hA b o ha).elim hn (fun hh => by omega))).trans (h.cell b o hb hn)⟩
theorem Stp.of_below {A : Nat → Nat → Prop} {w w' : World} (h : Below w.heap.size w w') : Stp A w w' :=
  ⟨h.os, h.tape, h.output, h.size, fun b hb _ => h.block b hb, fun _ _ hb _ => h.cell hb⟩
theorem Stp.below {w w' : World} (h : Stp (fun _ _ => False) w w') : Below w.heap.size w w' :=
  ⟨h.os, h.tape, h.output, h.size, fun b hb => h.block b hb (fun _ h => h)⟩
theorem Rp.gen {E E' : Env} {A A' : Nat → Nat → Prop} {w w' : World} {x : AV} {u : Value} (h : Rp E A w x u) (he : Ext E E')
    (kc : ∀ b o y, w.cell? ⟨b, o, none⟩ = some y ∧ ¬ A b o → w'.cell? ⟨b, o, none⟩ = some y ∧ ¬ A' b o) : Rp E' A' w' x u := by
  induction h with
  | any x => exact .any x
  | v x => exact .v x
  | agg hsz _ ih => exact .agg hsz ih
  | tup hsz _ ih => exact .tup hsz ih
  | sl0 hc => exact .sl0 hc
  | sl g hn hcap hc hsz hcell _ ih => exact .sl g hn hcap hc hsz (fun j hj => kc _ _ _ (hcell j hj)) ih
  | osl hv _ hl hcur ih =>
    have h1 := he.cnt _ hv
    exact .osl (he.valid _ hv) ih (by omega) (fun e => by
      have e1 := hcur (by omega)
      rw [he.cur _ hv (by omega)]; exact e1)
  | own hv hl hcur hone =>
    have h1 := he.cnt _ hv
    exact .own (he.valid _ hv) (by omega) (fun e => by
      have e1 := hcur (by omega)
      rw [he.cur _ hv (by omega)]; exact e1) hone
  | ptr hv => rw [← he.blk _ hv]; exact .ptr (he.valid _ hv)
  | rptr hv hl hcur =>
    have h1 := he.cnt _ hv
    exact .rptr (he.valid _ hv) (by omega) (fun e => by
      have e1 := hcur (by omega)
      rw [he.cur _ hv (by omega)]; exact e1)
  | eptr g hcell _ ih => exact .eptr g (fun j hj => kc _ _ _ (hcell j hj)) ih
  | map hv => rw [← he.blk _ hv]; exact .map (he.valid _ hv)
  | clo hsz _ ih => exact .clo hsz ih
  | mth hsz _ ih => exact .mth hsz ih
  | yld hv => rw [← he.blk _ hv]; exact .yld (he.valid _ hv)
theorem Rp.at {E : Env} {A : Nat → Nat → Prop} {w : World} {x : AV} {u : Value} (h : Rp E A w x u) (n : Nat) : Rp (E.at n) A w x u := by
  induction h with
  | any x => exact .any x
  | v x => exact .v x
  | agg hsz _ ih => exact .agg hsz ih
  | tup hsz _ ih => exact .tup hsz ih
  | sl0 hc => exact .sl0 hc
  | sl g hn hcap hc hsz hcell _ ih => exact .sl g hn hcap hc hsz hcell ih
  | osl hv _ hl hcur ih => exact .osl (E := E.at n) hv ih hl hcur
  | own hv hl hcur hone => exact .own (E := E.at n) hv hl hcur hone
  | ptr hv => exact .ptr (E := E.at n) hv
  | rptr hv hl hcur => exact .rptr (E := E.at n) hv hl hcur
  | eptr g hcell _ ih => exact .eptr g hcell ih
  | map hv => exact .map (E := E.at n) hv
  | clo hsz _ ih => exact .clo hsz ih
  | mth hsz _ ih => exact .mth hsz ih
  | yld hv => exact .yld (E := E.at n) hv
theorem Rp.step {E E' : Env} {A A' : Nat → Nat → Prop} {w w' : World} {x : AV} {u : Value} (h : Rp E A w x u) (hs : Stp A w w') (he : Ext E E')
    (hA : ∀ b o, A' b o → A b o ∨ w.heap.size ≤ b) : Rp E' A' w' x u := h.gen he fun b o y ⟨hc, hn⟩ => by
  have hb : b < w.heap.size := World.block_lt_of_cell? w _ hc
  exact ⟨(hs.cell b o hb hn).trans hc, fun ha => (hA b o ha).elim hn (fun hh => by omega)⟩
theorem Rp.keep {E : Env} {A : Nat → Nat → Prop} {w w' : World} {x : AV} {u : Value} (h : Rp E A w x u) (hs : Below w.heap.size w w') : Rp E A w' x u :=
  h.step (.of_below hs) (.refl E) (fun _ _ h => .inl h)
theorem Rp.mono {E : Env} {A A' : Nat → Nat → Prop} {w : World} {x : AV} {u : Value} (h : Rp E A w x u) (hA : ∀ b o, A' b o → A b o) : Rp E A' w x u :=
  h.step (.refl A w) (.refl E) (fun b o h => .inl (hA b o h))
def Data (x : AV) : Prop := ∀ E E' A w u, Rp E A w x u → Rp E' A w x u
def DataL (l : List AV) : Prop := ∀ x ∈ l, Data x
theorem Data.v (x : Value) : Data (.v x) := fun _ _ _ _ _ h => by cases h; exact .v x
theorem Data.any : Data .any := fun _ _ _ _ _ _ => .any _
theorem Data.agg {cs : List AV} (h : DataL cs) : Data (.agg cs) := fun E E' A w u hr => by
  cases hr with
  | agg hs hr => exact .agg hs (fun i c y hc hu => h c (List.mem_of_getElem? hc) E E' A w y (hr i c y hc hu))
theorem Data.tup {cs : List AV} (h : DataL cs) : Data (.tup cs) := fun E E' A w u hr => by
  cases hr with
  | tup hs hr => exact .tup hs (fun i c y hc hu => h c (List.mem_of_getElem? hc) E E' A w y (hr i c y hc hu))
theorem Data.sl {sz : Nat} {xs : List (List AV)} (h : ∀ x ∈ xs, DataL x) : Data (.sl sz xs) := fun E E' A w u hr => by
  cases hr with
  | sl0 hc => exact .sl0 hc
  | sl g hn hcap hc hsz hcell hr =>
    refine .sl g hn hcap hc hsz hcell (fun j c hj => ?_)
    have hm := List.mem_of_getElem? hj
    obtain ⟨x, hx, hcx⟩ := List.mem_flatten.1 hm
    exact h x hx c hcx E E' A w _ (hr j c hj)
theorem Data.clo {f : Nat} {cs : List AV} (h : DataL cs) : Data (.clo f cs) := fun E E' A w u hr => by
  cases hr with
  | clo hs hr => exact .clo hs (fun i c y hc hu => h c (List.mem_of_getElem? hc) E E' A w y (hr i c y hc hu))
theorem DataL.nil : DataL [] := fun _ h => by cases h
theorem DataL.cons {x : AV} {l : List AV} (h : Data x) (hl : DataL l) : DataL (x :: l) := fun y hy => by
  rcases List.mem_cons.1 hy with rfl | hy
  · exact h
  · exact hl y hy
def Le (x y : AV) : Prop := ∀ E A w u, Rp E A w x u → Rp E A w y u
theorem Le.refl (x : AV) : Le x x := fun _ _ _ _ h => h
theorem Le.any (x : AV) : Le x .any := fun _ _ _ _ _ => .any _
theorem Le.osl (id sz : Nat) (xs : List (List AV)) : Le (.osl id sz xs) (.sl sz xs) := fun _ _ _ _ h => by cases h; assumption
def LeL : List AV → List AV → Prop
  | [], [] => True
  | x :: xs, y :: ys => Le x y ∧ LeL xs ys
  | _, _ => False
theorem LeL.refl : ∀ l, LeL l l
  | [] => trivial
  | x :: xs => ⟨.refl x, LeL.refl xs⟩
theorem LeL.length : ∀ {l m : List AV}, LeL l m → l.length = m.length
  | [], [], _ => rfl
  | _ :: _, _ :: _, h => by simp [LeL.length h.2]
theorem LeL.get : ∀ {l m : List AV}, LeL l m → ∀ (i : Nat) (y : AV), m[i]? = some y → ∃ x, l[i]? = some x ∧ Le x y
  | [], [], _, i, y, h => by simp at h
  | x :: xs, z :: zs, h, 0, y, hy => by simp at hy; subst hy; exact ⟨x, rfl, h.1⟩
  | x :: xs, z :: zs, h, i + 1, y, hy => by simpa using LeL.get h.2 i y (by simpa using hy)
theorem Le.tup {cs ds : List AV} (h : LeL cs ds) : Le (.tup cs) (.tup ds) := fun E A w u hr => by
  cases hr with
  | tup hs hr => exact .tup (by rw [hs, h.length]) (fun i c y hc hu => by
      obtain ⟨x, hx, hle⟩ := h.get i c hc
      exact hle E A w y (hr i x y hx hu))
inductive Ob where
  | cells (t : Nat) (cs : List AV)
  | tok (t sz n : Nat)
  | row (t sz : Nat) (xs : List (List AV))
  | map (es : List (Int × AV))
  | raw (o : Obj)
  | loop (r : Loop) (sl : List AV)
abbrev Os := List (Nat × Ob)
def getO : Os → Nat → Option Ob
  | [], _ => none
  | (i, ob) :: rest, id => if i = id then some ob else getO rest id
def putO : Os → Nat → Ob → Os
  | [], id, ob => [(id, ob)]
  | (i, o) :: rest, id, ob => if i = id then (id, ob) :: rest else (i, o) :: putO rest id ob
theorem getO_putO (os : Os) (id : Nat) (ob : Ob) (j : Nat) : getO (putO os id ob) j = if j = id then some ob else getO os j := by
  induction os with
  | nil => simp only [putO, getO]; by_cases h : j = id <;> simp [h, eq_comm] ; intro e; exact absurd e.symm h
  | cons p rest ih =>
    obtain ⟨i, o⟩ := p
    simp only [putO]
    by_cases hi : i = id
    · subst hi
      simp only [if_true, getO]
      by_cases hj : j = i
      · subst hj; simp
      · rw [if_neg (fun e => hj e.symm), if_neg hj, if_neg (fun e => hj e.symm)]
    · simp only [if_neg hi, getO, ih]
      by_cases hj : i = j
      · subst hj; simp [hi]
      · simp [hj]
def Ob.blk (E : Env) (id : Nat) : Ob → Option Nat
  | .cells .. | .map .. | .raw .. | .loop .. => some (E.blk id)
  | .tok .. | .row .. => (E.cur id).ownBlock
def Ob.av : Ob → Nat → Prop
  | .tok _ sz n, o => n * sz ≤ o
  | _, _ => True
def Av (E : Env) (os : Os) (b o : Nat) : Prop := ∃ id ob, getO os id = some ob ∧ ob.blk E id = some b ∧ ob.av o
def AvX (A0 : Nat → Nat → Prop) (E : Env) (os : Os) (b o : Nat) : Prop := A0 b o ∨ Av E os b o
def RowAt (w : World) (s : Value) (t sz n : Nat) (C : Array Value → Prop) : Prop :=
  (s = .slice none 0 0 ∧ n = 0) ∨
  ∃ b cap cur, s = .slice (some ⟨b, 0, none⟩) n cap ∧ n ≤ cap ∧ cap ≤ maxLen ∧ w.heap[b]? = some (.cells cur t (0, 0)) ∧ cur.size = cap * sz ∧ C cur
def Ob.ok (E : Env) (A : Nat → Nat → Prop) (w : World) (id : Nat) : Ob → Prop
  | .cells t cs => ∃ cur, w.heap[E.blk id]? = some (.cells cur t (0, 0)) ∧ cur.size = cs.length ∧ ∀ (i : Nat) (c : AV) (u : Value), cs[i]? = some c → cur[i]? = some u → Rp E A w c u
  | .tok t sz n => E.cnt id = n ∧ RowAt w (E.cur id) t sz n (fun _ => True)
  | .row t sz xs => E.cnt id = xs.length ∧ (∀ x ∈ xs, x.length = sz) ∧
      RowAt w (E.cur id) t sz xs.length (fun cur => ∀ (j : Nat) (c : AV) (u : Value), xs.flatten[j]? = some c → cur[j]? = some u → Rp E A w c u)
  | .map es => ∃ ents clock, w.heap[E.blk id]? = some (.map ents clock) ∧ ents.size = es.length ∧
      (∀ (i : Nat) (p : Int × AV) (e : MapEntry), es[i]? = some p → ents[i]? = some e → e.key = .int .i64 p.1 ∧ Rp E A w p.2 e.val) ∧ MapKept.Stamped ents clock
  | .raw o => o.isWalk = true ∧ w.heap[E.blk id]? = some o
  | .loop r sl => w.heap[E.blk id]? = some (.loop r) ∧ r.tmps.size = sl.length ∧ ∀ (i : Nat) (c : AV) (u : Value), sl[i]? = some c → r.tmps[i]? = some u → Rp E A w c u
def gy0 : List ByteArray := [⟨#[]⟩, ⟨#[]⟩, ⟨#[111, 112, 101, 110]⟩, ⟨#[110, 116]⟩, ⟨#[101, 100, 105, 116]⟩, ⟨#[110, 102, 111, 116]⟩, ⟨#[99, 108, 111, 115, 101]⟩, ⟨#[110]⟩, ⟨#[99, 104, 101, 99, 107]⟩, ⟨#[110]⟩, ⟨#[114, 117, 110]⟩, ⟨#[110, 117]⟩, ⟨#[108, 105, 109, 105, 116]⟩, ⟨#[108]⟩, ⟨#[108, 105, 115, 116]⟩, ⟨#[]⟩]
def gv0 : List AV := gy0.map fun s => .v (.string s)
def gz2 : List Int := [0, 0, 0, 0, 0, 0, 0, 0, 0, 1, 1, 1, 1, 1, 0, 0, 0, 0, 0, 0, 0, 0, 0, 0, 0, 0, 0, 0, 0, 0, 0, 0, 1, 0, 0, 0, 0, 0, 0, 0, 0, 0, 0, 0, 0, 0, 0, 0, 0, 0, 0, 0, 0, 0, 0, 0, 0, 0, 0, 0, 0, 0, 0, 0, 0, 0, 0, 0, 0, 0, 0, 0, 0, 0, 0, 0, 0, 0, 0, 0, 0, 0, 0, 0, 0, 0, 0, 0, 0, 0, 0, 0, 0, 0, 0, 0, 0, 0, 0, 0, 0, 0, 0, 0, 0, 0, 0, 0, 0, 0, 0, 0, 0, 0, 0, 0, 0, 0, 0, 0, 0, 0, 0, 0, 0, 0, 0, 0, 0, 0, 0, 0, 0, 0, 0, 0, 0, 0, 0, 0, 0, 0, 0, 0, 0, 0, 0, 0, 0, 0, 0, 0, 0, 0, 0, 0, 0, 0, 0, 0, 0, 0, 0, 0, 0, 0, 0, 0, 0, 0, 0, 0, 0, 0, 0, 0, 0, 0, 0, 0, 0, 0, 0, 0, 0, 0, 0, 0, 0, 0, 0, 0, 0, 0, 0, 0, 0, 0, 0, 0, 0, 0, 0, 0, 0, 0, 0, 0, 0, 0, 0, 0, 0, 0, 0, 0, 0, 0, 0, 0, 0, 0, 0, 0, 0, 0, 0, 0, 0, 0, 0, 0, 0, 0, 0, 0, 0, 0, 0, 0, 0, 0, 0, 0, 0, 0, 0, 0, 0, 0, 0, 0, 0, 0, 0, 0]
def gv2 : List AV := gz2.map fun z => .v (.int .u8 z)
def gz4 : List Int := [1, 10, 100, 1000, 10000, 100000, 1000000, 10000000, 100000000, 1000000000, 10000000000, 100000000000, 1000000000000, 10000000000000, 100000000000000, 1000000000000000, 10000000000000000, 100000000000000000, 1000000000000000000, 10000000000000000000]
def gv4 : List AV := gz4.map fun z => .v (.int .u64 z)
def GL : List (Nat × List AV) := [(0, gv0), (2, gv2), (4, gv4)]
theorem gl_mem2 : (2, gv2) ∈ GL := .tail _ (.head _)
theorem gl_mem4 : (4, gv4) ∈ GL := .tail _ (.tail _ (.head _))
def GE : List Nat := [5, 6]
theorem ge_mem5 : 5 ∈ GE := by decide
theorem ge_mem6 : 6 ∈ GE := by decide
def GW : List (World → Prop) := [Lib.WhiteTab 3, fun w => ∃ m : Int, w.cell? ⟨1, 0, none⟩ = some (.int .i64 m)]
theorem gw_MaxLen : (fun w => ∃ m : Int, w.cell? ⟨1, 0, none⟩ = some (.int .i64 m)) ∈ GW := .tail _ (.head _)
def AV.simple : AV → Bool
  | .v _ => true
  | .any => true
  | _ => false
theorem GL_simple : (GL.all fun p => p.2.all AV.simple) = true := by kernel_rfl
def glEv (g : Nat) : AV := match GL.find? fun p => p.1 == g with
  | some p => .eptr p.2
  | none => .any
def AV.isV : AV → Value → Prop
  | .v x, u => u = x
  | _, _ => True
def GlT (A : Nat → Nat → Prop) (w : World) : Prop := ∀ p ∈ GL, (∀ o, ¬ A p.1 o) ∧ ∃ cs t z, w.heap[p.1]? = some (.cells cs t z) ∧ cs.size = p.2.length ∧
  ∀ (i : Nat) (c : AV) (u : Value), p.2[i]? = some c → cs[i]? = some u → c.isV u
def GlE (A : Nat → Nat → Prop) (w : World) : Prop := ∀ g ∈ GE, (∀ o, ¬ A g o) ∧ ∃ tp p t z, w.heap[g]? = some (.cells #[.iface tp p] t z)
def GlW (A : Nat → Nat → Prop) (w : World) : Prop := ∀ p ∈ GW, ∀ w', Stp A w w' → p w'
def Gl (A : Nat → Nat → Prop) (w : World) : Prop := GlT A w ∧ GlE A w ∧ GlW A w
theorem Gl.step {A A' : Nat → Nat → Prop} {w w' : World} (h : Gl A w) (hs : Stp A w w') (hA : ∀ b o, A' b o → A b o ∨ w.heap.size ≤ b) : Gl A' w' := ⟨fun p hp => by
  obtain ⟨h1, cs, t, z, h2, h3, h4⟩ := h.1 p hp
  have hlt : p.1 < w.heap.size := (Array.getElem?_eq_some_iff.1 h2).1
  exact ⟨fun o ha => (hA _ _ ha).elim (h1 o) (fun hh => by omega), cs, t, z, (hs.block _ hlt h1).trans h2, h3, h4⟩, fun g hg => by
  obtain ⟨h1, tp, p, t, z, h2⟩ := h.2.1 g hg
  have hlt : g < w.heap.size := (Array.getElem?_eq_some_iff.1 h2).1
  exact ⟨fun o ha => (hA _ _ ha).elim (h1 o) (fun hh => by omega), tp, p, t, z, (hs.block _ hlt h1).trans h2⟩, fun p hp w'' hs' => h.2.2 p hp w'' (hs.trans hs' hA)⟩
theorem Gl.mono {A A' : Nat → Nat → Prop} {w : World} (h : Gl A w) (hA : ∀ b o, A' b o → A b o) : Gl A' w :=
  ⟨fun p hp => ⟨fun o ha => (h.1 p hp).1 o (hA _ _ ha), (h.1 p hp).2⟩, fun g hg => ⟨fun o ha => (h.2.1 g hg).1 o (hA _ _ ha), (h.2.1 g hg).2⟩, fun p hp w' hs => h.2.2 p hp w' (hs.mono fun b o _ ha => hA b o ha)⟩
theorem AV.simple_rp {x : AV} (h : x.simple = true) {u : Value} (hu : x.isV u) (E : Env) (A : Nat → Nat → Prop) (w : World) : Rp E A w x u := by
  cases x with
  | v y => obtain rfl : u = y := hu; exact .v u
  | any => exact .any u
  | _ => cases h
theorem Gl.ev {A : Nat → Nat → Prop} {w : World} (h : Gl A w) (E : Env) (g : Nat) : Rp E A w (glEv g) (.pointer (some ⟨g, 0, none⟩)) := by
  unfold glEv
  cases hf : GL.find? fun p => p.1 == g with
  | none => exact .any _
  | some p =>
    have hm := List.mem_of_find?_eq_some hf
    have he : p.1 = g := by simpa using List.find?_some hf
    obtain ⟨h1, cs, t, z, h2, h3, h4⟩ := h.1 p hm
    rw [he] at h1 h2
    refine .eptr (fun j => cs.getD j undef) (fun j hj => ⟨?_, h1 _⟩) fun j c hj => ?_
    · have hlt : j < cs.size := by omega
      rw [Nat.zero_add, cell_of_row w _ _ cs t z h2]
      simp [Array.getD, hlt]
    · have hlt : j < cs.size := by rw [h3]; exact (List.getElem?_eq_some_iff.1 hj).1
      have hs := List.all_eq_true.1 (List.all_eq_true.1 GL_simple p hm) c (List.mem_of_getElem? hj)
      have hu : cs[j]? = some (cs.getD j undef) := by simp [Array.getD, hlt]
      exact AV.simple_rp hs (h4 j c _ hj hu) _ _ _
structure OsOk (A0 : Nat → Nat → Prop) (E : Env) (os : Os) (w : World) : Prop where
  ok : ∀ id ob, getO os id = some ob → E.valid id ∧ ob.ok E (AvX A0 E os) w id
  inj : ∀ i j oi oj b, getO os i = some oi → getO os j = some oj → oi.blk E i = some b → oj.blk E j = some b → i = j
  out : ∀ id ob b, getO os id = some ob → ob.blk E id = some b → ∀ o, ¬ A0 b o
  bnd : ∀ b o, A0 b o → b < w.heap.size
  gl : Gl (AvX A0 E os) w
end Go.Proofs.YtmepcmphcghbeaaDoor
