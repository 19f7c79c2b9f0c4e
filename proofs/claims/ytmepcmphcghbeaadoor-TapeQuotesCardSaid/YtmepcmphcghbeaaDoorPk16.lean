/- Texts of the abstract walk, of the contracts and of the plain laws, packed (part 16 of 40): Ab14. Conditions: none. -/
import Derived.Test.YtmepcmphcghbeaaDoorPk15
import Derived.OrdersHeld
namespace Go.Proofs.YtmepcmphcghbeaaDoor
open Go Go.RowKit
set_option linter.unnecessarySimpa false
abbrev Held := List (Nat × Nat × List AV)
def CurOk (os : Os) : AV → Prop
  | .own id n => match getO os id with
    | some (.row _ _ xs) => n = xs.length
    | _ => False
  | _ => True
def CurL (os : Os) : List AV → Prop
  | [] => True
  | c :: l => CurOk os c ∧ CurL os l
theorem CurOk.cnt {A0 : Nat → Nat → Prop} {E : Env} {os : Os} {w : World} (hos : OsOk A0 E os w) {id n : Nat} (h : CurOk os (.own id n)) : E.cnt id = n ∧ E.valid id := by
  unfold CurOk at h
  simp only at h
  split at h
  · rename_i hg
    obtain ⟨h1, h2, _⟩ := hos.ok _ _ hg
    exact ⟨h2.trans h.symm, h1⟩
  · exact h.elim
def HeldS : Held → St → Prop
  | [], _ => True
  | h :: H, st => (∃ t cs, getO st.os h.1 = some (.cells t cs) ∧ h.2.1 + h.2.2.length ≤ cs.length ∧ (cs.drop h.2.1).take h.2.2.length = h.2.2 ∧ CurL st.os h.2.2) ∧ HeldS H st
section
variable {P : Program} {A0 : Nat → Nat → Prop} {E0 : Env} {os0 : Os} {w0 : World} {E Er : Env} {st : St} {a : Act} {w : World} {H : Held}
end
section
variable {P : Program} {l : List Oper} {Q : Exit → St → Prop} {H : Held} {fuel : Nat} {listed : Array Bool} {st : St}
theorem SimC.drew {A0 : Nat → Nat → Prop} {E0 : Env} {os0 : Os} {w0 : World} {E : Env} {a : Act} {w : World} (h : SimC A0 E0 os0 w0 E st a w) : SimC A0 E0 os0 w0 E st a { w with drawn := w.drawn + 1 } := by
  have hb : Below w.heap.size w { w with drawn := w.drawn + 1 } := (Below.refl _ w).drew
  exact h.upd (.refl E) (.of_below hb) (fun b o ha => .inl ha) (h.os.keep hb) h.nx
theorem SimC.rebase {A0 : Nat → Nat → Prop} {E0 : Env} {os0 : Os} {w0 : World} {E : Env} {a : Act} {w : World} (h : SimC A0 E0 os0 w0 E st a w) : SimC A0 E st.os w E { st with n0 := st.nx } a w :=
  ⟨h.size, h.sl, h.os, h.nx, h.defers, h.hbl, .refl E, .refl _ w, fun b o ha => .inl ha, fun id hv => (h.nx id).1 hv⟩
theorem SimC.over {A0 : Nat → Nat → Prop} {E0 : Env} {os0 : Os} {w0 : World} {E E' : Env} {a a' : Act} {w w' : World} {st' : St} (h : SimC A0 E0 os0 w0 E st a w) (h' : SimC A0 E st.os w E' st' a' w') : SimC A0 E0 os0 w0 E' { st' with n0 := st.n0 } a' w' :=
  ⟨h'.size, h'.sl, h'.os, h'.nx, h'.defers, h'.hbl, h.ext.trans h'.ext, h.stp.trans h'.stp h.sub, fun b o ha => (h'.sub b o ha).elim (h.sub b o) (fun hh => .inr (Nat.le_trans h.stp.size hh)), h.base⟩
def aQuiet (P : Program) (o : Oper) (ev : Operand → AV) (K : AV → Prop) : Prop :=
  o.guard = none ∧ match o.op with
  | .move y => K (ev y)
  | .assign y => K (ev y)
  | .fieldAddr s x f => match fieldOff P s f, ev x with | some o, .ptr id off => K (.ptr id (off + o)) | _, _ => False
  | .nilCheck x => match ev x with | .ptr id off => K (.ptr id off) | _ => False
  | .extract x i => aExtract (ev x) i K
  | .call { callee := .builtin .len, args := ⟨[x]⟩, argTypes := ⟨[t]⟩ } => lenT P t = some true ∧ match ev x with | .sl _ xs => K (.v (.int .i64 xs.length)) | .osl _ _ xs => K (.v (.int .i64 xs.length)) | _ => False
  | _ => False
def aHeldLoad (P : Program) (o : Oper) (ev : Operand → AV) (os : Os) (vs : List AV) (id off : Nat) (K : AV → Prop) : Prop :=
  o.guard = none ∧ CurL os vs ∧ match o.op with
  | .load t x => match tinf P t with
    | some (agg, n) => ev x = .ptr id off ∧ vs.length = (if agg then n else 1) ∧ K (pack agg vs)
    | none => False
  | _ => False
def aAt (P : Program) (l : List Oper) (i : Nat) (st : St) (K : St → Prop) : Prop :=
  match l[i]? with
  | none => False
  | some o => aWant l o st (aop P o st K) (K (st.put o.dst (.v undef)))
theorem aAt_op {i : Nat} {K : St → Prop} {o : Oper} (hi : l[i]? = some o) (hg : o.guard = none) (h : ∀ K' : St → Prop, (∀ st', K st' → K' st') → aop P o st K') : aAt P l i st K := by
  unfold aAt
  rw [hi]
  simp only [aWant, hg]
  exact h _ fun _ h => h
end
theorem AWp_joinZ {ro : Option Nat} {P : Program} {Q : Exit → St → Prop} {st : St} {x y : Code} (mask : List Bool) (upd : List (Nat × AV)) (os' : Os) (nx' : Nat) (C : Prop)
    (h1 : AWp ro P x (thenQ (fun st' => C ∧ Weak st' ⟨setsL (maskL mask st.sl) upd, os', nx', st.n0⟩) Q) st)
    (h2 : C → AWp ro P y Q ⟨setsL (maskL mask st.sl) upd, os', nx', st.n0⟩) : AWp ro P (.seq x y) Q st :=
  AWp_seq (h1.mono fun e st' q => by
    cases e with
    | normal => exact AWp_weak q.2 (h2 q.1)
    | _ => exact q)
end Go.Proofs.YtmepcmphcghbeaaDoor
