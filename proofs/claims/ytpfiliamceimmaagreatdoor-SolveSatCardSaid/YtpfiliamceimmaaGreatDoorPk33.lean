/- packed, part 33 of 54. Conditions: none. -/
import Derived.Test.YtpfiliamceimmaaGreatDoorPk32
set_option linter.unusedVariables false
set_option linter.unusedSimpArgs false
namespace Go.Proofs.YtpfiliamceimmaaGreatDoor
open Go Go.RowKit
inductive Rt (up:List Nat):Nat→Nat→Prop
  | base {i:Nat} (h:up[i]?=some i):Rt up i i
  | step {i j r:Nat} (h:up[i]?=some j) (hn:j≠i) (hr:Rt up j r):Rt up i r
theorem Rt.root {up:List Nat} {i r:Nat} (h:Rt up i r):up[r]?=some r:=by
  induction h with
  | base h=>exact h
  | step _ _ _ ih=>exact ih
theorem Rt.det {up:List Nat} {i r s:Nat} (h:Rt up i r) (k:Rt up i s):r=s:=by
  induction h with
  | base h =>
    cases k with
    | base _=>rfl
    | step h2 hn _=>rw[h] at h2;cases h2;exact absurd rfl hn
  | step h1 hn1 _ ih =>
    cases k with
    | base h=>rw[h1] at h;cases h;exact absurd rfl hn1
    | step h2 hn2 hr2=>rw[h1] at h2;cases h2;exact ih hr2
theorem Rt.self {up:List Nat} {r s:Nat} (h:up[r]?=some r) (k:Rt up r s):s=r:=(Rt.det k (.base h))
theorem Rt.lt {up:List Nat} {i r:Nat} (h:Rt up i r):r<up.length:=(zf.1 h.root).1
theorem Rt.lt' {up:List Nat} {i r:Nat} (h:Rt up i r):i<up.length:=by
  cases h with
  | base h=>exact (zf.1 h).1
  | step h _ _=>exact (zf.1 h).1
theorem Rt.next {up:List Nat} {i r u:Nat} (k:Rt up i r) (h:up[i]?=some u) (hn:u≠i):Rt up u r:=by
  cases k with
  | base h9=>rw[h] at h9;cases h9;exact absurd rfl hn
  | step h9 _ h8=>rw[h] at h9;cases h9;exact h8
theorem Rt.stop {up:List Nat} {i r u:Nat} (k:Rt up i r) (h:up[i]?=some u) (hn:u=i):i=r:=by
  subst hn;exact (Rt.self h k).symm
theorem Rt.far {up:List Nat} {i r u:Nat} (k:Rt up i r) (h:up[i]?=some u) (hn:u≠r):r≠i∧u≠i:=by
  constructor
  · intro e
    subst e;have h9:=k.root;rw[h] at h9;cases h9;exact hn rfl
  intro e;subst e;exact hn (Rt.self h k).symm
structure UpOk (up:List Nat) (h:Nat→Nat):Prop where
  lt:∀(i u:Nat),up[i]?=some u→u<up.length
  down:∀(i u:Nat),up[i]?=some u→u≠i→h u<h i
theorem UpOk.total {up:List Nat} {h:Nat→Nat} (H:UpOk up h):∀(n i:Nat),h i≤n→i<up.length→∃r,Rt up i r:=by
  intro n
  induction n with
  | zero =>
    intro i hi hl;have hg:=ze hl
    by_cases e:up[i]=i
    · rw[e] at hg;exact ⟨i,.base hg⟩
    have:=H.down i _ hg e;omega
  | succ n ih =>
    intro i hi hl;have hg:=ze hl
    by_cases e:up[i]=i
    (· rw[e] at hg;exact ⟨i,.base hg⟩);have h1:=H.down i _ hg e;obtain ⟨r,hr⟩:=ih up[i] tz1 (H.lt i _ hg);exact ⟨r,.step hg e hr⟩
theorem UpOk.ex {up:List Nat} {h:Nat→Nat} (H:UpOk up h) {i:Nat} (hi:i<up.length):∃r,Rt up i r:=H.total (h i) i (z6 _) hi
theorem UpOk.le {up:List Nat} {h:Nat→Nat} (H:UpOk up h) {i r:Nat} (k:Rt up i r):r=i∨h r<h i:=by
  induction k with
  | base _=>exact .inl rfl
  | step h1 hn _ ih =>
    have:=H.down _ _ h1 hn;(rcases ih with ih | ih);(· exact .inr (by rw[ih];exact this));exact .inr tz1
theorem UpOk.short {up:List Nat} {h:Nat→Nat} (H:UpOk up h) {i r:Nat} (k:Rt up i r) (hne:r≠i):UpOk (up.set i r) h∧∀a q,Rt (up.set i r) a q↔Rt up a q:=by
  have hir:h r<h i:=(H.le k).resolve_left hne;have hil:=k.lt'
  have hget:∀j:Nat,(up.set i r)[j]?=if i=j then some r else up[j]?:=fun j=>by
    rw[List.getElem?_set];split;(· simp[*]);rfl
  (have hroot:(up.set i r)[r]?=some r:=by rw[hget,if_neg (Ne.symm hne)];exact k.root);refine ⟨⟨fun j u hj=>?_,fun j u hj hn=>?_⟩,fun a q=>⟨fun ha=>?_,fun ha=>?_⟩⟩
  · rw[zw]
    rw[hget] at hj;(split at hj);(· cases hj;exact k.lt);exact H.lt j u hj
  · rw[hget] at hj
    (split at hj);(· rename_i e;cases hj;subst e;exact hir);exact H.down j u hj hn
  · induction ha with
    | base hb =>
      rw[hget] at hb;(split at hb);· rename_i e;cases hb;exact absurd e.symm hne
      exact .base hb
    | step hb hn hr ih =>
      rw[hget] at hb;split at hb
      · rename_i e
        (cases hb);subst e;rw[Rt.self k.root ih];exact k
      exact .step hb hn ih
  induction ha with
  | @base j hb =>
    refine .base ?_;rw[hget,if_neg];exact hb;intro e;subst e
    exact hne (Rt.self hb k)
  | @step j u q hb hn hr ih =>
    by_cases e:i=j
    · subst e
      have:r=q:=k.det (.step hb hn hr);subst this;exact .step (by rw[hget,if_pos rfl]) hne (.base hroot)
    exact .step (by rw[hget,if_neg e];exact hb) hn ih
open Classical in
theorem UpOk.link {up:List Nat} {h:Nat→Nat} (H:UpOk up h) {a b:Nat} (ha:up[a]?=some a) (hb:up[b]?=some b) (hne:a≠b) :
    (∃h',UpOk (up.set b a) h')∧∀k q,Rt (up.set b a) k q↔(q=a∧(Rt up k a∨Rt up k b))∨(q≠a∧q≠b∧Rt up k q):=by
  have hbl:=(zf.1 hb).1;have hal:=(zf.1 ha).1
  have hget:∀j:Nat,(up.set b a)[j]?=if b=j then some a else up[j]?:=fun j=>by
    rw[List.getElem?_set];split;(· simp[*]);rfl
  (have hroot:(up.set b a)[a]?=some a:=by rw[hget,if_neg (Ne.symm hne)];exact ha);refine ⟨⟨fun j=>if Rt up j b then h j+h a+1 else h j,⟨fun j u hj=>?_,fun j u hj hn=>?_⟩⟩,fun k q=>⟨fun hk=>?_,fun hk=>?_⟩⟩
  · rw[zw]
    rw[hget] at hj;(split at hj);(· cases hj;exact hal);exact H.lt j u hj
  · rw[hget] at hj
    (have hab:¬Rt up a b:=fun k=>hne (Rt.self ha k).symm);split at hj
    · rename_i e
      (cases hj);subst e;(show (if Rt up a b then h a+h a+1 else h a)<(if Rt up b b then h b+h a+1 else h b));rw[if_neg hab,if_pos (.base hb)];omega
    (rename_i e);have hd:=H.down j u hj hn;show (if Rt up u b then h u+h a+1 else h u)<(if Rt up j b then h j+h a+1 else h j)
    by_cases hu:Rt up u b
    · rw[if_pos hu,if_pos (.step hj hn hu)];omega
    have hj2:¬Rt up j b:=fun k=>by
      cases k with
      | base _=>exact e rfl
      | step h2 _ hr=>rw[hj] at h2;cases h2;exact hu hr
    rw[if_neg hu,if_neg hj2];exact hd
  · induction hk with
    | @base j hb2 =>
      rw[hget] at hb2;(split at hb2);(· rename_i e;cases hb2;exact absurd e.symm hne);rename_i e
      by_cases ea:j=a
      · subst ea;exact .inl ⟨rfl,.inl (.base ha)⟩
      exact .inr ⟨ea,fun e2=>e e2.symm,.base hb2⟩
    | @step j u q hb2 hn hr ih =>
      rw[hget] at hb2;split at hb2
      · rename_i e
        (cases hb2);subst e;have:=Rt.self hroot hr;subst this;exact .inl ⟨rfl,.inr (.base hb)⟩
      (rcases ih with ⟨e,ih⟩ | ⟨e1,e2,ih⟩);(· exact .inl ⟨e,ih.imp (.step hb2 hn) (.step hb2 hn)⟩);exact .inr ⟨e1,e2,.step hb2 hn ih⟩
  have key:∀k q,Rt up k q→(q≠b→Rt (up.set b a) k q)∧(q=b→Rt (up.set b a) k a):=by
    intro k q hk
    induction hk with
    | @base j hb2 =>
      refine ⟨fun e=>.base (by rw[hget,if_neg (Ne.symm e)];exact hb2),fun e=>?_⟩;subst e
      exact .step (by rw[hget,if_pos rfl]) hne (.base hroot)
    | @step j u q hb2 hn hr ih =>
      (have hjb:b≠j:=fun e=>by subst e;rw[hb] at hb2;cases hb2;exact hn rfl);exact ⟨fun e=>.step (by rw[hget,if_neg hjb];exact hb2) hn (ih.1 e),fun e=>.step (by rw[hget,if_neg hjb];exact hb2) hn (ih.2 e)⟩
  (rcases hk with ⟨rfl,hk | hk⟩ | ⟨_,e2,hk⟩);(· exact (key k _ hk).1 hne);(· exact (key k _ hk).2 rfl);exact (key k _ hk).1 e2
theorem Rt.push {up:List Nat} {k q:Nat}:Rt (up++[up.length]) k q→(∀(i u:Nat),up[i]?=some u→u<up.length)→(Rt up k q∨(k=up.length∧q=up.length)):=by
  intro h hl
  induction h with
  | @base j hb =>
    (rcases zQ j up.length with h1 | h1);(· rw[zG h1] at hb;exact .inl (.base hb));have h2:=(zf.1 hb).1;simp at h2
    exact .inr ⟨by omega,by omega⟩
  | @step j u q hb hn hr ih =>
    rcases zQ j up.length with h1 | h1
    · rw[zG h1] at hb
      (rcases ih with ih | ⟨ih,_⟩);(· exact .inl (.step hb hn ih));have:=hl j u hb;omega
    have h2:=(zf.1 hb).1;(simp at h2);(have e:j=up.length:=by omega);subst e;rw[zP (z6 _)] at hb;(simp at hb);exact absurd hb.symm hn
theorem Rt.mono {up:List Nat} {k q:Nat} (h:Rt up k q):Rt (up++[up.length]) k q:=by
  induction h with
  | base hb=>exact .base (by rw[zG (zf.1 hb).1];exact hb)
  | step hb hn _ ih=>exact .step (by rw[zG (zf.1 hb).1];exact hb) hn ih
theorem UpOk.push {up:List Nat} {h:Nat→Nat} (H:UpOk up h):UpOk (up++[up.length]) h:=by
  refine ⟨fun i u hi=>?_,fun i u hi hn=>?_⟩
  · rcases zQ i up.length with h1 | h1
    (· rw[zG h1] at hi;have:=H.lt i u hi;simp;omega);rw[zP h1] at hi;have h2:=(zf.1 hi).1;(have e:i-up.length=0:=by simp at h2;omega);rw[e] at hi;simp at hi;simp[← hi]
  (rcases zQ i up.length with h1 | h1);(· rw[zG h1] at hi;exact H.down i u hi hn);rw[zP h1] at hi;have h2:=(zf.1 hi).1;(have e:i-up.length=0:=by simp at h2;omega);rw[e] at hi;simp at hi;omega
end Go.Proofs.YtpfiliamceimmaaGreatDoor
