/- packed, part 42 of 54. Conditions: none. -/
import Derived.Test.YtpfiliamceimmaaGreatDoorPk41
set_option linter.unusedVariables false
set_option linter.unusedSimpArgs false
namespace Go.Proofs.YtpfiliamceimmaaGreatDoor
open Go Go.RowKit
def zcU (c:List Int) (a b:Nat):List Int:=c.map fun x=>if x=(c[b]?).getD 0 then (c[a]?).getD 0 else x
def zdx (n:Nat):List Int:=(List.range n).map fun (i:Nat)=>(i:Int)
theorem zkh (n:Nat):(zdx n).length=n:=by simp[zdx]
theorem zfC (c:List Int) (a b:Nat):(zcU c a b).length=c.length:=by simp[zcU]
theorem zfp {n s:Nat} (h:s<n):(zdx n)[s]?=some (s:Int):=by simp[zdx,h]
theorem zd5 {c:List Int} {a b s:Nat} {x y z:Int} (hx:c[s]?=some x) (hy:c[b]?=some y) (hz:c[a]?=some z):(zcU c a b)[s]?=some (if x=y then z else x):=by
  simp[zcU,zY,hx,hy,hz]
theorem zgh {c:List Int} {a b i k:Nat} (h:c[i]?=c[k]?):(zcU c a b)[i]?=(zcU c a b)[k]?:=by
  simp only[zcU,zY,h]
theorem zgc {c:List Int} {a b:Nat} (ha:a<c.length) (hb:b<c.length):(zcU c a b)[a]?=(zcU c a b)[b]?:=by
  have h1:c[a]?=some c[a]:=ze ha;have h2:c[b]?=some c[b]:=ze hb;rw[zd5 h1 h2 h1,zd5 h2 h2 h1,if_pos rfl];split <;> rfl
theorem zkf {c:List Int} {a b i k:Nat} (ha:a<c.length) (hb:b<c.length) (hi:i<c.length) (hk:k<c.length) (h:(zcU c a b)[i]?=(zcU c a b)[k]?) :
    c[i]?=c[k]?∨(c[i]?=c[b]?∧c[k]?=c[a]?)∨(c[i]?=c[a]?∧c[k]?=c[b]?):=by
  have h1:c[a]?=some c[a]:=ze ha;have h2:c[b]?=some c[b]:=ze hb;have h3:c[i]?=some c[i]:=ze hi;have h4:c[k]?=some c[k]:=ze hk;rw[zd5 h3 h2 h1,zd5 h4 h2 h1] at h;rw[h1,h2,h3,h4]
  by_cases e1:c[i]=c[b] <;> by_cases e2:c[k]=c[b]
  · left;rw[e1,e2]
  · rw[if_pos e1,if_neg e2] at h
    right;left;exact ⟨by rw[e1],h.symm⟩
  · rw[if_neg e1,if_pos e2] at h
    right;right;exact ⟨h,by rw[e2]⟩
  rw[if_neg e1,if_neg e2] at h;left;exact h
structure Col (m:List RNode) (E:List (Nat×Nat)) (c:List Int):Prop where
  len:c.length=m.length
  sub:∀i k,i<m.length→k<m.length→c[i]?=c[k]?→Cl (shR m) E i k
theorem Col.range (m:List RNode) (E:List (Nat×Nat)):Col m E (zdx m.length):=by
  refine ⟨zkh _,fun i k hi hk h=>?_⟩;rw[zfp hi,zfp hk] at h;have:i=k:=Int.ofNat.inj (Option.some.inj h);exact this▸.refl i
theorem Col.join {m:List RNode} {E:List (Nat×Nat)} {c:List Int} (h:Col m E c) {a b:Nat} (ha:a<m.length) (hb:b<m.length) (hc:Cl (shR m) E a b):Col m E (zcU c a b):=by
  have hl:=h.len;refine ⟨by rw[zfC,hl],fun i k hi hk hik=>?_⟩;(rcases zkf tz1 tz1 tz1 tz1 hik with e | ⟨e1,e2⟩ | ⟨e1,e2⟩);(· exact h.sub i k hi hk e);(· exact ((h.sub i b hi hb e1).trans hc.symm).trans (h.sub k a hk ha e2).symm);exact ((h.sub i a hi ha e1).trans hc).trans (h.sub k b hk hb e2).symm
def HeldC (E:List (Nat×Nat)) (c:List Int):Prop:=∀e∈E,c[e.1]?=c[e.2]?
theorem HeldC.join {E:List (Nat×Nat)} {c:List Int} (h:HeldC E c) (a b:Nat):HeldC E (zcU c a b):=fun e he=>zgh (h e he)
def PUp (m:List RNode) (c:List Int) (i k j:Nat):Prop:=∀(x y:RNode) (q:Nat) (p r:Int),q<j→m[i]?=some x→m[k]?=some y→x.parts[q]?=some p→y.parts[q]?=some r→c[p.toNat]?=c[r.toNat]?
def POk (m:List RNode) (c:List Int) (i k:Nat):Prop:=∀(x y:RNode),m[i]?=some x→m[k]?=some y→c[i]?=c[k]?→x.t.k≠1→x.t.k=y.t.k→x.parts.length=y.parts.length→PUp m c i k x.parts.length
def PAll (m:List RNode) (c:List Int) (s t:Nat):Prop:=(∀i k,i<s→k<i→POk m c i k)∧∀k,k<t→POk m c s k
theorem PAll.zero (m:List RNode) (c:List Int):PAll m c 0 0:=⟨fun _ _ h=>by omega,fun _ h=>by omega⟩
theorem PAll.next {m:List RNode} {c:List Int} {s t:Nat} (h:PAll m c s t) (hp:POk m c s t):PAll m c s (t+1):=⟨h.1,fun k hk=>by
  (rcases zQ k t with h1 | h1);(· exact h.2 k h1);have:k=t:=by omega
  exact this▸hp⟩
theorem PAll.row {m:List RNode} {c:List Int} {s:Nat} (h:PAll m c s s):PAll m c (s+1) 0:=⟨fun i k hi hk=>by
  (rcases zQ i s with h1 | h1);(· exact h.1 i k h1 hk);have:i=s:=by omega
  subst this;exact h.2 k hk,fun _ h=>by omega⟩
theorem PUp.zero (m:List RNode) (c:List Int) (i k:Nat):PUp m c i k 0:=fun _ _ _ _ _ h=>by omega
theorem PUp.next {m:List RNode} {c:List Int} {i k j:Nat} {x y:RNode} {p r:Int} (h:PUp m c i k j) (hx:m[i]?=some x) (hy:m[k]?=some y) (hp:x.parts[j]?=some p) (hr:y.parts[j]?=some r) (hc:c[p.toNat]?=c[r.toNat]?):PUp m c i k (j+1):=fun x' y' q p' r' hq h1 h2 h3 h4=>by
  rw[hx] at h1;cases h1;rw[hy] at h2;cases h2;(rcases zQ q j with h5 | h5);(· exact h _ _ q p' r' h5 hx hy h3 h4);(have:q=j:=by omega);subst this;rw[hp] at h3;cases h3;rw[hr] at h4;cases h4;exact hc
theorem POk.skip {m:List RNode} {c:List Int} {i k:Nat} {x y:RNode} (hx:m[i]?=some x) (hy:m[k]?=some y) (h:¬(c[i]?=c[k]?∧x.t.k≠1∧x.t.k=y.t.k∧x.parts.length=y.parts.length)):POk m c i k:=fun x' y' h1 h2 h3 h4 h5 h6=>by
  rw[hx] at h1;cases h1;rw[hy] at h2;cases h2;exact absurd ⟨h3,h4,h5,h6⟩ h
theorem POk.all {m:List RNode} {c:List Int} {i k:Nat} {x:RNode} (hx:m[i]?=some x) (h:PUp m c i k x.parts.length):POk m c i k:=fun x' y' h1 h2 _ _ _ _=>by
  rw[hx] at h1;cases h1;exact h
def MOk (m:List RNode):Prop:=∀x∈m,∀p∈x.parts,0≤p∧p<(m.length:Int)
theorem zdh {m:List RNode} {i:Nat} {x:RNode} (h:m[i]?=some x):shR m i=some (x.t.k,x.parts):=by unfold shR;rw[h];rfl
theorem zdP {m:List RNode} {i:Nat} {c:Int} {ps:List Int} (h:shR m i=some (c,ps)):∃x,m[i]?=some x∧x.t.k=c∧x.parts=ps:=by
  unfold shR at h
  cases hx:m[i]? with
  | none=>rw[hx] at h;cases h
  | some x=>rw[hx] at h;cases h;exact ⟨x,rfl,rfl,rfl⟩
theorem Col.iff {m:List RNode} {E:List (Nat×Nat)} {c:List Int} (h:Col m E c) (hE:HeldC E c) (hr:∀e∈E,e.1<m.length∧e.2<m.length) (hM:MOk m) (hp:∀i k,i<m.length→k<i→POk m c i k)
    {i k:Nat} (hi:i<m.length) (hk:k<m.length):c[i]?=c[k]?↔Cl (shR m) E i k:=by
  refine ⟨h.sub i k hi hk,fun hc=>?_⟩
  have key:i=k∨(i<m.length∧k<m.length∧c[i]?=c[k]?):=by
    refine Cl.least (R:=fun i k=>i=k∨(i<m.length∧k<m.length∧c[i]?=c[k]?)) ⟨fun e he=>.inr ⟨(hr e he).1,(hr e he).2,hE e he⟩,fun _=>.inl rfl,?_,?_,?_⟩ hc
    · rintro a b (rfl | ⟨h1,h2,h3⟩)
      (· exact .inl rfl);exact .inr ⟨h2,h1,h3.symm⟩
    · rintro a b d (rfl | ⟨h1,h2,h3⟩) (rfl | ⟨h4,h5,h6⟩)
      (· exact .inl rfl);(· exact .inr ⟨h4,h5,h6⟩);(· exact .inr ⟨h1,h2,h3⟩);exact .inr ⟨h1,h5,h3.trans h6⟩
    rintro a b j d p q ps qs hab ha hb hd hl hpj hqj;obtain ⟨x,hx,rfl,rfl⟩:=zdP ha;obtain ⟨y,hy,hyk,rfl⟩:=zdP hb;have hpm:=hM x (zm hx) p (zm hpj);have hqm:=hM y (zm hy) q (zm hqj);have hjl:=(zf.1 hpj).1;have hal:=(zf.1 hx).1;have hbl:=(zf.1 hy).1;rcases hab with rfl | ⟨_,_,h3⟩
    · rw[hx] at hy;cases hy
      rw[hpj] at hqj;cases hqj;exact .inl rfl
    refine .inr ⟨by omega,by omega,?_⟩;rcases Nat.lt_trichotomy a b with hlt | rfl | hlt
    · have:=hp b a hbl hlt y x hy hx h3.symm (by rw[hyk];exact hd) hyk hl.symm
      exact (this y x j q p tz1 hy hx hqj hpj).symm
    · rw[hx] at hy;cases hy
      rw[hpj] at hqj;cases hqj;rfl
    have:=hp a b hal hlt x y hx hy h3 hd hyk.symm hl;exact this x y j p q tz1 hx hy hpj hqj
  (rcases key with rfl | ⟨_,_,h⟩);(· rfl);exact h
def ndC (c:List Int):Nat:=((List.range c.length).flatMap fun i=>(List.range c.length).map fun k=>(i,k)).countP fun e=>decide (c[e.1]?≠c[e.2]?)
theorem ndC_join {c:List Int} {a b:Nat} (ha:a<c.length) (hb:b<c.length) (h:c[a]?≠c[b]?):ndC (zcU c a b)<ndC c:=by
  unfold ndC;rw[zfC];refine zfw (fun x _ hx=>?_) ⟨(a,b),?_,by simpa using h,by simpa using zgc ha hb⟩
  · simp only[zl] at hx ⊢
    exact fun e=>hx (zgh e)
  simp[ha,hb]
open Classical in
noncomputable def clB (m:List RNode) (c:List Int):Bool:=decide (∃i k,i<m.length∧k<i∧c[i]?=c[k]?∧ClashAt (shR m) i k)
theorem ClashAt.symm {sh:Sh} {i k:Nat} (h:ClashAt sh i k):ClashAt sh k i:=by
  obtain ⟨c,d,ps,qs,h1,h2,h3,h4,h5⟩:=h;exact ⟨d,c,qs,ps,h2,h1,h4,h3,h5.imp Ne.symm Ne.symm⟩
theorem clB_iff {m:List RNode} {E:List (Nat×Nat)} {c:List Int} (h:∀i k,i<m.length→k<m.length→(c[i]?=c[k]?↔Cl (shR m) E i k)):clB m c=true↔Clash (shR m) E:=by
  classical
  unfold clB;rw[zl];constructor
  · rintro ⟨i,k,h1,h2,h3,h4⟩
    exact ⟨i,k,(h i k h1 tz1).1 h3,h4⟩
  rintro ⟨i,k,h1,h2⟩;obtain ⟨cc,d,ps,qs,h3,h4,h5⟩:=h2;obtain ⟨x,hx,hxk,hxp⟩:=zdP h3;obtain ⟨y,hy,hyk,hyp⟩:=zdP h4;have hil:=(zf.1 hx).1;have hkl:=(zf.1 hy).1;have hca:ClashAt (shR m) i k:=⟨cc,d,ps,qs,h3,h4,h5⟩;(rcases Nat.lt_trichotomy i k with hlt | rfl | hlt);· exact ⟨k,i,hkl,hlt,(h k i hkl hil).2 h1.symm,hca.symm⟩
  · rw[h3] at h4;cases h4
    rcases h5.2.2 with e | e <;> exact absurd rfl e
  exact ⟨i,k,hil,hlt,(h i k hil hkl).2 h1,hca⟩
def NoCl (m:List RNode) (c:List Int) (s t:Nat):Prop:=(∀i k,i<s→k<i→c[i]?=c[k]?→¬ClashAt (shR m) i k)∧∀k,k<t→c[s]?=c[k]?→¬ClashAt (shR m) s k
theorem NoCl.zero (m:List RNode) (c:List Int):NoCl m c 0 0:=⟨fun _ _ h=>by omega,fun _ h=>by omega⟩
theorem NoCl.next {m:List RNode} {c:List Int} {s t:Nat} (h:NoCl m c s t) (hp:c[s]?=c[t]?→¬ClashAt (shR m) s t):NoCl m c s (t+1):=⟨h.1,fun k hk=>by
  (rcases zQ k t with h1 | h1);(· exact h.2 k h1);have:k=t:=by omega
  exact this▸hp⟩
theorem NoCl.row {m:List RNode} {c:List Int} {s:Nat} (h:NoCl m c s s):NoCl m c (s+1) 0:=⟨fun i k hi hk=>by
  (rcases zQ i s with h1 | h1);(· exact h.1 i k h1 hk);have:i=s:=by omega
  subst this;exact h.2 k hk,fun _ h=>by omega⟩
theorem NoCl.all {m:List RNode} {c:List Int} (h:NoCl m c m.length 0):clB m c=false:=by
  classical
  unfold clB;rw[zn];rintro ⟨i,k,h1,h2,h3,h4⟩;exact h.1 i k h1 h2 h3 h4
theorem clB_of {m:List RNode} {c:List Int} {i k:Nat} (h1:i<m.length) (h2:k<i) (h3:c[i]?=c[k]?) (h4:ClashAt (shR m) i k):clB m c=true:=by
  classical
  unfold clB;rw[zl];exact ⟨i,k,h1,h2,h3,h4⟩
theorem zcD {m:List RNode} {i k:Nat} {x y:RNode} (hx:m[i]?=some x) (hy:m[k]?=some y):ClashAt (shR m) i k↔x.t.k≠1∧y.t.k≠1∧(x.t.k≠y.t.k∨x.parts.length≠y.parts.length):=by
  constructor
  · rintro ⟨c,d,ps,qs,h1,h2,h3⟩
    rw[zdh hx] at h1;cases h1;rw[zdh hy] at h2;cases h2;exact h3
  intro h;exact ⟨_,_,_,_,zdh hx,zdh hy,h⟩
theorem zdo:∀(l:List (Ty×Ty)),(∀e∈l,e.1.right=true∧e.2.right=true∧e.1.cnt≤400∧e.2.cnt≤400) →
    (∃G,Rel G (eqF l).1)∧(∀p∈(eqF l).2,(0≤p.1∧p.1<((eqF l).1.length:Int))∧0≤p.2∧p.2<((eqF l).1.length:Int)):=by
  suffices h:∀(n:Nat) (l:List (Ty×Ty)),l.length=n→(∀e∈l,e.1.right=true∧e.2.right=true∧e.1.cnt≤400∧e.2.cnt≤400) →
    (∃G,Rel G (eqF l).1)∧(∀p∈(eqF l).2,(0≤p.1∧p.1<((eqF l).1.length:Int))∧0≤p.2∧p.2<((eqF l).1.length:Int)) from fun l=>h l.length l rfl
  intro n
  induction n with
  | zero =>
    intro l hl _;have:l=[]:=List.length_eq_zero_iff.1 hl;subst this;refine ⟨⟨⟨[],[]⟩,⟨rfl,?_,?_⟩⟩,by simp[eqF]⟩;· intro i x r h;simp at h
    intro n;left;exact ⟨rfl,by simp[eqF,zb4]⟩
  | succ n ih =>
    intro l hl hr;(have hne:l≠[]:=fun e=>by rw[e] at hl;simp at hl);obtain ⟨d,e,rfl⟩:∃d e,l=d++[e]:=⟨l.dropLast,l.getLast hne,(List.dropLast_concat_getLast hne).symm⟩;obtain ⟨⟨G,hG⟩,hp⟩:=ih d (by simp at hl;omega) (fun x hx=>hr x (by simp[hx]));obtain ⟨h1,h2,h3,h4⟩:=hr e tz4;have s1:=zb0 e.1 h1 h3 G _ hG;have s2:=zb0 e.2 h2 h4 _ _ s1.rel;rw[zbm];have l1:=s1.pre.len;have l2:=s2.pre.len
    have key:∀{m:List RNode} {i:Nat} {t:Ty},(m[i]?).map RNode.t=some t→i<m.length:=fun {m i t} h=>by
      (rcases zQ i m.length with h5 | h5);(· exact h5);rw[List.getElem?_eq_none h5] at h;cases h
    have a1:=key s1.at';have a2:=key s2.at';have g1:=s1.ge;have g2:=s2.ge;refine ⟨⟨_,s2.rel⟩,fun p hp'=>?_⟩;simp only[zdR] at hp' ⊢;rcases zM.1 hp' with hp' | hp'
    · have:=hp p hp'
      omega
    (simp at hp';subst hp');(simp only);omega
theorem Rel.mok {G:GS} {m:List RNode} (h:Rel G m):MOk m:=fun x hx p hp=>by
  obtain ⟨i,hi⟩:=List.mem_iff_getElem?.1 hx;have hl:=(zf.1 hi).1;have hGi:G.N[i]?=some (G.N[i]'(by have:=h.len;omega)):=ze (by have:=h.len;omega);obtain ⟨_,_,h3,_⟩:=h.node i _ _ hGi hi;have:=h.small.2 _ (zm hGi) p (by rw[h3];exact hp);rw[h.len] at this;exact this
theorem Rel.parts8 {G:GS} {m:List RNode} (h:Rel G m) {x:RNode} (hx:x∈m):x.parts.length≤8:=by
  obtain ⟨i,hi⟩:=List.mem_iff_getElem?.1 hx;have hl:=(zf.1 hi).1;have hGi:G.N[i]?=some (G.N[i]'(by have:=h.len;omega)):=ze (by have:=h.len;omega);obtain ⟨_,_,h3,_⟩:=h.node i _ _ hGi hi;have:=h.small.1 _ (zm hGi);rw[h3] at this;exact this
structure ColF (m:List RNode) (E:List (Nat×Nat)) (c:List Int):Prop where
  col:Col m E c
  held:HeldC E c
  ok:∀i k,i<m.length→k<i→POk m c i k
theorem ColF.clash {m:List RNode} {E:List (Nat×Nat)} {c:List Int} (h:ColF m E c) (hr:∀e∈E,e.1<m.length∧e.2<m.length) (hM:MOk m):clB m c=true↔Clash (shR m) E :=
  clB_iff fun _ _ hi hk=>h.col.iff h.held hr hM h.ok hi hk
end Go.Proofs.YtpfiliamceimmaaGreatDoor
