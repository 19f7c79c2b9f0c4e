/- packed, part 35 of 54. Conditions: none. -/
import Derived.Test.YtpfiliamceimmaaGreatDoorPk34
set_option linter.unusedVariables false
set_option linter.unusedSimpArgs false
namespace Go.Proofs.YtpfiliamceimmaaGreatDoor
open Go Go.RowKit
abbrev Sh:=Nat→Option (Int×List Int)
inductive Cl (sh:Sh) (E:List (Nat×Nat)):Nat→Nat→Prop
  | base {a b:Nat} (h:(a,b)∈E):Cl sh E a b
  | refl (i:Nat):Cl sh E i i
  | symm {i k:Nat} (h:Cl sh E i k):Cl sh E k i
  | trans {i k l:Nat} (h:Cl sh E i k) (h2:Cl sh E k l):Cl sh E i l
  | part {i k j:Nat} {c p q:Int} {ps qs:List Int} (h:Cl sh E i k) (hi:sh i=some (c,ps)) (hk:sh k=some (c,qs)) (hc:c≠1) (hl:ps.length=qs.length) (hp:ps[j]?=some p) (hq:qs[j]?=some q):Cl sh E p.toNat q.toNat
def ClashAt (sh:Sh) (i k:Nat):Prop:=∃(c d:Int) (ps qs:List Int),sh i=some (c,ps)∧sh k=some (d,qs)∧c≠1∧d≠1∧(c≠d∨ps.length≠qs.length)
def Clash (sh:Sh) (E:List (Nat×Nat)):Prop:=∃i k:Nat,Cl sh E i k∧ClashAt sh i k
def ShLe (a b:Sh):Prop:=∀i x,a i=some x→b i=some x
theorem Cl.mono {a b:Sh} {E D:List (Nat×Nat)} (hs:ShLe a b) (hE:∀e∈E,e∈D) {i k:Nat} (h:Cl a E i k):Cl b D i k:=by
  induction h with
  | base h=>exact .base (hE _ h)
  | refl i=>exact .refl i
  | symm _ ih=>exact .symm ih
  | trans _ _ ih1 ih2=>exact .trans ih1 ih2
  | part _ hi hk hc hl hp hq ih=>exact .part ih (hs _ _ hi) (hs _ _ hk) hc hl hp hq
theorem Clash.mono {a b:Sh} {E D:List (Nat×Nat)} (hs:ShLe a b) (hE:∀e∈E,e∈D) (h:Clash a E):Clash b D:=by
  obtain ⟨i,k,h,c,d,ps,qs,h1,h2,h3⟩:=h;exact ⟨i,k,h.mono hs hE,c,d,ps,qs,hs _ _ h1,hs _ _ h2,h3⟩
structure Closed (sh:Sh) (E:List (Nat×Nat)) (R:Nat→Nat→Prop):Prop where
  base:∀e∈E,R e.1 e.2
  refl:∀i,R i i
  symm:∀i k,R i k→R k i
  trans:∀i k l,R i k→R k l→R i l
  part:∀(i k j:Nat) (c p q:Int) (ps qs:List Int),R i k→sh i=some (c,ps)→sh k=some (c,qs)→c≠1→ps.length=qs.length→ps[j]?=some p→qs[j]?=some q→R p.toNat q.toNat
theorem Cl.least {sh:Sh} {E:List (Nat×Nat)} {R:Nat→Nat→Prop} (h:Closed sh E R) {i k:Nat} (hc:Cl sh E i k):R i k:=by
  induction hc with
  | base h1=>exact h.base _ h1
  | refl i=>exact h.refl i
  | symm _ ih=>exact h.symm _ _ ih
  | trans _ _ ih1 ih2=>exact h.trans _ _ _ ih1 ih2
  | part _ hi hk hc hl hp hq ih=>exact h.part _ _ _ _ _ _ _ _ ih hi hk hc hl hp hq
inductive Eqv (B:Nat→Nat→Prop):Nat→Nat→Prop
  | base {a b:Nat} (h:B a b):Eqv B a b
  | refl (i:Nat):Eqv B i i
  | symm {i k:Nat} (h:Eqv B i k):Eqv B k i
  | trans {i k l:Nat} (h:Eqv B i k) (h2:Eqv B k l):Eqv B i l
theorem Eqv.lift {B C:Nat→Nat→Prop} (h:∀i k,B i k→Eqv C i k) {i k:Nat} (hc:Eqv B i k):Eqv C i k:=by
  induction hc with
  | base h1=>exact h _ _ h1
  | refl i=>exact .refl i
  | symm _ ih=>exact .symm ih
  | trans _ _ ih1 ih2=>exact .trans ih1 ih2
def One (up:List Nat) (i k:Nat):Prop:=i=k∨∃r,Rt up i r∧Rt up k r
theorem One.symm {up:List Nat} {i k:Nat} (h:One up i k):One up k i:=by
  (rcases h with h | ⟨r,h1,h2⟩);(· exact .inl h.symm);exact .inr ⟨r,h2,h1⟩
theorem One.trans {up:List Nat} {i k l:Nat} (h:One up i k) (h':One up k l):One up i l:=by
  (rcases h with rfl | ⟨r,h1,h2⟩);(· exact h');(rcases h' with rfl | ⟨q,h3,h4⟩);(· exact .inr ⟨r,h1,h2⟩);(cases Rt.det h2 h3);exact .inr ⟨r,h1,h4⟩
def Wt (up:List Nat) (w:List (Int×Int)) (i k:Nat):Prop:=One up i k∨∃p∈w,i=p.1.toNat∧k=p.2.toNat
def Qv (up:List Nat) (w:List (Int×Int)):Nat→Nat→Prop:=Eqv (Wt up w)
theorem Qv.nil {up:List Nat} {i k:Nat} (h:Qv up [] i k):One up i k:=by
  induction h with
  | base h1 =>
    (rcases h1 with h1 | ⟨p,hp,_⟩);· exact h1
    cases hp
  | refl i=>exact .inl rfl
  | symm _ ih=>exact ih.symm
  | trans _ _ ih1 ih2=>exact ih1.trans ih2
theorem Qv.one {up:List Nat} {w:List (Int×Int)} {i k:Nat} (h:One up i k):Qv up w i k:=.base (.inl h)
def shG (G:GS):Sh:=fun i=>(G.N[i]?).map fun x=>(x.k,x.parts)
theorem shG_at {G:GS} {i:Nat} {c:Int} {ps:List Int} (h:shG G i=some (c,ps)):∃x,G.N[i]?=some x∧x.k=c∧x.parts=ps:=by
  unfold shG at h
  cases hx:G.N[i]? with
  | none=>rw[hx] at h;cases h
  | some x=>rw[hx] at h;cases h;exact ⟨x,rfl,rfl,rfl⟩
theorem zdS {G:GS} {i:Nat} {x:GNode} (h:G.N[i]?=some x):shG G i=some (x.k,x.parts):=by unfold shG;rw[h];rfl
structure WInv (E:List (Nat×Nat)) (S:CS) (w:List (Int×Int)):Prop where
  c:CInv S
  wr:∀p∈w,(0≤p.1∧p.1<(S.G.N.length:Int))∧0≤p.2∧p.2<(S.G.N.length:Int)
  sub:∀i k,One S.F.up i k→Cl (shG S.G) E i k
  subw:∀p∈w,Cl (shG S.G) E p.1.toNat p.2.toNat
  ex:∀e∈E,Qv S.F.up w e.1 e.2
  neg:∀(r i:Nat) (x c:Int) (ps:List Int),S.W[r]?=some x→x<0→Rt S.F.up i r→shG S.G i=some (c,ps)→c=1
  pos:∀(r:Nat) (x:Int),Rt S.F.up r r→S.W[r]?=some x→0≤x→Rt S.F.up x.toNat r∧∃c ps,shG S.G x.toNat=some (c,ps)∧c≠1 ∧
    ∀(i:Nat) (d:Int) (qs:List Int),Rt S.F.up i r→shG S.G i=some (d,qs)→d≠1→d=c∧qs.length=ps.length∧∀(j:Nat) (p q:Int),ps[j]?=some p→qs[j]?=some q→Qv S.F.up w q.toNat p.toNat
theorem CInv.root {S:CS} (h:CInv S) {i:Nat} (hi:i<S.G.N.length):∃r,Rt S.F.up i r:=by
  obtain ⟨_,H⟩:=h.f.ok;exact H.ex (by have h3:=h.fl;have h4:=h.wl;omega)
theorem CInv.wat {S:CS} (h:CInv S) {i r:Nat} (k:Rt S.F.up i r):∃x,S.W[r]?=some x:=⟨_,ze (by have h1:=k.lt;have h3:=h.fl;omega)⟩
theorem WInv.closed {E:List (Nat×Nat)} {S:CS} (h:WInv E S []):Closed (shG S.G) E (One S.F.up):=by
  refine ⟨fun e he=>(h.ex e he).nil,fun i=>.inl rfl,fun _ _ h=>h.symm,fun _ _ _ h k=>h.trans k,?_⟩;intro i k j c p q ps qs hik hi hk hc hl hp hq;(rcases hik with rfl | ⟨r,h1,h2⟩);(· rw[hi] at hk;cases hk;rw[hp] at hq;cases hq;exact .inl rfl);obtain ⟨x,hx⟩:=h.c.wat h1;(rcases Int.lt_or_le x 0 with hx0 | hx0);(· exact absurd (h.neg r i x c ps hx hx0 h1 hi) hc);obtain ⟨_,c2,rs,h4,h5,h6⟩:=h.pos r x (.base h1.root) hx hx0;obtain ⟨e1,e2,e3⟩:=h6 i c ps h1 hi hc;obtain ⟨_,e5,e6⟩:=h6 k c qs h2 hk hc;have hj:=(zf.1 hp).1;have hr:rs[j]?=some (rs[j]'tz1):=ze tz1;exact ((e3 j _ _ hr hp).nil).trans ((e6 j _ _ hr hq).nil).symm
theorem WInv.iff {E:List (Nat×Nat)} {S:CS} (h:WInv E S []) (i k:Nat):One S.F.up i k↔Cl (shG S.G) E i k:=⟨h.sub i k,fun hc=>Cl.least h.closed hc⟩
theorem WInv.noClash {E:List (Nat×Nat)} {S:CS} (h:WInv E S []):¬Clash (shG S.G) E:=by
  rintro ⟨i,k,hc,c,d,ps,qs,hi,hk,hc1,hd1,hne⟩;rcases (h.iff i k).2 hc with rfl | ⟨r,h1,h2⟩
  · rw[hi] at hk;cases hk
    rcases hne with e | e <;> exact e rfl
  obtain ⟨x,hx⟩:=h.c.wat h1;(rcases Int.lt_or_le x 0 with hx0 | hx0);(· exact absurd (h.neg r i x c ps hx hx0 h1 hi) hc1);obtain ⟨_,c2,rs,h4,h5,h6⟩:=h.pos r x (.base h1.root) hx hx0;obtain ⟨e1,e2,_⟩:=h6 i c ps h1 hi hc1;obtain ⟨e4,e5,_⟩:=h6 k d qs h2 hk hd1;(rcases hne with e | e);(· exact e (by rw[e1,e4]));exact e tz1
theorem clash_iff {x y:GNode} (hx:x.k≠1) (hy:y.k≠1) {G:GS} {i k:Nat} (h1:G.N[i]?=some x) (h2:G.N[k]?=some y):clash x y=true→ClashAt (shG G) i k:=fun h=>by
  refine ⟨_,_,_,_,zdS h1,zdS h2,hx,hy,?_⟩;simpa [clash] using h
theorem clash_not {x y:GNode} (h:clash x y=false):x.k=y.k∧x.parts.length=y.parts.length:=by
  simpa [clash] using h
theorem zip_at {α:Type} {a b:List α} {j:Nat} {p q:α} (hp:a[j]?=some p) (hq:b[j]?=some q):(p,q)∈a.zip b:=by
  refine List.mem_iff_getElem?.2 ⟨j,?_⟩;rw[List.getElem?_zip_eq_some];exact ⟨hp,hq⟩
theorem CJoin.shape {S:CS} {a b:Nat} {s:CS×(List (Int×Int)×Bool)} (h:CJoin S a b s) (hc:CInv S):CInv s.1:=by
  obtain ⟨r,two,hF,hx⟩:=h.ex;have hg:=h.g;have hl:=hF.len;have hl:s.1.F.up.length=S.F.up.length:=hl
  have hW:s.1.W=S.W∨∃v:Int,s.1.W=S.W.set r v∧(v=-1∨(0≤v∧v<(S.G.N.length:Int))):=by
    (rcases hx with ⟨_,h1,_⟩ | ⟨_,ra,rb,x,y,_,_,hx,hy,h2⟩);(· exact .inl h1);have hx2:=hc.wr _ (zm hx);have hy2:=hc.wr _ (zm hy);(rcases h2 with ⟨_,h3,_⟩ | ⟨_,_,h3,_⟩);(· exact .inr ⟨_,h3,by omega⟩);exact .inr ⟨_,h3,hx2⟩
  have hWl:s.1.W.length=S.W.length:=by
    (rcases hW with h1 | ⟨v,h1,_⟩ <;> rw[h1]);rw[zw]
  refine ⟨by rw[hg];exact hc.g,hF.inv,by rw[hl,hWl];exact hc.fl,by rw[hWl,hg];exact hc.wl,fun w hw=>?_,by rw[hg];exact hc.pl,by rw[hg];exact hc.pr⟩;rw[hg];(rcases hW with h1 | ⟨v,h1,h2⟩);(· rw[h1] at hw;exact hc.wr w hw);rw[h1] at hw;(rcases List.mem_or_eq_of_mem_set hw with hw | rfl);(· exact hc.wr w hw);exact h2
end Go.Proofs.YtpfiliamceimmaaGreatDoor
