/- packed, part 36 of 48. Conditions: none. -/
import Derived.Test.YtpfiliamceimmaaGreatDoorPk35
set_option linter.unusedVariables false
set_option linter.unusedSimpArgs false
set_option maxRecDepth 100000
set_option maxHeartbeats 4000000
namespace Go.Proofs.YtpfiliamceimmaaGreatDoor
open Go Go.RowKit
attribute [local irreducible] aops zaA
theorem Und.eptr {n:Nat} {cs:List AV} (h:UndL n cs):Und n (.eptr cs):=fun E A w u hr=>by
 cases hr with
 | eptr g hcell hh=>exact .eptr g hcell fun j c hc=>h.mem c (zc hc) E A w _ (hh j c hc)
structure PSt (l:List (Ty×Ty)) (M:List RNode) (c:List Int) (S:CS):Prop where
 h:Holds l S
 hc:ColE l c
 m:M=(eqF l).1
 len:M.length<=1048576
 keys:S.G.V.map Prod.fst=vns M
theorem PSt.fsame {l:List (Ty×Ty)} {M:List RNode} {c:List Int} {S:CS} {F1:FS} (h:PSt l M c S) (k:FSame S.F F1):PSt l M c {S with F:=F1}:=⟨h.h.fsame k rfl,h.hc,h.m,h.len,h.keys⟩
theorem PSt.h64 {l:List (Ty×Ty)} {M:List RNode} {c:List Int} {S:CS} (h:PSt l M c S):∀q∈S.G.V,is64 q.1:=fun q hq=>vns_64 h.h.2.rel q.1 (by rw[<- h.m,<- h.keys];exact zq.2 ⟨q,hq,rfl⟩)
theorem PSt.vl {l:List (Ty×Ty)} {M:List RNode} {c:List Int} {S:CS} (h:PSt l M c S):S.G.V.length<=1048576:=by
 have h1:=congrArg List.length h.keys;rw[zx] at h1;(have h2:(vns M).length<=M.length:=by unfold vns;rw[zx];exact List.length_filter_le _ _);have h3:=h.len;omega
theorem PSt.sort {l:List (Ty×Ty)} {M:List RNode} {c:List Int} {S:CS} (h:PSt l M c S):zcf (S.G.V.map Prod.fst)=varsI M:=by rw[h.keys,zks]
theorem PSt.nl {l:List (Ty×Ty)} {M:List RNode} {c:List Int} {S:CS} (h:PSt l M c S):S.F.up.length=M.length:=by rw[h.h.2.w.c.fl,h.h.2.w.c.wl,h.m,h.h.2.rel.len]
structure PAt (M:List RNode) (c:List Int) (S:CS) (i:Nat) (x:Int):Prop where
 no:x<0->zbh M c i=-1/\zlU M c i=0
 yes:0<=x->∃(k:Nat) (g:GNode) (y:RNode),zbh M c i=(k:Int)/\S.G.N[x.toNat]?=some g/\M[k]?=some y/\zlU M c i=g.k/\1<=g.k/\g.parts.length=y.parts.length/\g.parts.length<=8/\(∀p∈g.parts,0<=p/\p<(S.F.up.length:Int)) /\
  ∀(j:Nat) (p q:Int),g.parts[j]?=some p->y.parts[j]?=some q->0<=q/\q<(M.length:Int)/\∀r',Rt S.F.up p.toNat r'->Rt S.F.up q.toNat r'
theorem PSt.part {l:List (Ty×Ty)} {M:List RNode} {c:List Int} {S:CS} (h:PSt l M c S) {i r:Nat} {x:Int} (hi:i<M.length) (hr:Rt S.F.up i r) (hx:S.W[r]?=some x):PAt M c S i x:=by
 have hm:=h.m;subst hm;have h1:=h.h.part h.hc hi hr hx;exact ⟨h1.no,h1.yes⟩
theorem PAt.g0 {M:List RNode} {c:List Int} {S:CS} {i:Nat} {x:Int} (h:PAt M c S i x):0<=x->∃g,S.G.N[x.toNat]?=some g/\1<=g.k/\g.parts.length<=8/\∀p∈g.parts,0<=p/\p<(S.F.up.length:Int):=fun h1=>by
 obtain ⟨_,g,_,_,h2,_,_,h3,_,h4,h5,_⟩:=h.yes h1;exact ⟨g,h2,h3,h4,h5⟩
theorem PAt.neg {M:List RNode} {c:List Int} {S:CS} {i:Nat} {x:Int} (h:PAt M c S i x):x<0↔zbh M c i<0:=by
 constructor;(·intro h1;have:=(h.no h1).1;omega);intro h1;(rcases Int.lt_or_le x 0 with h2 | h2);(·exact h2);obtain ⟨k,_,_,h3,_⟩:=h.yes h2;omega
def Roots (S:CS) (x:Int) (rs:List Nat):Prop:=(x<0/\rs=[])\/(0<=x/\∃g,S.G.N[x.toNat]?=some g/\rs.length=g.parts.length/\∀(j:Nat) (p:Int) (q:Nat),g.parts[j]?=some p->rs[j]?=some q->Rt S.F.up p.toNat q)
end Go.Proofs.YtpfiliamceimmaaGreatDoor
namespace Go.Proofs.YtpfiliamceimmaaGreatDoor
open Go Go.RowKit
theorem var_at {l:List (Ty×Ty)} {M:List RNode} {c:List Int} {S:CS} (h:PSt l M c S) {a:Int} {q:Nat} (hq:zbE (RNode.isVar a) M=(q:Int)):zaw S.G.V a=some (q:Int):=by
 have hm:=h.m;subst hm;(rcases h.h.vf a with ⟨_,h2⟩ | ⟨j,h1,h2,h3⟩);(·omega);(obtain rfl:j=q:=by omega);exact h1
theorem PSt.g0 {l:List (Ty×Ty)} {M:List RNode} {c:List Int} {S:CS} (h:PSt l M c S):∀(r:Nat) (x:Int),Rt S.F.up r r->S.W[r]?=some x->0<=x->∃g,S.G.N[x.toNat]?=some g/\1<=g.k/\g.parts.length<=8/\∀p∈g.parts,0<=p/\p<(S.F.up.length:Int):=fun r x hr hx h0 =>
 (h.part (by rw[<- h.nl];exact hr.lt) hr hx).g0 h0
def zcL {α:Type}:List (Int×α)->Int->Option α
 | [],_=>none
 | (k,x)::r,i=>if k=i then some x else zcL r i
def zgN {α:Type}:List (Int×α)->Int->α->List (Int×α)
 | [],k,x=>[(k,x)]
 | (k',y)::r,k,x=>if k'=k then (k,x)::r else (k',y)::zgN r k x
theorem zbC {α:Type} (k j:Int) (x:α):∀V:List (Int×α),zcL (zgN V k x) j=if j=k then some x else zcL V j
 | []=>by
  simp only[zgN,zcL]
  by_cases h:k=j
  ·subst h;simp
  rw[if_neg h,if_neg (fun e=>h e.symm)]
 | (k',y)::r=>by
  unfold zgN
  by_cases h:k'=k
  ·subst h
   simp only[if_true,zcL]
   by_cases hj:j=k'
   (·subst hj;simp);rw[if_neg (fun e=>hj e.symm),if_neg hj,if_neg (fun e=>hj e.symm)]
  simp only[if_neg h,zcL,zbC k j x r]
  by_cases hj:k'=j
  (·subst hj;simp[h]);simp[hj]
theorem zgg {α:Type} (c:α->AV) (k:Int):∀V:List (Int×α),zbS (V.map fun p=>(p.1,c p.2)) k=(zcL V k).map c
 | []=>rfl
 | (k',y)::r=>by
  simp only[zt,zbS,zcL];split;(·rfl);exact zgg c k r
theorem zhS {α:Type} (c:α->AV) (k:Int) (x:α):∀V:List (Int×α),zef (V.map fun p=>(p.1,c p.2)) k (c x)=(zgN V k x).map fun p=>(p.1,c p.2)
 | []=>rfl
 | (k',y)::r=>by
  simp only[zt,zef,zgN];split;(·rfl);rw[zhS c k x r];rfl
structure WS where
 st:List (Int×Int)
 cy:List (Int×Bool)
 de:List (Int×Int)
 sz:List (Int×Int)
 steps:Int
 bad:Bool
def WS0:WS:=⟨[],[],[],[],0,false⟩
def WS.sg (W:WS) (r:Nat):Int:=(zcL W.st r).getD 0
def WS.cg (W:WS) (r:Nat):Bool:=(zcL W.cy r).getD false
def WS.dg (W:WS) (r:Nat):Int:=(zcL W.de r).getD 0
def WS.zg (W:WS) (r:Nat):Int:=(zcL W.sz r).getD 0
def WS.tick (W:WS):WS:={W with steps:=W.steps+1}
def WS.begin (W:WS) (r:Nat):WS:={W with steps:=W.steps+1,st:=zgN W.st r 1}
def WS.mark (W:WS) (r:Nat):WS:={W with cy:=zgN W.cy r true}
def zbg (id:Nat):List Nat->WS->WS
 | [],W=>W
 | r::rest,W=>if r=id then W.mark r else zbg id rest (W.mark r)
abbrev most:Int:=1099511627776
def zbH (r:Nat) (s:(Int×Int)×WS) (p:Nat):(Int×Int)×WS:=((max s.1.1 (s.2.dg p),min most (s.1.2+s.2.zg p)),{s.2 with cy:=zgN s.2.cy r (s.2.cg r||s.2.cg p)})
def zaC (r:Nat) (ch:List Nat) (W:WS):(Int×Int)×WS:=ch.foldl (zbH r) ((0,1),{W with st:=zgN W.st r 2})
def WS.fin (W:WS) (r:Nat) (ch:List Nat):WS:={(zaC r ch W).2 with de:=zgN (zaC r ch W).2.de r (min most ((zaC r ch W).1.1+1)),sz:=zgN (zaC r ch W).2.sz r (zaC r ch W).1.2}
theorem zgK {a b:Nat} (h:a≠b):¬((a:Int)=(b:Int)):=by omega
theorem WS.cg_mark (W:WS) (r x:Nat):(W.mark r).cg x=if x=r then true else W.cg x:=by
 unfold WS.cg WS.mark;rw[zbC]
 by_cases h:x=r
 (·subst h;simp);rw[if_neg (zgK h),if_neg h]
theorem WS.sg_begin (W:WS) (r x:Nat):(W.begin r).sg x=if x=r then 1 else W.sg x:=by
 unfold WS.sg WS.begin;rw[zbC]
 by_cases h:x=r
 (·subst h;simp);rw[if_neg (zgK h),if_neg h]
theorem zc9 (id:Nat):∀(l:List Nat) (W:WS),(zbg id l W).st=W.st/\(zbg id l W).de=W.de/\(zbg id l W).sz=W.sz/\(zbg id l W).steps=W.steps/\(zbg id l W).bad=W.bad
 | [],_=>⟨rfl,rfl,rfl,rfl,rfl⟩
 | r::rest,W=>by
  unfold zbg;split;(·exact ⟨rfl,rfl,rfl,rfl,rfl⟩);exact zc9 id rest (W.mark r)
theorem ziy (id:Nat):∀(l:List Nat) (W:WS),(∀x,(zbg id l W).cg x=true->W.cg x=true\/x∈l)/\(∀x,W.cg x=true->(zbg id l W).cg x=true)/\(id∈l->(zbg id l W).cg id=true)
 | [],W=>⟨fun _ h=>.inl h,fun _ h=>h,fun h=>by cases h⟩
 | r::rest,W=>by
  unfold zbg;split
  ·rename_i e
   subst e;refine ⟨fun x h=>?_,fun x h=>?_,fun _=>?_⟩
   ·rw[WS.cg_mark] at h
    (split at h);(·rename_i e;subst e;exact .inr tz4);exact .inl h
   (·rw[WS.cg_mark];split <;> simp_all);rw[WS.cg_mark,if_pos rfl]
  (rename_i hne);obtain ⟨h1,h2,h3⟩:=ziy id rest (W.mark r);refine ⟨fun x h=>?_,fun x h=>h2 x ?_,fun h=>h3 ?_⟩
  ·rcases h1 x h with h4 | h4
   ·rw[WS.cg_mark] at h4
    (split at h4);(·rename_i e;subst e;exact .inr tz4);exact .inl h4
   exact .inr (by simp[h4])
  (·rw[WS.cg_mark];split <;> simp_all);(rcases zE.1 h with e | h);(·exact absurd e.symm hne);exact h
theorem zb9 (r:Nat):∀(ch:List Nat) (s:(Int×Int)×WS),(ch.foldl (zbH r) s).2.st=s.2.st/\(ch.foldl (zbH r) s).2.de=s.2.de/\(ch.foldl (zbH r) s).2.sz=s.2.sz/\(ch.foldl (zbH r) s).2.steps=s.2.steps/\(ch.foldl (zbH r) s).2.bad=s.2.bad /\
  (∀x,x≠r->(ch.foldl (zbH r) s).2.cg x=s.2.cg x)/\((ch.foldl (zbH r) s).2.cg r=true↔s.2.cg r=true\/∃p∈ch,s.2.cg p=true) /\
  (ch.foldl (zbH r) s).1=ch.foldl (fun a p=>(max a.1 (s.2.dg p),min most (a.2+s.2.zg p))) s.1
 | [],s=>⟨rfl,rfl,rfl,rfl,rfl,fun _ _=>rfl,by simp,rfl⟩
 | p::ch,s=>by
  obtain ⟨h1,h2,h3,h4,h5,h6,h7,h8⟩:=zb9 r ch (zbH r s p)
  have hcg:∀x,(zbH r s p).2.cg x=if x=r then (s.2.cg r||s.2.cg p) else s.2.cg x:=fun x=>by
   unfold zbH WS.cg;(simp only);rw[zbC]
   by_cases h:x=r
   (·subst h;simp);rw[if_neg (zgK h),if_neg h]
  refine ⟨h1,h2,h3,h4,h5,fun x hx=>?_,?_,h8⟩;(·rw[List.foldl_cons,h6 x hx,hcg x,if_neg hx]);rw[List.foldl_cons,h7,hcg r,if_pos rfl,Bool.or_eq_true];constructor
  ·rintro ((h | h) | ⟨q,hq,h⟩)
   (·exact .inl h);(·exact .inr ⟨p,by simp,h⟩);rw[hcg q] at h;split at h
   ·rcases Bool.or_eq_true _ _▸h with h | h
    (·exact .inl h);exact .inr ⟨p,by simp,h⟩
   exact .inr ⟨q,by simp[hq],h⟩
  rintro (h | ⟨q,hq,h⟩);(·exact .inl (.inl h));(rcases zE.1 hq with rfl | hq);(·exact .inl (.inr h));refine .inr ⟨q,hq,?_⟩;rw[hcg q];split;(·rename_i e;subst e;simp[h]);exact h
def tell (f:Nat->Int×Int) (ch:List Nat):Int×Int :=
 ((ch.foldl (fun a p=>(max a.1 (f p).1,min most (a.2+(f p).2))) ((0,1):Int×Int)).1+1,(ch.foldl (fun a p=>(max a.1 (f p).1,min most (a.2+(f p).2))) ((0,1):Int×Int)).2)
theorem WS.fin_spec (W:WS) (r:Nat) (ch:List Nat):(∀x,(W.fin r ch).sg x=if x=r then 2 else W.sg x)/\(∀x,x≠r->(W.fin r ch).cg x=W.cg x)/\((W.fin r ch).cg r=true↔W.cg r=true\/∃p∈ch,W.cg p=true) /\
  (∀x,(W.fin r ch).dg x=if x=r then min most (tell (fun p=>(W.dg p,W.zg p)) ch).1 else W.dg x)/\(∀x,(W.fin r ch).zg x=if x=r then (tell (fun p=>(W.dg p,W.zg p)) ch).2 else W.zg x)/\(W.fin r ch).steps=W.steps/\(W.fin r ch).bad=W.bad:=by
 obtain ⟨h1,h2,h3,h4,h5,h6,h7,h8⟩:=zb9 r ch ((0,1),{W with st:=zgN W.st r 2});refine ⟨fun x=>?_,h6,h7,fun x=>?_,fun x=>?_,h4,h5⟩
 ·unfold WS.sg WS.fin zaC
  (simp only);rw[h1];(simp only);rw[zbC]
  by_cases h:x=r
  (·subst h;simp);rw[if_neg (zgK h),if_neg h]
 ·unfold WS.dg WS.fin zaC
  (simp only);rw[h2,zbC,h8]
  by_cases h:x=r
  (·subst h;simp[tell,WS.dg,WS.zg]);rw[if_neg (zgK h),if_neg h]
 unfold WS.zg WS.fin zaC;(simp only);rw[h3,zbC,h8]
 by_cases h:x=r
 (·subst h;simp[tell,WS.dg,WS.zg]);rw[if_neg (zgK h),if_neg h]
inductive Rch (K:Nat->List Nat):Nat->Nat->Prop
 | refl (u:Nat):Rch K u u
 | step {u v w:Nat} (h:v∈K u) (k:Rch K v w):Rch K u w
theorem Rch.trans {K:Nat->List Nat} {u v w:Nat} (h:Rch K u v) (k:Rch K v w):Rch K u w:=by
 induction h with
 | refl _=>exact k
 | step h _ ih=>exact .step h (ih k)
def Pls (K:Nat->List Nat) (u w:Nat):Prop:=∃v∈K u,Rch K v w
theorem Pls.of_rch {K:Nat->List Nat} {u v w:Nat} (h:Rch K u v) (k:w∈K v):Pls K u w:=by
 induction h with
 | refl _=>exact ⟨w,k,.refl _⟩
 | step h _ ih =>
  obtain ⟨x,hx,hr⟩:=ih k;exact ⟨_,h,.step hx hr⟩
def Lp (K:Nat->List Nat) (r:Nat):Prop:=∃y,Rch K r y/\Pls K y y
theorem Lp.step {K:Nat->List Nat} {u v:Nat} (h:v∈K u) (k:Lp K v):Lp K u:=by
 obtain ⟨y,h1,h2⟩:=k;exact ⟨y,.step h h1,h2⟩
inductive Tl (K:Nat->List Nat):Nat->Int×Int->Prop
 | mk (u:Nat) (f:Nat->Int×Int) (h:∀v∈K u,Tl K v (f v)):Tl K u (tell f (K u))
def Frs (K:Nat->List Nat) (P:Nat->Prop):Option Nat->List (Nat×Nat)->Prop
 | _,[]=>True
 | a,(u,nx)::rest=>nx<=(K u).length/\(∀(j v:Nat),j<nx->(K u)[j]?=some v->P v\/a=some v)/\(∀v,a=some v->v∈K u)/\Frs K P (some u) rest
theorem Frs.mono {K:Nat->List Nat} {P P':Nat->Prop} (h:∀v,P v->P' v):∀{a:Option Nat} {l:List (Nat×Nat)},Frs K P a l->Frs K P' a l
 | _,[],_=>trivial
 | _,(_,_)::_,⟨h1,h2,h3,h4⟩=>⟨h1,fun j v hj hv=>(h2 j v hj hv).imp (h v) id,h3,Frs.mono h h4⟩
theorem Frs.reach {K:Nat->List Nat} {P:Nat->Prop}:∀{l:List (Nat×Nat)} {t:Nat},Frs K P (some t) l->∀p∈l,Rch K p.1 t
 | (u,nx)::rest,t,⟨_,_,h3,h4⟩,p,hp=>by
  have ht:Rch K u t:=.step (h3 t rfl) (.refl _);(rcases zE.1 hp with rfl | hp);(·exact ht);exact (Frs.reach h4 p hp).trans ht
structure DfI (K:Nat->List Nat) (N:Nat) (W:WS) (stk:List (Nat×Nat)) (fo:List Nat):Prop where
 nd:(fo++stk.map Prod.fst).Nodup
 lt:∀r∈fo++stk.map Prod.fst,r<N
 s2:∀r,r∈fo->W.sg r=2
 s1:∀r,r∈stk.map Prod.fst->W.sg r=1
 s0:∀r,r∉fo->r∉stk.map Prod.fst->W.sg r=0
 fi:∀(i u:Nat),fo[i]?=some u->∀v∈K u,v∈fo.take i\/W.cg v=true
 fr:Frs K (fun v=>v∈fo\/W.cg v=true) none stk
 cys:∀r,W.cg r=true->Lp K r
 cyb:∀r,W.cg r=true->W.bad=true
 cym:∀r,W.cg r=true->r∈fo++stk.map Prod.fst
 bds:W.bad=true->∃y∈fo++stk.map Prod.fst,Pls K y y
 tol:W.bad=false->∀(i u:Nat),fo[i]?=some u->Tl K u (W.dg u,W.zg u)/\1<=W.dg u/\W.dg u<=(i:Int)+1
theorem DfI.nil (K:Nat->List Nat) (N:Nat):DfI K N WS0 [] [] :=
 ⟨by simp,by simp,by simp,by simp,fun _ _ _=>rfl,by simp,trivial,fun r h=>(by cases h),fun r h=>(by cases h),fun r h=>(by cases h),fun h=>(by cases h),by simp⟩
theorem DfI.tick {K:Nat->List Nat} {N:Nat} {W:WS} {stk:List (Nat×Nat)} {fo:List Nat} (h:DfI K N W stk fo):DfI K N W.tick stk fo:=⟨h.nd,h.lt,h.s2,h.s1,h.s0,h.fi,h.fr,h.cys,h.cyb,h.cym,h.bds,h.tol⟩
theorem DfI.begin {K:Nat->List Nat} {N:Nat} {W:WS} {stk:List (Nat×Nat)} {fo:List Nat} {q:Nat} (h:DfI K N W stk fo) (hq:W.sg q=0) (hN:q<N) (hfr:Frs K (fun v=>v∈fo\/W.cg v=true) (some q) stk):DfI K N (W.begin q) ((q,0)::stk) fo:=by
 (have hqf:q∉fo:=fun hm=>by rw[h.s2 q hm] at hq;cases hq);(have hqs:q∉stk.map Prod.fst:=fun hm=>by rw[h.s1 q hm] at hq;cases hq);refine ⟨?_,?_,fun r hr=>?_,fun r hr=>?_,fun r hr hr2=>?_,h.fi,⟨Nat.zero_le _,fun j v hj=>by omega,fun v hv=>(by cases hv),hfr⟩,h.cys,h.cyb,fun r hr=>?_,fun hb=>?_,h.tol⟩
 ·rw[zt]
  refine List.Perm.nodup_iff (List.perm_middle) |>.2 (List.nodup_cons.2 ⟨?_,h.nd⟩);rw[zD];rintro (hm | hm);(·exact hqf hm);exact hqs hm
 ·intro r hr
  rw[zt,zD,zE] at hr;(rcases hr with hr | rfl | hr);(·exact h.lt r (by simp[hr]));(·exact hN);exact h.lt r (zD.2 (.inr hr))
 ·rw[WS.sg_begin,if_neg (fun (e:r=q)=>hqf (e▸hr))];exact h.s2 r hr
 ·rw[WS.sg_begin]
  split;(·rfl);(rename_i hne);rw[zt,zE] at hr;exact h.s1 r (hr.resolve_left hne)
 ·rw[zt,zE,not_or] at hr2
  rw[WS.sg_begin,if_neg hr2.1];exact h.s0 r hr hr2.2
 ·have:=h.cym r hr
  rw[zt,zD,zE];(rcases zD.1 this with h1 | h1);(·exact .inl h1);exact .inr (.inr h1)
 obtain ⟨y,hy,hp⟩:=h.bds hb;refine ⟨y,?_,hp⟩;rw[zt,zD,zE];(rcases zD.1 hy with h1 | h1);(·exact .inl h1);exact .inr (.inr h1)
theorem DfI.push {K:Nat->List Nat} {N:Nat} {W:WS} {stk:List (Nat×Nat)} {fo:List Nat} {u nx q:Nat} (h:DfI K N W ((u,nx)::stk) fo) (hk:(K u)[nx]?=some q) (hq:W.sg q=0) (hN:q<N):DfI K N (W.begin q) ((q,0)::(u,nx+1)::stk) fo:=by
 obtain ⟨f1,f2,f3,f4⟩:=h.fr;have hl:=(zb.1 hk).1
 have hfr:Frs K (fun v=>v∈fo\/W.cg v=true) (some q) ((u,nx+1)::stk):=⟨hl,fun j v hj hv=>by
  rcases zG j nx with h1 | h1
  ·rcases f2 j v h1 hv with h2 | h2
   (·exact .inl h2);cases h2
  obtain rfl:j=nx:=by omega
  rw[hk] at hv;cases hv;exact .inr rfl,fun v hv=>by cases hv;exact zc hk,f4⟩
 have h2:DfI K N W ((u,nx+1)::stk) fo->DfI K N (W.begin q) ((q,0)::(u,nx+1)::stk) fo:=fun h=>h.begin hq hN hfr
 -- the frame's own part is the new frame: shown of the state ahead by the same fields
 (have hqf:q∉fo:=fun hm=>by rw[h.s2 q hm] at hq;cases hq);(have hqs:q∉((u,nx)::stk).map Prod.fst:=fun hm=>by rw[h.s1 q hm] at hq;cases hq);have hb:=h.begin (q:=q) hq hN ⟨f1,fun j v hj hv=>.inl ((f2 j v hj hv).resolve_right (fun e=>by cases e)),fun v hv=>by cases hv;exact zc hk,f4⟩;exact ⟨hb.nd,hb.lt,hb.s2,hb.s1,hb.s0,hb.fi,⟨Nat.zero_le _,fun j v hj=>by omega,fun v hv=>(by cases hv),hfr⟩,hb.cys,hb.cyb,hb.cym,hb.bds,hb.tol⟩
theorem DfI.pass {K:Nat->List Nat} {N:Nat} {W:WS} {stk:List (Nat×Nat)} {fo:List Nat} {u nx q:Nat} (h:DfI K N W ((u,nx)::stk) fo) (hk:(K u)[nx]?=some q) (hq:q∈fo\/W.cg q=true):DfI K N W ((u,nx+1)::stk) fo:=by
 obtain ⟨f1,f2,f3,f4⟩:=h.fr;refine ⟨h.nd,h.lt,h.s2,h.s1,h.s0,h.fi,⟨(zb.1 hk).1,fun j v hj hv=>?_,fun v hv=>(by cases hv),f4⟩,h.cys,h.cyb,h.cym,h.bds,h.tol⟩;(rcases zG j nx with h1 | h1);(·exact f2 j v h1 hv);(obtain rfl:j=nx:=by omega);rw[hk] at hv;cases hv;exact .inl hq
theorem DfI.done {K:Nat->List Nat} {N:Nat} {W:WS} {stk:List (Nat×Nat)} {fo:List Nat} {r:Nat} (h:DfI K N W stk fo) (h0:W.sg r≠0) (h1:W.sg r≠1):r∈fo :=
 Classical.byContradiction fun hn=>by
  by_cases hs:r∈stk.map Prod.fst
  (·exact h1 (h.s1 r hs));exact h0 (h.s0 r hn hs)
theorem DfI.isOpen {K:Nat->List Nat} {N:Nat} {W:WS} {stk:List (Nat×Nat)} {fo:List Nat} {r:Nat} (h:DfI K N W stk fo) (h1:W.sg r=1):r∈stk.map Prod.fst :=
 Classical.byContradiction fun hn=>by
  by_cases hs:r∈fo
  (·rw[h.s2 r hs] at h1;cases h1);rw[h.s0 r hs hn] at h1;cases h1
theorem DfI.back {K:Nat->List Nat} {N:Nat} {W:WS} {stk:List (Nat×Nat)} {fo:List Nat} {u nx q:Nat} (h:DfI K N W ((u,nx)::stk) fo) (hk:(K u)[nx]?=some q) (hq:W.sg q=1) :
  DfI K N (zbg q (((u,nx)::stk).map Prod.fst) {W with bad:=true}) ((u,nx+1)::stk) fo:=by
 have hqs:=h.isOpen hq;obtain ⟨f1,f2,f3,f4⟩:=h.fr;obtain ⟨m1,m2,m3,m4,m5⟩:=zc9 q (((u,nx)::stk).map Prod.fst) {W with bad:=true};obtain ⟨c1,c2,c3⟩:=ziy q (((u,nx)::stk).map Prod.fst) {W with bad:=true}
 have hru:∀x∈((u,nx)::stk).map Prod.fst,Rch K x u:=fun x hx=>by
  obtain ⟨p,hp,rfl⟩:=zq.1 hx;(rcases zE.1 hp with rfl | hp);(·exact .refl _);exact Frs.reach f4 p hp
 have hkm:=zc hk;have hqq:Pls K q q:=Pls.of_rch (hru q hqs) hkm;(have hlp:∀x∈((u,nx)::stk).map Prod.fst,Lp K x:=fun x hx=>⟨q,(hru x hx).trans (.step hkm (.refl _)),hqq⟩);have hsg:∀r,(zbg q (((u,nx)::stk).map Prod.fst) {W with bad:=true}).sg r=W.sg r:=fun r=>by unfold WS.sg;rw[m1]
 refine ⟨h.nd,h.lt,fun r hr=>by rw[hsg];exact h.s2 r hr,fun r hr=>by rw[hsg];exact h.s1 r hr,fun r h1 h2=>by rw[hsg];exact h.s0 r h1 h2,fun i u' hu v hv=>(h.fi i u' hu v hv).imp id (c2 v),⟨(zb.1 hk).1,fun j v hj hv=>?_,fun v hv=>(by cases hv),Frs.mono (fun v hv=>hv.imp id (c2 v)) f4⟩,
  fun r hr=>?_,fun r hr=>by rw[m5],fun r hr=>?_,fun _=>⟨q,zD.2 (.inr hqs),hqq⟩,fun hb=>by rw[m5] at hb;cases hb⟩
 ·rcases zG j nx with h1 | h1
  (·exact (f2 j v h1 hv).imp (fun h=>h.imp id (c2 v)) id);(obtain rfl:j=nx:=by omega);rw[hk] at hv;cases hv;exact .inl (.inr (c3 hqs))
 ·rcases c1 r hr with h1 | h1
  (·exact h.cys r h1);exact hlp r h1
 (rcases c1 r hr with h1 | h1);(·exact h.cym r h1);exact zD.2 (.inr h1)
theorem zlw {f:Nat->Int×Int} {n:Int} (hn:0<=n):∀{ch:List Nat} (_:∀v∈ch,(f v).1<=n),1<=(tell f ch).1/\(tell f ch).1<=n+1:=by
 have key:∀(ch:List Nat) (a:Int×Int),0<=a.1->a.1<=n->(∀v∈ch,(f v).1<=n)->0<=(ch.foldl (fun a p=>(max a.1 (f p).1,min most (a.2+(f p).2))) a).1/\(ch.foldl (fun a p=>(max a.1 (f p).1,min most (a.2+(f p).2))) a).1<=n:=by
  intro ch
  induction ch with
  | nil=>intro a h1 h2 _;exact ⟨h1,h2⟩
  | cons p ch ih =>
   intro a h1 h2 h3;have:=h3 p tz4;exact ih _ tz5 tz5 fun v hv=>h3 v (by simp[hv])
 intro ch h;have:=key ch (0,1) tz4 (by simpa using hn) h;unfold tell;(simp only);omega
theorem zdC:∀{N:Nat} {l:List Nat},l.Nodup->(∀r∈l,r<N)->l.length<=N
 | 0,l,_,hl=>by
  cases l with
  | nil=>simp
  | cons a l=>exact absurd (hl a tz4) tz1
 | N+1,l,hn,hl=>by
  by_cases h:N∈l
  ·have h1:=zdC (N:=N) (hn.erase N) fun r hr=>by
    have h2:=(hn.mem_erase_iff).1 hr;have:=hl r h2.2;omega
   rw[List.length_erase_of_mem h] at h1;omega
  have h1:=zdC (N:=N) hn fun r hr=>by
   have h2:=hl r hr;(have:r≠N:=fun e=>h (e▸hr));omega
  omega
theorem DfI.fin {K:Nat->List Nat} {N:Nat} {W:WS} {stk:List (Nat×Nat)} {fo:List Nat} {u nx:Nat} (h:DfI K N W ((u,nx)::stk) fo) (hnx:(K u).length<=nx) (hN:(N:Int)<=1048576):DfI K N (W.fin u (K u)) stk (fo++[u]):=by
 obtain ⟨f1,f2,f3,f4⟩:=h.fr;obtain ⟨g1,g2,g3,g4,g5,g6,g7⟩:=W.fin_spec u (K u)
 have hch:∀v∈K u,v∈fo\/W.cg v=true:=fun v hv=>by
  obtain ⟨j,hj,rfl⟩:=zS.1 hv;(rcases f2 j _ tz1 (za hj) with h1 | h1);(·exact h1);cases h1
 have hmono:∀x,W.cg x=true->(W.fin u (K u)).cg x=true:=fun x hx=>by
  by_cases e:x=u
  (·subst e;exact g3.2 (.inl hx));rw[g2 x e];exact hx
 (have hperm:(fo++[u]++stk.map Prod.fst)=fo++((u,nx)::stk).map Prod.fst:=by simp);have hnd:=h.nd
 have huf:u∉fo:=fun hm=>by
  have:=(List.nodup_append.1 hnd).2.2 u hm u tz4;exact this rfl
 have hus:u∉stk.map Prod.fst:=by
  have:=(List.nodup_append.1 hnd).2.1;rw[zt,List.nodup_cons] at this;exact this.1
 refine ⟨by rw[hperm];exact hnd,by rw[hperm];exact h.lt,fun r hr=>?_,fun r hr=>?_,fun r h1 h2=>?_,fun i v hv w hw=>?_,?_,fun r hr=>?_,fun r hr=>?_,fun r hr=>?_,fun hb=>?_,fun hb i v hv=>?_⟩
 ·rw[g1]
  split;(·rfl);(rename_i hne);exact h.s2 r ((zD.1 hr).resolve_right (by simpa using hne))
 ·rw[g1,if_neg (fun (e:r=u)=>hus (e▸hr))]
  exact h.s1 r (by rw[zt];exact List.mem_cons_of_mem _ hr)
 ·have hne:r≠u:=fun e=>h1 (by simp[e])
  rw[g1,if_neg hne];exact h.s0 r (fun hm=>h1 (zD.2 (.inl hm))) (by rw[zt,zE,not_or];exact ⟨hne,h2⟩)
 ·have hi:i<(fo++[u]).length:=(zb.1 hv).1
  rw[zi,List.length_singleton] at hi;rcases zG i fo.length with h1 | h1
  ·rw[zA h1] at hv
   rw[List.take_append_of_le_length tz1];exact (h.fi i v hv w hw).imp id (hmono w)
  (obtain rfl:i=fo.length:=by omega);rw[zK (zQ _),Nat.sub_self] at hv;(cases hv);rw[List.take_left'];(·exact (hch w hw).imp id (hmono w));rfl
 ·cases stk with
  | nil=>trivial
  | cons p stk =>
   obtain ⟨u2,nx2⟩:=p;obtain ⟨k1,k2,k3,k4⟩:=f4;refine ⟨k1,fun j v hj hv=>.inl ?_,fun v hv=>(by cases hv),Frs.mono (fun v hv=>?_) k4⟩
   ·rcases k2 j v hj hv with h1 | h1
    (·exact h1.imp (fun h=>by simp[h]) (hmono v));cases h1;exact .inl tz4
   exact hv.imp (fun h=>by simp[h]) (hmono v)
 ·by_cases e:r=u
  ·subst e
   (rcases g3.1 hr with h1 | ⟨p,hp,h1⟩);(·exact h.cys _ h1);exact (h.cys p h1).step hp
  rw[g2 r e] at hr;exact h.cys r hr
 ·rw[g7]
  by_cases e:r=u
  ·subst e
   (rcases g3.1 hr with h1 | ⟨p,hp,h1⟩);(·exact h.cyb _ h1);exact h.cyb p h1
  rw[g2 r e] at hr;exact h.cyb r hr
 ·rw[hperm]
  by_cases e:r=u
  (·subst e;simp);rw[g2 r e] at hr;exact h.cym r hr
 ·rw[g7] at hb
  rw[hperm];exact h.bds hb
 rw[g7] at hb
 have hcf:∀x,W.cg x=false:=fun x=>by
  cases hc:W.cg x with
  | false=>rfl
  | true=>rw[h.cyb x hc] at hb;cases hb
 have hi:i<(fo++[u]).length:=(zb.1 hv).1;rw[zi,List.length_singleton] at hi;rcases zG i fo.length with h1 | h1
 ·rw[zA h1] at hv
  (have hne:v≠u:=fun e=>huf (e▸zc hv));rw[g4,g5,if_neg hne,if_neg hne];exact h.tol hb i v hv
 (obtain rfl:i=fo.length:=by omega);rw[zK (zQ _),Nat.sub_self] at hv;(cases hv);have hin:∀v∈K u,v∈fo:=fun v hv=>(hch v hv).resolve_right (by rw[hcf v];decide)
 have hval:∀v∈K u,Tl K v (W.dg v,W.zg v)/\W.dg v<=(fo.length:Int):=fun v hv=>by
  obtain ⟨j,hj,e⟩:=zS.1 (hin v hv);obtain ⟨t1,_,t3⟩:=h.tol hb j v (by rw[za hj,e]);exact ⟨t1,by omega⟩
 have hbd:=zlw (f:=fun p=>(W.dg p,W.zg p)) (n:=(fo.length:Int)) tz1 (ch:=K u) fun v hv=>(hval v hv).2
 have hlen:fo.length<=N:=by
  have h2:(fo++((u,nx)::stk).map Prod.fst).length<=N:=zdC hnd h.lt;rw[zi] at h2;omega
 (have hmin:min most (tell (fun p=>(W.dg p,W.zg p)) (K u)).1=(tell (fun p=>(W.dg p,W.zg p)) (K u)).1:=by simp only[most];omega);rw[g4,g5,if_pos rfl,if_pos rfl,hmin];exact ⟨.mk u _ fun v hv=>(hval v hv).1,hbd.1,hbd.2⟩
section
variable {K:Nat->List Nat} {N:Nat} {W:WS} {fo:List Nat}
theorem DfI.closed (h:DfI K N W [] fo) {u v:Nat} (hu:u∈fo) (hv:v∈K u):v∈fo:=by
 obtain ⟨i,hi,e⟩:=zS.1 hu;(rcases h.fi i u (by rw[za hi,e]) v hv with h1 | h1);(·exact List.mem_of_mem_take h1);simpa using h.cym v h1
theorem DfI.rch (h:DfI K N W [] fo) {u w:Nat} (hr:Rch K u w):u∈fo->w∈fo:=by
 induction hr with
 | refl _=>exact id
 | step hv _ ih=>exact fun hu=>ih (h.closed hu hv)
theorem DfI.down (h:DfI K N W [] fo) {x w:Nat} (hr:Rch K x w):(∀v,Rch K x v->W.cg v=false)->∀i:Nat,fo[i]?=some x->∃j:Nat,j<=i/\fo[j]?=some w:=by
 induction hr with
 | refl _=>exact fun _ i hi=>⟨i,zQ _,hi⟩
 | @step u v w hv hr ih =>
  intro hm i hi;rcases h.fi i u hi v hv with h1 | h1
  ·obtain ⟨j,hj,e⟩:=zS.1 h1
   rw[List.length_take] at hj;rw[List.getElem_take] at e;obtain ⟨k,hk1,hk2⟩:=ih (fun z hz=>hm z (.step hv hz)) j (by rw[za tz1,e]);exact ⟨k,by omega,hk2⟩
  rw[hm v (.step hv (.refl _))] at h1;cases h1
theorem DfI.loop_marked (h:DfI K N W [] fo) {u:Nat} (hu:u∈fo) (hl:Pls K u u):∃v,Rch K u v/\W.cg v=true:=Classical.byContradiction fun hn=>by
 have hm:∀v,Rch K u v->W.cg v=false:=fun v hv=>by
  cases hc:W.cg v with
  | false=>rfl
  | true=>exact absurd ⟨v,hv,hc⟩ hn
 obtain ⟨i,hi,e⟩:=zS.1 hu;(have hiu:fo[i]?=some u:=by rw[za hi,e]);obtain ⟨v,hv,hr⟩:=hl;rcases h.fi i u hiu v hv with h1 | h1
 ·obtain ⟨j,hj,e1⟩:=zS.1 h1
  rw[List.length_take] at hj;rw[List.getElem_take] at e1;obtain ⟨k,hk1,hk2⟩:=h.down hr (fun z hz=>hm z (.step hv hz)) j (by rw[za tz1,e1]);(have hnd:fo.Nodup:=by simpa using h.nd);have hkl:=(zb.1 hk2).1;have hp:=List.pairwise_iff_getElem.1 hnd k i hkl hi tz1;rw[(zb.1 hk2).2,e] at hp;exact hp rfl
 rw[hm v (.step hv (.refl _))] at h1;cases h1
theorem DfI.bad_iff (h:DfI K N W [] fo):W.bad=true↔∃y∈fo,Pls K y y:=by
 constructor;(·intro hb;simpa using h.bds hb);rintro ⟨y,hy,hl⟩;obtain ⟨v,_,hv⟩:=h.loop_marked hy hl;exact h.cyb v hv
theorem DfI.told (h:DfI K N W [] fo) (hb:W.bad=false) {u:Nat} (hu:u∈fo):Tl K u (W.dg u,W.zg u):=by
 obtain ⟨i,hi,e⟩:=zS.1 hu;exact (h.tol hb i u (by rw[za hi,e])).1
end
def sumK (K:Nat->List Nat):List Nat->Nat
 | []=>0
 | u::l=>(K u).length+sumK K l
theorem zkH (K:Nat->List Nat) (u:Nat):∀l,sumK K (l++[u])=sumK K l+(K u).length
 | []=>by simp[sumK]
 | v::l=>by simp only[zw,sumK,zkH K u l];omega
theorem zke {K:Nat->List Nat} (h:∀u,(K u).length<=8):∀l,sumK K l<=8 * l.length
 | []=>by simp[sumK]
 | v::l=>by
  have:=h v;have:=zke h l;simp only[sumK,zz];omega
def sumN:List (Nat×Nat)->Nat
 | []=>0
 | p::l=>p.2+sumN l
structure StI (K:Nat->List Nat) (W:WS) (stk:List (Nat×Nat)) (fo:List Nat) (c:Int):Prop where
 pos:0<=W.steps
 le:W.steps+(stk.length:Int)<=3 * ((fo.length:Int)+(stk.length:Int))+(sumK K fo:Int)+(sumN stk:Int)+c
theorem StI.nil (K:Nat->List Nat):StI K WS0 [] [] 0:=⟨by simp[WS0],by simp[WS0,sumK,sumN]⟩
theorem StI.start {K:Nat->List Nat} {W:WS} {fo:List Nat} {q:Nat} (h:StI K W [] fo 0):StI K (W.begin q) [(q,0)] fo 0:=by
 have h1:=h.pos;have h2:=h.le;refine ⟨?_,?_⟩;(·simp only[WS.begin];omega);simp only[WS.begin,sumN,zz,zJ,Nat.add_zero,zO] at h2 ⊢;omega
theorem StI.tick {K:Nat->List Nat} {W:WS} {stk:List (Nat×Nat)} {fo:List Nat} (h:StI K W stk fo 0):StI K W.tick stk fo 1:=by
 have h1:=h.pos;have h2:=h.le;refine ⟨?_,?_⟩;(·simp only[WS.tick];omega);simp only[WS.tick];omega
theorem StI.part {K:Nat->List Nat} {W:WS} {stk:List (Nat×Nat)} {fo:List Nat} {u nx:Nat} (h:StI K W ((u,nx)::stk) fo 1):StI K W.tick ((u,nx+1)::stk) fo 1:=by
 have h1:=h.pos;have h2:=h.le;refine ⟨?_,?_⟩;(·simp only[WS.tick];omega);simp only[WS.tick,sumN,zz] at h2 ⊢;omega
theorem StI.push {K:Nat->List Nat} {W:WS} {stk:List (Nat×Nat)} {fo:List Nat} {q:Nat} (h:StI K W stk fo 1):StI K (W.begin q) ((q,0)::stk) fo 0:=by
 have h1:=h.pos;have h2:=h.le;refine ⟨?_,?_⟩;(·simp only[WS.begin];omega);simp only[WS.begin,sumN,zz] at h2 ⊢;omega
theorem StI.back {K:Nat->List Nat} {W:WS} {stk:List (Nat×Nat)} {fo:List Nat} {c:Int} (h:StI K W stk fo c) (q:Nat) (l:List Nat):StI K (zbg q l {W with bad:=true}) stk fo c:=by
 obtain ⟨_,_,_,e,_⟩:=zc9 q l {W with bad:=true};exact ⟨by rw[e];exact h.pos,by rw[e];exact h.le⟩
theorem StI.fin {K:Nat->List Nat} {W:WS} {stk:List (Nat×Nat)} {fo:List Nat} {u nx:Nat} (h:StI K W ((u,nx)::stk) fo 1) (hn:nx<=(K u).length):StI K (W.fin u (K u)) stk (fo++[u]) 0:=by
 have h1:=h.pos;have h2:=h.le;have e:=(W.fin_spec u (K u)).2.2.2.2.2.1;refine ⟨by rw[e];exact h1,?_⟩;rw[e,zkH];simp only[sumN,zz,zi,zJ] at h2 ⊢;omega
theorem StI.bound {K:Nat->List Nat} {W:WS} {fo:List Nat} (h:StI K W [] fo 0) (hk:∀u,(K u).length<=8):W.steps<=11 * (fo.length:Int):=by
 have h2:=h.le;have h3:=zke hk fo;simp only[sumN,zJ] at h2;omega
theorem RenO.rowR {ρ:Nat->Nat} {i t sz:Nat} {xs ys:List (List AV)} (hl:ys.length=xs.length) (hsz:(∀x∈xs,x.length=sz)↔∀y∈ys,y.length=sz) (hr:RenL ρ xs.flatten ys.flatten):RenO ρ i (.row t sz xs) (.row t sz ys):=by
 refine ⟨fun E=>rfl,rfl,fun E A w=>⟨?_,?_⟩⟩
 ·rintro ⟨h1,h2,h3⟩
  refine ⟨by rw[hl];exact h1,hsz.1 h2,?_⟩;(rcases h3 with h3 | ⟨b,cap,cur,h3,h4,h5,h6,h7,h8⟩);(·exact .inl (by rw[hl];exact h3));refine .inr ⟨b,cap,cur,by rw[hl];exact h3,by rw[hl];exact h4,h5,h6,h7,fun j c u hc hu=>?_⟩;obtain ⟨x,hx,hv⟩:=hr.get' j c hc;exact (hv E A w u).1 (h8 j x u hx hu)
 rintro ⟨h1,h2,h3⟩;refine ⟨by rw[<- hl];exact h1,hsz.2 h2,?_⟩;(rcases h3 with h3 | ⟨b,cap,cur,h3,h4,h5,h6,h7,h8⟩);(·exact .inl (by rw[<- hl];exact h3));refine .inr ⟨b,cap,cur,by rw[<- hl];exact h3,by rw[<- hl];exact h4,h5,h6,h7,fun j c u hc hu=>?_⟩;obtain ⟨y,hy,hv⟩:=hr.get j c hc;exact (hv E A w u).2 (h8 j y u hy hu)
abbrev cI (n:Int):AV:=.v (.int .i64 n)
abbrev cB (b:Bool):AV:=.v (.bool b)
def mC {α:Type} (c:α->AV) (V:List (Int×α)):List (Int×AV):=V.map fun p=>(p.1,c p.2)
theorem zaN (V:List (Int×Int)):∀p∈mC cI V,Data p.2:=fun p hp=>by
 obtain ⟨q,_,rfl⟩:=zq.1 hp;exact .v _
theorem zb4 (V:List (Int×Bool)):∀p∈mC cB V,Data p.2:=fun p hp=>by
 obtain ⟨q,_,rfl⟩:=zq.1 hp;exact .v _
theorem zgH (V:List (Int×Int)) (k:Int):(zbS (mC cI V) k).getD (.v (.int .i64 0))=.v (.int .i64 ((zcL V k).getD 0)):=by
 rw[mC,zgg];cases zcL V k <;> rfl
theorem look_B (V:List (Int×Bool)) (k:Int):(zbS (mC cB V) k).getD (.v (.bool false))=.v (.bool ((zcL V k).getD false)):=by
 rw[mC,zgg];cases zcL V k <;> rfl
theorem upd_I (V:List (Int×Int)) (k x:Int):zef (mC cI V) k (.v (.int .i64 x))=mC cI (zgN V k x):=zhS cI k x V
theorem upd_B (V:List (Int×Bool)) (k:Int) (x:Bool):zef (mC cB V) k (.v (.bool x))=mC cB (zgN V k x):=zhS cB k x V
def frC (K:Nat->List Nat) (p:Nat×Nat):List AV:=[.v (.int .i64 (p.1:Int)),.sl 2 ((K p.1).map (zbQ 0)),.v (.int .i64 (p.2:Int))]
theorem RenL.app {ρ:Nat->Nat}:∀{a a' b b':List AV},RenL ρ a a'->RenL ρ b b'->RenL ρ (a++b) (a'++b')
 | [],[],_,_,_,h=>h
 | _::_,_::_,_,_,⟨h1,h2⟩,h=>⟨h1,RenL.app h2 h⟩
theorem RenL.frames {ρ:Nat->Nat} (K:Nat->List Nat) (h:ρ 0=0):∀l:List (Nat×Nat),RenL ρ (l.map (frC K)).flatten (l.map (frC K)).flatten
 | []=>trivial
 | p::l=>by
  rw[zt,List.flatten_cons];exact RenL.app ⟨.v _,.parts h _,.v _,trivial⟩ (RenL.frames K h l)
theorem Und.frames {n:Nat} (K:Nat->List Nat) (h:0<n) (l:List (Nat×Nat)):∀x∈l.map (frC K),UndL n x:=fun x hx=>by
 obtain ⟨p,_,rfl⟩:=zq.1 hx;exact ⟨.v _ _,.parts h _,.v _ _,trivial⟩
theorem Und.frame {n:Nat} (K:Nat->List Nat) (h:0<n) (p:Nat×Nat):UndL n (frC K p):=⟨.v _ _,.parts h _,.v _ _,trivial⟩
def zlH (S:CS) (r:Nat) (rs:List Nat):Prop:=∃x,S.W[r]?=some x/\Roots S x rs
theorem Roots.det {S:CS} {x:Int} {a b:List Nat} (h:Roots S x a) (k:Roots S x b):a=b:=by
 rcases h with ⟨h1,rfl⟩ | ⟨h1,g,hg,hl,ha⟩
 ·rcases k with ⟨_,rfl⟩ | ⟨k1,_⟩
  (·rfl);omega
 (rcases k with ⟨k1,_⟩ | ⟨_,g',hg',hl',hb⟩);(·omega);rw[hg] at hg';cases hg';refine List.ext_getElem tz1 fun j h1 h2=>?_;have hp:g.parts[j]?=some (g.parts[j]'tz1):=za tz1;exact Rt.det (ha j _ _ hp (za h1)) (hb j _ _ hp (za h2))
open Classical in
noncomputable def zaK (S:CS) (r:Nat):List Nat:=if h:∃rs,zlH S r rs then Classical.choose h else []
theorem zeb {S:CS} {r:Nat} {rs:List Nat} (h:zlH S r rs):zaK S r=rs:=by
 classical
 have h1:∃rs,zlH S r rs:=⟨rs,h⟩;unfold zaK;rw[dif_pos h1];obtain ⟨x,hx,hr⟩:=h;obtain ⟨x',hx',hr'⟩:=Classical.choose_spec h1;rw[hx] at hx';cases hx';exact hr'.det hr
theorem Roots.fsame {S:CS} {F1:FS} (k:FSame S.F F1) {x:Int} {rs:List Nat}:Roots {S with F:=F1} x rs↔Roots S x rs:=by
 unfold Roots;constructor
 ·rintro (h | ⟨h1,g,h2,h3,h4⟩)
  (·exact .inl h);exact .inr ⟨h1,g,h2,h3,fun j p q hp hq=>(k.rt _ _).1 (h4 j p q hp hq)⟩
 rintro (h | ⟨h1,g,h2,h3,h4⟩);(·exact .inl h);exact .inr ⟨h1,g,h2,h3,fun j p q hp hq=>(k.rt _ _).2 (h4 j p q hp hq)⟩
theorem zbZ {S:CS} {F1:FS} (k:FSame S.F F1) (r:Nat):zaK {S with F:=F1} r=zaK S r:=by
 classical
 have h:∀rs,zlH {S with F:=F1} r rs↔zlH S r rs:=fun rs=>⟨fun ⟨x,h1,h2⟩=>⟨x,h1,(Roots.fsame k).1 h2⟩,fun ⟨x,h1,h2⟩=>⟨x,h1,(Roots.fsame k).2 h2⟩⟩
 by_cases he:∃rs,zlH S r rs
 ·obtain ⟨rs,hrs⟩:=he
  rw[zeb hrs,zeb ((h rs).2 hrs)]
 unfold zaK;rw[dif_neg he,dif_neg (fun ⟨rs,hrs⟩=>he ⟨rs,(h rs).1 hrs⟩)]
structure CyG (S:CS):Prop where
 c:CInv S
 vin:∀n k,zaw S.G.V n=some k->0<=k/\k<(S.F.up.length:Int)
 g0:∀(r:Nat) (x:Int),Rt S.F.up r r->S.W[r]?=some x->0<=x->∃g,S.G.N[x.toNat]?=some g/\1<=g.k/\g.parts.length<=8/\∀p∈g.parts,0<=p/\p<(S.F.up.length:Int)
 h64:∀q∈S.G.V,is64 q.1
 vl:S.G.V.length<=1048576
 nl:S.F.up.length<=1048576
theorem CyG.fsame {S:CS} (h:CyG S) {F1:FS} (k:FSame S.F F1) (hc:CInv {S with F:=F1}):CyG {S with F:=F1} :=
 ⟨hc,fun n i hv=>by have:=h.vin n i hv;dsimp only;rw[k.len];exact this,fun r x hr hx h0=>by
  have:=h.g0 r x ((k.rt _ _).1 hr) hx h0
  dsimp only;rw[k.len];exact this,h.h64,h.vl,by dsimp only;rw[k.len];exact h.nl⟩
theorem zcj {S:CS} (h:CyG S) (r:Nat):(zaK S r).length<=8:=by
 classical
 unfold zaK;split
 ·rename_i he
  obtain ⟨x,hx,hr⟩:=Classical.choose_spec he;(rcases hr with ⟨_,h2⟩ | ⟨_,g,hg,hl,_⟩);(·rw[h2];simp);rw[hl];exact h.c.pl g (zc hg)
 simp
theorem zcu {S:CS} (r v:Nat) (hv:v∈zaK S r):Rt S.F.up v v:=by
 classical
 unfold zaK at hv;split at hv
 ·rename_i he
  obtain ⟨x,hx,hr⟩:=Classical.choose_spec he;(rcases hr with ⟨_,h2⟩ | ⟨_,g,hg,hl,ha⟩);(·rw[h2] at hv;cases hv);obtain ⟨j,hj,e⟩:=zS.1 hv;have:=ha j _ _ (za (show j<g.parts.length by omega)) (za hj);rw[e] at this;exact zcd.1 this.root
 cases hv
end Go.Proofs.YtpfiliamceimmaaGreatDoor
namespace Go.Proofs.YtpfiliamceimmaaGreatDoor
open Go Go.RowKit
attribute [local irreducible] aops zaA
theorem PSt.cyG {l:List (Ty×Ty)} {M:List RNode} {c:List Int} {S:CS} (h:PSt l M c S):CyG S :=
 ⟨h.h.2.w.c,h.h.2.vin,h.g0,h.h64,h.vl,by rw[h.nl];exact h.len⟩
end Go.Proofs.YtpfiliamceimmaaGreatDoor
namespace Go.Proofs.YtpfiliamceimmaaGreatDoor
open Go Go.RowKit
structure WayH (N:Nat) (D K:Nat->List Nat) (ρ:Nat->Nat):Prop where
 lt:∀i,i<N->∀j∈D i,j<N
 hom:∀i,i<N->K (ρ i)=(D i).map ρ
section
variable {N:Nat} {D K:Nat->List Nat} {ρ:Nat->Nat}
theorem WayH.rch (h:WayH N D K ρ) {i j:Nat} (hr:Rch D i j):i<N->j<N/\Rch K (ρ i) (ρ j):=by
 induction hr with
 | refl u=>exact fun hi=>⟨hi,.refl _⟩
 | @step u v w hv _ ih =>
  intro hi;have hv':=h.lt u hi v hv;obtain ⟨h1,h2⟩:=ih hv';exact ⟨h1,.step (by rw[h.hom u hi];exact zq.2 ⟨v,hv,rfl⟩) h2⟩
theorem WayH.back (h:WayH N D K ρ) {y z:Nat} (hr:Rch K y z):∀i,i<N->ρ i=y->∃j,j<N/\Rch D i j/\ρ j=z:=by
 induction hr with
 | refl u=>exact fun i hi e=>⟨i,hi,.refl _,e⟩
 | @step u v w hv _ ih =>
  rintro i hi rfl;rw[h.hom i hi] at hv;obtain ⟨k,hk,rfl⟩:=zq.1 hv;obtain ⟨j,h1,h2,h3⟩:=ih k (h.lt i hi k hk) rfl;exact ⟨j,h1,.step hk h2,h3⟩
theorem WayH.pls (h:WayH N D K ρ) {i z:Nat} (hi:i<N):Pls K (ρ i) z↔∃j,j<N/\Pls D i j/\ρ j=z:=by
 constructor
 ·rintro ⟨v,hv,hr⟩
  rw[h.hom i hi] at hv;obtain ⟨k,hk,rfl⟩:=zq.1 hv;obtain ⟨j,h1,h2,h3⟩:=h.back hr k (h.lt i hi k hk) rfl;exact ⟨j,h1,⟨k,hk,h2⟩,h3⟩
 rintro ⟨j,hj,⟨v,hv,hr⟩,rfl⟩;exact ⟨ρ v,by rw[h.hom i hi];exact zq.2 ⟨v,hv,rfl⟩,(h.rch hr (h.lt i hi v hv)).2⟩
theorem Pls.next {u v w:Nat} (h:Pls K u v) (k:w∈K v):Pls K u w:=by
 obtain ⟨x,hx,hr⟩:=h;exact ⟨x,hx,hr.trans (.step k (.refl _))⟩
open Classical in
theorem Tl.ex (hlt:∀i,i<N->∀j∈K i,j<N) (hno:∀y,y<N->¬Pls K y y):∀(n:Nat) (anc:List Nat),anc.length+n=N->anc.Nodup->(∀x∈anc,x<N)->∀i,i<N->(∀x∈anc,Pls K x i)->∃a,Tl K i a
 | n,anc,hn,hd,ha,i,hi,hp=>by
  (have hia:i∉anc:=fun hm=>hno i hi (hp i hm));have hd':(i::anc).Nodup:=List.nodup_cons.2 ⟨hia,hd⟩
  have ha':∀x∈i::anc,x<N:=fun x hx=>by
   (rcases zE.1 hx with rfl | hx);(·exact hi);exact ha x hx
  have hle:=zdC hd' ha';rw[zz] at hle
  match n,hn with
  | 0,hn=>omega
  | n+1,hn =>
   have key:∀v∈K i,∃a,Tl K v a:=fun v hv=>Tl.ex hlt hno n (i::anc) (by rw[zz];omega) hd' ha' v (hlt i hi v hv) fun x hx=>by
    (rcases zE.1 hx with rfl | hx);(·exact ⟨v,hv,.refl _⟩);exact (hp x hx).next hv
   exact ⟨_,.mk i (fun v=>if h:∃a,Tl K v a then Classical.choose h else (0,0)) fun v hv=>by
    have h:=key v hv;simp only[dif_pos h]
    exact Classical.choose_spec h⟩
theorem Tl.all (hlt:∀i,i<N->∀j∈K i,j<N) (hno:∀y,y<N->¬Pls K y y) {i:Nat} (hi:i<N):∃a,Tl K i a:=Tl.ex hlt hno N [] tz4 tz4 tz4 i hi tz4
end
open Classical in
noncomputable def za4 (S:CS) (i:Nat):Nat:=if h:∃r,Rt S.F.up i r then Classical.choose h else 0
theorem zbt {S:CS} {i r:Nat} (h:Rt S.F.up i r):za4 S i=r:=by
 classical
 have h1:∃r,Rt S.F.up i r:=⟨r,h⟩;unfold za4;rw[dif_pos h1];exact Rt.det (Classical.choose_spec h1) h
theorem zfr {S:CS} (h:CInv S) {i:Nat} (hi:i<S.G.N.length):Rt S.F.up i (za4 S i):=by
 obtain ⟨r,hr⟩:=h.root hi;rw[zbt hr];exact hr
def zbF (M:List RNode) (c:List Int) (i:Nat):List Int:=if 0<=zbh M c i then ((M[(zbh M c i).toNat]?).map RNode.parts).getD [] else []
def zbm (M:List RNode) (c:List Int) (i:Nat):List Nat:=(zbF M c i).map Int.toNat
theorem zft {M:List RNode} {c:List Int} {i:Nat} (h:zbh M c i<0):zbF M c i=[]:=by
 unfold zbF;rw[if_neg tz1]
theorem zfw {M:List RNode} {c:List Int} {i k:Nat} {y:RNode} (h:zbh M c i=(k:Int)) (hy:M[k]?=some y):zbF M c i=y.parts:=by
 unfold zbF;rw[h,if_pos tz1,zH,hy];rfl
theorem zjI {M:List RNode} {c:List Int} {i j:Nat} (h:c[i]?=c[j]?):zaX M c i=zaX M c j:=by
 (funext k);unfold zaX;rw[h]
theorem nextI_col {M:List RNode} {c:List Int} {i j:Nat} (h:c[i]?=c[j]?):zbF M c i=zbF M c j:=by
 unfold zbF zbh;rw[zjI h]
section
variable {l:List (Ty×Ty)} {M:List RNode} {c:List Int} {S:CS}
theorem PSt.gl (h:PSt l M c S):S.G.N.length=M.length:=by rw[h.m];exact h.h.2.rel.len
theorem PSt.rt (h:PSt l M c S) {i:Nat} (hi:i<M.length):Rt S.F.up i (za4 S i):=zfr h.h.2.w.c (by rw[h.gl];exact hi)
theorem PSt.parts (h:PSt l M c S) {k:Nat} {y:RNode} (hy:M[k]?=some y):y.parts.length<=8/\∀p∈y.parts,0<=p/\p<(k:Int):=by
 have hm:=h.m;subst hm;have hk:=(zb.1 hy).1;(have hgl:k<S.G.N.length:=by rw[h.h.2.rel.len];exact hk);obtain ⟨_,_,f3,_,_,_,f7,f8⟩:=h.h.2.rel.node k _ _ (za hgl) hy;refine ⟨by rw[<- f3];exact h.h.2.w.c.pl _ (List.getElem_mem _),fun p hp=>?_⟩;obtain ⟨j,hj,e⟩:=zS.1 hp;have h1:=f8 j p (y.t.ps[j]'tz1) (by rw[za hj,e]) (za _);exact ⟨h1.1,h1.2.1⟩
theorem PSt.kids_node (h:PSt l M c S) {k r:Nat} {y:RNode} (hy:M[k]?=some y) (hk:y.t.k≠1) (hr:Rt S.F.up k r):zaK S r=(y.parts.map Int.toNat).map (za4 S):=by
 have hml:=h.gl;have hpp:=h.parts hy;have hkl:=(zb.1 hy).1;have hm:=h.m;subst hm;have hW:=h.h.2.w;have hC:=hW.c;obtain ⟨x,hx⟩:=hC.wat hr;have hsk:shG S.G k=some (y.t.k,y.parts):=by rw[h.h.2.rel.sh];exact zdp hy
 have hx0:0<=x:=by
  (rcases Int.lt_or_le x 0 with h1 | h1);(·exact absurd (hW.neg r k x _ _ hx h1 hr hsk) hk);exact h1
 obtain ⟨hxr,d,ps,hsx,hd,hall⟩:=hW.pos r x (zcd.1 hr.root) hx hx0;obtain ⟨g,hg,hgk,hgp⟩:=shG_at hsx;obtain ⟨e1,e2,e3⟩:=hall k _ _ hr hsk hk;refine zeb ⟨x,hx,.inr ⟨hx0,g,hg,by rw[zx,zx,hgp];exact e2,fun j p q hp hq=>?_⟩⟩;rw[zN,zN] at hq
 cases hp':y.parts[j]? with
 | none=>rw[hp'] at hq;cases hq
 | some p' =>
  rw[hp'] at hq;simp only[zY,Option.some.injEq] at hq;subst hq;rw[hgp] at hp;have h9:=hpp.2 p' (zc hp');exact ((e3 j p p' hp hp').nil).rt (zfr hC tz1)
theorem PSt.kids_next (h:PSt l M c S) {i r:Nat} (hi:i<M.length) (hr:Rt S.F.up i r):zaK S r=(zbm M c i).map (za4 S):=by
 have hC:=h.h.2.w.c;rcases zbY M c i with ⟨h1,h2⟩ | ⟨k,h1,h2,h3⟩
 ·obtain ⟨x,hx⟩:=hC.wat hr
  have hx0:x<0:=(h.part hi hr hx).neg.2 tz1;rw[zbm,zft tz1];exact zeb ⟨x,hx,.inl ⟨hx0,rfl⟩⟩
 obtain ⟨h4,h5⟩:=zc7.1 h3;have hy:M[k]?=some (M[k]'h2):=za h2;rw[hy] at h5;rw[zbm,zfw h1 hy];have hm:=h.m;subst hm;exact h.kids_node hy (by simpa using h5) ((zbV h.h hr).2 ((h.hc.iff i k hi h2).1 h4.symm))
theorem PSt.next_lt (h:PSt l M c S) (i:Nat):(zbF M c i).length<=8/\∀p∈zbF M c i,0<=p/\p<(M.length:Int):=by
 (rcases zbY M c i with ⟨h1,h2⟩ | ⟨k,h1,h2,h3⟩);(·rw[zft tz1];exact ⟨by simp,fun p hp=>by cases hp⟩);have hy:M[k]?=some (M[k]'h2):=za h2;rw[zfw h1 hy];refine ⟨(h.parts hy).1,fun p hp=>?_⟩;have:=(h.parts hy).2 p hp;omega
theorem PSt.way (h:PSt l M c S):WayH M.length (zbm M c) (zaK S) (za4 S) :=
 ⟨fun i hi j hj=>by
  obtain ⟨p,hp,rfl⟩:=zq.1 hj;have:=(h.next_lt i).2 p hp
  omega,fun i hi=>h.kids_next hi (h.rt hi)⟩
theorem PSt.col_iff (h:PSt l M c S) {i j:Nat} (hi:i<M.length) (hj:j<M.length):c[i]?=c[j]?↔za4 S i=za4 S j:=by
 have h1:=h.rt hi;have h2:=h.rt hj;have hm:=h.m;subst hm;rw[h.hc.iff i j hi hj];constructor;(·exact fun hc=>Rt.det ((zbV h.h h1).2 hc) h2 |>.symm▸rfl);exact fun e=>(zbV h.h h1).1 (by rw[e];exact h2)
theorem PSt.loop_var (h:PSt l M c S):∀(i:Nat) (y:RNode),M[i]?=some y->Pls (zaK S) (za4 S i) (za4 S i)->∃(j:Nat) (z:RNode),M[j]?=some z/\z.t.k=1/\Pls (zaK S) (za4 S j) (za4 S j):=by
 intro i
 induction i using Nat.strongRecOn with
 | ind i ih =>
 intro y hy hp
 by_cases hk:y.t.k=1
 (·exact ⟨i,y,hy,hk,hp⟩);have hi:=(zb.1 hy).1;obtain ⟨v,hv,hr⟩:=hp;have hv0:=hv;rw[h.kids_node hy hk (h.rt hi)] at hv;obtain ⟨q,hq,rfl⟩:=zq.1 hv;obtain ⟨p,hp,rfl⟩:=zq.1 hq;have h1:=(h.parts hy).2 p hp;exact ih p.toNat tz1 _ (za (show p.toNat<M.length by omega)) (Pls.of_rch hr hv0)
theorem PSt.var_node (h:PSt l M c S) {j:Nat} {z:RNode} (hz:M[j]?=some z) (hk:z.t.k=1):zbE (RNode.isVar z.t.n) M=(j:Int)/\zaw S.G.V z.t.n=some (j:Int):=by
 have hm:=h.m;subst hm;have hU:=zez l h.hc.ok;have hj:=(zb.1 hz).1;have h1:zbE (RNode.isVar z.t.n) (eqF l).1=(j:Int):=hU.idx hz hk;refine ⟨h1,?_⟩;(rcases h.h.vf z.t.n with ⟨_,h2⟩ | ⟨i,h2,h3,_⟩);(·omega);rw[h2];congr 1;omega
theorem kids_lt {S:CS} {r v:Nat} (h:v∈zaK S r):v<S.F.up.length:=(zcu r v h).lt
theorem Pls.root {S:CS} {r v:Nat} (h:Pls (zaK S) r v):Rt S.F.up v v:=by
 obtain ⟨x,hx,hr⟩:=h
 have:∀{a b:Nat},Rch (zaK S) a b->Rt S.F.up a a->Rt S.F.up b b:=fun hr=>by
  induction hr with
  | refl _=>exact id
  | step hv _ ih=>exact fun _=>ih (zcu _ _ hv)
 exact this hr (zcu _ _ hx)
theorem PSt.no_loop (h:PSt l M c S) (hv:∀(v i:Int) (q:Nat),zaw S.G.V v=some i->Rt S.F.up i.toNat q->¬Lp (zaK S) q) (y:Nat):¬Pls (zaK S) y y:=fun hp=>by
 have hr:=hp.root;(have hy:y<M.length:=by rw[<- h.nl];exact hr.lt);obtain ⟨j,z,hz,hk,hl⟩:=h.loop_var y _ (za hy) (by rw[zbt hr];exact hp);have hj:=(zb.1 hz).1;exact hv z.t.n j _ (h.var_node hz hk).2 (by rw[zH];exact h.rt hj) ⟨_,.refl _,hl⟩
def zjO (M:List RNode) (c:List Int) (i:Nat):Prop:=∃j,j<M.length/\Pls (zbm M c) i j/\c[j]?=c[i]?
theorem PSt.loop_iff (h:PSt l M c S) {i:Nat} (hi:i<M.length):zjO M c i↔Pls (zaK S) (za4 S i) (za4 S i):=by
 rw[h.way.pls hi];constructor
 ·rintro ⟨j,hj,hp,hc⟩
  exact ⟨j,hj,hp,(h.col_iff hj hi).1 hc⟩
 rintro ⟨j,hj,hp,hc⟩;exact ⟨j,hj,hp,(h.col_iff hj hi).2 hc⟩
end
end Go.Proofs.YtpfiliamceimmaaGreatDoor
