/- packed, part 34 of 47. Conditions: none. -/
import Derived.Test.YtpfiliamceimmaaGreatDoorPk33
set_option linter.unusedVariables false
set_option linter.unusedSimpArgs false
set_option maxRecDepth 100000
set_option maxHeartbeats 4000000
namespace Go.Proofs.YtpfiliamceimmaaGreatDoor
open Go Go.RowKit
inductive Rt (up:List Nat):Nat->Nat->Prop
 | base {i:Nat} (h:up[i]?=some i):Rt up i i
 | step {i j r:Nat} (h:up[i]?=some j) (hn:j≠i) (hr:Rt up j r):Rt up i r
theorem Rt.root {up:List Nat} {i r:Nat} (h:Rt up i r):up[r]?=some r:=by
 induction h with
 | base h=>exact h
 | step _ _ _ ih=>exact ih
theorem Rt.det {up:List Nat} {i r s:Nat} (h:Rt up i r) (k:Rt up i s):r=s:=by
 induction h with
 | base h =>
  cases k with
  | base _=>rfl
  | step h2 hn _=>rw[h] at h2;cases h2;exact absurd rfl hn
 | step h1 hn1 _ ih =>
  cases k with
  | base h=>rw[h1] at h;cases h;exact absurd rfl hn1
  | step h2 hn2 hr2=>rw[h1] at h2;cases h2;exact ih hr2
theorem Rt.self {up:List Nat} {r s:Nat} (h:up[r]?=some r) (k:Rt up r s):s=r:=(Rt.det k (.base h))
theorem Rt.lt {up:List Nat} {i r:Nat} (h:Rt up i r):r<up.length:=(zb.1 h.root).1
theorem Rt.lt' {up:List Nat} {i r:Nat} (h:Rt up i r):i<up.length:=by
 cases h with
 | base h=>exact (zb.1 h).1
 | step h _ _=>exact (zb.1 h).1
theorem Rt.next {up:List Nat} {i r u:Nat} (k:Rt up i r) (h:up[i]?=some u) (hn:u≠i):Rt up u r:=by
 cases k with
 | base h9=>rw[h] at h9;cases h9;exact absurd rfl hn
 | step h9 _ h8=>rw[h] at h9;cases h9;exact h8
theorem Rt.stop {up:List Nat} {i r u:Nat} (k:Rt up i r) (h:up[i]?=some u) (hn:u=i):i=r:=by
 subst hn;exact (Rt.self h k).symm
theorem Rt.far {up:List Nat} {i r u:Nat} (k:Rt up i r) (h:up[i]?=some u) (hn:u≠r):r≠i/\u≠i:=by
 constructor
 ·intro e
  subst e;have h9:=k.root;rw[h] at h9;cases h9;exact hn rfl
 intro e;subst e;exact hn (Rt.self h k).symm
structure UpOk (up:List Nat) (h:Nat->Nat):Prop where
 lt:∀(i u:Nat),up[i]?=some u->u<up.length
 down:∀(i u:Nat),up[i]?=some u->u≠i->h u<h i
theorem UpOk.total {up:List Nat} {h:Nat->Nat} (H:UpOk up h):∀(n i:Nat),h i<=n->i<up.length->∃r,Rt up i r:=by
 intro n
 induction n with
 | zero =>
  intro i hi hl;have hg:=za hl
  by_cases e:up[i]=i
  ·rw[e] at hg;exact ⟨i,.base hg⟩
  have:=H.down i _ hg e;omega
 | succ n ih =>
  intro i hi hl;have hg:=za hl
  by_cases e:up[i]=i
  (·rw[e] at hg;exact ⟨i,.base hg⟩);have h1:=H.down i _ hg e;obtain ⟨r,hr⟩:=ih up[i] tz1 (H.lt i _ hg);exact ⟨r,.step hg e hr⟩
theorem UpOk.ex {up:List Nat} {h:Nat->Nat} (H:UpOk up h) {i:Nat} (hi:i<up.length):∃r,Rt up i r:=H.total (h i) i (zQ _) hi
theorem UpOk.le {up:List Nat} {h:Nat->Nat} (H:UpOk up h) {i r:Nat} (k:Rt up i r):r=i\/h r<h i:=by
 induction k with
 | base _=>exact .inl rfl
 | step h1 hn _ ih =>
  have:=H.down _ _ h1 hn;(rcases ih with ih | ih);(·exact .inr (by rw[ih];exact this));exact .inr tz1
theorem UpOk.short {up:List Nat} {h:Nat->Nat} (H:UpOk up h) {i r:Nat} (k:Rt up i r) (hne:r≠i):UpOk (up.set i r) h/\∀a q,Rt (up.set i r) a q↔Rt up a q:=by
 have hir:h r<h i:=(H.le k).resolve_left hne;have hil:=k.lt'
 have hget:∀j:Nat,(up.set i r)[j]?=if i=j then some r else up[j]?:=fun j=>by
  rw[List.getElem?_set];split;(·simp[*]);rfl
 (have hroot:(up.set i r)[r]?=some r:=by rw[hget,if_neg (Ne.symm hne)];exact k.root);refine ⟨⟨fun j u hj=>?_,fun j u hj hn=>?_⟩,fun a q=>⟨fun ha=>?_,fun ha=>?_⟩⟩
 ·rw[List.length_set]
  rw[hget] at hj;(split at hj);(·cases hj;exact k.lt);exact H.lt j u hj
 ·rw[hget] at hj
  (split at hj);(·rename_i e;cases hj;subst e;exact hir);exact H.down j u hj hn
 ·induction ha with
  | base hb =>
   rw[hget] at hb;(split at hb);·rename_i e;cases hb;exact absurd e.symm hne
   exact .base hb
  | step hb hn hr ih =>
   rw[hget] at hb;split at hb
   ·rename_i e
    (cases hb);subst e;rw[Rt.self k.root ih];exact k
   exact .step hb hn ih
 induction ha with
 | @base j hb =>
  refine .base ?_;rw[hget,if_neg];exact hb;intro e;subst e
  exact hne (Rt.self hb k)
 | @step j u q hb hn hr ih =>
  by_cases e:i=j
  ·subst e
   have:r=q:=k.det (.step hb hn hr);subst this;exact .step (by rw[hget,if_pos rfl]) hne (.base hroot)
  exact .step (by rw[hget,if_neg e];exact hb) hn ih
open Classical in
theorem UpOk.link {up:List Nat} {h:Nat->Nat} (H:UpOk up h) {a b:Nat} (ha:up[a]?=some a) (hb:up[b]?=some b) (hne:a≠b) :
  (∃h',UpOk (up.set b a) h')/\∀k q,Rt (up.set b a) k q↔(q=a/\(Rt up k a\/Rt up k b))\/(q≠a/\q≠b/\Rt up k q):=by
 have hbl:=(zb.1 hb).1;have hal:=(zb.1 ha).1
 have hget:∀j:Nat,(up.set b a)[j]?=if b=j then some a else up[j]?:=fun j=>by
  rw[List.getElem?_set];split;(·simp[*]);rfl
 (have hroot:(up.set b a)[a]?=some a:=by rw[hget,if_neg (Ne.symm hne)];exact ha);refine ⟨⟨fun j=>if Rt up j b then h j+h a+1 else h j,⟨fun j u hj=>?_,fun j u hj hn=>?_⟩⟩,fun k q=>⟨fun hk=>?_,fun hk=>?_⟩⟩
 ·rw[List.length_set]
  rw[hget] at hj;(split at hj);(·cases hj;exact hal);exact H.lt j u hj
 ·rw[hget] at hj
  (have hab:¬Rt up a b:=fun k=>hne (Rt.self ha k).symm);split at hj
  ·rename_i e
   (cases hj);subst e;(show (if Rt up a b then h a+h a+1 else h a)<(if Rt up b b then h b+h a+1 else h b));rw[if_neg hab,if_pos (.base hb)];omega
  (rename_i e);have hd:=H.down j u hj hn;show (if Rt up u b then h u+h a+1 else h u)<(if Rt up j b then h j+h a+1 else h j)
  by_cases hu:Rt up u b
  ·rw[if_pos hu,if_pos (.step hj hn hu)];omega
  have hj2:¬Rt up j b:=fun k=>by
   cases k with
   | base _=>exact e rfl
   | step h2 _ hr=>rw[hj] at h2;cases h2;exact hu hr
  rw[if_neg hu,if_neg hj2];exact hd
 ·induction hk with
  | @base j hb2 =>
   rw[hget] at hb2;(split at hb2);(·rename_i e;cases hb2;exact absurd e.symm hne);rename_i e
   by_cases ea:j=a
   ·subst ea;exact .inl ⟨rfl,.inl (.base ha)⟩
   exact .inr ⟨ea,fun e2=>e e2.symm,.base hb2⟩
  | @step j u q hb2 hn hr ih =>
   rw[hget] at hb2;split at hb2
   ·rename_i e
    (cases hb2);subst e;have:=Rt.self hroot hr;subst this;exact .inl ⟨rfl,.inr (.base hb)⟩
   (rcases ih with ⟨e,ih⟩ | ⟨e1,e2,ih⟩);(·exact .inl ⟨e,ih.imp (.step hb2 hn) (.step hb2 hn)⟩);exact .inr ⟨e1,e2,.step hb2 hn ih⟩
 have key:∀k q,Rt up k q->(q≠b->Rt (up.set b a) k q)/\(q=b->Rt (up.set b a) k a):=by
  intro k q hk
  induction hk with
  | @base j hb2 =>
   refine ⟨fun e=>.base (by rw[hget,if_neg (Ne.symm e)];exact hb2),fun e=>?_⟩;subst e
   exact .step (by rw[hget,if_pos rfl]) hne (.base hroot)
  | @step j u q hb2 hn hr ih =>
   (have hjb:b≠j:=fun e=>by subst e;rw[hb] at hb2;cases hb2;exact hn rfl);exact ⟨fun e=>.step (by rw[hget,if_neg hjb];exact hb2) hn (ih.1 e),fun e=>.step (by rw[hget,if_neg hjb];exact hb2) hn (ih.2 e)⟩
 (rcases hk with ⟨rfl,hk | hk⟩ | ⟨_,e2,hk⟩);(·exact (key k _ hk).1 hne);(·exact (key k _ hk).2 rfl);exact (key k _ hk).1 e2
theorem Rt.push {up:List Nat} {k q:Nat}:Rt (up++[up.length]) k q->(∀(i u:Nat),up[i]?=some u->u<up.length)->(Rt up k q\/(k=up.length/\q=up.length)):=by
 intro h hl
 induction h with
 | @base j hb =>
  (rcases zB j up.length with h1 | h1);(·rw[zx h1] at hb;exact .inl (.base hb));have h2:=(zb.1 hb).1;simp at h2
  exact .inr ⟨by omega,by omega⟩
 | @step j u q hb hn hr ih =>
  rcases zB j up.length with h1 | h1
  ·rw[zx h1] at hb
   (rcases ih with ih | ⟨ih,_⟩);(·exact .inl (.step hb hn ih));have:=hl j u hb;omega
  have h2:=(zb.1 hb).1;(simp at h2);(have e:j=up.length:=by omega);subst e;rw[zK (zQ _)] at hb;(simp at hb);exact absurd hb.symm hn
theorem Rt.mono {up:List Nat} {k q:Nat} (h:Rt up k q):Rt (up++[up.length]) k q:=by
 induction h with
 | base hb=>exact .base (by rw[zx (zb.1 hb).1];exact hb)
 | step hb hn _ ih=>exact .step (by rw[zx (zb.1 hb).1];exact hb) hn ih
theorem UpOk.push {up:List Nat} {h:Nat->Nat} (H:UpOk up h):UpOk (up++[up.length]) h:=by
 refine ⟨fun i u hi=>?_,fun i u hi hn=>?_⟩
 ·rcases zB i up.length with h1 | h1
  (·rw[zx h1] at hi;have:=H.lt i u hi;simp;omega);rw[zK h1] at hi;have h2:=(zb.1 hi).1;(have e:i-up.length=0:=by simp at h2;omega);rw[e] at hi;simp at hi;simp[<- hi]
 (rcases zB i up.length with h1 | h1);(·rw[zx h1] at hi;exact H.down i u hi hn);rw[zK h1] at hi;have h2:=(zb.1 hi).1;(have e:i-up.length=0:=by simp at h2;omega);rw[e] at hi;simp at hi;omega
end Go.Proofs.YtpfiliamceimmaaGreatDoor
namespace Go.Proofs.YtpfiliamceimmaaGreatDoor
open Go Go.RowKit
attribute [local irreducible] aops zaz
structure FS where
 up:List Nat
 rank:List Int
 sets:Int
 steps:Int
def nC (n:Nat):List AV:=[.v (.int .i64 n)]
theorem zaY (l:List Nat):∀x∈l.map nC,DataL x:=fun x hx=>by
 obtain ⟨n,_,rfl⟩:=zq.1 hx;exact .cons (.v _) .nil
theorem zaD (l:List Int):∀x∈l.map intC,DataL x:=fun x hx=>by
 obtain ⟨n,_,rfl⟩:=zq.1 hx;exact .cons (.v _) .nil
theorem setNC (l:List Nat) (i r:Nat):(l.map nC).set i [.v (.int .i64 (r:Int))]=(l.set i r).map nC:=by rw[List.map_set];rfl
theorem setIC (l:List Int) (i:Nat) (r:Int):(l.map intC).set i [.v (.int .i64 r)]=(l.set i r).map intC:=by rw[List.map_set]
theorem pushNC (l:List Nat) (r:Nat):l.map nC++[[.v (.int .i64 (r:Int))]]=(l++[r]).map nC:=by rw[zz];rfl
theorem pushIC (l:List Int) (r:Int):l.map intC++[[.v (.int .i64 r)]]=(l++[r]).map intC:=by rw[zz];rfl
def zcv (F:FS):List Ob:=[.cells 184 [.own 1 F.up.length,.own 2 F.rank.length,.v (.int .i64 F.sets),.v (.int .i64 F.steps)],.row 3 1 (F.up.map nC),.row 3 1 (F.rank.map intC)]
def fObsAt (i j:Nat) (F:FS):List Ob:=[.cells 184 [.own i F.up.length,.own j F.rank.length,.v (.int .i64 F.sets),.v (.int .i64 F.steps)],.row 3 1 (F.up.map nC),.row 3 1 (F.rank.map intC)]
structure FInv (F:FS):Prop where
 len:F.rank.length=F.up.length
 ok:∃h,UpOk F.up h
structure FSame (F G:FS):Prop where
 inv:FInv G
 len:G.up.length=F.up.length
 rank:G.rank=F.rank
 rt:∀k q,Rt G.up k q↔Rt F.up k q
theorem FSame.refl {F:FS} (h:FInv F):FSame F F:=⟨h,rfl,rfl,fun _ _=>Iff.rfl⟩
theorem FSame.trans {F G H:FS} (h:FSame F G) (k:FSame G H):FSame F H:=⟨k.inv,k.len.trans h.len,k.rank.trans h.rank,fun a q=>(k.rt a q).trans (h.rt a q)⟩
theorem fUnd {n:Nat} (h:3<=n) (F:FS):UndOs n (zac 0 (zcv F)) :=
 ⟨by omega,⟨.own tz1,.own tz1,.v _ _,.v _ _,trivial⟩,by omega,Und.rowI (zaY _),by omega,Und.rowI (zaD _),trivial⟩
theorem renF (F:FS) (i j k nx:Nat):RenOs (zbf [i,j,k] nx) 0 (zcv F) (fObsAt j k F):=⟨.cells ⟨.own rfl,.own rfl,.v _,.v _,trivial⟩,.row (zaY _),.row (zaD _),trivial⟩
def FCalls {σ:Type} (f:Nat) (args:List AV) (F:FS) (C:FS×σ->Prop) (R:σ->AV):Prop :=
 ACalls Tryz.prog f args (zac 0 (zcv F)) 3 fun r os n=>(∃s:FS×σ,C s/\r=R s.2/\os=zac 0 (zcv s.1))/\n=3
theorem FCalls.at {σ:Type} {f:Nat} {args:List AV} {F:FS} {C:FS×σ->Prop} {R:σ->AV} (h:FCalls f (.ptr 0 0::args) F C R) (hd:DataL args) (hR:∀s,Data (R s)) {i j k:Nat} {os':Os} {nx':Nat}
  (hi:zav os' i=some (.cells 184 [.own j F.up.length,.own k F.rank.length,.v (.int .i64 F.sets),.v (.int .i64 F.steps)])) (hj:zav os' j=some (.row 3 1 (F.up.map nC))) (hk:zav os' k=some (.row 3 1 (F.rank.map intC)))
  (hij:i≠j) (hik:i≠k) (hjk:j≠k) (li:i<nx') (lj:j<nx') (lk:k<nx') {Q':AV->Os->Nat->Prop}
  (hq:∀(G:FS) (s:σ),C (G,s)->Q' (R s) (zal (zal (zal os' i (.cells 184 [.own j G.up.length,.own k G.rank.length,.v (.int .i64 G.sets),.v (.int .i64 G.steps)])) j (.row 3 1 (G.up.map nC))) k (.row 3 1 (G.rank.map intC))) nx'):ACalls Tryz.prog f (.ptr i 0::args) os' nx' Q':=by
 have same:∀(l:List AV),DataL l->RenL (zbf [i,j,k] nx') l l:=by
  intro l hl
  induction l with
  | nil=>trivial
  | cons x l ih=>exact ⟨.data (hl x tz4),ih fun y hy=>hl y (by simp[hy])⟩
 refine ACalls.atE (σ:=FS×σ) (C:=C) (args:=.ptr 0 0::args) (R:=fun s=>R s.2) (R':=fun s=>R s.2) (obs:=zcv F) (obs1:=fun s=>zcv s.1) (obs':=fObsAt j k F) (obs1':=fun s=>fObsAt j k s.1) [i,j,k] h rfl (fun _=>rfl) (by simp[hij,hik,hjk]) (by simp[li,lj,lk]) ⟨.ptr rfl,same args hd⟩ (fun s=>.data (hR s.2)) (renF F i j k nx') ⟨hi,hj,hk,trivial⟩ (fun s=>renF s.1 i j k nx') (fun s hs=>hq s.1 s.2 hs)
theorem zfx (F:FS) (i:Int):FCalls (σ:=Unit) 153 [.ptr 0 0,.v (.int .i64 i)] (F) (fun s=>s.1=F) (fun s=>.v (.bool (decide (0<=i/\i<F.up.length)))):=by
  refine ACalls.clean (C:=fun r os=>∃s:FS×Unit,(s.1=F)/\r=(fun s:Unit=>.v (.bool (decide (0<=i/\i<F.up.length)))) s.2/\os=zac 0 (zcv s.1)) ?_;refine aIn Tryz.func153 fun hm=>?_;simp only[Tryz.ntmps153,Tryz.results153,go_sem,seval];simp only[zcv,zac,Nat.reduceAdd];refine sqD ?_;refine sqR fun _ q=>?_;refine chS 3 ?_;simp only[go_sem];refine zaf 7 rfl (fun hc7=>?_) (fun hc7=>?_)
  ·
   refine chS 4 ?_;simp only[go_sem];refine zaf 11 rfl (fun hc11=>?_) (fun hc11=>?_)
   ·
    (iterate 2 (refine chS 4 ?_));simp only[↓bO,go_sem,seval];apply q;apply z8;(try simp only[go_sem]);refine ⟨_,zac 0 (zcv (F)),⟨(F,()),?_,rfl,rfl⟩,.v _ _,fUnd tz1 _,?_,?_,by omega⟩;· rfl
    ·
     refine Le.of_eq (congrArg (fun b=>AV.v (.bool b)) ?_);have h9:=hc11;(simp at h9);(simp[h9]);try omega
    first | (refine ⟨0,rfl,rfl⟩) | (refine ⟨0,by simp only[zcv,zac,zk,zf,Nat.reduceAdd],rfl⟩)
   (iterate 2 (refine chS 4 ?_));simp only[↓bO,go_sem,seval];apply q;apply z8;(try simp only[go_sem]);refine ⟨_,zac 0 (zcv (F)),⟨(F,()),?_,rfl,rfl⟩,.v _ _,fUnd tz1 _,?_,?_,by omega⟩;· rfl
   ·
    refine Le.of_eq (congrArg (fun b=>AV.v (.bool b)) ?_);have h9:=hc11;(simp at h9);(simp[h9]);try omega
   first | (refine ⟨0,rfl,rfl⟩) | (refine ⟨0,by simp only[zcv,zac,zk,zf,Nat.reduceAdd],rfl⟩)
  simp only[go_sem];cases hc7
theorem zil (F:FS) (hF:FInv F) (i:Nat) (hi:i<F.up.length):FCalls (σ:=Nat) 154 [.ptr 0 0,.v (.int .i64 (i:Int))] (F) (fun s=>FSame F s.1/\Rt F.up i s.2) (fun s=>.v (.int .i64 (s:Int))):=by
  refine ACalls.clean (C:=fun r os=>∃s:FS×Nat,(FSame F s.1/\Rt F.up i s.2)/\r=(fun s:Nat=>.v (.int .i64 (s:Int))) s.2/\os=zac 0 (zcv s.1)) ?_;refine aIn Tryz.func154 fun hm=>?_;simp only[Tryz.ntmps154,Tryz.results154,go_sem,seval];simp only[zcv,zac,Nat.reduceAdd];obtain ⟨hfl,h,hU⟩:=hF;obtain ⟨r,hr⟩:=hU.ex hi;refine sqD ?_;refine zd3 ?_;refine sqD ?_;refine zY fun _ w=>?_;refine zdU ?_;apply w;refine zY fun _ w=>?_;apply zaa;refine zah (σ:=Nat×Int) (mB 58 35) (fun s=>s.1<F.up.length/\Rt F.up s.1 r) (fun s=>[(5,.v (.int .i64 (s.1:Int)))]) (fun s=>[(0,.cells 184 [.own 1 F.up.length,.own 2 F.rank.length,.v (.int .i64 F.sets),.v (.int .i64 s.2)])]) (fun s=>h s.1) (i,F.steps) (⟨hi,hr⟩) ?_ (fun s hs=>?_)
  ·
   simp only[go_sem,seval];exact zaI
  simp only[go_sem,seval];obtain ⟨u,hu⟩:∃u,F.up[s.1]?=some u:=⟨_,za hs.1⟩;(have hs1:(s.1:Int)<(F.up.length:Int):=by have:=hs.1;omega);have hs2:=hs.1;apply zaa;refine sqR fun _ z=>?_;(iterate 2 (refine chS 3 ?_));simp only[↓bO,go_sem,seval];apply z;refine sqR fun _ z=>?_;(iterate 2 (refine chS 3 ?_ (by intro _ q;simp only[↓bO,go_sem,seval,hs1];exact q)));simp only[↓bO,go_sem,seval,gM hu,nC,hs2];apply z;refine sqD ?_;apply zaa;refine sqD ?_;apply z7 rfl <;> intro hb24
  ·
   (have h9:u=s.1:=by have h8:=hb24;simp at h8;omega);have hroot:=hs.2.stop hu h9;apply zaj;simp only[zao,zai,zae,bA,Nat.reduceEqDiff,↓reduceIte];apply w;refine zY fun _ w=>?_;apply zaa;obtain ⟨s1,hs1⟩:∃x:Nat×Int,x=s:=⟨_,rfl⟩;subst hs1;rw[hroot];refine zah (σ:=Nat×List Nat×Int) (mB 58 35) (fun s=>s.1<F.up.length/\s.2.1.length=F.up.length/\UpOk s.2.1 h/\(∀k q,Rt s.2.1 k q↔Rt F.up k q)/\Rt F.up s.1 r) (fun s=>[(1,.v (.int .i64 (s.1:Int)))]) (fun s=>[(0,.cells 184 [.own 1 F.up.length,.own 2 F.rank.length,.v (.int .i64 F.sets),.v (.int .i64 s.2.2)]),(1,.row 3 1 (s.2.1.map nC))]) (fun s=>h s.1) (i,F.up,IntKind.i64.wrap (s1.2+1)) (⟨hi,rfl,hU,fun _ _=>Iff.rfl,hr⟩) ?_ (fun s hs=>?_)
   ·
    simp only[go_sem,seval];exact zaI
   simp only[go_sem,seval];obtain ⟨u,hu⟩:∃u,s.2.1[s.1]?=some u:=⟨_,za (by rw[hs.2.1];exact hs.1)⟩;have hsl:=hs.2.1;(have hs3:(s.1:Int)<(F.up.length:Int):=by have:=hs.1;omega);have hs4:=hs.1;refine zY fun _ z=>?_;refine sqR fun _ j=>?_;(iterate 2 (refine chS 3 ?_ (by intro _ q;simp only[↓bO,go_sem,seval,hs3,hsl];exact q)));simp only[↓bO,go_sem,seval,gM hu,nC,hs4,hsl];apply j;apply z7 rfl <;> intro hb35
   ·
    (have hne:u≠r:=by have h8:=hb35;simp at h8;omega);have hrt:Rt s.2.1 s.1 r:=(hs.2.2.2.1 _ _).2 hs.2.2.2.2;obtain ⟨hnr,hnu⟩:=hrt.far hu hne;have hdown:=hs.2.2.1.down _ _ hu hnu;obtain ⟨hc1,hc2⟩:=hs.2.2.1.short hrt hnr;have hur:Rt F.up u r:=(hs.2.2.2.1 _ _).1 (hrt.next hu hnu);have hnext:u<F.up.length/\(s.2.1.set s.1 r).length=F.up.length/\UpOk (s.2.1.set s.1 r) h/\(∀k q,Rt (s.2.1.set s.1 r) k q↔Rt F.up k q)/\Rt F.up u r:=⟨by rw[<- hs.2.1];exact hs.2.2.1.lt _ _ hu,by rw[List.length_set];exact hs.2.1,hc1,fun k q=>(hc2 k q).trans (hs.2.2.2.1 k q),hur⟩;apply zab;apply z;apply zaa;refine sqR fun _ z=>?_;(iterate 2 (refine chS 3 ?_));simp only[↓bO,go_sem,seval];apply z;refine zay 14 mixed tz0 fun J0 j0=>?_;(iterate 4 (simp only[go_sem];refine zad 3 fun _ y=>?_;simp only[↓zaz,↓dOp,↓bO,go_sem,seval,hs4,hsl];apply y;clear y));simp only[go_sem];simp only[↓zaz,↓dOp,↓bO,go_sem,seval,gM hu,nC,hs3,hs4,hsl];refine j0 _ ?_;clear j0 J0;simp only[go_sem];simp only[↓bO,go_sem,seval,gM hu,nC,hs4,hsl,setNC];refine ⟨(u,s.2.1.set s.1 r,IntKind.i64.wrap (s.2.2+1)),hnext,hdown,?_⟩;simp only[zar,zas,zag,zal,mB,seval];exact zaI
   apply zaj;simp only[zao,zai,zae,bA,Nat.reduceEqDiff,↓reduceIte];apply w;refine sqD ?_;apply z8;(try simp only[go_sem]);refine ⟨_,zac 0 (zcv (⟨s.2.1,F.rank,F.sets,s.2.2⟩)),⟨(⟨s.2.1,F.rank,F.sets,s.2.2⟩,r),?_,rfl,rfl⟩,.v _ _,fUnd tz1 _,?_,?_,by omega⟩;· exact ⟨⟨⟨by rw[hfl];exact hs.2.1.symm,h,hs.2.2.1⟩,hs.2.1,rfl,hs.2.2.2.1⟩,hr⟩
   ·
    exact Le.refl _
   first | (refine ⟨0,rfl,rfl⟩) | (refine ⟨0,by simp only[zcv,zac,zk,zf,Nat.reduceAdd,hs.2.1],rfl⟩)
  (have hne:u≠s.1:=by have h8:=hb24;simp at h8;omega);have hnext:=hs.2.next hu hne;apply z6;simp only[↓bO,go_sem,seval];refine ⟨(u,IntKind.i64.wrap (s.2+1)),⟨hU.lt _ _ hu,hnext⟩,hU.down _ _ hu hne,?_⟩;simp only[zar,zas,zag,zal,mB,seval];exact zaI
structure FJoin (F:FS) (a b:Nat) (s:FS×(Nat×Bool)):Prop where
 inv:FInv s.1
 len:s.1.up.length=F.up.length
 ex:∃ra rb,Rt F.up a ra/\Rt F.up b rb/\((ra=rb/\s.2=(ra,false)/\∀k q,Rt s.1.up k q↔Rt F.up k q) \/
  (ra≠rb/\s.2.2=true/\(s.2.1=ra\/s.2.1=rb)/\∀k q,Rt s.1.up k q↔(q=s.2.1/\(Rt F.up k ra\/Rt F.up k rb))\/(q≠ra/\q≠rb/\Rt F.up k q)))
theorem FJoin.same {F G:FS} {a b r q:Nat} (S:FSame F G) (ha:Rt F.up a r) (hb:Rt F.up b q) (e:r=q):FJoin F a b (G,(r,false)) :=
 ⟨S.inv,S.len,r,q,ha,hb,.inl ⟨e,rfl,S.rt⟩⟩
theorem FJoin.two {F G:FS} {a b ra rb p q:Nat} (S:FSame F G) (ha:Rt F.up a ra) (hb:Rt F.up b rb) (hne:ra≠rb) (hpq:(p=ra/\q=rb)\/(p=rb/\q=ra)) (rank:List Int) (sets steps:Int) (hr:rank.length=F.up.length) :
  FJoin F a b (⟨G.up.set q p,rank,sets,steps⟩,(p,true)):=by
 obtain ⟨h,hU⟩:=S.inv.ok;have ha':=((S.rt _ _).2 ha).root;have hb':=((S.rt _ _).2 hb).root
 have hp:G.up[p]?=some p/\G.up[q]?=some q/\p≠q:=by
  (rcases hpq with ⟨rfl,rfl⟩ | ⟨rfl,rfl⟩);(·exact ⟨ha',hb',hne⟩);exact ⟨hb',ha',fun e=>hne e.symm⟩
 obtain ⟨hl,hrt⟩:=hU.link hp.1 hp.2.1 hp.2.2;refine ⟨⟨by simp only[List.length_set];rw[hr,S.len],hl⟩,by simp only[List.length_set];exact S.len,ra,rb,ha,hb,.inr ⟨hne,rfl,?_,fun k u=>?_⟩⟩
 ·rcases hpq with ⟨e,_⟩ | ⟨e,_⟩
  (·exact .inl e);exact .inr e
 refine (hrt k u).trans ?_;simp only[S.rt];(rcases hpq with ⟨rfl,rfl⟩ | ⟨rfl,rfl⟩);(·exact Iff.rfl);constructor
 ·rintro (⟨h1,h2⟩ | ⟨h1,h2,h3⟩)
  (·exact .inl ⟨h1,h2.symm⟩);exact .inr ⟨h2,h1,h3⟩
 rintro (⟨h1,h2⟩ | ⟨h1,h2,h3⟩);(·exact .inl ⟨h1,h2.symm⟩);exact .inr ⟨h2,h1,h3⟩
theorem FInv.push {F:FS} (h:FInv F) (sets steps:Int):FInv ⟨F.up++[F.up.length],F.rank++[0],sets,steps⟩:=by
 obtain ⟨h1,h,h2⟩:=h;exact ⟨by simp[h1],h,h2.push⟩
theorem tz2 {p:Prop} (h:p:=by first | omega | (simp only;omega)):p:=h
theorem Root_f (F:FS) (hF:FInv F) (i:Nat) (hi:i<F.up.length):FCalls (σ:=Nat) 129 [.ptr 0 0,.v (.int .i64 (i:Int))] (F) (fun s=>FSame F s.1/\Rt F.up i s.2) (fun s=>.tup [.v (.int .i64 (s:Int)),.v (.bool true)]):=by
  refine ACalls.clean (C:=fun r os=>∃s:FS×Nat,(FSame F s.1/\Rt F.up i s.2)/\r=(fun s:Nat=>.tup [.v (.int .i64 (s:Int)),.v (.bool true)]) s.2/\os=zac 0 (zcv s.1)) ?_;refine aIn Tryz.func129 fun hm=>?_;simp only[Tryz.ntmps129,Tryz.results129,go_sem,seval];simp only[zcv,zac,Nat.reduceAdd];refine sqD ?_;refine zY fun _ y=>?_;refine sqR fun _ u=>?_;refine chS 2 ?_;refine zZ 1 fun _ q=>?_;simp only[↓bO,go_sem,seval];refine FCalls.at (zfx F (i:Int)) (.cons (.v _) .nil) (fun _=>.v _) (i:=0) (j:=1) (k:=2) rfl rfl rfl tz3 tz3 tz3 tz2 tz2 tz2 (fun G0 u0 hG0=>?_);(try dsimp only at hG0);simp only[zal,Nat.reduceEqDiff,↓reduceIte];obtain rfl:F=G0:=hG0.symm;apply q;clear q;simp only[↓bO,go_sem,seval];apply u;apply z7 rfl <;> intro hb9
  ·
   exact absurd hb9 tz8
  apply zab;apply y;refine sqR fun _ y=>?_;refine chS 2 ?_;refine zZ 1 fun _ q=>?_;simp only[↓bO,go_sem,seval];refine FCalls.at (zil F hF i hi) (.cons (.v _) .nil) (fun _=>.v _) (i:=0) (j:=1) (k:=2) rfl rfl rfl tz3 tz3 tz3 tz2 tz2 tz2 (fun G r hG=>?_);(try dsimp only at hG);simp only[zal,Nat.reduceEqDiff,↓reduceIte];apply q;clear q;simp only[↓bO,go_sem,seval];apply y;apply z8;(try simp only[go_sem]);refine ⟨_,zac 0 (zcv (G)),⟨(G,r),?_,rfl,rfl⟩,.tup ⟨.v _ _,.v _ _,trivial⟩,fUnd tz1 _,?_,?_,by omega⟩;· exact hG
  ·
   exact Le.refl _
  first | (refine ⟨0,rfl,rfl⟩) | (refine ⟨0,by simp only[zcv,zac,zk,zf,Nat.reduceAdd],rfl⟩)
theorem Join_f (F:FS) (hF:FInv F) (a b:Nat) (ha:a<F.up.length) (hb:b<F.up.length):FCalls (σ:=Nat×Bool) 145 [.ptr 0 0,.v (.int .i64 (a:Int)),.v (.int .i64 (b:Int))] (F) (fun s=>FJoin F a b s) (fun s=>.tup [.v (.int .i64 (s.1:Int)),.v (.bool s.2)]):=by
  refine ACalls.clean (C:=fun r os=>∃s:FS×Nat×Bool,(FJoin F a b s)/\r=(fun s:Nat×Bool=>.tup [.v (.int .i64 (s.1:Int)),.v (.bool s.2)]) s.2/\os=zac 0 (zcv s.1)) ?_;refine aIn Tryz.func145 fun hm=>?_;simp only[Tryz.ntmps145,Tryz.results145,go_sem,seval];simp only[zcv,zac,Nat.reduceAdd];refine sqD ?_;refine zY fun _ u=>?_;refine sqR fun _ w=>?_;refine chS 2 ?_;refine zZ 1 fun _ y=>?_;simp only[↓bO,go_sem,seval];refine FCalls.at (zfx F (a:Int)) (.cons (.v _) .nil) (fun _=>.v _) (i:=0) (j:=1) (k:=2) rfl rfl rfl tz3 tz3 tz3 tz2 tz2 tz2 (fun G0 u0 hG0=>?_);(try dsimp only at hG0);simp only[zal,Nat.reduceEqDiff,↓reduceIte];obtain rfl:F=G0:=hG0.symm;apply y;clear y;refine chS 2 ?_;simp only[go_sem];refine zaf 12 rfl (fun hc12=>?_) (fun hc12=>?_)
  ·
   simp only[go_sem];exact absurd hc12 tz8
  refine chS 2 ?_;refine zZ 1 fun _ y=>?_;simp only[↓bO,go_sem,seval];refine FCalls.at (zfx F (b:Int)) (.cons (.v _) .nil) (fun _=>.v _) (i:=0) (j:=1) (k:=2) rfl rfl rfl tz3 tz3 tz3 tz2 tz2 tz2 (fun G0 u0 hG0=>?_);(try dsimp only at hG0);simp only[zal,Nat.reduceEqDiff,↓reduceIte];obtain rfl:F=G0:=hG0.symm;apply y;clear y;simp only[↓bO,go_sem,seval];apply w;apply z7 rfl <;> intro hb17
  ·
   exact absurd hb17 tz8
  apply zab;apply u;refine sqR fun _ u=>?_;refine chS 2 ?_;refine zZ 1 fun _ y=>?_;simp only[↓bO,go_sem,seval];refine FCalls.at (zil F hF a ha) (.cons (.v _) .nil) (fun _=>.v _) (i:=0) (j:=1) (k:=2) rfl rfl rfl tz3 tz3 tz3 tz2 tz2 tz2 (fun G1 r1 hG1=>?_);(try dsimp only at hG1);simp only[zal,Nat.reduceEqDiff,↓reduceIte];apply y;clear y;refine chS 2 ?_;refine zZ 1 fun _ y=>?_;simp only[↓bO,go_sem,seval];refine FCalls.at (zil G1 hG1.1.inv b (by rw[hG1.1.len];exact hb)) (.cons (.v _) .nil) (fun _=>.v _) (i:=0) (j:=1) (k:=2) rfl rfl rfl tz3 tz3 tz3 tz2 tz2 tz2 (fun G2 r2 hG2=>?_);(try dsimp only at hG2);simp only[zal,Nat.reduceEqDiff,↓reduceIte];apply y;clear y;simp only[↓bO,go_sem,seval];apply u;refine zY fun _ u=>?_;have S:=hG1.1.trans hG2.1;have hb2:Rt F.up b r2:=(hG1.1.rt _ _).1 hG2.2;have hl2:=S.inv.len;have hl3:=S.len;(have hr1:r1<G2.up.length:=by rw[S.len];exact hG1.2.lt);(have hr2:r2<G2.up.length:=by rw[S.len];exact hb2.lt);obtain ⟨ka,hka⟩:∃k,G2.rank[r1]?=some k:=⟨_,za tz1⟩;obtain ⟨kb,hkb⟩:∃k,G2.rank[r2]?=some k:=⟨_,za tz1⟩;have hu1:G2.up[r1]?=some r1:=((S.rt _ _).2 hG1.2).root;have hu2:G2.up[r2]?=some r2:=((S.rt _ _).2 hb2).root;(have hi1:(r1:Int)<(G2.rank.length:Int):=by omega);(have hi2:(r2:Int)<(G2.rank.length:Int):=by omega);(have hi3:r1<G2.rank.length:=by omega);(have hi4:r2<G2.rank.length:=by omega);(have hi5:(r1:Int)<(G2.up.length:Int):=by omega);(have hi6:(r2:Int)<(G2.up.length:Int):=by omega);refine sqR fun _ w=>?_;refine chS 2 ?_;simp only[↓bO,go_sem,seval];apply w;apply z7 rfl <;> intro hb26
  ·
   (have heq:r1=r2:=by have h8:=hb26;simp at h8;omega);refine sqR fun _ w=>?_;refine chS 2 ?_;simp only[↓bO,go_sem,seval];apply w;apply z8;(try simp only[go_sem]);refine ⟨_,zac 0 (zcv (G2)),⟨(G2,(r1,false)),?_,rfl,rfl⟩,.tup ⟨.v _ _,.v _ _,trivial⟩,fUnd tz1 _,?_,?_,by omega⟩;· exact FJoin.same S hG1.2 hb2 heq
   ·
    exact Le.refl _
   first | (refine ⟨0,rfl,rfl⟩) | (refine ⟨0,by simp only[zcv,zac,zk,zf,Nat.reduceAdd],rfl⟩)
  (have hne:r1≠r2:=by have h8:=hb26;simp at h8;omega);apply zab;apply u;refine zY fun _ u=>?_;refine zY fun _ w=>?_;refine zay 15 mixed tz0 fun J0 j0=>?_;(iterate 7 (simp only[go_sem];refine zad 2 fun _ y=>?_;simp only[↓zaz,↓dOp,↓bO,go_sem,seval,gM hka,gM hkb,hi1,hi2,hi3,hi4,intC];apply y;clear y));simp only[go_sem];simp only[↓zaz,↓dOp,↓bO,go_sem,seval];refine j0 _ ?_;clear j0 J0;simp only[bL,aops,zao,zai,zae];apply w;apply z7 rfl <;> intro hb42
  ·
   apply z6;refine chS 2 ?_;simp only[↓bO,go_sem,seval];apply u;refine zY fun _ u=>?_;refine zY fun _ w=>?_;refine zay 15 mixed tz0 fun J0 j0=>?_;(iterate 7 (simp only[go_sem];refine zad 2 fun _ y=>?_;simp only[↓zaz,↓dOp,↓bO,go_sem,seval,gM hka,gM hkb,hi1,hi2,hi3,hi4,intC];apply y;clear y));simp only[go_sem];simp only[↓zaz,↓dOp,↓bO,go_sem,seval];refine j0 _ ?_;clear j0 J0;simp only[bL,aops,zao,zai,zae];apply w;apply z7 rfl <;> intro hb59
   ·
    apply z6;(iterate 4 (refine chS 2 ?_ (by intro _ q;simp only[↓bO,go_sem,seval,gM hkb,hi2,hi4,intC];exact q)));simp only[↓bO,go_sem,seval,gM hkb,hi2,hi4,intC,setIC];apply u;refine sqR fun _ u=>?_;(iterate 3 (refine chS 2 ?_));simp only[↓bO,go_sem,seval,gM hu1,nC,hi5,hr1,setNC];apply u;refine sqR fun _ u=>?_;(iterate 3 (refine chS 2 ?_));simp only[↓bO,go_sem,seval];apply u;refine sqR fun _ u=>?_;refine chS 2 ?_;simp only[↓bO,go_sem,seval];apply u;apply z8;(try simp only[go_sem]);refine ⟨_,zac 0 (zcv (⟨G2.up.set r1 r2,(G2.rank.set r2 (IntKind.i64.wrap (kb+1))),IntKind.i64.wrap (G2.sets-1),G2.steps⟩)),⟨(⟨G2.up.set r1 r2,(G2.rank.set r2 (IntKind.i64.wrap (kb+1))),IntKind.i64.wrap (G2.sets-1),G2.steps⟩,(r2,true)),?_,rfl,rfl⟩,.tup ⟨.v _ _,.v _ _,trivial⟩,fUnd tz1 _,?_,?_,by omega⟩;· exact FJoin.two S hG1.2 hb2 hne (.inr ⟨rfl,rfl⟩) _ _ _ (by first | (simp only[List.length_set];omega) | omega)
    ·
     exact Le.refl _
    first | (refine ⟨0,rfl,rfl⟩) | (refine ⟨0,by simp only[zcv,zac,zk,zf,Nat.reduceAdd,List.length_set],rfl⟩)
   apply zab;apply u;refine sqR fun _ u=>?_;(iterate 3 (refine chS 2 ?_));simp only[↓bO,go_sem,seval,gM hu1,nC,hi5,hr1,setNC];apply u;refine sqR fun _ u=>?_;(iterate 3 (refine chS 2 ?_));simp only[↓bO,go_sem,seval];apply u;refine sqR fun _ u=>?_;refine chS 2 ?_;simp only[↓bO,go_sem,seval];apply u;apply z8;(try simp only[go_sem]);refine ⟨_,zac 0 (zcv (⟨G2.up.set r1 r2,G2.rank,IntKind.i64.wrap (G2.sets-1),G2.steps⟩)),⟨(⟨G2.up.set r1 r2,G2.rank,IntKind.i64.wrap (G2.sets-1),G2.steps⟩,(r2,true)),?_,rfl,rfl⟩,.tup ⟨.v _ _,.v _ _,trivial⟩,fUnd tz1 _,?_,?_,by omega⟩;· exact FJoin.two S hG1.2 hb2 hne (.inr ⟨rfl,rfl⟩) _ _ _ (by first | (simp only[List.length_set];omega) | omega)
   ·
    exact Le.refl _
   first | (refine ⟨0,rfl,rfl⟩) | (refine ⟨0,by simp only[zcv,zac,zk,zf,Nat.reduceAdd,List.length_set],rfl⟩)
  apply zab;apply u;refine zY fun _ u=>?_;refine zY fun _ w=>?_;refine zay 15 mixed tz0 fun J0 j0=>?_;(iterate 7 (simp only[go_sem];refine zad 2 fun _ y=>?_;simp only[↓zaz,↓dOp,↓bO,go_sem,seval,gM hka,gM hkb,hi1,hi2,hi3,hi4,intC];apply y;clear y));simp only[go_sem];simp only[↓zaz,↓dOp,↓bO,go_sem,seval];refine j0 _ ?_;clear j0 J0;simp only[bL,aops,zao,zai,zae];apply w;apply z7 rfl <;> intro hb59
  ·
   apply z6;(iterate 4 (refine chS 2 ?_ (by intro _ q;simp only[↓bO,go_sem,seval,gM hka,hi1,hi3,intC];exact q)));simp only[↓bO,go_sem,seval,gM hka,hi1,hi3,intC,setIC];apply u;refine sqR fun _ u=>?_;(iterate 3 (refine chS 2 ?_));simp only[↓bO,go_sem,seval,gM hu2,nC,hi6,hr2,setNC];apply u;refine sqR fun _ u=>?_;(iterate 3 (refine chS 2 ?_));simp only[↓bO,go_sem,seval];apply u;refine sqR fun _ u=>?_;refine chS 2 ?_;simp only[↓bO,go_sem,seval];apply u;apply z8;(try simp only[go_sem]);refine ⟨_,zac 0 (zcv (⟨G2.up.set r2 r1,(G2.rank.set r1 (IntKind.i64.wrap (ka+1))),IntKind.i64.wrap (G2.sets-1),G2.steps⟩)),⟨(⟨G2.up.set r2 r1,(G2.rank.set r1 (IntKind.i64.wrap (ka+1))),IntKind.i64.wrap (G2.sets-1),G2.steps⟩,(r1,true)),?_,rfl,rfl⟩,.tup ⟨.v _ _,.v _ _,trivial⟩,fUnd tz1 _,?_,?_,by omega⟩;· exact FJoin.two S hG1.2 hb2 hne (.inl ⟨rfl,rfl⟩) _ _ _ (by first | (simp only[List.length_set];omega) | omega)
   ·
    exact Le.refl _
   first | (refine ⟨0,rfl,rfl⟩) | (refine ⟨0,by simp only[zcv,zac,zk,zf,Nat.reduceAdd,List.length_set],rfl⟩)
  apply zab;apply u;refine sqR fun _ u=>?_;(iterate 3 (refine chS 2 ?_));simp only[↓bO,go_sem,seval,gM hu2,nC,hi6,hr2,setNC];apply u;refine sqR fun _ u=>?_;(iterate 3 (refine chS 2 ?_));simp only[↓bO,go_sem,seval];apply u;refine sqR fun _ u=>?_;refine chS 2 ?_;simp only[↓bO,go_sem,seval];apply u;apply z8;(try simp only[go_sem]);refine ⟨_,zac 0 (zcv (⟨G2.up.set r2 r1,G2.rank,IntKind.i64.wrap (G2.sets-1),G2.steps⟩)),⟨(⟨G2.up.set r2 r1,G2.rank,IntKind.i64.wrap (G2.sets-1),G2.steps⟩,(r1,true)),?_,rfl,rfl⟩,.tup ⟨.v _ _,.v _ _,trivial⟩,fUnd tz1 _,?_,?_,by omega⟩;· exact FJoin.two S hG1.2 hb2 hne (.inl ⟨rfl,rfl⟩) _ _ _ (by first | (simp only[List.length_set];omega) | omega)
  ·
   exact Le.refl _
  first | (refine ⟨0,rfl,rfl⟩) | (refine ⟨0,by simp only[zcv,zac,zk,zf,Nat.reduceAdd,List.length_set],rfl⟩)
theorem ziA:∀(T:Ty) (g:List RNode) (hg:g.length+T.cnt<=1099511627776),APure Tryz.prog 77 [.sl 4 (g.map RNode.cells),.agg T.cells] (.tup [.sl 4 ((T.radd g).1.map RNode.cells),.v (.int .i64 (T.radd g).2)]):=by
  refine Ty.ind fun T ih=>?_;intro g hg;refine APure.mkL (.cons (RNode.dataSl g) (.cons T.dataAgg .nil)) (.tup (.cons (RNode.dataSl _) (.cons (.v _) .nil))) ?_;refine aIn Tryz.func77 fun hm=>?_;simp only[Tryz.ntmps77,Tryz.results77,go_sem,seval];have hm1:=hm.wide (t:=T) tz4;have hcn:=T.cnt_eq;have hcl:=Ty.cntL_len T.ps;refine sqD ?_;refine zhR (mB 56 9) ([(0,.sl 4 (g.map RNode.cells))]) ([]) (¬(T.k=1/\0<=zbo (RNode.isVar T.n) g)) ?_ (fun hno=>?_)
  ·
   refine sqD ?_;apply z7 rfl <;> intro hb13
   ·
    refine sqR fun _ w=>?_;refine chS 3 ?_;refine zZ 1 fun _ u=>?_;simp only[↓bO,go_sem,seval];refine APure.call (RVar_pure g T.n) ?_;apply u;clear u;simp only[↓bO,go_sem,seval];apply w;refine sqD ?_;apply z7 rfl <;> intro hb19
    ·
     refine sqR fun _ w=>?_;refine chS 3 ?_;simp only[↓bO,go_sem,seval];apply w;apply z8;(try simp only[go_sem]);rw[Ty.radd_eq];first | (rw[if_neg hno];exact Le.refl _) | (rw[if_pos (by simp at *;omega)];exact Le.refl _)
    apply zab;(try simp only[go_sem]);(try simp only[zar,zas,zag,zal,mB,List.set_cons_zero,seval]);refine ⟨(by simp only[beq_iff_eq,beq_eq_false_iff_ne,ze,ne_eq] at *;omega),?_⟩;exact zhS
   apply zab;(try simp only[go_sem]);(try simp only[zar,zas,zag,zal,mB,List.set_cons_zero,seval]);refine ⟨(by simp only[beq_iff_eq,beq_eq_false_iff_ne,ze,ne_eq] at *;omega),?_⟩;exact zhS
  simp only[zar,zas,zag,zal,mB,List.set_cons_zero,seval];refine sqR fun _ w=>?_;refine chS 3 ?_;simp only[↓bO,go_sem,seval,List.all_append,zh];apply w;refine zY fun _ w=>?_;simp only[Ty.cells_eq T,zt,zA];refine sqD ?_;apply zaa;refine zaC (Weak.tokCell 3 1 (id:=1) (t:=112) [.v (.int .i64 T.k),.v (.int .i64 T.n),.sl 3 (T.ps.map Ty.cells),.osl 2 1 []] rfl ⟨.inl (.refl _),.inl (.refl _),.inl (.refl _),.inr ⟨rfl,rfl⟩,trivial⟩) ?_;simp only[zal,Nat.reduceEqDiff,↓reduceIte];refine zah (σ:=Nat) (mB 56 393) (fun s=>s<=T.ps.length) (fun s=>[(0,.sl 4 ((Ty.raddL (T.ps.take s) g []).1.map RNode.cells)),(8,.v (.int .i64 (s:Int)))]) (fun s=>[(1,.cells 112 [.v (.int .i64 T.k),.v (.int .i64 T.n),.sl 3 (T.ps.map Ty.cells),.osl 2 1 ((Ty.raddL (T.ps.take s) g []).2.map intC)]),(2,.tok 3 1 s)]) (fun s=>T.ps.length-s) 0 tz1 ?_ (fun s hs=>?_)
  ·
   simp only[go_sem,seval,bL,Ty.raddL];exact zaI
  simp only[go_sem,seval];refine zY fun _ z=>?_;refine sqR fun _ x=>?_;refine chS 3 ?_;simp only[↓bO,go_sem,seval];apply x;apply z7 rfl <;> intro hb28
  ·
   (have hk:s<T.ps.length:=by simpa using hb28);obtain ⟨p,hp⟩:∃p,T.ps[s]?=some p:=⟨_,za hk⟩;have hw:IntKind.i64.wrap ((s:Int)+1)=(s:Int)+1:=zak tz1 (by have:=hm1.len;simp only[maxLen] at this;omega);(have hln:(Ty.raddL (T.ps.take s) g []).2.length=s:=by rw[Ty.raddL_len2];simp;omega);have hl1:=Ty.raddL_len (T.ps.take s) g [];have hl2:=Ty.cntL_step hp;(have hb1:(s+1) * 8<=140737488355328:=by omega);(have hb2:s+1<=maxLen:=by simp only[maxLen];omega);apply zab;apply z;refine zY fun _ z=>?_;apply zaa;refine sqR fun _ x=>?_;(iterate 2 (refine chS 3 ?_ (by intro _ q;simp only[↓bO,go_sem,seval,hk,gM hp];exact q)));refine zZ 1 fun _ u=>?_;simp only[↓bO,go_sem,seval];refine APure.call (ih p (zc hp) (Ty.raddL (T.ps.take s) g []).1 tz1) ?_;apply u;clear u;refine chS 3 ?_;simp only[↓bO,go_sem,seval];apply x;refine sqD ?_;apply z6;refine chS 3 ?_;refine chS 3 ?_ (by intro _ q;simp only[↓bO,go_sem,seval,↓zdE,hln,hb1,hb2];exact q);simp only[↓bO,go_sem,seval];apply z;apply z6;simp only[↓bO,go_sem,seval,hw];refine ⟨(s+1),tz1,by omega,?_⟩;simp only[zar,zas,zag,zal,mB,seval,zj,zi,zz,bL,Ty.raddL_step hp g []];exact zaI
  (have hk:s=T.ps.length:=by simp at hb28;omega);apply zaj;simp only[zao,zai,zae,bA,Nat.reduceEqDiff,↓reduceIte];apply w;subst hk;rw[zL];have hq0:=Ty.raddL_len T.ps g [];have hq1:(((Ty.raddL T.ps g []).1.map RNode.cells).all fun y=>y.all AV.one)=true:=RNode.all_one _;(have hq2:(Ty.raddL T.ps g []).1.length * 64<=140737488355328:=by omega);(have hq3:(Ty.raddL T.ps g []).1.length<=maxLen:=by simp only[maxLen];omega);(have hq4:((Ty.raddL T.ps g []).1.length+1) * 64<=140737488355328:=by omega);(have hq5:(Ty.raddL T.ps g []).1.length+1<=maxLen:=by simp only[maxLen];omega);refine zaC (Weak.recell (id:=1) (t:=112) [.v (.int .i64 T.k),.v (.int .i64 T.n),.sl 3 (T.ps.map Ty.cells),.sl 1 ((Ty.raddL T.ps g []).2.map intC)] rfl ⟨.refl _,.refl _,.refl _,Le.oslL,trivial⟩) ?_;simp only[zal,Nat.reduceEqDiff,↓reduceIte];refine zbm (mB 56 48) ([(4,.sl 4 (((Ty.raddL T.ps g []).1++[RNode.mk T (Ty.raddL T.ps g []).2]).map RNode.cells)),(5,.v (.int .i64 ((Ty.raddL T.ps g []).1.length:Int)))]) [] 0 (True) ?_ (fun hC=>?_)
  ·
   refine zaw [] 10 rfl mixed (trivial) rfl ?_;dsimp only;refine tkS 1 ?_;refine tkS 6 ?_;refine tkS 7 ?_;refine al2 (i:=0) (j:=3) ?_ ?_
   ·
    refine opT fun _ u=>?_;simp only[↓bO,go_sem,seval,↓bs0_4];refine u _ ⟨trivial,?_⟩;clear u;refine al2 (i:=2) (j:=3) ?_ ?_
    ·
     refine opT fun _ u=>?_;simp only[↓bO,go_sem,seval,hq1,hq2,hq3];refine u _ ⟨trivial,?_⟩;clear u;refine alS 3 ?_;refine al1 (i:=4) ?_;refine opT fun _ u=>?_;simp only[↓bO,go_sem,seval,↓zfM];refine u _ ⟨trivial,?_⟩;clear u;refine al1 (i:=5) ?_;refine opT fun _ u=>?_;simp only[↓bO,go_sem,seval,hq4,hq5];refine u _ ⟨trivial,?_⟩;clear u;refine tkS 8 ?_;refine tkS 9 ?_;refine dnA ?_;simp only[go_sem];(try simp only[go_sem,seval]);(first | refine ⟨trivial,?_⟩ | skip);refine Weak.bare ?_ rfl ?_
     ·
      simp only[go_sem,Le.refl,Le.any,zz,zu,zS,RNode.cells];first | done | exact Le.oslL
     simp only[go_sem];first | done | exact .data (RNode.dataSl _)
    refine opT fun _ u=>?_;simp only[↓bO,go_sem,seval];refine u _ ⟨trivial,?_⟩;clear u;refine al2 (i:=2) (j:=4) ?_ ?_
    ·
     refine opT fun _ u=>?_;simp only[↓bO,go_sem,seval,hq1,hq2,hq3];refine u _ ⟨trivial,?_⟩;clear u;refine al1 (i:=4) ?_;refine opT fun _ u=>?_;simp only[↓bO,go_sem,seval,↓zfM];refine u _ ⟨trivial,?_⟩;clear u;refine al1 (i:=5) ?_;refine opT fun _ u=>?_;simp only[↓bO,go_sem,seval,hq4,hq5];refine u _ ⟨trivial,?_⟩;clear u;refine tkS 8 ?_;refine tkS 9 ?_;refine dnA ?_;simp only[go_sem];(try simp only[go_sem,seval]);(first | refine ⟨trivial,?_⟩ | skip);refine Weak.bare ?_ rfl ?_
     ·
      simp only[go_sem,Le.refl,Le.any,zz,zu,zS,RNode.cells];first | done | exact Le.oslL
     simp only[go_sem];first | done | exact .data (RNode.dataSl _)
    refine opT fun _ u=>?_;simp only[↓bO,go_sem,seval,↓zfM];refine u _ ⟨trivial,?_⟩;clear u;refine al1 (i:=2) ?_;refine opT fun _ u=>?_;simp only[↓bO,go_sem,seval,hq1,hq2,hq3];refine u _ ⟨trivial,?_⟩;clear u;refine al1 (i:=5) ?_;refine opT fun _ u=>?_;simp only[↓bO,go_sem,seval,hq4,hq5];refine u _ ⟨trivial,?_⟩;clear u;refine tkS 8 ?_;refine tkS 9 ?_;refine dnA ?_;simp only[go_sem];(try simp only[go_sem,seval]);(first | refine ⟨trivial,?_⟩ | skip);refine Weak.bare ?_ rfl ?_
    ·
     simp only[go_sem,Le.refl,Le.any,zz,zu,zS,RNode.cells];first | done | exact Le.oslL
    simp only[go_sem];first | done | exact .data (RNode.dataSl _)
   refine opT fun _ u=>?_;simp only[↓bO,go_sem,seval];refine u _ ⟨trivial,?_⟩;clear u;refine al2 (i:=0) (j:=4) ?_ ?_
   ·
    refine opT fun _ u=>?_;simp only[↓bO,go_sem,seval,↓bs0_4];refine u _ ⟨trivial,?_⟩;clear u;refine al2 (i:=2) (j:=4) ?_ ?_
    ·
     refine opT fun _ u=>?_;simp only[↓bO,go_sem,seval,hq1,hq2,hq3];refine u _ ⟨trivial,?_⟩;clear u;refine al1 (i:=4) ?_;refine opT fun _ u=>?_;simp only[↓bO,go_sem,seval,↓zfM];refine u _ ⟨trivial,?_⟩;clear u;refine al1 (i:=5) ?_;refine opT fun _ u=>?_;simp only[↓bO,go_sem,seval,hq4,hq5];refine u _ ⟨trivial,?_⟩;clear u;refine tkS 8 ?_;refine tkS 9 ?_;refine dnA ?_;simp only[go_sem];(try simp only[go_sem,seval]);(first | refine ⟨trivial,?_⟩ | skip);refine Weak.bare ?_ rfl ?_
     ·
      simp only[go_sem,Le.refl,Le.any,zz,zu,zS,RNode.cells];first | done | exact Le.oslL
     simp only[go_sem];first | done | exact .data (RNode.dataSl _)
    refine opT fun _ u=>?_;simp only[↓bO,go_sem,seval,↓zfM];refine u _ ⟨trivial,?_⟩;clear u;refine al1 (i:=2) ?_;refine opT fun _ u=>?_;simp only[↓bO,go_sem,seval,hq1,hq2,hq3];refine u _ ⟨trivial,?_⟩;clear u;refine al1 (i:=5) ?_;refine opT fun _ u=>?_;simp only[↓bO,go_sem,seval,hq4,hq5];refine u _ ⟨trivial,?_⟩;clear u;refine tkS 8 ?_;refine tkS 9 ?_;refine dnA ?_;simp only[go_sem];(try simp only[go_sem,seval]);(first | refine ⟨trivial,?_⟩ | skip);refine Weak.bare ?_ rfl ?_
    ·
     simp only[go_sem,Le.refl,Le.any,zz,zu,zS,RNode.cells];first | done | exact Le.oslL
    simp only[go_sem];first | done | exact .data (RNode.dataSl _)
   refine opT fun _ u=>?_;simp only[↓bO,go_sem,seval,↓zfM];refine u _ ⟨trivial,?_⟩;clear u;refine al1 (i:=0) ?_;refine opT fun _ u=>?_;simp only[↓bO,go_sem,seval,↓bs0_4];refine u _ ⟨trivial,?_⟩;clear u;refine al1 (i:=2) ?_;refine opT fun _ u=>?_;simp only[↓bO,go_sem,seval,hq1,hq2,hq3];refine u _ ⟨trivial,?_⟩;clear u;refine al1 (i:=5) ?_;refine opT fun _ u=>?_;simp only[↓bO,go_sem,seval,hq4,hq5];refine u _ ⟨trivial,?_⟩;clear u;refine tkS 8 ?_;refine tkS 9 ?_;refine dnA ?_;simp only[go_sem];(try simp only[go_sem,seval]);(first | refine ⟨trivial,?_⟩ | skip);refine Weak.bare ?_ rfl ?_
   ·
    simp only[go_sem,Le.refl,Le.any,zz,zu,zS,RNode.cells];first | done | exact Le.oslL
   simp only[go_sem];first | done | exact .data (RNode.dataSl _)
  simp only[go_sem,seval];apply z8;(try simp only[go_sem]);rw[Ty.radd_eq];first | (rw[if_neg hno];exact Le.refl _) | (rw[if_pos (by simp at *;omega)];exact Le.refl _)
theorem Ty.roomL_cnt:∀(ps:List Ty) (n:Int) (d:Nat),(∀p∈ps,∀(n:Int) (d:Nat),0<=n->0<=p.room n d->p.room n d=n-p.cnt)->0<=Ty.roomL ps n d->Ty.roomL ps n d=n-Ty.cntL ps
 | [],n,d,_,_=>by simp[Ty.roomL,Ty.cntL]
 | p::ps,n,d,hp,h=>by
  simp only[Ty.roomL] at h ⊢
  by_cases hn:n<0
  (·rw[if_pos hn] at h;omega);rw[if_neg hn] at h ⊢
  have h2:0<=p.room n d:=by
   (rcases Int.lt_or_le (p.room n d) 0 with h3 | h3);(·rw[Ty.roomL_neg ps h3] at h;omega);exact h3
  have h3:=hp p tz4 n d tz1 h2;have h4:=Ty.roomL_cnt ps (p.room n d) d (fun q hq=>hp q (by simp[hq])) h;simp only[Ty.cntL];omega
theorem Ty.room_cnt:∀(t:Ty) (n:Int) (d:Nat),0<=n->0<=t.room n d->t.room n d=n-t.cnt:=by
 refine Ty.ind fun t ih=>?_;intro n d hn h
 cases d with
 | zero=>rw[Ty.room_zero] at h;omega
 | succ d =>
  rw[Ty.room_succ] at h ⊢;have:=Ty.roomL_cnt t.ps (n-1) d ih h;rw[Ty.cnt_eq];omega
theorem Ty.sizeWL_cnt:∀(ps:List Ty) (a:Int),0<=a->a+Ty.cntL ps<=1099511627776->(∀p∈ps,p.cnt<=1099511627776->p.sizeW=p.cnt)->Ty.sizeWL a ps=a+Ty.cntL ps
 | [],a,_,_,_=>by simp[Ty.sizeWL,Ty.cntL]
 | p::ps,a,ha,hb,hp=>by
  simp only[Ty.sizeWL,Ty.cntL] at hb ⊢;rw[hp p tz4 tz1,addW,zak tz1 tz1,Ty.sizeWL_cnt ps _ tz1 tz1 (fun q hq=>hp q (by simp[hq]))];omega
theorem Ty.sizeW_cnt:∀t:Ty,t.cnt<=1099511627776->t.sizeW=t.cnt:=by
 refine Ty.ind fun t ih=>?_;intro h;have h1:=t.cnt_eq;rw[Ty.sizeW_eq,Ty.sizeWL_cnt t.ps 1 tz1 tz1 ih,h1];omega
def Ty.great (t:Ty):Bool:=decide (t.room 300 40<0)
theorem Ty.great_cnt {t:Ty} (h:t.great=false):t.cnt<=300:=by
 simp only[Ty.great,ze] at h;have:=Ty.room_cnt t 300 40 tz1 tz1;omega
theorem zfD (T:Ty):APure Tryz.prog 29 [.agg T.cells] (.v (.bool T.great)):=by
 refine APure.mkL (.cons T.dataAgg .nil) (.v _) ?_;refine aIn Tryz.func29 fun hm=>?_;simp only[Tryz.ntmps29,Tryz.results29,go_sem,seval];simp only[Ty.cells_eq T,zt,zA];refine sqD ?_;refine sqR fun _ y=>?_;refine chS 1 ?_;refine zZ 1 fun _ q=>?_;simp only[↓bO,go_sem,seval];refine APure.call (by have h9:=room_pure T 300 40 tz1 tz1 tz1;rw[Ty.cells_eq T] at h9;exact h9) ?_;apply q;clear q;simp only[↓bO,go_sem,seval];apply y;apply z8;(try simp only[go_sem]);exact Le.of_eq (congrArg (fun b=>AV.v (.bool b)) rfl)
structure GNode where
 k:Int
 n:Int
 size:Int
 parts:List Int
def GNode.cells (x:GNode):List AV:=[.v (.int .i64 x.k),.v (.int .i64 x.n),.v (.int .i64 x.size),.sl 1 (x.parts.map intC)]
theorem GNode.data (x:GNode):DataL x.cells:=.cons (.v _) (.cons (.v _) (.cons (.v _) (.cons (zap _) .nil)))
theorem GNode.dataRows (N:List GNode):∀x∈N.map GNode.cells,DataL x:=fun x hx=>by
 obtain ⟨y,_,rfl⟩:=zq.1 hx;exact y.data
def vC (p:Int×Int):Int×AV:=(p.1,.v (.int .i64 p.2))
theorem zaP (V:List (Int×Int)):∀p∈V.map vC,Data p.2:=fun p hp=>by
 obtain ⟨y,_,rfl⟩:=zq.1 hp;exact .v _
theorem Und.oslG {n id:Nat} {N:List GNode} (h:id<n):Und n (.osl id 4 (N.map GNode.cells)):=.osl h (.data (.sl (GNode.dataRows N)))
theorem Und.oslI {n id:Nat} {l:List Int} (h:id<n):Und n (.osl id 1 (l.map intC)):=.osl h (.data (zap l))
theorem Und.oslI1 {n id:Nat} {l:List Int} {x:Int} (h:id<n):Und n (.osl id 1 (l.map intC++[intC x])):=by
 have:=Und.oslI (l:=l++[x]) h
 rwa [zz] at this
theorem Und.oslI2 {n id:Nat} {l:List Int} {x:Int} (h:id<n):Und n (.osl id 1 (l.map intC++[[.v (.int .i64 x)]])):=Und.oslI1 h
theorem Und.mapG {n:Nat} (V:List (Int×Int)):(∀p∈V.map vC,Und n p.2)=True:=eq_true fun p hp=>.data (zaP V p hp)
def zb4 (N:List GNode) (V:List (Int×Int)):List Ob:=[.cells 169 [.osl 1 4 (N.map GNode.cells),.map 2],.tok 194 4 N.length,.map (V.map vC)]
def gObsAt (j k:Nat) (N:List GNode) (V:List (Int×Int)):List Ob:=[.cells 169 [.osl j 4 (N.map GNode.cells),.map k],.tok 194 4 N.length,.map (V.map vC)]
def GCalls (f:Nat) (args:List AV) (N:List GNode) (V:List (Int×Int)) (R:AV) (N1:List GNode) (V1:List (Int×Int)):Prop :=
 ACalls Tryz.prog f args (zac 0 (zb4 N V)) 3 fun r os n=>(r=R/\os=zac 0 (zb4 N1 V1))/\n=3
theorem ziV {n:Nat} (h:3<=n) (N:List GNode) (V:List (Int×Int)):UndOs n (zac 0 (zb4 N V)) :=
 ⟨by omega,⟨.osl tz1 (.data (.sl (GNode.dataRows N))),.map tz1,trivial⟩,by omega,trivial,by omega,fun p hp=>.data (zaP V p hp),trivial⟩
theorem GCalls.at {f:Nat} {args:List AV} {N N1:List GNode} {V V1:List (Int×Int)} {R:AV} (h:GCalls f (.ptr 0 0::args) N V R N1 V1) (hd:DataL args) (hR:Data R) {i j k:Nat} {os':Os} {nx':Nat}
  (hi:zav os' i=some (.cells 169 [.osl j 4 (N.map GNode.cells),.map k])) (hj:zav os' j=some (.tok 194 4 N.length)) (hk:zav os' k=some (.map (V.map vC)))
  (hij:i≠j) (hik:i≠k) (hjk:j≠k) (li:i<nx') (lj:j<nx') (lk:k<nx') {Q':AV->Os->Nat->Prop}
  (hq:Q' R (zal (zal (zal os' i (.cells 169 [.osl j 4 (N1.map GNode.cells),.map k])) j (.tok 194 4 N1.length)) k (.map (V1.map vC))) nx'):ACalls Tryz.prog f (.ptr i 0::args) os' nx' Q':=by
 have same:∀(l:List AV),DataL l->RenL (zbf [i,j,k] nx') l l:=by
  intro l hl
  induction l with
  | nil=>trivial
  | cons x l ih=>exact ⟨.data (hl x tz4),ih fun y hy=>hl y (by simp[hy])⟩
 have ren:∀(N:List GNode) (V:List (Int×Int)),RenOs (zbf [i,j,k] nx') 0 (zb4 N V) (gObsAt j k N V):=fun N V =>
  ⟨.cells ⟨.osl rfl (GNode.dataRows N),.map rfl,trivial⟩,.tok,.map (zaP V),trivial⟩
 refine ACalls.at (args:=.ptr 0 0::args) (obs:=zb4 N V) (obs1:=zb4 N1 V1) (obs':=gObsAt j k N V) (obs1':=gObsAt j k N1 V1) [i,j,k] ?_ rfl rfl (by simp[hij,hik,hjk]) (by simp[li,lj,lk]) ⟨.ptr rfl,same args hd⟩ (.data hR) (ren N V) ⟨hi,hj,hk,trivial⟩ (ren N1 V1) hq;exact h.mono fun r os n ⟨⟨h1,h2⟩,h3⟩=>⟨h1,h2,h3⟩
def zd8 (N:List GNode) (a:Int):List Int->Int
 | []=>a
 | p::ps=>zd8 N (min 1099511627776 (a+((N[p.toNat]?).map GNode.size).getD 0)) ps
theorem zf0 (N:List GNode):∀(a:Int) (ps qs:List Int),zd8 N a (ps++qs)=zd8 N (zd8 N a ps) qs
 | a,[],qs=>by simp[zd8]
 | a,p::ps,qs=>by simp[zd8,zf0 N _ ps qs]
theorem layS_step {N:List GNode} {ps:List Int} {s:Nat} {p:Int} {q:GNode} (hp:ps[s]?=some p) (hq:N[p.toNat]?=some q) (a:Int):zd8 N a (ps.take (s+1))=min 1099511627776 (zd8 N a (ps.take s)+q.size):=by
 rw[zV,hp,zf0];simp[zd8,hq]
theorem zen {N:List GNode} (hN:∀x∈N,0<=x.size/\x.size<=1099511627776):∀(ps:List Int) (a:Int),0<=a->a<=1099511627776->0<=zd8 N a ps/\zd8 N a ps<=1099511627776
 | [],a,h1,h2=>by simp[zd8];omega
 | p::ps,a,h1,h2=>by
  have h3:0<=((N[p.toNat]?).map GNode.size).getD 0:=by
   cases hx:N[p.toNat]? with
   | none=>simp
   | some q=>exact (hN q (zc hx)).1
  exact zen hN ps _ tz1 tz1
theorem ziJ (N:List GNode) (V:List (Int×Int)) (x:GNode) (hN:∀y∈N,0<=y.size/\y.size<=1099511627776) (hl:N.length<1099511627776) (hpl:x.parts.length<=1099511627776) (hp:∀p∈x.parts,0<=p/\p<N.length):GCalls 169 [.ptr 0 0,.agg x.cells] (N) (V) (.v (.int .i64 (N.length:Int))) (N++[⟨x.k,x.n,zd8 N 1 x.parts,x.parts⟩]) (V):=by
  refine ACalls.clean (C:=fun r os=>r=_/\os=_) ?_;refine aIn Tryz.func169 fun hm=>?_;simp only[Tryz.ntmps169,Tryz.results169,go_sem,seval];simp only[zb4,zac,Nat.reduceAdd];simp only[GNode.cells,zt,zA];(have hb1:(N.length+1) * 48<=140737488355328:=by omega);(have hb2:N.length+1<=maxLen:=by simp only[maxLen];omega);(have hw3:IntKind.i64.wrap ((N.length:Int)+1-1)=N.length:=by rw[zak tz1 tz1];omega);(iterate 2 (refine zY fun _ w=>?_;apply z6;simp only[↓bO,go_sem,seval,zh];apply w));refine zY fun _ w=>?_;refine sqR fun _ z=>?_;refine chS 3 ?_;simp only[↓bO,go_sem,seval,zh];apply z;apply zaa;refine zah (σ:=Nat) (mB 45 3593) (fun s=>s<=x.parts.length) (fun s=>[(11,.v (.int .i64 (s:Int)))]) (fun s=>[(3,.cells 194 [.v (.int .i64 x.k),.v (.int .i64 x.n),.v (.int .i64 (zd8 N 1 (x.parts.take s))),.sl 1 (x.parts.map intC)])]) (fun s=>x.parts.length-s) 0 tz1 ?_ (fun s hs=>?_)
  ·
   simp only[go_sem,seval,bL,zd8];exact zaI
  simp only[go_sem,seval];refine sqR fun _ z=>?_;simp only[↓bO,go_sem,seval,zh];apply z;refine zY fun _ z=>?_;apply z7 rfl <;> intro hb12
  ·
   (have hk:s<x.parts.length:=by simpa using hb12);obtain ⟨p,hps⟩:∃p,x.parts[s]?=some p:=⟨_,za hk⟩;obtain ⟨hp0,hp1⟩:=hp p (zc hps);obtain ⟨q,hq⟩:∃q,N[p.toNat]?=some q:=⟨_,za tz1⟩;have hqs:=hN q (zc hq);have hls:=zen hN (x.parts.take s) 1 tz1 tz1;have hw:IntKind.i64.wrap ((s:Int)+1)=(s:Int)+1:=zak tz1 tz1;(have hw2:min 1099511627776 (IntKind.i64.wrap (zd8 N 1 (x.parts.take s)+q.size))=zd8 N 1 (x.parts.take (s+1)):=by rw[zak tz1 tz1,layS_step hps hq]);apply zab;apply z;refine zY fun _ z=>?_;apply zaa;refine sqR fun _ g=>?_;simp only[↓bO,go_sem,seval,zh,hk,gM hps,intC];apply g;refine zay 13 mixed tz0 fun J0 j0=>?_;(iterate 4 (simp only[go_sem];refine zad 3 fun _ u=>?_;simp only[↓zaz,↓dOp,↓bO,go_sem,seval,GNode.cells,zj,gM hq,hp0,hp1,hw2];apply u;clear u));simp only[go_sem];simp only[↓zaz,↓dOp,↓bO,go_sem,seval];refine j0 _ ?_;clear j0 J0;simp only[go_sem];simp only[↓bO,go_sem,seval,zh];apply z;apply z6;simp only[↓bO,go_sem,seval,zh,hw];refine ⟨(s+1),tz1,by omega,?_⟩;simp only[zar,zas,zag,zal,mB,seval,zj,zi];exact zaI
  (have hk:s=x.parts.length:=by simp at hb12;omega);apply zaj;simp only[zao,zai,zae,bA,Nat.reduceEqDiff,↓reduceIte];apply w;refine zY fun _ w=>?_;refine zaw [] 11 rfl mixed (trivial) rfl ?_;dsimp only;refine tkS 0 ?_;refine tkS 1 ?_;refine tkS 2 ?_;refine tkS 3 ?_;refine al2 (i:=4) (j:=5) ?_ ?_
  ·
   refine opT fun _ u=>?_;simp only[↓bO,go_sem,seval];refine u _ ⟨trivial,?_⟩;clear u;refine alS 5 ?_;refine al1 (i:=6) ?_;refine opT fun _ u=>?_;simp only[↓bO,go_sem,seval,↓zfM];refine u _ ⟨trivial,?_⟩;clear u;refine al1 (i:=7) ?_;refine opT fun _ u=>?_;simp only[↓bO,go_sem,seval,hb1,hb2];refine u _ ⟨trivial,?_⟩;clear u;refine tkS 8 ?_;refine tkS 9 ?_;refine alS 10 ?_;refine dnA ?_;apply w;refine sqR fun _ w=>?_;(iterate 2 (refine chS 3 ?_ (by intro _ q;simp only[↓bO,go_sem,seval,hw3,zh,zj];exact q)));simp only[↓bO,go_sem,seval,zh];apply w;apply z8;(try simp only[go_sem]);subst hk;refine ⟨_,zac 0 (zb4 (N++[⟨x.k,x.n,zd8 N 1 x.parts,x.parts⟩]) V),⟨rfl,rfl⟩,.v _ _,ziV tz1 _ _,?_,⟨1,?_,rfl⟩,by omega⟩
   ·
    refine Le.of_eq (congrArg (fun n=>AV.v (.int .i64 n)) ?_);first | exact hw3 | (simp;done)
   simp only[zb4,zac,zf,zk,zz,zu,zS,zh,zy,zH,GNode.cells,zL,Nat.reduceAdd,zM]
  refine opT fun _ u=>?_;simp only[↓bO,go_sem,seval];refine u _ ⟨trivial,?_⟩;clear u;refine al2 (i:=4) (j:=6) ?_ ?_
  ·
   refine opT fun _ u=>?_;simp only[↓bO,go_sem,seval];refine u _ ⟨trivial,?_⟩;clear u;refine al1 (i:=6) ?_;refine opT fun _ u=>?_;simp only[↓bO,go_sem,seval,↓zfM];refine u _ ⟨trivial,?_⟩;clear u;refine al1 (i:=7) ?_;refine opT fun _ u=>?_;simp only[↓bO,go_sem,seval,hb1,hb2];refine u _ ⟨trivial,?_⟩;clear u;refine tkS 8 ?_;refine tkS 9 ?_;refine alS 10 ?_;refine dnA ?_;apply w;refine sqR fun _ w=>?_;(iterate 2 (refine chS 3 ?_ (by intro _ q;simp only[↓bO,go_sem,seval,hw3,zh,zj];exact q)));simp only[↓bO,go_sem,seval,zh];apply w;apply z8;(try simp only[go_sem]);subst hk;refine ⟨_,zac 0 (zb4 (N++[⟨x.k,x.n,zd8 N 1 x.parts,x.parts⟩]) V),⟨rfl,rfl⟩,.v _ _,ziV tz1 _ _,?_,⟨1,?_,rfl⟩,by omega⟩
   ·
    refine Le.of_eq (congrArg (fun n=>AV.v (.int .i64 n)) ?_);first | exact hw3 | (simp;done)
   simp only[zb4,zac,zf,zk,zz,zu,zS,zh,zy,zH,GNode.cells,zL,Nat.reduceAdd,zM]
  refine opT fun _ u=>?_;simp only[↓bO,go_sem,seval,↓zfM];refine u _ ⟨trivial,?_⟩;clear u;refine alS 4 ?_;refine al1 (i:=7) ?_;refine opT fun _ u=>?_;simp only[↓bO,go_sem,seval,hb1,hb2];refine u _ ⟨trivial,?_⟩;clear u;refine tkS 8 ?_;refine tkS 9 ?_;refine alS 10 ?_;refine dnA ?_;apply w;refine sqR fun _ w=>?_;(iterate 2 (refine chS 3 ?_ (by intro _ q;simp only[↓bO,go_sem,seval,hw3,zh,zj];exact q)));simp only[↓bO,go_sem,seval,zh];apply w;apply z8;(try simp only[go_sem]);subst hk;refine ⟨_,zac 0 (zb4 (N++[⟨x.k,x.n,zd8 N 1 x.parts,x.parts⟩]) V),⟨rfl,rfl⟩,.v _ _,ziV tz1 _ _,?_,⟨1,?_,rfl⟩,by omega⟩
  ·
   refine Le.of_eq (congrArg (fun n=>AV.v (.int .i64 n)) ?_);first | exact hw3 | (simp;done)
  simp only[zb4,zac,zf,zk,zz,zu,zS,zh,zy,zH,GNode.cells,zL,Nat.reduceAdd,zM]
structure GS where
 N:List GNode
 V:List (Int×Int)
def zau:List (Int×Int)->Int->Option Int
 | [],_=>none
 | (k,x)::rest,i=>if k=i then some x else zau rest i
def zgV:List (Int×Int)->Int->Int->List (Int×Int)
 | [],k,x=>[(k,x)]
 | (k',y)::rest,k,x=>if k'=k then (k,x)::rest else (k',y)::zgV rest k x
theorem ze2 (k:Int):∀V:List (Int×Int),zbq (V.map vC) k=(zau V k).map fun i=>AV.v (.int .i64 i)
 | []=>rfl
 | (a,b)::V=>by simp only[zu,vC,zbq,zau];split <;> simp[ze2 k V]
theorem aSet_vC (k x:Int):∀V:List (Int×Int),zdr (V.map vC) k (.v (.int .i64 x))=(zgV V k x).map vC
 | []=>rfl
 | (a,b)::V=>by simp only[zu,vC,zdr,zgV];split <;> simp[aSet_vC k x V,vC]
theorem zes (k x:Int):∀V:List (Int×Int),zau (zgV V k x) k=some x
 | []=>by simp[zgV,zau]
 | (a,b)::V=>by simp only[zgV];split <;> simp_all [zau,zes k x V]
theorem zbR {k x:Int}:∀{V:List (Int×Int)},zau V k=some x->(k,x)∈V
 | (a,b)::V,h=>by
  simp only[zau] at h;(split at h);(·rename_i e;cases h;subst e;simp);exact List.mem_cons_of_mem _ (zbR h)
theorem zkg {k x:Int} {p:Int×Int}:∀{V:List (Int×Int)},p∈zgV V k x->p=(k,x)\/p∈V
 | [],h=>by simp[zgV] at h;exact .inl h
 | (a,b)::V,h=>by
  simp only[zgV] at h;split at h
  ·rcases zI.1 h with h | h
   (·exact .inl h);exact .inr (List.mem_cons_of_mem _ h)
  (rcases zI.1 h with h | h);(·exact .inr (by simp[h]));exact (zkg h).imp id (List.mem_cons_of_mem _)
mutual
def Ty.gadd:Ty->GS->GS×Int
 | .mk k n ps,G =>
  if k=1 then
   match zau G.V n with
   | some i=>(G,i)
   | none=>(⟨G.N++[⟨k,n,1,[]⟩],zgV G.V n G.N.length⟩,G.N.length)
  else
   let r:=Ty.gaddL ps G []
   (⟨r.1.N++[⟨k,0,zd8 r.1.N 1 r.2,r.2⟩],r.1.V⟩,r.1.N.length)
def Ty.gaddL:List Ty->GS->List Int->GS×List Int
 | [],G,l=>(G,l)
 | p::ps,G,l =>
  let r:=Ty.gadd p G
  Ty.gaddL ps r.1 (l++[r.2])
end
theorem Ty.gadd_var {t:Ty} (h:t.k=1) (G:GS):t.gadd G=match zau G.V t.n with
   | some i=>(G,i)
   | none=>(⟨G.N++[⟨t.k,t.n,1,[]⟩],zgV G.V t.n G.N.length⟩,G.N.length):=by
 obtain ⟨k,n,ps⟩:=t;have h:k=1:=h;rw[Ty.gadd,if_pos h];rfl
theorem Ty.gadd_more {t:Ty} (h:¬t.k=1) (G:GS):t.gadd G =
  ((⟨(Ty.gaddL t.ps G []).1.N++[⟨t.k,0,zd8 (Ty.gaddL t.ps G []).1.N 1 (Ty.gaddL t.ps G []).2,(Ty.gaddL t.ps G []).2⟩],(Ty.gaddL t.ps G []).1.V⟩:GS),((Ty.gaddL t.ps G []).1.N.length:Int)):=by
 obtain ⟨k,n,ps⟩:=t;have h:¬k=1:=h;rw[Ty.gadd,if_neg h];rfl
theorem Ty.gaddL_append:∀(ps qs:List Ty) (G:GS) (l:List Int),Ty.gaddL (ps++qs) G l=Ty.gaddL qs (Ty.gaddL ps G l).1 (Ty.gaddL ps G l).2
 | [],qs,G,l=>by simp[Ty.gaddL]
 | p::ps,qs,G,l=>by simp[Ty.gaddL,Ty.gaddL_append ps qs]
theorem Ty.gaddL_step {ps:List Ty} {s:Nat} {p:Ty} (hp:ps[s]?=some p) (G:GS) (l:List Int) :
  Ty.gaddL (ps.take (s+1)) G l=((p.gadd (Ty.gaddL (ps.take s) G l).1).1,(Ty.gaddL (ps.take s) G l).2++[(p.gadd (Ty.gaddL (ps.take s) G l).1).2]):=by
 rw[zV,hp,Ty.gaddL_append];simp[Ty.gaddL]
structure GInv (G:GS):Prop where
 size:∀x∈G.N,0<=x.size/\x.size<=1099511627776
 vars:∀p∈G.V,0<=p.2/\p.2<G.N.length
structure GStep (G G':GS) (n:Nat):Prop where
 inv:GInv G'
 ge:G.N.length<=G'.N.length
 le:G'.N.length<=G.N.length+n
theorem Ty.gaddL_inv:∀(ps:List Ty) (_:∀p∈ps,∀G,GInv G->GStep G (p.gadd G).1 p.cnt/\0<=(p.gadd G).2/\(p.gadd G).2<(p.gadd G).1.N.length) (G:GS) (l:List Int),GInv G->(∀x∈l,0<=x/\x<(G.N.length:Int)) ->
  GStep G (Ty.gaddL ps G l).1 (Ty.cntL ps)/\(∀x∈(Ty.gaddL ps G l).2,0<=x/\x<((Ty.gaddL ps G l).1.N.length:Int))/\(Ty.gaddL ps G l).2.length=l.length+ps.length
 | [],_,G,l,h,hl=>⟨⟨h,zQ _,by simp[Ty.gaddL]⟩,by simpa [Ty.gaddL] using hl,by simp[Ty.gaddL]⟩
 | p::ps,hp,G,l,h,hl=>by
  obtain ⟨h1,h2,h3⟩:=hp p tz4 G h
  obtain ⟨h4,h5,h6⟩:=Ty.gaddL_inv ps (fun q hq=>hp q (by simp[hq])) (p.gadd G).1 (l++[(p.gadd G).2]) h1.inv (fun x hx=>by
   (rcases zE.1 hx with hx | hx);·have:=hl x hx;have:=h1.ge;omega
   simp at hx;subst hx;exact ⟨h2,h3⟩)
  simp only[Ty.gaddL,Ty.cntL];refine ⟨⟨h4.inv,Nat.le_trans h1.ge h4.ge,?_⟩,h5,?_⟩;(·have:=h1.le;have:=h4.le;omega);rw[h6];simp;omega
theorem Ty.gadd_inv:∀(t:Ty) (G:GS),GInv G->GStep G (t.gadd G).1 t.cnt/\0<=(t.gadd G).2/\(t.gadd G).2<(t.gadd G).1.N.length:=by
 refine Ty.ind fun t ih=>?_;intro G h;have hc:=t.cnt_eq
 by_cases hk:t.k=1
 ·rw[Ty.gadd_var hk]
  cases hf:zau G.V t.n with
  | some i=>exact ⟨⟨h,zQ _,by simp only;omega⟩,h.vars _ (zbR hf)⟩
  | none =>
   refine ⟨⟨⟨fun x hx=>?_,fun p hp=>?_⟩,by simp,by simp;omega⟩,by simp,by simp;omega⟩
   ·rcases zE.1 hx with hx | hx
    (·exact h.size x hx);simp at hx;subst hx;simp
   simp only[zh,zy,zH];(rcases zkg hp with hp | hp);(·subst hp;simp;omega);have:=h.vars p hp;omega
 rw[Ty.gadd_more hk];obtain ⟨h1,h2,h3⟩:=Ty.gaddL_inv t.ps ih G [] h tz4;refine ⟨⟨⟨fun x hx=>?_,fun p hp=>?_⟩,?_,?_⟩,by simp,by simp;omega⟩
 ·rcases zE.1 hx with hx | hx
  (·exact h1.inv.size x hx);simp at hx;subst hx;exact zen h1.inv.size _ 1 tz1 tz1
 ·have:=h1.inv.vars p hp
  simp only[zh,zy,zH];omega
 (·have:=h1.ge;simp;omega);have:=h1.le;simp;omega
theorem Ty.gaddL_inv0 (ps:List Ty) (G:GS) (h:GInv G):GStep G (Ty.gaddL ps G []).1 (Ty.cntL ps)/\(∀x∈(Ty.gaddL ps G []).2,0<=x/\x<((Ty.gaddL ps G []).1.N.length:Int))/\(Ty.gaddL ps G []).2.length=ps.length:=by
 have:=Ty.gaddL_inv ps (fun p _=>p.gadd_inv) G [] h tz4;simpa using this
theorem tz9 {p:Prop} (h:p:=by exact ⟨⟨_,_,rfl,by simp,rfl,trivial,trivial⟩,⟨_,_,rfl,by simp,rfl,trivial,trivial⟩,⟨_,_,rfl,by simp,rfl,trivial,trivial⟩,trivial⟩):p:=h
theorem add_calls:∀(T:Ty) (G:GS),GInv G->G.N.length+T.cnt<=1099511627776->GCalls 159 [.ptr 0 0,.agg T.cells] G.N G.V (.v (.int .i64 (T.gadd G).2)) (T.gadd G).1.N (T.gadd G).1.V:=by
  refine Ty.ind fun T ih=>?_;intro G hG hl;refine ACalls.clean (C:=fun r os=>r=_/\os=_) ?_;refine aIn Tryz.func159 fun hm=>?_;simp only[Tryz.ntmps159,Tryz.results159,go_sem,seval];simp only[zb4,zac,Nat.reduceAdd];simp only[Ty.cells_eq T,zt,zA];have hm1:=T.cnt_eq;have hcl:=Ty.cntL_len T.ps;refine sqD ?_;refine zY fun _ u=>?_;refine sqR fun _ w=>?_;refine chS 2 ?_;simp only[↓bO,go_sem,seval];apply w;apply z7 rfl <;> intro hb12
  ·
   (have hk1:T.k=1:=by simpa using hb12);refine zY fun _ w=>?_;refine zY fun _ z=>?_;refine zaw [(3,0,[.v (.int .i64 T.k)]),(3,1,[.v (.int .i64 T.n)]),(0,1,[.map 2])] 12 rfl mixed (tz9) rfl ?_;dsimp only;refine tkS 0 ?_;refine tkS 1 ?_;refine tkS 2 ?_;refine tkM 3 2 ?_;refine tkS 4 ?_;refine tkM 5 1 ?_;refine al1 (i:=6) ?_;refine opT fun _ y=>?_;simp only[↓bO,go_sem,seval,ze2];refine y _ ⟨tz9,?_⟩;clear y;refine tkS 7 ?_;refine tkS 8 ?_;refine tkS 9 ?_;refine tkS 10 ?_;refine tkS 11 ?_;refine dnA ?_;apply z;refine sqD ?_;apply z7 rfl <;> intro hb23
   ·
    refine sqD ?_;apply z8;try simp only[go_sem]
    obtain ⟨i,hf⟩:∃i,zau G.V T.n=some i:=by
     cases hf:zau G.V T.n with
     | none=>rw[hf] at hb23;cases hb23
     | some i=>exact ⟨i,rfl⟩
    (have hg:T.gadd G=(G,i):=by rw[Ty.gadd_var hk1,hf]);rw[hg,hf];refine ⟨_,zac 0 (zb4 (G.N) (G.V)),⟨rfl,rfl⟩,.v _ _,ziV tz1 _ _,?_,?_,by omega⟩
    ·
     refine Le.of_eq ?_;rfl
    first | (refine ⟨1,?_,rfl⟩;first | rfl | (simp only[zb4,zac,zf,zk,zz,zu,zS,zh,zy,zH,GNode.cells,zL,Nat.reduceAdd,zM];done))
   apply zab;apply w;refine zY fun _ w=>?_;refine zaw [(3,0,[.v (.int .i64 T.k)]),(3,1,[.v (.int .i64 T.n)]),(0,1,[.map 2])] 14 rfl mixed (tz9) rfl ?_;dsimp only;refine tkS 0 ?_;refine tkS 1 ?_;refine tkS 2 ?_;refine tkM 3 2 ?_;refine tkS 4 ?_;refine tkM 5 1 ?_;refine tkS 6 ?_;refine tkS 7 ?_;refine tkM 8 0 ?_;refine tkS 9 ?_;refine tkM 10 1 ?_;refine alS 11 ?_ (hH:=by exact tz9);refine al1 (i:=12) ?_;refine opT fun _ y=>?_;simp only[↓bO,go_sem,seval];refine ACalls.args (args':=[.ptr 0 0,.agg (GNode.cells ⟨T.k,T.n,0,[]⟩)]) ⟨.refl _,Le.agg ⟨.refl _,.refl _,.refl _,Le.slNil 1,trivial⟩,trivial⟩ ?_;refine GCalls.at (ziJ G.N G.V ⟨T.k,T.n,0,[]⟩ hG.size tz1 tz4 tz4) (.cons (.agg (GNode.data _)) .nil) (.v _) (i:=0) (j:=1) (k:=2) rfl rfl rfl tz3 tz3 tz3 tz2 tz2 tz2 ?_;simp only[zal,Nat.reduceEqDiff,↓reduceIte];(try simp only[go_sem]);refine y _ ⟨tz9,?_⟩;clear y;refine al1 (i:=13) ?_;refine opT fun _ y=>?_;simp only[↓bO,go_sem,seval,aSet_vC,zd8];refine y _ ⟨tz9,?_⟩;clear y;refine dnA ?_;apply w;refine zY fun _ w=>?_;refine zay 7 mixed tz0 fun J0 j0=>?_;(iterate 3 (simp only[go_sem];refine zad 2 fun _ y=>?_;simp only[↓zaz,↓dOp,↓bO,go_sem,seval];apply y;clear y));simp only[go_sem];simp only[↓zaz,↓dOp,↓bO,go_sem,seval,ze2,zes,Option.getD_some];refine j0 _ ?_;clear j0 J0;simp only[go_sem];simp only[↓bO,go_sem,seval];apply w;apply z8;try simp only[go_sem]
   have hf:zau G.V T.n=none:=by
    cases hf:zau G.V T.n with
    | none=>rfl
    | some i=>rw[hf] at hb23;cases hb23
   (have hg:T.gadd G=((⟨G.N++[⟨T.k,T.n,1,[]⟩],zgV G.V T.n G.N.length⟩:GS),(G.N.length:Int)):=by rw[Ty.gadd_var hk1,hf]);rw[hg];refine ⟨_,zac 0 (zb4 (G.N++[⟨T.k,T.n,1,[]⟩]) (zgV G.V T.n G.N.length)),⟨rfl,rfl⟩,.v _ _,ziV tz1 _ _,?_,?_,by omega⟩
   ·
    refine Le.of_eq ?_;rfl
   first | (refine ⟨1,?_,rfl⟩;first | rfl | (simp only[zb4,zac,zf,zk,zz,zu,zS,zh,zy,zH,GNode.cells,zL,Nat.reduceAdd,zM];done))
  (have hk1:¬T.k=1:=by simpa using hb12);apply zab;apply u;refine sqR fun _ u=>?_;(iterate 2 (refine chS 2 ?_));simp only[↓bO,go_sem,seval];apply u;refine zY fun _ u=>?_;refine sqR fun _ w=>?_;refine chS 2 ?_;simp only[↓bO,go_sem,seval];apply w;apply zaa;refine zaC (Weak.tokCell 3 1 (id:=4) (t:=194) [.v (.int .i64 T.k),.v (.int .i64 0),.v (.int .i64 0),.osl 5 1 []] rfl ⟨.inl (.refl _),.inl (.refl _),.inl (.refl _),.inr ⟨rfl,rfl⟩,trivial⟩) ?_;simp only[zal,Nat.reduceEqDiff,↓reduceIte];refine zah (σ:=Nat) (mB 67 3940649673949313) (fun s=>s<=T.ps.length) (fun s=>[(51,.v (.int .i64 (s:Int)))]) (fun s=>[(0,.cells 169 [.osl 1 4 ((Ty.gaddL (T.ps.take s) G []).1.N.map GNode.cells),.map 2]),(1,.tok 194 4 (Ty.gaddL (T.ps.take s) G []).1.N.length),(2,.map ((Ty.gaddL (T.ps.take s) G []).1.V.map vC)),(4,.cells 194 [.v (.int .i64 T.k),.v (.int .i64 0),.v (.int .i64 0),.osl 5 1 ((Ty.gaddL (T.ps.take s) G []).2.map intC)]),(5,.tok 3 1 s)]) (fun s=>T.ps.length-s) 0 tz1 ?_ (fun s hs=>?_)
  ·
   simp only[go_sem,seval,bL,Ty.gaddL];exact zaI
  simp only[go_sem,seval];refine sqD ?_;refine zY fun _ w=>?_;apply z7 rfl <;> intro hb52
  ·
   (have hk:s<T.ps.length:=by simpa using hb52);obtain ⟨p,hp⟩:∃p,T.ps[s]?=some p:=⟨_,za hk⟩;have hpm:=zc hp;have hpc:=Ty.cntL_step hp;obtain ⟨hi1,hi2,hi3⟩:=Ty.gaddL_inv0 (T.ps.take s) G hG;have hi4:=hi1.le;(have hln:(Ty.gaddL (T.ps.take s) G []).2.length=s:=by rw[hi3];simp;omega);have hw:IntKind.i64.wrap ((s:Int)+1)=(s:Int)+1:=zak tz1 tz1;(have hb1:(s+1) * 8<=140737488355328:=by omega);(have hb2:s+1<=maxLen:=by simp only[maxLen];omega);apply zab;apply w;refine zY fun _ w=>?_;apply zaa;refine sqR fun _ z=>?_;refine chS 2 ?_ (by intro _ q;simp only[↓bO,go_sem,seval,hk,gM hp];exact q);simp only[↓bO,go_sem,seval];apply z;refine zaw [] 9 rfl mixed (trivial) rfl ?_;dsimp only;refine tkS 0 ?_;refine tkS 2 ?_;refine al2 (i:=1) (j:=3) ?_ ?_
   ·
    refine opT fun _ y=>?_;simp only[↓bO,go_sem,seval];refine y _ ⟨trivial,?_⟩;clear y;refine alS 3 ?_;refine al1 (i:=4) ?_;refine opT fun _ y=>?_;simp only[↓bO,go_sem,seval];refine GCalls.at (ih p hpm (Ty.gaddL (T.ps.take s) G []).1 hi1.inv tz1) (.cons (Ty.dataAgg p) .nil) (.v _) (i:=0) (j:=1) (k:=2) rfl rfl rfl tz3 tz3 tz3 tz2 tz2 tz2 ?_;simp only[zal,Nat.reduceEqDiff,↓reduceIte];(try simp only[go_sem]);refine y _ ⟨trivial,?_⟩;clear y;refine al1 (i:=5) ?_;refine opT fun _ y=>?_;simp only[↓bO,go_sem,seval,↓zdE];refine y _ ⟨trivial,?_⟩;clear y;refine al1 (i:=6) ?_;refine opT fun _ y=>?_;simp only[↓bO,go_sem,seval,hln,hb1,hb2];refine y _ ⟨trivial,?_⟩;clear y;refine tkS 7 ?_;refine alS 8 ?_;refine dnA ?_;apply w;apply z6;simp only[↓bO,go_sem,seval,hw];refine ⟨(s+1),tz1,by omega,?_⟩;simp only[zar,zas,zag,zal,mB,seval,zj,zi,zz,bL,Ty.gaddL_step hp G []];(first | (refine Weak.drops 1 6 rfl rfl tz5 tz5 ?_ ?_ ?_) | (refine Weak.drops 0 6 rfl rfl tz5 tz5 ?_ ?_ ?_));(· simp only[go_sem,Le.refl,Le.any,zp,zi]);(· simp only[UndL,UndOs,Ob.Und,and_true,true_and,and_self,Und.v,Und.any,Und.ptr,Und.map,Nat.reduceLT,zW,Und.tys,Und.tyAgg,Und.oslTys,Und.oslTys1,Und.clo0,Und.ty,Und.oslG,Und.oslI,Und.oslI1,Und.oslI2,Und.mapG]);simp only[UndL,UndOs,Ob.Und,and_true,true_and,and_self,Und.v,Und.any,Und.ptr,Und.map,Nat.reduceLT,zW,Und.tys,Und.tyAgg,Und.oslTys,Und.oslTys1,Und.clo0,Und.ty,Und.oslG,Und.oslI,Und.oslI1,Und.oslI2,Und.mapG]
   refine opT fun _ y=>?_;simp only[↓bO,go_sem,seval];refine y _ ⟨trivial,?_⟩;clear y;refine al2 (i:=1) (j:=4) ?_ ?_
   ·
    refine opT fun _ y=>?_;simp only[↓bO,go_sem,seval];refine y _ ⟨trivial,?_⟩;clear y;refine al1 (i:=4) ?_;refine opT fun _ y=>?_;simp only[↓bO,go_sem,seval];refine GCalls.at (ih p hpm (Ty.gaddL (T.ps.take s) G []).1 hi1.inv tz1) (.cons (Ty.dataAgg p) .nil) (.v _) (i:=0) (j:=1) (k:=2) rfl rfl rfl tz3 tz3 tz3 tz2 tz2 tz2 ?_;simp only[zal,Nat.reduceEqDiff,↓reduceIte];(try simp only[go_sem]);refine y _ ⟨trivial,?_⟩;clear y;refine al1 (i:=5) ?_;refine opT fun _ y=>?_;simp only[↓bO,go_sem,seval,↓zdE];refine y _ ⟨trivial,?_⟩;clear y;refine al1 (i:=6) ?_;refine opT fun _ y=>?_;simp only[↓bO,go_sem,seval,hln,hb1,hb2];refine y _ ⟨trivial,?_⟩;clear y;refine tkS 7 ?_;refine alS 8 ?_;refine dnA ?_;apply w;apply z6;simp only[↓bO,go_sem,seval,hw];refine ⟨(s+1),tz1,by omega,?_⟩;simp only[zar,zas,zag,zal,mB,seval,zj,zi,zz,bL,Ty.gaddL_step hp G []];(first | (refine Weak.drops 1 6 rfl rfl tz5 tz5 ?_ ?_ ?_) | (refine Weak.drops 0 6 rfl rfl tz5 tz5 ?_ ?_ ?_));(· simp only[go_sem,Le.refl,Le.any,zp,zi]);(· simp only[UndL,UndOs,Ob.Und,and_true,true_and,and_self,Und.v,Und.any,Und.ptr,Und.map,Nat.reduceLT,zW,Und.tys,Und.tyAgg,Und.oslTys,Und.oslTys1,Und.clo0,Und.ty,Und.oslG,Und.oslI,Und.oslI1,Und.oslI2,Und.mapG]);simp only[UndL,UndOs,Ob.Und,and_true,true_and,and_self,Und.v,Und.any,Und.ptr,Und.map,Nat.reduceLT,zW,Und.tys,Und.tyAgg,Und.oslTys,Und.oslTys1,Und.clo0,Und.ty,Und.oslG,Und.oslI,Und.oslI1,Und.oslI2,Und.mapG]
   refine opT fun _ y=>?_;simp only[↓bO,go_sem,seval];refine GCalls.at (ih p hpm (Ty.gaddL (T.ps.take s) G []).1 hi1.inv tz1) (.cons (Ty.dataAgg p) .nil) (.v _) (i:=0) (j:=1) (k:=2) rfl rfl rfl tz3 tz3 tz3 tz2 tz2 tz2 ?_;simp only[zal,Nat.reduceEqDiff,↓reduceIte];(try simp only[go_sem]);refine y _ ⟨trivial,?_⟩;clear y;refine al2 (i:=1) (j:=5) ?_ ?_
   ·
    refine opT fun _ y=>?_;simp only[↓bO,go_sem,seval];refine y _ ⟨trivial,?_⟩;clear y;refine al1 (i:=5) ?_;refine opT fun _ y=>?_;simp only[↓bO,go_sem,seval,↓zdE];refine y _ ⟨trivial,?_⟩;clear y;refine al1 (i:=6) ?_;refine opT fun _ y=>?_;simp only[↓bO,go_sem,seval,hln,hb1,hb2];refine y _ ⟨trivial,?_⟩;clear y;refine tkS 7 ?_;refine alS 8 ?_;refine dnA ?_;apply w;apply z6;simp only[↓bO,go_sem,seval,hw];refine ⟨(s+1),tz1,by omega,?_⟩;simp only[zar,zas,zag,zal,mB,seval,zj,zi,zz,bL,Ty.gaddL_step hp G []];(first | (refine Weak.drops 1 6 rfl rfl tz5 tz5 ?_ ?_ ?_) | (refine Weak.drops 0 6 rfl rfl tz5 tz5 ?_ ?_ ?_));(· simp only[go_sem,Le.refl,Le.any,zp,zi]);(· simp only[UndL,UndOs,Ob.Und,and_true,true_and,and_self,Und.v,Und.any,Und.ptr,Und.map,Nat.reduceLT,zW,Und.tys,Und.tyAgg,Und.oslTys,Und.oslTys1,Und.clo0,Und.ty,Und.oslG,Und.oslI,Und.oslI1,Und.oslI2,Und.mapG]);simp only[UndL,UndOs,Ob.Und,and_true,true_and,and_self,Und.v,Und.any,Und.ptr,Und.map,Nat.reduceLT,zW,Und.tys,Und.tyAgg,Und.oslTys,Und.oslTys1,Und.clo0,Und.ty,Und.oslG,Und.oslI,Und.oslI1,Und.oslI2,Und.mapG]
   refine opT fun _ y=>?_;simp only[↓bO,go_sem,seval,↓zdE];refine y _ ⟨trivial,?_⟩;clear y;refine alS 1 ?_;refine al1 (i:=6) ?_;refine opT fun _ y=>?_;simp only[↓bO,go_sem,seval,hln,hb1,hb2];refine y _ ⟨trivial,?_⟩;clear y;refine tkS 7 ?_;refine alS 8 ?_;refine dnA ?_;apply w;apply z6;simp only[↓bO,go_sem,seval,hw];refine ⟨(s+1),tz1,by omega,?_⟩;simp only[zar,zas,zag,zal,mB,seval,zj,zi,zz,bL,Ty.gaddL_step hp G []];(first | (refine Weak.drops 1 6 rfl rfl tz5 tz5 ?_ ?_ ?_) | (refine Weak.drops 0 6 rfl rfl tz5 tz5 ?_ ?_ ?_));(· simp only[go_sem,Le.refl,Le.any,zp,zi]);(· simp only[UndL,UndOs,Ob.Und,and_true,true_and,and_self,Und.v,Und.any,Und.ptr,Und.map,Nat.reduceLT,zW,Und.tys,Und.tyAgg,Und.oslTys,Und.oslTys1,Und.clo0,Und.ty,Und.oslG,Und.oslI,Und.oslI1,Und.oslI2,Und.mapG]);simp only[UndL,UndOs,Ob.Und,and_true,true_and,and_self,Und.v,Und.any,Und.ptr,Und.map,Nat.reduceLT,zW,Und.tys,Und.tyAgg,Und.oslTys,Und.oslTys1,Und.clo0,Und.ty,Und.oslG,Und.oslI,Und.oslI1,Und.oslI2,Und.mapG]
  (have hk:s=T.ps.length:=by simp at hb52;omega);apply zaj;simp only[zao,zai,zae,bA,Nat.reduceEqDiff,↓reduceIte];apply u;have hk9:s=T.ps.length:=hk;subst hk9;rw[zL];obtain ⟨hi1,hi2,hi3⟩:=Ty.gaddL_inv0 T.ps G hG;have hi4:=hi1.le;refine sqR fun _ u=>?_;refine chS 2 ?_;refine zZ 1 fun _ y=>?_;simp only[↓bO,go_sem,seval];refine ACalls.args (args':=[.ptr 0 0,.agg (GNode.cells ⟨T.k,0,0,(Ty.gaddL T.ps G []).2⟩)]) ⟨.refl _,Le.agg ⟨.refl _,.refl _,.refl _,Le.oslL,trivial⟩,trivial⟩ ?_;refine GCalls.at (ziJ (Ty.gaddL T.ps G []).1.N (Ty.gaddL T.ps G []).1.V ⟨T.k,0,0,(Ty.gaddL T.ps G []).2⟩ hi1.inv.size tz1 tz5 hi2) (.cons (.agg (GNode.data _)) .nil) (.v _) (i:=0) (j:=1) (k:=2) rfl rfl rfl tz3 tz3 tz3 tz2 tz2 tz2 ?_;simp only[zal,Nat.reduceEqDiff,↓reduceIte];apply y;clear y;simp only[↓bO,go_sem,seval];apply u;apply z8;(try simp only[go_sem]);rw[Ty.gadd_more hk1 G];refine ⟨_,zac 0 (zb4 ((Ty.gaddL T.ps G []).1.N++[⟨T.k,0,zd8 (Ty.gaddL T.ps G []).1.N 1 (Ty.gaddL T.ps G []).2,(Ty.gaddL T.ps G []).2⟩]) ((Ty.gaddL T.ps G []).1.V)),⟨rfl,rfl⟩,.v _ _,ziV tz1 _ _,?_,?_,by omega⟩
  ·
   refine Le.of_eq ?_;rfl
  first | (refine ⟨3,?_,rfl⟩;first | rfl | (simp only[zb4,zac,zf,zk,zz,zu,zS,zh,zy,zH,GNode.cells,zL,Nat.reduceAdd,zM];done))
def Ty.gAdd (t:Ty) (G:GS):GS×Int×Int:=if t.right=true then ((t.gadd G).1,(t.gadd G).2,0) else (G,0,1)
theorem lookup_at {α:Type} (l:List α) (i:Int) (h:0<=i/\i<l.length):∃x,l[i.toNat]?=some x:=⟨_,za tz1⟩
def GS.there (G:GS) (i:Int):Bool:=decide (0<=i/\i<(G.N.length:Int))
def GS.parts (G:GS) (i:Int):List Int:=if 0<=i then ((G.N[i.toNat]?).map GNode.parts).getD [] else []
theorem GS.parts_in {G:GS} {i:Int} {x:GNode} (h:0<=i) (hx:G.N[i.toNat]?=some x):G.parts i=x.parts:=by rw[GS.parts,if_pos h,hx];rfl
theorem GS.parts_out {G:GS} {i:Int} (h:¬(0<=i/\i<(G.N.length:Int))):G.parts i=[]:=by
 rw[GS.parts];split;(·rw[List.getElem?_eq_none tz1];rfl);rfl
theorem Add_calls (T:Ty) (G:GS) (hG:GInv G) (hl:G.N.length+T.cnt<=1099511627776):GCalls 143 [.ptr 0 0,.agg T.cells] (G.N) (G.V) (.tup [.v (.int .i64 (T.gAdd G).2.1),.v (.int .i64 (T.gAdd G).2.2)]) ((T.gAdd G).1.N) ((T.gAdd G).1.V):=by
  refine ACalls.clean (C:=fun r os=>r=_/\os=_) ?_;refine aIn Tryz.func143 fun hm=>?_;simp only[Tryz.ntmps143,Tryz.results143,go_sem,seval];simp only[zb4,zac,Nat.reduceAdd];refine sqD ?_;refine zY fun _ y=>?_;apply zaa;refine sqD ?_;apply z7 rfl <;> intro hb6
  ·
   cases hb6
  refine sqR fun _ u=>?_;refine chS 1 ?_;refine zZ 1 fun _ q=>?_;simp only[↓bO,go_sem,seval];refine APure.call (zbK T) ?_;apply q;clear q;simp only[↓bO,go_sem,seval];apply u;apply z7 rfl <;> intro hb9
  ·
   refine sqD ?_;apply z8;(try simp only[go_sem]);(have hr:T.right=false:=by simpa using hb9);(have hg:T.gAdd G=(G,0,1):=by rw[Ty.gAdd,hr];rfl);rw[hg];refine ⟨_,zac 0 (zb4 (G.N) (G.V)),⟨rfl,rfl⟩,.tup ⟨.v _ _,.v _ _,trivial⟩,ziV tz1 _ _,?_,?_,by omega⟩
   ·
    refine Le.of_eq ?_;rfl
   first | (refine ⟨1,?_,rfl⟩;first | rfl | (simp only[zb4,zac,zf,zk,zz,zu,zS,zh,zy,zH,GNode.cells,zL,Nat.reduceAdd,zM];done))
  apply zab;apply y;refine sqR fun _ y=>?_;refine chS 2 ?_;refine zZ 1 fun _ q=>?_;simp only[↓bO,go_sem,seval];refine GCalls.at (add_calls T G hG tz1) (.cons (Ty.dataAgg T) .nil) (.v _) (i:=0) (j:=1) (k:=2) rfl rfl rfl tz3 tz3 tz3 tz2 tz2 tz2 ?_;simp only[zal,Nat.reduceEqDiff,↓reduceIte];apply q;clear q;simp only[↓bO,go_sem,seval];apply y;apply z8;(try simp only[go_sem]);(have hr:T.right=true:=by simpa using hb9);(have hg:T.gAdd G=((T.gadd G).1,(T.gadd G).2,0):=by rw[Ty.gAdd,hr];rfl);rw[hg];refine ⟨_,zac 0 (zb4 ((T.gadd G).1.N) ((T.gadd G).1.V)),⟨rfl,rfl⟩,.tup ⟨.v _ _,.v _ _,trivial⟩,ziV tz1 _ _,?_,?_,by omega⟩
  ·
   refine Le.of_eq ?_;rfl
  first | (refine ⟨1,?_,rfl⟩;first | rfl | (simp only[zb4,zac,zf,zk,zz,zu,zS,zh,zy,zH,GNode.cells,zL,Nat.reduceAdd,zM];done))
theorem zfe (G:GS) (i:Int):GCalls 155 [.ptr 0 0,.v (.int .i64 i)] (G.N) (G.V) (.v (.bool (G.there i))) (G.N) (G.V):=by
  refine ACalls.clean (C:=fun r os=>r=_/\os=_) ?_;refine aIn Tryz.func155 fun hm=>?_;simp only[Tryz.ntmps155,Tryz.results155,go_sem,seval];simp only[zb4,zac,Nat.reduceAdd];refine sqD ?_;refine sqR fun _ q=>?_;refine chS 3 ?_;simp only[go_sem];refine zaf 7 rfl (fun hc7=>?_) (fun hc7=>?_)
  ·
   refine chS 4 ?_;simp only[go_sem];refine zaf 11 rfl (fun hc11=>?_) (fun hc11=>?_)
   ·
    (iterate 2 (refine chS 4 ?_));simp only[↓bO,go_sem,seval];apply q;apply z8;(try simp only[go_sem]);refine ⟨_,zac 0 (zb4 (G.N) (G.V)),⟨rfl,rfl⟩,.v _ _,ziV tz1 _ _,?_,?_,by omega⟩
    ·
     refine Le.of_eq ?_;refine congrArg (fun b=>AV.v (.bool b)) ?_;rw[GS.there,zF];simp only[zd,ze,zJ,false_iff,ge_iff_le] at *;try omega
    first | (refine ⟨0,?_,rfl⟩;first | rfl | (simp only[zb4,zac,zf,zk,zz,zu,zS,zh,zy,zH,GNode.cells,zL,Nat.reduceAdd,zM];done))
   (iterate 2 (refine chS 4 ?_));simp only[↓bO,go_sem,seval];apply q;apply z8;(try simp only[go_sem]);refine ⟨_,zac 0 (zb4 (G.N) (G.V)),⟨rfl,rfl⟩,.v _ _,ziV tz1 _ _,?_,?_,by omega⟩
   ·
    refine Le.of_eq ?_;refine congrArg (fun b=>AV.v (.bool b)) ?_;rw[GS.there,zF];simp only[zd,ze,zJ,false_iff,ge_iff_le] at *;try omega
   first | (refine ⟨0,?_,rfl⟩;first | rfl | (simp only[zb4,zac,zf,zk,zz,zu,zS,zh,zy,zH,GNode.cells,zL,Nat.reduceAdd,zM];done))
  simp only[go_sem];cases hc7
theorem Len_calls (G:GS):GCalls 144 [.ptr 0 0] (G.N) (G.V) (.v (.int .i64 (G.N.length:Int))) (G.N) (G.V):=by
  refine ACalls.clean (C:=fun r os=>r=_/\os=_) ?_;refine aIn Tryz.func144 fun hm=>?_;simp only[Tryz.ntmps144,Tryz.results144,go_sem,seval];simp only[zb4,zac,Nat.reduceAdd];refine sqD ?_;refine zY fun _ q=>?_;refine sqD ?_;apply z7 rfl <;> intro hb4
  ·
   cases hb4
  apply zab;apply q;refine sqR fun _ q=>?_;refine chS 4 ?_;simp only[↓bO,go_sem,seval];apply q;apply z8;(try simp only[go_sem]);refine ⟨_,zac 0 (zb4 (G.N) (G.V)),⟨rfl,rfl⟩,.v _ _,ziV tz1 _ _,?_,?_,by omega⟩
  ·
   refine Le.of_eq ?_;rfl
  first | (refine ⟨0,?_,rfl⟩;first | rfl | (simp only[zb4,zac,zf,zk,zz,zu,zS,zh,zy,zH,GNode.cells,zL,Nat.reduceAdd,zM];done))
theorem zdy (G:GS) (i:Int) (hs:∀x∈G.N,x.parts.length<=1099511627776):GCalls 146 [.ptr 0 0,.v (.int .i64 i)] (G.N) (G.V) (.sl 1 ((G.parts i).map intC)) (G.N) (G.V):=by
  refine ACalls.clean (C:=fun r os=>r=_/\os=_) ?_;refine aIn Tryz.func146 fun hm=>?_;simp only[Tryz.ntmps146,Tryz.results146,go_sem,seval];simp only[zb4,zac,Nat.reduceAdd];refine sqD ?_;refine zY fun _ w=>?_;refine sqR fun _ z=>?_;refine chS 2 ?_;refine zZ 1 fun _ u=>?_;simp only[↓bO,go_sem,seval];refine GCalls.at (zfe G i) (.cons (.v _) .nil) (.v _) (i:=0) (j:=1) (k:=2) rfl rfl rfl tz3 tz3 tz3 tz2 tz2 tz2 ?_;simp only[zal,Nat.reduceEqDiff,↓reduceIte];apply u;clear u;simp only[↓bO,go_sem,seval];apply z;apply z7 rfl <;> intro hb8
  ·
   (have hi:¬(0<=i/\i<(G.N.length:Int)):=by simp[GS.there] at hb8;omega);refine sqD ?_;apply z8;(try simp only[go_sem]);rw[GS.parts_out hi];refine ⟨_,zac 0 (zb4 (G.N) (G.V)),⟨rfl,rfl⟩,.data (zap _),ziV tz1 _ _,?_,?_,by omega⟩;(· refine Le.slNil 1);first | (refine ⟨0,?_,rfl⟩;first | rfl | (simp only[zb4,zac,zf,zk,zz,zu,zS,zh,zy,zH,GNode.cells,zL,Nat.reduceAdd,zM];done)) | (refine ⟨1,?_,rfl⟩;first | rfl | (simp only[zb4,zac,zf,zk,zz,zu,zS,zh,zy,zH,GNode.cells,zL,Nat.reduceAdd,zM];done))
  (have hi:0<=i/\i<(G.N.length:Int):=by simp[GS.there] at hb8;omega);obtain ⟨hi0,hi1⟩:=hi;obtain ⟨x,hx⟩:=lookup_at G.N i ⟨hi0,hi1⟩;have hxl:=hs x (zc hx);(have hb1:x.parts.length * 8<=140737488355328:=by omega);(have hb2:x.parts.length<=maxLen:=by simp only[maxLen];omega);have hon:((x.parts.map intC).all fun y=>y.all AV.one)=true:=ints_one _;apply zab;apply w;refine sqR fun _ w=>?_;(iterate 2 (refine chS 4 ?_ (by intro _ q;simp only[↓bO,go_sem,seval,GNode.cells,hi0,hi1,gM hx];exact q)));simp only[↓bO,go_sem,seval,hb1,hb2,hon];apply w;apply z8;(try simp only[go_sem]);rw[GS.parts_in hi0 hx];refine ⟨_,zac 0 (zb4 (G.N) (G.V)),⟨rfl,rfl⟩,.data (zap _),ziV tz1 _ _,?_,?_,by omega⟩;(· refine Le.oslL);first | (refine ⟨0,?_,rfl⟩;first | rfl | (simp only[zb4,zac,zf,zk,zz,zu,zS,zh,zy,zH,GNode.cells,zL,Nat.reduceAdd,zM];done)) | (refine ⟨1,?_,rfl⟩;first | rfl | (simp only[zb4,zac,zf,zk,zz,zu,zS,zh,zy,zH,GNode.cells,zL,Nat.reduceAdd,zM];done))
def rObs (N:List GNode) (V:List (Int×Int)):List Ob:=[.cells 169 [.osl 1 4 (N.map GNode.cells),.map 2],.tok 194 4 N.length,.map (V.map vC),.cells 124 [.ptr 0 0],.cells 74 [.clo 0 [.ptr 3 0,.ptr 4 0]]]
def rObsAt (i j k a b:Nat) (N:List GNode) (V:List (Int×Int)):List Ob:=[.cells 169 [.osl j 4 (N.map GNode.cells),.map k],.tok 194 4 N.length,.map (V.map vC),.cells 124 [.ptr i 0],.cells 74 [.clo 0 [.ptr a 0,.ptr b 0]]]
def RCalls (f:Nat) (args:List AV) (N:List GNode) (V:List (Int×Int)) (R:AV):Prop :=
 ACalls Tryz.prog f args (zac 0 (rObs N V)) 5 fun r os n=>(r=R/\os=zac 0 (rObs N V))/\n=5
def gty (N:List GNode):Nat->Int->Ty
 | 0,_=>.mk 0 0 []
 | f+1,i=>match N[i.toNat]? with | none=>.mk 0 0 [] | some x=>.mk x.k x.n (x.parts.map (gty N f))
def tyAt (N:List GNode) (i:Int):Ty:=gty N (i.toNat+1) i
def GWf (N:List GNode):Prop:=∀(j:Nat) (x:GNode),N[j]?=some x->(∀p∈x.parts,0<=p/\p<(j:Int))/\x.parts.length<=1099511627776
def GS.type (G:GS) (i most:Int):Ty×Int :=
 if G.there i=false then (.mk 0 0 [],9) else if most<((G.N[i.toNat]?).map GNode.size).getD 0 then (.mk 0 0 [],6) else (tyAt G.N i,0)
theorem FAdd_f (F:FS) (hn:F.up.length<1048576) (hl:F.rank.length=F.up.length):FCalls (σ:=Unit) 142 [.ptr 0 0] (F) (fun s=>s.1=⟨F.up++[F.up.length],F.rank++[0],IntKind.i64.wrap (F.sets+1),F.steps⟩) (fun s=>.v (.int .i64 (F.up.length:Int))):=by
  refine ACalls.clean (C:=fun r os=>∃s:FS×Unit,(s.1=⟨F.up++[F.up.length],F.rank++[0],IntKind.i64.wrap (F.sets+1),F.steps⟩)/\r=(fun s:Unit=>.v (.int .i64 (F.up.length:Int))) s.2/\os=zac 0 (zcv s.1)) ?_;refine aIn Tryz.func142 fun hm=>?_;simp only[Tryz.ntmps142,Tryz.results142,go_sem,seval];simp only[zcv,zac,Nat.reduceAdd];(have hb1:(F.up.length+1) * 8<=140737488355328:=by omega);(have hb2:F.up.length+1<=maxLen:=by simp only[maxLen];omega);(have hb3:(F.rank.length+1) * 8<=140737488355328:=by omega);(have hb4:F.rank.length+1<=maxLen:=by simp only[maxLen];omega);refine sqD ?_;refine zY fun _ y=>?_;refine sqR fun _ u=>?_;refine chS 3 ?_;simp only[go_sem];refine zaf 6 rfl (fun hc6=>?_) (fun hc6=>?_)
  ·
   simp only[go_sem];cases hc6
  (iterate 2 (refine chS 3 ?_));simp only[↓bO,go_sem,seval];apply u;apply z7 rfl <;> intro hb13
  ·
   exact absurd hb13 tz8
  apply zab;apply y;refine sqR fun _ y=>?_;refine chS 3 ?_;simp only[↓bO,go_sem,seval];apply y;refine sqR fun _ y=>?_;(iterate 2 (refine chS 3 ?_));refine chS 3 ?_ (by intro _ q;simp only[↓bO,go_sem,seval,↓zdE,hb1,hb2,pushNC];exact q);simp only[↓bO,go_sem,seval];apply y;refine sqR fun _ y=>?_;refine chS 3 ?_;refine chS 3 ?_ (by intro _ q;simp only[↓bO,go_sem,seval,↓zdE];exact q);refine chS 3 ?_ (by intro _ q;simp only[↓bO,go_sem,seval,hb3,hb4,pushIC];exact q);simp only[↓bO,go_sem,seval];apply y;refine sqR fun _ y=>?_;(iterate 2 (refine chS 3 ?_));simp only[↓bO,go_sem,seval];apply y;refine sqD ?_;apply z8;(try simp only[go_sem]);refine ⟨_,zac 0 (zcv (⟨F.up++[F.up.length],F.rank++[0],IntKind.i64.wrap (F.sets+1),F.steps⟩)),⟨(⟨F.up++[F.up.length],F.rank++[0],IntKind.i64.wrap (F.sets+1),F.steps⟩,()),?_,rfl,rfl⟩,.v _ _,fUnd tz1 _,?_,?_,by omega⟩;· rfl
  ·
   exact Le.refl _
  first | (refine ⟨0,rfl,rfl⟩) | (refine ⟨0,by simp only[zcv,zac,zk,zf,Nat.reduceAdd,zh,zy,zH,zM],rfl⟩)
theorem zdf (G:GS) (i:Int) (x:GNode) (hi:0<=i) (hx:G.N[i.toNat]?=some x):GCalls 130 [.ptr 0 0,.v (.int .i64 i)] (G.N) (G.V) (.v (.int .i64 x.k)) (G.N) (G.V):=by
  refine ACalls.clean (C:=fun r os=>r=_/\os=_) ?_;refine aIn Tryz.func130 fun hm=>?_;simp only[Tryz.ntmps130,Tryz.results130,go_sem,seval];simp only[zb4,zac,Nat.reduceAdd];(have hi2:i<(G.N.length:Int):=by have:=(zb.1 hx).1;omega);refine sqD ?_;refine zY fun _ u=>?_;refine sqR fun _ w=>?_;refine chS 2 ?_;refine zZ 1 fun _ y=>?_;simp only[↓bO,go_sem,seval];refine GCalls.at (zfe G i) (.cons (.v _) .nil) (.v _) (i:=0) (j:=1) (k:=2) rfl rfl rfl tz3 tz3 tz3 tz2 tz2 tz2 ?_;simp only[zal,Nat.reduceEqDiff,↓reduceIte];apply y;clear y;simp only[↓bO,go_sem,seval];apply w;apply z7 rfl <;> intro hb8
  ·
   exact absurd hb8 (by simp[GS.there];omega)
  apply zab;apply u;refine sqR fun _ u=>?_;(iterate 2 (refine chS 4 ?_ (by intro _ q;simp only[↓bO,go_sem,seval,GNode.cells,hi,hi2,gM hx];exact q)));simp only[↓bO,go_sem,seval];apply u;apply z8;(try simp only[go_sem]);refine ⟨_,zac 0 (zb4 (G.N) (G.V)),⟨rfl,rfl⟩,.v _ _,ziV tz1 _ _,?_,?_,by omega⟩
  ·
   refine Le.of_eq ?_;rfl
  first | (refine ⟨0,?_,rfl⟩;first | rfl | (simp only[zb4,zac,zf,zk,zz,zu,zS,zh,zy,zH,GNode.cells,zL,Nat.reduceAdd,zM];done))
theorem tick_at {id t:Nat} {n:Int} {cs:List AV} {os:Os} {nx:Nat} (h:zav os id=some (.cells t (.v (.int .i64 n)::cs))) {Q:AV->Os->Nat->Prop} (hq:Q (.tup []) (zal os id (.cells t (.v (.int .i64 (IntKind.i64.wrap (n+1)))::cs))) nx):ACalls Tryz.prog 122 [.ptr id 0] os nx Q:=by
 refine aIn Tryz.func122 fun hm=>?_;simp only[Tryz.ntmps122,Tryz.results122,go_sem,seval];apply z6;refine chS 4 ?_ (by intro _ q;simp only[↓bO,go_sem,seval,h,Nat.le_add_left];exact q);simp only[↓bO,go_sem,seval,h,Nat.le_add_left];(try simp only[go_sem]);exact hq
structure CS where
 G:GS
 F:FS
 W:List Int
 steps:Int
 clash:Bool
def zat (i1 i2 i3 i4 i5 i6 i7:Nat) (S:CS):List Ob:=[.cells 127 [.v (.int .i64 S.steps),.ptr i1 0,.ptr i4 0,.own i7 S.W.length,.v (.bool S.clash)],.cells 169 [.osl i2 4 (S.G.N.map GNode.cells),.map i3],.tok 194 4 S.G.N.length,.map (S.G.V.map vC),
 .cells 184 [.own i5 S.F.up.length,.own i6 S.F.rank.length,.v (.int .i64 S.F.sets),.v (.int .i64 S.F.steps)],.row 3 1 (S.F.up.map nC),.row 3 1 (S.F.rank.map intC),.row 3 1 (S.W.map intC)]
def zam (S:CS):List Ob:=[.cells 127 [.v (.int .i64 S.steps),.ptr 1 0,.ptr 4 0,.own 7 S.W.length,.v (.bool S.clash)],.cells 169 [.osl 2 4 (S.G.N.map GNode.cells),.map 3],.tok 194 4 S.G.N.length,.map (S.G.V.map vC),
 .cells 184 [.own 5 S.F.up.length,.own 6 S.F.rank.length,.v (.int .i64 S.F.sets),.v (.int .i64 S.F.steps)],.row 3 1 (S.F.up.map nC),.row 3 1 (S.F.rank.map intC),.row 3 1 (S.W.map intC)]
theorem zce {n:Nat} (h:8<=n) (S:CS):UndOs n (zac 0 (zam S)) :=
 ⟨by omega,⟨.v _ _,.ptr tz1,.ptr tz1,.own tz1,.v _ _,trivial⟩,by omega,⟨.osl tz1 (.data (.sl (GNode.dataRows S.G.N))),.map tz1,trivial⟩,by omega,trivial,by omega,fun p hp=>.data (zaP S.G.V p hp),
  by omega,⟨.own tz1,.own tz1,.v _ _,.v _ _,trivial⟩,by omega,Und.rowI (zaY _),by omega,Und.rowI (zaD _),by omega,Und.rowI (zaD _),trivial⟩
theorem renC (S:CS) (i0 i1 i2 i3 i4 i5 i6 i7 nx:Nat):RenOs (zbf [i0,i1,i2,i3,i4,i5,i6,i7] nx) 0 (zam S) (zat i1 i2 i3 i4 i5 i6 i7 S) :=
 ⟨.cells ⟨.v _,.ptr rfl,.ptr rfl,.own rfl,.v _,trivial⟩,.cells ⟨.osl rfl (GNode.dataRows S.G.N),.map rfl,trivial⟩,.tok,.map (zaP S.G.V),.cells ⟨.own rfl,.own rfl,.v _,.v _,trivial⟩,.row (zaY _),.row (zaD _),.row (zaD _),trivial⟩
def CCalls {σ:Type} (f:Nat) (args:List AV) (S:CS) (C:CS×σ->Prop) (R:σ->AV):Prop :=
 ACalls Tryz.prog f args (zac 0 (zam S)) 8 fun r os n=>(∃s:CS×σ,C s/\r=R s.2/\os=zac 0 (zam s.1))/\n=8
theorem CCalls.at {σ:Type} {f:Nat} {args:List AV} {S:CS} {C:CS×σ->Prop} {R:σ->AV} (h:CCalls f (.ptr 0 0::args) S C R) (hd:DataL args) (hR:∀s,Data (R s)) {i0 i1 i2 i3 i4 i5 i6 i7:Nat} {os':Os} {nx':Nat}
  (hnd:[i0,i1,i2,i3,i4,i5,i6,i7].Nodup) (hlt:∀x∈[i0,i1,i2,i3,i4,i5,i6,i7],x<nx') (hg:GetsO os' [i0,i1,i2,i3,i4,i5,i6,i7] (zat i1 i2 i3 i4 i5 i6 i7 S)) {Q':AV->Os->Nat->Prop}
  (hq:∀(S1:CS) (s:σ),C (S1,s)->Q' (R s) (zag os' ([i0,i1,i2,i3,i4,i5,i6,i7].zip (zat i1 i2 i3 i4 i5 i6 i7 S1))) nx'):ACalls Tryz.prog f (.ptr i0 0::args) os' nx' Q':=by
 have same:∀(l:List AV),DataL l->RenL (zbf [i0,i1,i2,i3,i4,i5,i6,i7] nx') l l:=by
  intro l hl
  induction l with
  | nil=>trivial
  | cons x l ih=>exact ⟨.data (hl x tz4),ih fun y hy=>hl y (by simp[hy])⟩
 exact ACalls.atE (σ:=CS×σ) (C:=C) (args:=.ptr 0 0::args) (R:=fun s=>R s.2) (R':=fun s=>R s.2) (obs:=zam S) (obs1:=fun s=>zam s.1) (obs':=zat i1 i2 i3 i4 i5 i6 i7 S) (obs1':=fun s=>zat i1 i2 i3 i4 i5 i6 i7 s.1) [i0,i1,i2,i3,i4,i5,i6,i7] h rfl (fun _=>rfl) hnd hlt ⟨.ptr rfl,same args hd⟩ (fun s=>.data (hR s.2)) (renC S i0 i1 i2 i3 i4 i5 i6 i7 nx') hg (fun s=>renC s.1 i0 i1 i2 i3 i4 i5 i6 i7 nx') (fun s hs=>hq s.1 s.2 hs)
theorem zez (S:CS) (hF:FInv S.F) (i:Nat) (hi:i<S.F.up.length):CCalls (σ:=Nat) 94 [.ptr 0 0,.v (.int .i64 (i:Int))] (S) (fun s=>FSame S.F s.1.F/\Rt S.F.up i s.2/\s.1={S with F:=s.1.F}) (fun s=>.v (.int .i64 (s:Int))):=by
  refine ACalls.clean (C:=fun r os=>∃s:CS×Nat,(FSame S.F s.1.F/\Rt S.F.up i s.2/\s.1={S with F:=s.1.F})/\r=(fun s:Nat=>.v (.int .i64 (s:Int))) s.2/\os=zac 0 (zam s.1)) ?_;refine aIn Tryz.func94 fun hm=>?_;simp only[Tryz.ntmps94,Tryz.results94,go_sem,seval];simp only[zam,zac,Nat.reduceAdd];refine sqD ?_;refine sqR fun _ y=>?_;refine zZ 4 fun _ q=>?_;(iterate 2 (simp only[↓bO,go_sem,seval];apply q;clear q;refine zZ 1 fun _ q=>?_));simp only[↓bO,go_sem,seval];refine FCalls.at (Root_f S.F hF i hi) (.cons (.v _) .nil) (fun _=>.tup (.cons (.v _) (.cons (.v _) .nil))) (i:=4) (j:=5) (k:=6) rfl rfl rfl tz3 tz3 tz3 tz2 tz2 tz2 (fun G r hG=>?_);(try dsimp only at hG);simp only[zal,Nat.reduceEqDiff,↓reduceIte];apply q;clear q;refine chS 4 ?_;simp only[↓bO,go_sem,seval];apply y;refine sqD ?_;apply z8;(try simp only[go_sem]);refine ⟨_,zac 0 (zam ({S with F:=G})),⟨({S with F:=G},r),?_,rfl,rfl⟩,.v _ _,zce tz1 _,?_,?_,by omega⟩;· exact ⟨hG.1,hG.2,rfl⟩
  ·
   exact Le.refl _
  first | (refine ⟨0,rfl,rfl⟩) | (refine ⟨0,by simp only[zam,zac,zk,zf,Nat.reduceAdd],rfl⟩)
theorem Rt.push_iff {up:List Nat} {h:Nat->Nat} (H:UpOk up h) (k q:Nat):Rt (up++[up.length]) k q↔Rt up k q\/(k=up.length/\q=up.length):=by
 refine ⟨fun k1=>k1.push H.lt,fun k1=>?_⟩;(rcases k1 with k1 | ⟨rfl,rfl⟩);(·exact k1.mono);exact .base tz4
def wk (x:GNode) (k:Nat):Int:=if x.k=1 then -1 else (k:Int)
structure LayI (S:CS) (G:GS) (k:Nat) (F:FS) (W:List Int):Prop where
 inv:FInv F
 fl:F.up.length=k
 wl:W.length=k
 ge:S.W.length<=k
 rt:∀a q,Rt F.up a q↔Rt S.F.up a q\/(S.W.length<=a/\a<k/\q=a)
 old:∀i,i<S.W.length->W[i]?=S.W[i]?
 new:∀(i:Nat) (x:GNode),S.W.length<=i->i<k->G.N[i]?=some x->W[i]?=some (wk x i)
theorem LayI.start {S:CS} (G:GS) (h:FInv S.F) (hl:S.F.up.length=S.W.length):LayI S G S.W.length S.F S.W :=
 ⟨h,hl,rfl,zQ _,fun a q=>⟨.inl,fun h=>h.elim id fun h=>by omega⟩,fun _ _=>rfl,fun i x h1 h2=>by omega⟩
theorem LayI.step {S:CS} {G:GS} {k:Nat} {F:FS} {W:List Int} (h:LayI S G k F W) {x:GNode} (hx:G.N[k]?=some x) (a b:Int):LayI S G (k+1) ⟨F.up++[F.up.length],F.rank++[0],a,b⟩ (W++[wk x k]):=by
 obtain ⟨hi,hok⟩:=h.inv.ok;have hge:=h.ge;refine ⟨h.inv.push a b,by simp[h.fl],by simp[h.wl],by omega,fun a q=>?_,fun i hi=>?_,fun i y h1 h2 hy=>?_⟩
 ·refine (Rt.push_iff hok a q).trans ?_
  rw[h.rt,h.fl];constructor
  ·rintro ((h1 | h1) | h1)
   (·exact .inl h1);(·exact .inr ⟨h1.1,by omega,h1.2.2⟩);exact .inr ⟨by omega,by omega,by omega⟩
  rintro (h1 | ⟨h1,h2,h3⟩);·exact .inl (.inl h1)
  by_cases e:a=k
  (·exact .inr ⟨e,by omega⟩);exact .inl (.inr ⟨h1,by omega,h3⟩)
 ·rw[zx (by rw[h.wl];omega)];exact h.old i hi
 by_cases e:i=k
 ·subst e
  rw[hx] at hy;cases hy;rw[zK (by rw[h.wl];exact zQ _),h.wl];simp
 rw[zx (by rw[h.wl];omega)];exact h.new i y h1 tz1 hy
def StepsI (S:CS) (k:Nat) (st:Int):Prop:=0<=S.steps->S.steps<=1099511627776->st+(S.W.length:Int)=S.steps+(k:Int)
theorem StepsI.step {S:CS} {k:Nat} {st:Int} (h:StepsI S k st) (hk:k<=1048576) (hw:S.W.length<=k):StepsI S (k+1) (IntKind.i64.wrap (st+1)):=fun h1 h2=>by
 have h3:=h h1 h2;rw[zak tz1 tz1];omega
structure Lay (S:CS) (T:Ty) (s:CS×Int):Prop where
 node:s.2=(T.gadd S.G).2
 g:s.1.G=(T.gadd S.G).1
 clash:s.1.clash=S.clash
 lay:LayI S s.1.G s.1.G.N.length s.1.F s.1.W
theorem zhI {p:Prop} (h:p:=by exact ⟨⟨_,_,rfl,by simp,rfl,trivial,trivial⟩,trivial⟩):p:=h
theorem zk9 (S:CS) (T:Ty) (hr:T.right=true) (hG:GInv S.G) (hF:FInv S.F) (hl1:S.F.up.length=S.W.length) (hl2:S.W.length=S.G.N.length) (hl:S.G.N.length+T.cnt<=1048576):CCalls (σ:=Int) 121 [.ptr 0 0,.agg T.cells] (S) (fun s=>Lay S T s/\StepsI S s.1.G.N.length s.1.steps) (fun s=>.v (.int .i64 s)):=by
  refine ACalls.clean (C:=fun r os=>∃s:CS×Int,(Lay S T s/\StepsI S s.1.G.N.length s.1.steps)/\r=(fun s:Int=>.v (.int .i64 s)) s.2/\os=zac 0 (zam s.1)) ?_;refine aIn Tryz.func121 fun hm=>?_;simp only[Tryz.ntmps121,Tryz.results121,go_sem,seval];simp only[zam,zac,Nat.reduceAdd];(have hg:T.gAdd S.G=((T.gadd S.G).1,(T.gadd S.G).2,0):=by rw[Ty.gAdd,if_pos hr]);have hA:=Add_calls T S.G hG tz1;rw[hg] at hA;obtain ⟨hs1,hs2,hs3⟩:=T.gadd_inv S.G hG;have hge:=hs1.ge;have hle:=hs1.le;dsimp only at hA;refine sqD ?_;refine zY fun _ u=>?_;refine zaw [(0,1,[.ptr 1 0])] 11 rfl mixed (zhI) rfl ?_;dsimp only;refine tkS 0 ?_;refine tkS 1 ?_;refine tkS 2 ?_;refine tkM 3 0 ?_;refine alS 4 ?_ (hH:=by exact zhI);refine al1 (i:=5) ?_;refine opT fun _ y=>?_;simp only[↓bO,go_sem,seval];refine GCalls.at (hA) (.cons (Ty.dataAgg T) .nil) (.tup (.cons (.v _) (.cons (.v _) .nil))) (i:=1) (j:=2) (k:=3) rfl rfl rfl tz3 tz3 tz3 tz2 tz2 tz2 ?_;simp only[zal,Nat.reduceEqDiff,↓reduceIte];(try simp only[go_sem]);refine y _ ⟨zhI,?_⟩;clear y;refine tkS 6 ?_;refine tkS 7 ?_;refine tkS 8 ?_;refine tkS 9 ?_;refine tkS 10 ?_;refine dnA ?_;apply u;refine zY fun _ u=>?_;refine sqR fun _ w=>?_;(iterate 2 (refine chS 2 ?_));simp only[↓bO,go_sem,seval];apply w;apply zaa;refine zah (σ:=Nat×FS×List Int×Int) (mB 67 161) (fun s=>LayI S (T.gadd S.G).1 s.1 s.2.1 s.2.2.1/\StepsI S s.1 s.2.2.2/\s.1<=(T.gadd S.G).1.N.length) (fun s=>[(7,.v (.int .i64 (s.1:Int)))]) (fun s=>[(0,.cells 127 [.v (.int .i64 s.2.2.2),.ptr 1 0,.ptr 4 0,.own 7 s.2.2.1.length,.v (.bool S.clash)]),(4,.cells 184 [.own 5 s.2.1.up.length,.own 6 s.2.1.rank.length,.v (.int .i64 s.2.1.sets),.v (.int .i64 s.2.1.steps)]),(5,.row 3 1 (s.2.1.up.map nC)),(6,.row 3 1 (s.2.1.rank.map intC)),(7,.row 3 1 (s.2.2.1.map intC))]) (fun s=>(T.gadd S.G).1.N.length-s.1) (S.W.length,S.F,S.W,S.steps) (⟨LayI.start _ hF hl1,fun _ _=>rfl,by omega⟩) ?_ (fun s hs=>?_)
  ·
   simp only[go_sem,seval];exact zaI
  simp only[go_sem,seval];refine zY fun _ w=>?_;refine sqR fun _ z=>?_;(iterate 2 (refine chS 2 ?_));refine chS 1 ?_;refine zZ 1 fun _ y=>?_;simp only[↓bO,go_sem,seval];refine GCalls.at (Len_calls (T.gadd S.G).1) (.nil) (.v _) (i:=1) (j:=2) (k:=3) rfl rfl rfl tz3 tz3 tz3 tz2 tz2 tz2 ?_;simp only[zal,Nat.reduceEqDiff,↓reduceIte];apply y;clear y;simp only[↓bO,go_sem,seval];apply z;apply z7 rfl <;> intro hb28
  ·
   (have hk:s.1<(T.gadd S.G).1.N.length:=by have h8:=hb28;simp at h8;omega);obtain ⟨x,hx⟩:∃x,(T.gadd S.G).1.N[s.1]?=some x:=⟨_,za hk⟩;(have hxi:(T.gadd S.G).1.N[((s.1:Nat):Int).toNat]?=some x:=by simpa using hx);have hfl:=hs.1.fl;have hwl:=hs.1.wl;have hrl:=hs.1.inv.len;have hw:IntKind.i64.wrap ((s.1:Int)+1)=(s.1:Int)+1:=zak tz1 tz1;(have hb1:(s.2.2.1.length+1) * 8<=140737488355328:=by omega);(have hb2:s.2.2.1.length+1<=maxLen:=by simp only[maxLen];omega);(have hb3:(s.1+1) * 8<=140737488355328:=by omega);(have hb4:s.1+1<=maxLen:=by simp only[maxLen];omega);apply zab;apply w;refine zY fun _ w=>?_;apply zaa;refine sqR fun _ z=>?_;refine chS 2 ?_ (by intro _ q;simp only[↓bO,go_sem,seval,hwl];exact q);refine chS 1 ?_;simp only[↓bO,go_sem,seval];refine tick_at rfl ?_;simp only[zal,Nat.reduceEqDiff,↓reduceIte];apply z;refine sqR fun _ z=>?_;(iterate 2 (refine chS 2 ?_));simp only[↓bO,go_sem,seval];refine FCalls.at (FAdd_f s.2.1 tz1 hrl) (.nil) (fun _=>.v _) (i:=4) (j:=5) (k:=6) rfl rfl rfl tz3 tz3 tz3 tz2 tz2 tz2 (fun F2 u2 hF2=>?_);(try dsimp only at hF2);simp only[zal,Nat.reduceEqDiff,↓reduceIte];subst hF2;apply z;refine sqR fun _ z=>?_;(iterate 2 (refine chS 2 ?_ (by intro _ q;simp only[↓bO,go_sem,seval,zh];exact q)));refine chS 1 ?_;refine zZ 1 fun _ y=>?_;simp only[↓bO,go_sem,seval];refine GCalls.at (zdf (T.gadd S.G).1 (s.1:Int) x tz1 hxi) (.cons (.v _) .nil) (.v _) (i:=1) (j:=2) (k:=3) rfl rfl rfl tz3 tz3 tz3 tz2 tz2 tz2 ?_;simp only[zal,Nat.reduceEqDiff,↓reduceIte];apply y;clear y;simp only[↓bO,go_sem,seval];apply z;apply z7 rfl <;> intro hb46
   ·
    (have hk1:x.k=1:=by simpa using hb46);have hw1:wk x s.1=-1:=if_pos hk1;apply z6;(iterate 2 (refine chS 2 ?_));refine chS 2 ?_ (by intro _ q;simp only[↓bO,go_sem,seval,↓zdE];exact q);refine chS 2 ?_ (by intro _ q;simp only[↓bO,go_sem,seval,hb3,hb4,pushIC,hwl];exact q);simp only[↓bO,go_sem,seval];apply w;apply z6;refine chS 2 ?_ (by intro _ q;simp only[↓bO,go_sem,seval,hw];exact q);simp only[↓bO,go_sem,seval];refine ⟨(s.1+1,⟨s.2.1.up++[s.2.1.up.length],s.2.1.rank++[0],IntKind.i64.wrap (s.2.1.sets+1),s.2.1.steps⟩,s.2.2.1++[wk x s.1],IntKind.i64.wrap (s.2.2.2+1)),⟨hs.1.step hx _ _,hs.2.1.step tz1 hs.1.ge,by omega⟩,tz5,?_⟩;simp only[zar,zas,zag,zal,mB,seval,zh,bL,zj,zi,hwl,hw1];exact zaI
   (have hk1:¬x.k=1:=by simpa using hb46);have hw1:wk x s.1=(s.1:Int):=if_neg hk1;apply z6;(iterate 3 (refine chS 2 ?_));refine chS 2 ?_ (by intro _ q;simp only[↓bO,go_sem,seval,↓zdE,hb3,hb4,pushIC,hwl];exact q);refine chS 2 ?_;simp only[↓bO,go_sem,seval];apply w;apply z6;refine chS 2 ?_ (by intro _ q;simp only[↓bO,go_sem,seval,hw];exact q);simp only[↓bO,go_sem,seval];refine ⟨(s.1+1,⟨s.2.1.up++[s.2.1.up.length],s.2.1.rank++[0],IntKind.i64.wrap (s.2.1.sets+1),s.2.1.steps⟩,s.2.2.1++[wk x s.1],IntKind.i64.wrap (s.2.2.2+1)),⟨hs.1.step hx _ _,hs.2.1.step tz1 hs.1.ge,by omega⟩,tz5,?_⟩;simp only[zar,zas,zag,zal,mB,seval,zh,bL,zj,zi,hwl,hw1];exact zaI
  (have hk:s.1=(T.gadd S.G).1.N.length:=by have h8:=hb28;simp at h8;have:=hs.2.2;omega);apply zaj;simp only[zao,zai,zae,bA,Nat.reduceEqDiff,↓reduceIte];apply u;refine sqD ?_;apply z8;(try simp only[go_sem]);refine ⟨_,zac 0 (zam (⟨(T.gadd S.G).1,s.2.1,s.2.2.1,s.2.2.2,S.clash⟩)),⟨(⟨(T.gadd S.G).1,s.2.1,s.2.2.1,s.2.2.2,S.clash⟩,(T.gadd S.G).2),?_,rfl,rfl⟩,.v _ _,zce tz1 _,?_,?_,by omega⟩;· exact ⟨⟨rfl,rfl,rfl,by have h9:=hs.1;rw[hk] at h9;exact h9⟩,by have h9:=hs.2.1;rw[hk] at h9;exact h9⟩
  ·
   exact Le.refl _
  first | (refine ⟨1,rfl,rfl⟩) | (refine ⟨1,by simp only[zam,zac,zk,zf,Nat.reduceAdd],rfl⟩)
def pC (p:Int×Int):List AV:=[.v (.int .i64 p.1),.v (.int .i64 p.2)]
theorem zdN (l:List (Int×Int)):Data (.sl 2 (l.map pC)):=.sl fun x hx=>by
 obtain ⟨p,_,rfl⟩:=zq.1 hx;exact .cons (.v _) (.cons (.v _) .nil)
theorem Und.oslP {n id:Nat} {l:List (Int×Int)} (h:id<n):Und n (.osl id 2 (l.map pC)):=.osl h (.data (zdN l))
structure CInv (S:CS):Prop where
 g:GInv S.G
 f:FInv S.F
 fl:S.F.up.length=S.W.length
 wl:S.W.length=S.G.N.length
 wr:∀w∈S.W,w=-1\/(0<=w/\w<(S.G.N.length:Int))
 pl:∀x∈S.G.N,x.parts.length<=8
 pr:∀x∈S.G.N,∀p∈x.parts,0<=p/\p<(S.G.N.length:Int)
def clash (x y:GNode):Bool:=x.k != y.k||x.parts.length != y.parts.length
structure CJoin (S:CS) (a b:Nat) (s:CS×(List (Int×Int)×Bool)):Prop where
  g:s.1.G=S.G
  c:s.1.clash=S.clash
  ex:∃(r:Nat) (two:Bool),FJoin S.F a b (s.1.F,(r,two))/\((two=false/\s.1.W=S.W/\s.2=([],true)) \/
    (two=true/\∃(ra rb:Nat) (x y:Int),Rt S.F.up a ra/\Rt S.F.up b rb/\S.W[ra]?=some x/\S.W[rb]?=some y /\
      (((x<0\/y<0)/\s.1.W=S.W.set r (max x y)/\s.2=([],true)) \/
       (0<=x/\0<=y/\s.1.W=S.W.set r x/\∃gx gy:GNode,S.G.N[x.toNat]?=some gx/\S.G.N[y.toNat]?=some gy /\
          ((clash gx gy=true/\s.2=([],false))\/(clash gx gy=false/\s.2=(gx.parts.zip gy.parts,true)))))))
theorem FJoin.of {F F2:FS} {a b:Nat} {s:FS×(Nat×Bool)} (h:FSame F F2) (k:FJoin F2 a b s):FJoin F a b s:=by
 obtain ⟨ra,rb,h1,h2,h3⟩:=k.ex;refine ⟨k.inv,k.len.trans h.len,ra,rb,(h.rt _ _).1 h1,(h.rt _ _).1 h2,?_⟩;(rcases h3 with ⟨e,h4,h5⟩ | ⟨e,h4,h5,h6⟩);(·exact .inl ⟨e,h4,fun k q=>(h5 k q).trans (h.rt k q)⟩);exact .inr ⟨e,h4,h5,fun k q=>(h6 k q).trans (by simp only[h.rt])⟩
theorem FJoin.rlt {F:FS} {a b:Nat} {s:FS×(Nat×Bool)} (k:FJoin F a b s):s.2.1<F.up.length:=by
 obtain ⟨ra,rb,h1,h2,h3⟩:=k.ex;(rcases h3 with ⟨e,h4,_⟩ | ⟨e,_,h4,_⟩);(·rw[h4];exact h1.lt);(rcases h4 with h4 | h4 <;> rw[h4]);(·exact h1.lt);exact h2.lt
theorem zjU (a b:Nat):(((a:Nat):Int) != ((b:Nat):Int))=(a != b):=by
 rw[zF];simp;omega
theorem clash_eq (x y:GNode):(x.k != y.k)=true->clash x y=true:=fun h=>by rw[clash,h];rfl
theorem zcJ {p:Prop} (h:p:=by exact ⟨⟨_,_,rfl,by simp,rfl,by simp[CurL,CurOk,zav]⟩,trivial⟩):p:=h
theorem zba {p:Prop} (h:p:=by exact ⟨rfl,rfl,rfl,rfl,rfl,rfl,rfl,rfl,trivial⟩):p:=h
theorem join_c (S:CS) (hS:CInv S) (a b:Nat) (ha:a<S.F.up.length) (hb:b<S.F.up.length):CCalls (σ:=List (Int×Int)×Bool) 123 [.ptr 0 0,.v (.int .i64 (a:Int)),.v (.int .i64 (b:Int))] (S) (fun s=>CJoin S a b s/\s.1.steps=S.steps) (fun s=>.tup [.sl 2 (s.1.map pC),.v (.bool s.2)]):=by
  refine ACalls.clean (C:=fun r os=>∃s:CS×List (Int×Int)×Bool,(CJoin S a b s/\s.1.steps=S.steps)/\r=(fun s:List (Int×Int)×Bool=>.tup [.sl 2 (s.1.map pC),.v (.bool s.2)]) s.2/\os=zac 0 (zam s.1)) ?_;refine aIn Tryz.func123 fun hm=>?_;simp only[Tryz.ntmps123,Tryz.results123,go_sem,seval];simp only[zam,zac,Nat.reduceAdd];(have hpl:∀x∈S.G.N,x.parts.length<=1099511627776:=fun x hx=>by have:=hS.pl x hx;omega);refine sqD ?_;refine AWp_joinE (σ:=FS×Nat×Nat×Int×Int) (mB 119 775) (fun j=>[(8,.v (.int .i64 j.2.2.2.1)),(9,.v (.int .i64 j.2.2.2.2))]) (fun j=>[(4,.cells 184 [.own 5 j.1.up.length,.own 6 j.1.rank.length,.v (.int .i64 j.1.sets),.v (.int .i64 j.1.steps)]),(5,.row 3 1 (j.1.up.map nC)),(6,.row 3 1 (j.1.rank.map intC))]) (fun j=>FSame S.F j.1/\Rt S.F.up a j.2.1/\Rt S.F.up b j.2.2.1/\S.W[j.2.1]?=some j.2.2.2.1/\S.W[j.2.2.1]?=some j.2.2.2.2) ?_ (fun j hj=>?_)
  ·
   refine zaw [(0,3,[.own 7 S.W.length])] 20 rfl mixed (zcJ) rfl ?_;dsimp only;refine tkS 0 ?_;refine tkS 1 ?_;refine tkS 2 ?_;refine tkM 3 0 ?_;refine tkS 4 ?_;refine tkS 5 ?_;refine tkS 9 ?_;refine tkS 10 ?_;refine tkS 11 ?_;refine tkM 12 0 ?_;refine tkS 13 ?_;refine tkS 14 ?_;refine al1 (i:=6) ?_;refine opT fun _ u=>?_;simp only[↓bO,go_sem,seval];refine CCalls.at (zez S hS.f a ha) (.cons (.v _) .nil) (fun _=>.v _) (i0:=0) (i1:=1) (i2:=2) (i3:=3) (i4:=4) (i5:=5) (i6:=6) (i7:=7) tz3 tz4 zba (fun S1 r1 hS1=>?_);(try dsimp only at hS1);simp only[zat,zl,zn,zm,zag,zal,Nat.reduceEqDiff,↓reduceIte];obtain ⟨F1,rfl⟩:∃F1,S1={S with F:=F1}:=⟨S1.F,hS1.2.2⟩;dsimp only at hS1;obtain ⟨x,hx⟩:∃x,S.W[r1]?=some x:=⟨_,za (by rw[<- hS.fl];exact hS1.2.1.lt)⟩;have hi1:r1<S.W.length:=(zb.1 hx).1;(have hi2:(r1:Int)<(S.W.length:Int):=by omega);(try simp only[go_sem]);refine u _ ⟨zcJ,?_⟩;clear u;refine al2 (i:=7) (j:=15) ?_ ?_
   ·
    refine opT fun _ u=>?_;simp only[↓bO,go_sem,seval,hi2];refine u _ ⟨zcJ,?_⟩;clear u;refine al2 (i:=8) (j:=15) ?_ ?_
    ·
     refine opT fun _ u=>?_;simp only[↓bO,go_sem,seval,gM hx,hi1];refine u _ ⟨zcJ,?_⟩;clear u;refine al1 (i:=15) ?_;refine opT fun _ u=>?_;simp only[↓bO,go_sem,seval];refine CCalls.at (zez {S with F:=F1} hS1.1.inv b (by dsimp only;rw[hS1.1.len];exact hb)) (.cons (.v _) .nil) (fun _=>.v _) (i0:=0) (i1:=1) (i2:=2) (i3:=3) (i4:=4) (i5:=5) (i6:=6) (i7:=7) tz3 tz4 zba (fun S2 r2 hS2=>?_);(try dsimp only at hS2);simp only[zat,zl,zn,zm,zag,zal,Nat.reduceEqDiff,↓reduceIte];obtain ⟨F2,rfl⟩:∃F2,S2={S with F:=F2}:=⟨S2.F,hS2.2.2⟩;dsimp only at hS2;have hS3:=hS1.1.trans hS2.1;have hb2:Rt S.F.up b r2:=(hS1.1.rt _ _).1 hS2.2.1;obtain ⟨y,hy⟩:∃y,S.W[r2]?=some y:=⟨_,za (by rw[<- hS.fl];exact hb2.lt)⟩;have hj1:r2<S.W.length:=(zb.1 hy).1;(have hj2:(r2:Int)<(S.W.length:Int):=by omega);(try simp only[go_sem]);refine u _ ⟨zcJ,?_⟩;clear u;refine tkS 18 ?_;refine al1 (i:=16) ?_;refine opT fun _ u=>?_;simp only[↓bO,go_sem,seval,hj2];refine u _ ⟨zcJ,?_⟩;clear u;refine al1 (i:=17) ?_;refine opT fun _ u=>?_;simp only[↓bO,go_sem,seval,gM hy,hj1];refine u _ ⟨zcJ,?_⟩;clear u;refine tkS 19 ?_;refine dnA ?_;simp only[go_sem];(try simp only[go_sem,seval]);refine ⟨(F2,r1,r2,x,y),⟨hS3,hS1.2.1,hb2,hx,hy⟩,?_⟩;exact zhS
    refine opT fun _ u=>?_;simp only[↓bO,go_sem,seval];refine CCalls.at (zez {S with F:=F1} hS1.1.inv b (by dsimp only;rw[hS1.1.len];exact hb)) (.cons (.v _) .nil) (fun _=>.v _) (i0:=0) (i1:=1) (i2:=2) (i3:=3) (i4:=4) (i5:=5) (i6:=6) (i7:=7) tz3 tz4 zba (fun S2 r2 hS2=>?_);(try dsimp only at hS2);simp only[zat,zl,zn,zm,zag,zal,Nat.reduceEqDiff,↓reduceIte];obtain ⟨F2,rfl⟩:∃F2,S2={S with F:=F2}:=⟨S2.F,hS2.2.2⟩;dsimp only at hS2;have hS3:=hS1.1.trans hS2.1;have hb2:Rt S.F.up b r2:=(hS1.1.rt _ _).1 hS2.2.1;obtain ⟨y,hy⟩:∃y,S.W[r2]?=some y:=⟨_,za (by rw[<- hS.fl];exact hb2.lt)⟩;have hj1:r2<S.W.length:=(zb.1 hy).1;(have hj2:(r2:Int)<(S.W.length:Int):=by omega);(try simp only[go_sem]);refine u _ ⟨zcJ,?_⟩;clear u;refine al2 (i:=8) (j:=16) ?_ ?_
    ·
     refine opT fun _ u=>?_;simp only[↓bO,go_sem,seval,gM hx,hi1];refine u _ ⟨zcJ,?_⟩;clear u;refine tkS 18 ?_;refine al1 (i:=16) ?_;refine opT fun _ u=>?_;simp only[↓bO,go_sem,seval,hj2];refine u _ ⟨zcJ,?_⟩;clear u;refine al1 (i:=17) ?_;refine opT fun _ u=>?_;simp only[↓bO,go_sem,seval,gM hy,hj1];refine u _ ⟨zcJ,?_⟩;clear u;refine tkS 19 ?_;refine dnA ?_;simp only[go_sem];(try simp only[go_sem,seval]);refine ⟨(F2,r1,r2,x,y),⟨hS3,hS1.2.1,hb2,hx,hy⟩,?_⟩;exact zhS
    refine opT fun _ u=>?_;simp only[↓bO,go_sem,seval,hj2];refine u _ ⟨zcJ,?_⟩;clear u;refine al2 (i:=8) (j:=17) ?_ ?_
    ·
     refine opT fun _ u=>?_;simp only[↓bO,go_sem,seval,gM hx,hi1];refine u _ ⟨zcJ,?_⟩;clear u;refine tkS 18 ?_;refine al1 (i:=17) ?_;refine opT fun _ u=>?_;simp only[↓bO,go_sem,seval,gM hy,hj1];refine u _ ⟨zcJ,?_⟩;clear u;refine tkS 19 ?_;refine dnA ?_;simp only[go_sem];(try simp only[go_sem,seval]);refine ⟨(F2,r1,r2,x,y),⟨hS3,hS1.2.1,hb2,hx,hy⟩,?_⟩;exact zhS
    refine opT fun _ u=>?_;simp only[↓bO,go_sem,seval,gM hy,hj1];refine u _ ⟨zcJ,?_⟩;clear u;refine al1 (i:=8) ?_;refine opT fun _ u=>?_;simp only[↓bO,go_sem,seval,gM hx,hi1];refine u _ ⟨zcJ,?_⟩;clear u;refine tkS 18 ?_;refine tkS 19 ?_;refine dnA ?_;simp only[go_sem];(try simp only[go_sem,seval]);refine ⟨(F2,r1,r2,x,y),⟨hS3,hS1.2.1,hb2,hx,hy⟩,?_⟩;exact zhS
   refine opT fun _ u=>?_;simp only[↓bO,go_sem,seval];refine CCalls.at (zez {S with F:=F1} hS1.1.inv b (by dsimp only;rw[hS1.1.len];exact hb)) (.cons (.v _) .nil) (fun _=>.v _) (i0:=0) (i1:=1) (i2:=2) (i3:=3) (i4:=4) (i5:=5) (i6:=6) (i7:=7) tz3 tz4 zba (fun S2 r2 hS2=>?_);(try dsimp only at hS2);simp only[zat,zl,zn,zm,zag,zal,Nat.reduceEqDiff,↓reduceIte];obtain ⟨F2,rfl⟩:∃F2,S2={S with F:=F2}:=⟨S2.F,hS2.2.2⟩;dsimp only at hS2;have hS3:=hS1.1.trans hS2.1;have hb2:Rt S.F.up b r2:=(hS1.1.rt _ _).1 hS2.2.1;obtain ⟨y,hy⟩:∃y,S.W[r2]?=some y:=⟨_,za (by rw[<- hS.fl];exact hb2.lt)⟩;have hj1:r2<S.W.length:=(zb.1 hy).1;(have hj2:(r2:Int)<(S.W.length:Int):=by omega);(try simp only[go_sem]);refine u _ ⟨zcJ,?_⟩;clear u;refine al2 (i:=7) (j:=16) ?_ ?_
   ·
    refine opT fun _ u=>?_;simp only[↓bO,go_sem,seval,hi2];refine u _ ⟨zcJ,?_⟩;clear u;refine al2 (i:=8) (j:=16) ?_ ?_
    ·
     refine opT fun _ u=>?_;simp only[↓bO,go_sem,seval,gM hx,hi1];refine u _ ⟨zcJ,?_⟩;clear u;refine tkS 18 ?_;refine al1 (i:=16) ?_;refine opT fun _ u=>?_;simp only[↓bO,go_sem,seval,hj2];refine u _ ⟨zcJ,?_⟩;clear u;refine al1 (i:=17) ?_;refine opT fun _ u=>?_;simp only[↓bO,go_sem,seval,gM hy,hj1];refine u _ ⟨zcJ,?_⟩;clear u;refine tkS 19 ?_;refine dnA ?_;simp only[go_sem];(try simp only[go_sem,seval]);refine ⟨(F2,r1,r2,x,y),⟨hS3,hS1.2.1,hb2,hx,hy⟩,?_⟩;exact zhS
    refine opT fun _ u=>?_;simp only[↓bO,go_sem,seval,hj2];refine u _ ⟨zcJ,?_⟩;clear u;refine al2 (i:=8) (j:=17) ?_ ?_
    ·
     refine opT fun _ u=>?_;simp only[↓bO,go_sem,seval,gM hx,hi1];refine u _ ⟨zcJ,?_⟩;clear u;refine tkS 18 ?_;refine al1 (i:=17) ?_;refine opT fun _ u=>?_;simp only[↓bO,go_sem,seval,gM hy,hj1];refine u _ ⟨zcJ,?_⟩;clear u;refine tkS 19 ?_;refine dnA ?_;simp only[go_sem];(try simp only[go_sem,seval]);refine ⟨(F2,r1,r2,x,y),⟨hS3,hS1.2.1,hb2,hx,hy⟩,?_⟩;exact zhS
    refine opT fun _ u=>?_;simp only[↓bO,go_sem,seval,gM hy,hj1];refine u _ ⟨zcJ,?_⟩;clear u;refine al1 (i:=8) ?_;refine opT fun _ u=>?_;simp only[↓bO,go_sem,seval,gM hx,hi1];refine u _ ⟨zcJ,?_⟩;clear u;refine tkS 18 ?_;refine tkS 19 ?_;refine dnA ?_;simp only[go_sem];(try simp only[go_sem,seval]);refine ⟨(F2,r1,r2,x,y),⟨hS3,hS1.2.1,hb2,hx,hy⟩,?_⟩;exact zhS
   refine opT fun _ u=>?_;simp only[↓bO,go_sem,seval,hj2];refine u _ ⟨zcJ,?_⟩;clear u;refine al2 (i:=7) (j:=17) ?_ ?_
   ·
    refine opT fun _ u=>?_;simp only[↓bO,go_sem,seval,hi2];refine u _ ⟨zcJ,?_⟩;clear u;refine al2 (i:=8) (j:=17) ?_ ?_
    ·
     refine opT fun _ u=>?_;simp only[↓bO,go_sem,seval,gM hx,hi1];refine u _ ⟨zcJ,?_⟩;clear u;refine tkS 18 ?_;refine al1 (i:=17) ?_;refine opT fun _ u=>?_;simp only[↓bO,go_sem,seval,gM hy,hj1];refine u _ ⟨zcJ,?_⟩;clear u;refine tkS 19 ?_;refine dnA ?_;simp only[go_sem];(try simp only[go_sem,seval]);refine ⟨(F2,r1,r2,x,y),⟨hS3,hS1.2.1,hb2,hx,hy⟩,?_⟩;exact zhS
    refine opT fun _ u=>?_;simp only[↓bO,go_sem,seval,gM hy,hj1];refine u _ ⟨zcJ,?_⟩;clear u;refine al1 (i:=8) ?_;refine opT fun _ u=>?_;simp only[↓bO,go_sem,seval,gM hx,hi1];refine u _ ⟨zcJ,?_⟩;clear u;refine tkS 18 ?_;refine tkS 19 ?_;refine dnA ?_;simp only[go_sem];(try simp only[go_sem,seval]);refine ⟨(F2,r1,r2,x,y),⟨hS3,hS1.2.1,hb2,hx,hy⟩,?_⟩;exact zhS
   refine opT fun _ u=>?_;simp only[↓bO,go_sem,seval,gM hy,hj1];refine u _ ⟨zcJ,?_⟩;clear u;refine al1 (i:=7) ?_;refine opT fun _ u=>?_;simp only[↓bO,go_sem,seval,hi2];refine u _ ⟨zcJ,?_⟩;clear u;refine al1 (i:=8) ?_;refine opT fun _ u=>?_;simp only[↓bO,go_sem,seval,gM hx,hi1];refine u _ ⟨zcJ,?_⟩;clear u;refine tkS 18 ?_;refine tkS 19 ?_;refine dnA ?_;simp only[go_sem];(try simp only[go_sem,seval]);refine ⟨(F2,r1,r2,x,y),⟨hS3,hS1.2.1,hb2,hx,hy⟩,?_⟩;exact zhS
  simp only[go_sem,seval];refine sqR fun _ w=>?_;(iterate 3 (refine chS 2 ?_));refine zZ 1 fun _ u=>?_;simp only[↓bO,go_sem,seval];refine FCalls.at (Join_f j.1 hj.1.inv a b (by rw[hj.1.len];exact ha) (by rw[hj.1.len];exact hb)) (.cons (.v _) (.cons (.v _) .nil)) (fun _=>.tup (.cons (.v _) (.cons (.v _) .nil))) (i:=4) (j:=5) (k:=6) rfl rfl rfl tz3 tz3 tz3 tz2 tz2 tz2 (fun G3 r hG3=>?_);(try dsimp only at hG3);simp only[zal,Nat.reduceEqDiff,↓reduceIte];(iterate 2 (apply u;clear u;refine zZ 2 fun _ u=>?_;simp only[↓bO,go_sem,seval]));apply u;clear u;simp only[↓bO,go_sem,seval];apply w;refine zY fun _ w=>?_;refine sqD ?_;apply z7 rfl <;> intro hb45
  ·
   refine sqD ?_;apply z8;(try simp only[go_sem]);refine ⟨_,zac 0 (zam ({S with F:=G3})),⟨({S with F:=G3},([],true)),?_,rfl,rfl⟩,.tup ⟨.data (zdN _),.v _ _,trivial⟩,zce tz1 _,?_,?_,by omega⟩;· exact ⟨⟨rfl,rfl,r.1,r.2,FJoin.of hj.1 hG3,.inl ⟨by simpa using hb45,rfl,rfl⟩⟩,rfl⟩
   ·
    exact Le.tup ⟨Le.slNil 2,.refl _,trivial⟩
   first | (refine ⟨0,rfl,rfl⟩) | (refine ⟨0,by simp only[zam,zac,zk,zf,Nat.reduceAdd],rfl⟩)
  apply zab;apply w;have hrl:=hG3.rlt;have hfl9:=hj.1.len;have hfl8:=hS.fl;obtain ⟨z,hz⟩:∃z,S.W[r.1]?=some z:=⟨_,za (by dsimp only at hrl;omega)⟩;have hk1:r.1<S.W.length:=(zb.1 hz).1;(have hk2:(r.1:Int)<(S.W.length:Int):=by omega);(have hz2:(S.W.set r.1 (max j.2.2.2.1 j.2.2.2.2))[r.1]?=some (max j.2.2.2.1 j.2.2.2.2):=by rw[List.getElem?_set_self hk1]);refine sqR fun _ w=>?_;(iterate 4 (refine chS 2 ?_));simp only[↓bO,go_sem,seval,gM hz,hk1,hk2,setIC,intC];apply w;refine zY fun _ w=>?_;refine sqR fun _ d=>?_;refine chS 2 ?_;refine chS 1 ?_;simp only[go_sem];refine zaf 57 rfl (fun hc57=>?_) (fun hc57=>?_)
  ·
   simp only[go_sem];have hneg:j.2.2.2.1<0\/j.2.2.2.2<0:=.inl (by simpa using hc57);refine chS 2 ?_;simp only[↓bO,go_sem,seval];apply d;refine z7 (b:=true) (by first | exact rfl | exact congrArg (fun b=>AV.v (.bool b)) hb60) (fun _=>?_) (fun h=>(by cases h));refine sqD ?_;apply z8;(try simp only[go_sem]);refine ⟨_,zac 0 (zam ({S with F:=G3,W:=S.W.set r.1 (max j.2.2.2.1 j.2.2.2.2)})),⟨({S with F:=G3,W:=S.W.set r.1 (max j.2.2.2.1 j.2.2.2.2)},([],true)),?_,rfl,rfl⟩,.tup ⟨.data (zdN _),.v _ _,trivial⟩,zce tz1 _,?_,?_,by omega⟩;· exact ⟨⟨rfl,rfl,r.1,r.2,FJoin.of hj.1 hG3,.inr ⟨by simpa using hb45,j.2.1,j.2.2.1,j.2.2.2.1,j.2.2.2.2,hj.2.1,hj.2.2.1,hj.2.2.2.1,hj.2.2.2.2,.inl ⟨hneg,rfl,rfl⟩⟩⟩,rfl⟩
   ·
    exact Le.tup ⟨Le.slNil 2,.refl _,trivial⟩
   first | (refine ⟨0,rfl,rfl⟩) | (refine ⟨0,by simp only[zam,zac,zk,zf,Nat.reduceAdd,List.length_set],rfl⟩)
  simp only[go_sem];(have hx0:0<=j.2.2.2.1:=by simpa using hc57);refine chS 2 ?_;simp only[↓bO,go_sem,seval];apply d;apply z7 rfl <;> intro hb60
  ·
   have hneg:j.2.2.2.1<0\/j.2.2.2.2<0:=.inr (by simpa using hb60);refine sqD ?_;apply z8;(try simp only[go_sem]);refine ⟨_,zac 0 (zam ({S with F:=G3,W:=S.W.set r.1 (max j.2.2.2.1 j.2.2.2.2)})),⟨({S with F:=G3,W:=S.W.set r.1 (max j.2.2.2.1 j.2.2.2.2)},([],true)),?_,rfl,rfl⟩,.tup ⟨.data (zdN _),.v _ _,trivial⟩,zce tz1 _,?_,?_,by omega⟩;· exact ⟨⟨rfl,rfl,r.1,r.2,FJoin.of hj.1 hG3,.inr ⟨by simpa using hb45,j.2.1,j.2.2.1,j.2.2.2.1,j.2.2.2.2,hj.2.1,hj.2.2.1,hj.2.2.2.1,hj.2.2.2.2,.inl ⟨hneg,rfl,rfl⟩⟩⟩,rfl⟩
   ·
    exact Le.tup ⟨Le.slNil 2,.refl _,trivial⟩
   first | (refine ⟨0,rfl,rfl⟩) | (refine ⟨0,by simp only[zam,zac,zk,zf,Nat.reduceAdd,List.length_set],rfl⟩)
  (have hy0:0<=j.2.2.2.2:=by simpa using hb60);obtain ⟨gx,hgx⟩:∃g,S.G.N[(j.2.2.2.1).toNat]?=some g:=⟨_,za (by have:=hS.wr _ (zc hj.2.2.2.1);omega)⟩;obtain ⟨gy,hgy⟩:∃g,S.G.N[(j.2.2.2.2).toNat]?=some g:=⟨_,za (by have:=hS.wr _ (zc hj.2.2.2.2);omega)⟩;have hPx:=zdy S.G j.2.2.2.1 hpl;rw[GS.parts_in hx0 hgx] at hPx;have hPy:=zdy S.G j.2.2.2.2 hpl;rw[GS.parts_in hy0 hgy] at hPy;have hlx:=hS.pl gx (zc hgx);have hly:=hS.pl gy (zc hgy);apply zab;apply w;refine sqR fun _ w=>?_;(iterate 3 (refine chS 2 ?_));simp only[↓bO,go_sem,seval,gM hz2,hk1,hk2,setIC,intC,List.length_set,List.set_set];apply w;refine zY fun _ w=>?_;refine zaw [(0,1,[.ptr 1 0])] 14 rfl mixed (zhI) rfl ?_;dsimp only;refine tkS 0 ?_;refine tkS 1 ?_;refine tkS 2 ?_;refine tkM 3 0 ?_;refine tkS 4 ?_;refine tkS 6 ?_;refine tkS 7 ?_;refine tkS 8 ?_;refine tkM 9 0 ?_;refine tkS 10 ?_;refine al1 (i:=5) ?_;refine opT fun _ u=>?_;simp only[↓bO,go_sem,seval];refine GCalls.at (hPx) (.cons (.v _) .nil) (zap _) (i:=1) (j:=2) (k:=3) rfl rfl rfl tz3 tz3 tz3 tz2 tz2 tz2 ?_;simp only[zal,Nat.reduceEqDiff,↓reduceIte];(try simp only[go_sem]);refine u _ ⟨zhI,?_⟩;clear u;refine al1 (i:=11) ?_;refine opT fun _ u=>?_;simp only[↓bO,go_sem,seval];refine GCalls.at (hPy) (.cons (.v _) .nil) (zap _) (i:=1) (j:=2) (k:=3) rfl rfl rfl tz3 tz3 tz3 tz2 tz2 tz2 ?_;simp only[zal,Nat.reduceEqDiff,↓reduceIte];(try simp only[go_sem]);refine u _ ⟨zhI,?_⟩;clear u;refine tkS 12 ?_;refine tkS 13 ?_;refine dnA ?_;apply w;refine zY fun _ w=>?_;refine za2 (mB 119 633825300114114700748351614976) ([(99,.v (.bool (clash gx gy)))]) ([]) ?_ ?_
  ·
   refine zaw [(0,1,[.ptr 1 0])] 20 rfl mixed (zhI) rfl ?_;dsimp only;refine tkS 0 ?_;refine tkS 1 ?_;refine tkS 2 ?_;refine tkM 3 0 ?_;refine tkS 4 ?_;refine tkS 6 ?_;refine tkS 7 ?_;refine tkS 8 ?_;refine tkM 9 0 ?_;refine tkS 10 ?_;refine al1 (i:=5) ?_;refine opT fun _ u=>?_;simp only[↓bO,go_sem,seval];refine GCalls.at (zdf S.G j.2.2.2.1 gx hx0 hgx) (.cons (.v _) .nil) (.v _) (i:=1) (j:=2) (k:=3) rfl rfl rfl tz3 tz3 tz3 tz2 tz2 tz2 ?_;simp only[zal,Nat.reduceEqDiff,↓reduceIte];(try simp only[go_sem]);refine u _ ⟨zhI,?_⟩;clear u;refine al1 (i:=11) ?_;refine opT fun _ u=>?_;simp only[↓bO,go_sem,seval];refine GCalls.at (zdf S.G j.2.2.2.2 gy hy0 hgy) (.cons (.v _) .nil) (.v _) (i:=1) (j:=2) (k:=3) rfl rfl rfl tz3 tz3 tz3 tz2 tz2 tz2 ?_;simp only[zal,Nat.reduceEqDiff,↓reduceIte];(try simp only[go_sem]);refine u _ ⟨zhI,?_⟩;clear u;refine alS 12 ?_ (hH:=by exact zhI);refine tkS 13 ?_;refine ziG 93 rfl (fun hc93=>?_) (fun hc93=>?_)
   ·
    simp only[go_sem];have hcl:clash gx gy=true:=clash_eq gx gy hc93;refine zaR 14 rfl tz0 tz0 tz0 (fun _ _ h=>h) tz0 ?_;simp only[go_sem];refine zaR 15 rfl tz0 tz0 tz0 (fun _ _ h=>h) tz0 ?_;simp only[go_sem];refine zaR 16 rfl tz0 tz0 tz0 (fun _ _ h=>h) tz0 ?_;simp only[go_sem];refine zaR 17 rfl tz0 tz0 tz0 (fun _ _ h=>h) tz0 ?_;simp only[go_sem];refine zaR 18 rfl tz0 tz0 tz0 (fun _ _ h=>h) tz0 ?_;simp only[go_sem];refine alS 19 ?_ (hH:=by exact zhI);refine dnA ?_;simp only[go_sem];(try simp only[go_sem,seval]);(first | rw[hcl] | rw[clash]);exact Weak.mk (by first | (simp only[go_sem,Le.refl,Le.any];done) | (simp only[go_sem,clash,hc93,zjU,Bool.false_or,Le.refl,Le.any];done)) (fun _ _ h=>h) rfl rfl
   simp only[go_sem];refine zbJ 14 rfl tz0 tz0 tz0 (fun _ _ h=>h) tz0 fun _ u=>?_;simp only[↓bO,go_sem,seval];apply u;clear u;refine zbJ 15 rfl tz0 tz0 tz0 (fun _ _ h=>h) tz0 fun _ u=>?_;simp only[↓bO,go_sem,seval];apply u;clear u;refine zbJ 16 rfl tz0 tz0 tz0 (fun _ _ h=>h) tz0 fun _ u=>?_;simp only[↓bO,go_sem,seval];apply u;clear u;refine zbJ 17 rfl tz0 tz0 tz0 (fun _ _ h=>h) tz0 fun _ u=>?_;simp only[↓bO,go_sem,seval];apply u;clear u;refine al1 (i:=18) ?_;refine aAt_if rfl fun _ u=>?_;simp only[↓bO,go_sem,seval];refine u _ ⟨zhI,?_⟩;clear u;refine alS 19 ?_ (hH:=by exact zhI);refine dnA ?_;simp only[go_sem];(try simp only[go_sem,seval]);(first | rw[hcl] | rw[clash]);exact Weak.mk (by first | (simp only[go_sem,Le.refl,Le.any];done) | (simp only[go_sem,hc93,zjU,Bool.false_or,Le.refl,Le.any];done)) (fun _ _ h=>h) rfl rfl
  simp only[go_sem,seval];apply z7 rfl <;> intro hb99
  ·
   (have hcl:clash gx gy=true:=by simpa using hb99);refine sqD ?_;apply z8;(try simp only[go_sem]);refine ⟨_,zac 0 (zam ({S with F:=G3,W:=S.W.set r.1 j.2.2.2.1})),⟨({S with F:=G3,W:=S.W.set r.1 j.2.2.2.1},([],false)),?_,rfl,rfl⟩,.tup ⟨.data (zdN _),.v _ _,trivial⟩,zce tz1 _,?_,?_,by omega⟩;· exact ⟨⟨rfl,rfl,r.1,r.2,FJoin.of hj.1 hG3,.inr ⟨by simpa using hb45,j.2.1,j.2.2.1,j.2.2.2.1,j.2.2.2.2,hj.2.1,hj.2.2.1,hj.2.2.2.1,hj.2.2.2.2,.inr ⟨hx0,hy0,rfl,gx,gy,hgx,hgy,.inl ⟨hcl,rfl⟩⟩⟩⟩,rfl⟩
   ·
    exact Le.tup ⟨Le.slNil 2,.refl _,trivial⟩
   first | (refine ⟨0,rfl,rfl⟩) | (refine ⟨0,by simp only[zam,zac,zk,zf,Nat.reduceAdd,List.length_set],rfl⟩)
  (have hcl:clash gx gy=false:=by simpa using hb99);(have hll:gx.parts.length=gy.parts.length:=by have h9:=hcl;simp[clash] at h9;exact h9.2);apply zab;apply w;refine sqD ?_;refine zY fun _ w=>?_;refine sqR fun _ d=>?_;refine chS 2 ?_;simp only[↓bO,go_sem,seval];apply d;apply zaa;refine zaC (Weak.tokSlot 14 108 2 rfl) ?_;simp only[go_sem];refine zah (σ:=Nat) (mB 119 7605903601369376408980219260928) (fun s=>s<=gx.parts.length) (fun s=>[(14,.osl 8 2 (((gx.parts.zip gy.parts).take s).map pC)),(102,.v (.int .i64 (s:Int)))]) (fun s=>[(8,.tok 108 2 s)]) (fun s=>gx.parts.length-s) 0 tz1 ?_ (fun s hs=>?_)
  ·
   simp only[go_sem,seval,bL];exact zaI
  simp only[go_sem,seval];refine sqD ?_;refine zY fun _ d=>?_;apply z7 rfl <;> intro hb103
  ·
   (have hk:s<gx.parts.length:=by simpa using hb103);(have hkk2:s<gy.parts.length:=by omega);obtain ⟨p,hp⟩:∃p,gx.parts[s]?=some p:=⟨_,za hk⟩;obtain ⟨q,hq⟩:∃q,gy.parts[s]?=some q:=⟨_,za hkk2⟩;(have hpq:(gx.parts.zip gy.parts)[s]?=some (p,q):=by rw[List.getElem?_zip_eq_some];exact ⟨hp,hq⟩);have hw:IntKind.i64.wrap ((s:Int)+1)=(s:Int)+1:=zak tz1 tz1;(have hln:(((gx.parts.zip gy.parts).take s).map pC).length=s:=by simp;omega);(have hb1:(s+1) * 16<=140737488355328:=by omega);(have hb2:s+1<=maxLen:=by simp only[maxLen];omega);apply zab;apply d;refine zY fun _ d=>?_;apply zaa;refine sqR fun _ c=>?_;simp only[↓bO,go_sem,seval,hk];apply c;refine zay 11 mixed tz0 fun J0 j0=>?_;(iterate 5 (simp only[go_sem];refine zad 2 fun _ u=>?_;simp only[↓zaz,↓dOp,↓bO,go_sem,seval,hk,hkk2,gM hp,gM hq,intC];apply u;clear u));simp only[go_sem];simp only[↓zaz,↓dOp,↓bO,go_sem,seval,↓zkX];refine j0 _ ?_;clear j0 J0;simp only[go_sem];simp only[↓bO,go_sem,seval,hln,hb1,hb2];apply d;apply z6;simp only[↓bO,go_sem,seval,hw];refine ⟨(s+1),tz1,by omega,?_⟩;simp only[zar,zas,zag,zal,mB,seval,zj,zi,zaJ pC hpq,pC,bL];exact zaI
  (have hk:s=(gx.parts.zip gy.parts).length:=by have h9:=hb103;simp at h9;simp;omega);apply zaj;simp only[zao,zai,zae,bA,Nat.reduceEqDiff,↓reduceIte];apply w;refine sqR fun _ w=>?_;refine chS 2 ?_;simp only[↓bO,go_sem,seval];apply w;apply z8;(try simp only[go_sem]);refine ⟨_,zac 0 (zam ({S with F:=G3,W:=S.W.set r.1 j.2.2.2.1})),⟨({S with F:=G3,W:=S.W.set r.1 j.2.2.2.1},(gx.parts.zip gy.parts,true)),?_,rfl,rfl⟩,.tup ⟨.data (zdN _),.v _ _,trivial⟩,zce tz1 _,?_,?_,by omega⟩;· exact ⟨⟨rfl,rfl,r.1,r.2,FJoin.of hj.1 hG3,.inr ⟨by simpa using hb45,j.2.1,j.2.2.1,j.2.2.2.1,j.2.2.2.2,hj.2.1,hj.2.2.1,hj.2.2.2.1,hj.2.2.2.2,.inr ⟨hx0,hy0,rfl,gx,gy,hgx,hgy,.inr ⟨hcl,rfl⟩⟩⟩⟩,rfl⟩
  ·
   rw[hk,zL];exact Le.tup ⟨Le.oslL,.refl _,trivial⟩
  first | (refine ⟨1,rfl,rfl⟩) | (refine ⟨1,by simp only[zam,zac,zk,zf,Nat.reduceAdd,List.length_set],rfl⟩)
end Go.Proofs.YtpfiliamceimmaaGreatDoor
namespace Go.Proofs.YtpfiliamceimmaaGreatDoor
open Go Go.RowKit
abbrev Sh:=Nat->Option (Int×List Int)
inductive Cl (sh:Sh) (E:List (Nat×Nat)):Nat->Nat->Prop
 | base {a b:Nat} (h:(a,b)∈E):Cl sh E a b
 | refl (i:Nat):Cl sh E i i
 | symm {i k:Nat} (h:Cl sh E i k):Cl sh E k i
 | trans {i k l:Nat} (h:Cl sh E i k) (h2:Cl sh E k l):Cl sh E i l
 | part {i k j:Nat} {c p q:Int} {ps qs:List Int} (h:Cl sh E i k) (hi:sh i=some (c,ps)) (hk:sh k=some (c,qs)) (hc:c≠1) (hl:ps.length=qs.length) (hp:ps[j]?=some p) (hq:qs[j]?=some q):Cl sh E p.toNat q.toNat
def ClashAt (sh:Sh) (i k:Nat):Prop:=∃(c d:Int) (ps qs:List Int),sh i=some (c,ps)/\sh k=some (d,qs)/\c≠1/\d≠1/\(c≠d\/ps.length≠qs.length)
def Clash (sh:Sh) (E:List (Nat×Nat)):Prop:=∃i k:Nat,Cl sh E i k/\ClashAt sh i k
def ShLe (a b:Sh):Prop:=∀i x,a i=some x->b i=some x
theorem Cl.mono {a b:Sh} {E D:List (Nat×Nat)} (hs:ShLe a b) (hE:∀e∈E,e∈D) {i k:Nat} (h:Cl a E i k):Cl b D i k:=by
 induction h with
 | base h=>exact .base (hE _ h)
 | refl i=>exact .refl i
 | symm _ ih=>exact .symm ih
 | trans _ _ ih1 ih2=>exact .trans ih1 ih2
 | part _ hi hk hc hl hp hq ih=>exact .part ih (hs _ _ hi) (hs _ _ hk) hc hl hp hq
theorem Clash.mono {a b:Sh} {E D:List (Nat×Nat)} (hs:ShLe a b) (hE:∀e∈E,e∈D) (h:Clash a E):Clash b D:=by
 obtain ⟨i,k,h,c,d,ps,qs,h1,h2,h3⟩:=h;exact ⟨i,k,h.mono hs hE,c,d,ps,qs,hs _ _ h1,hs _ _ h2,h3⟩
structure Closed (sh:Sh) (E:List (Nat×Nat)) (R:Nat->Nat->Prop):Prop where
 base:∀e∈E,R e.1 e.2
 refl:∀i,R i i
 symm:∀i k,R i k->R k i
 trans:∀i k l,R i k->R k l->R i l
 part:∀(i k j:Nat) (c p q:Int) (ps qs:List Int),R i k->sh i=some (c,ps)->sh k=some (c,qs)->c≠1->ps.length=qs.length->ps[j]?=some p->qs[j]?=some q->R p.toNat q.toNat
theorem Cl.least {sh:Sh} {E:List (Nat×Nat)} {R:Nat->Nat->Prop} (h:Closed sh E R) {i k:Nat} (hc:Cl sh E i k):R i k:=by
 induction hc with
 | base h1=>exact h.base _ h1
 | refl i=>exact h.refl i
 | symm _ ih=>exact h.symm _ _ ih
 | trans _ _ ih1 ih2=>exact h.trans _ _ _ ih1 ih2
 | part _ hi hk hc hl hp hq ih=>exact h.part _ _ _ _ _ _ _ _ ih hi hk hc hl hp hq
inductive Eqv (B:Nat->Nat->Prop):Nat->Nat->Prop
 | base {a b:Nat} (h:B a b):Eqv B a b
 | refl (i:Nat):Eqv B i i
 | symm {i k:Nat} (h:Eqv B i k):Eqv B k i
 | trans {i k l:Nat} (h:Eqv B i k) (h2:Eqv B k l):Eqv B i l
theorem Eqv.lift {B C:Nat->Nat->Prop} (h:∀i k,B i k->Eqv C i k) {i k:Nat} (hc:Eqv B i k):Eqv C i k:=by
 induction hc with
 | base h1=>exact h _ _ h1
 | refl i=>exact .refl i
 | symm _ ih=>exact .symm ih
 | trans _ _ ih1 ih2=>exact .trans ih1 ih2
def One (up:List Nat) (i k:Nat):Prop:=i=k\/∃r,Rt up i r/\Rt up k r
theorem One.symm {up:List Nat} {i k:Nat} (h:One up i k):One up k i:=by
 (rcases h with h | ⟨r,h1,h2⟩);(·exact .inl h.symm);exact .inr ⟨r,h2,h1⟩
theorem One.trans {up:List Nat} {i k l:Nat} (h:One up i k) (h':One up k l):One up i l:=by
 (rcases h with rfl | ⟨r,h1,h2⟩);(·exact h');(rcases h' with rfl | ⟨q,h3,h4⟩);(·exact .inr ⟨r,h1,h2⟩);(cases Rt.det h2 h3);exact .inr ⟨r,h1,h4⟩
def Wt (up:List Nat) (w:List (Int×Int)) (i k:Nat):Prop:=One up i k\/∃p∈w,i=p.1.toNat/\k=p.2.toNat
def Qv (up:List Nat) (w:List (Int×Int)):Nat->Nat->Prop:=Eqv (Wt up w)
theorem Qv.nil {up:List Nat} {i k:Nat} (h:Qv up [] i k):One up i k:=by
 induction h with
 | base h1 =>
  (rcases h1 with h1 | ⟨p,hp,_⟩);·exact h1
  cases hp
 | refl i=>exact .inl rfl
 | symm _ ih=>exact ih.symm
 | trans _ _ ih1 ih2=>exact ih1.trans ih2
theorem Qv.one {up:List Nat} {w:List (Int×Int)} {i k:Nat} (h:One up i k):Qv up w i k:=.base (.inl h)
def shG (G:GS):Sh:=fun i=>(G.N[i]?).map fun x=>(x.k,x.parts)
theorem shG_at {G:GS} {i:Nat} {c:Int} {ps:List Int} (h:shG G i=some (c,ps)):∃x,G.N[i]?=some x/\x.k=c/\x.parts=ps:=by
 unfold shG at h
 cases hx:G.N[i]? with
 | none=>rw[hx] at h;cases h
 | some x=>rw[hx] at h;cases h;exact ⟨x,rfl,rfl,rfl⟩
theorem zdv {G:GS} {i:Nat} {x:GNode} (h:G.N[i]?=some x):shG G i=some (x.k,x.parts):=by unfold shG;rw[h];rfl
structure WInv (E:List (Nat×Nat)) (S:CS) (w:List (Int×Int)):Prop where
 c:CInv S
 wr:∀p∈w,(0<=p.1/\p.1<(S.G.N.length:Int))/\0<=p.2/\p.2<(S.G.N.length:Int)
 sub:∀i k,One S.F.up i k->Cl (shG S.G) E i k
 subw:∀p∈w,Cl (shG S.G) E p.1.toNat p.2.toNat
 ex:∀e∈E,Qv S.F.up w e.1 e.2
 neg:∀(r i:Nat) (x c:Int) (ps:List Int),S.W[r]?=some x->x<0->Rt S.F.up i r->shG S.G i=some (c,ps)->c=1
 pos:∀(r:Nat) (x:Int),Rt S.F.up r r->S.W[r]?=some x->0<=x->Rt S.F.up x.toNat r/\∃c ps,shG S.G x.toNat=some (c,ps)/\c≠1 /\
  ∀(i:Nat) (d:Int) (qs:List Int),Rt S.F.up i r->shG S.G i=some (d,qs)->d≠1->d=c/\qs.length=ps.length/\∀(j:Nat) (p q:Int),ps[j]?=some p->qs[j]?=some q->Qv S.F.up w q.toNat p.toNat
theorem CInv.root {S:CS} (h:CInv S) {i:Nat} (hi:i<S.G.N.length):∃r,Rt S.F.up i r:=by
 obtain ⟨_,H⟩:=h.f.ok;exact H.ex (by have h3:=h.fl;have h4:=h.wl;omega)
theorem CInv.wat {S:CS} (h:CInv S) {i r:Nat} (k:Rt S.F.up i r):∃x,S.W[r]?=some x:=⟨_,za (by have h1:=k.lt;have h3:=h.fl;omega)⟩
theorem WInv.closed {E:List (Nat×Nat)} {S:CS} (h:WInv E S []):Closed (shG S.G) E (One S.F.up):=by
 refine ⟨fun e he=>(h.ex e he).nil,fun i=>.inl rfl,fun _ _ h=>h.symm,fun _ _ _ h k=>h.trans k,?_⟩;intro i k j c p q ps qs hik hi hk hc hl hp hq;(rcases hik with rfl | ⟨r,h1,h2⟩);(·rw[hi] at hk;cases hk;rw[hp] at hq;cases hq;exact .inl rfl);obtain ⟨x,hx⟩:=h.c.wat h1;(rcases Int.lt_or_le x 0 with hx0 | hx0);(·exact absurd (h.neg r i x c ps hx hx0 h1 hi) hc);obtain ⟨_,c2,rs,h4,h5,h6⟩:=h.pos r x (.base h1.root) hx hx0;obtain ⟨e1,e2,e3⟩:=h6 i c ps h1 hi hc;obtain ⟨_,e5,e6⟩:=h6 k c qs h2 hk hc;have hj:=(zb.1 hp).1;have hr:rs[j]?=some (rs[j]'tz1):=za tz1;exact ((e3 j _ _ hr hp).nil).trans ((e6 j _ _ hr hq).nil).symm
theorem WInv.iff {E:List (Nat×Nat)} {S:CS} (h:WInv E S []) (i k:Nat):One S.F.up i k↔Cl (shG S.G) E i k:=⟨h.sub i k,fun hc=>Cl.least h.closed hc⟩
theorem WInv.noClash {E:List (Nat×Nat)} {S:CS} (h:WInv E S []):¬Clash (shG S.G) E:=by
 rintro ⟨i,k,hc,c,d,ps,qs,hi,hk,hc1,hd1,hne⟩;rcases (h.iff i k).2 hc with rfl | ⟨r,h1,h2⟩
 ·rw[hi] at hk;cases hk
  rcases hne with e | e <;> exact e rfl
 obtain ⟨x,hx⟩:=h.c.wat h1;(rcases Int.lt_or_le x 0 with hx0 | hx0);(·exact absurd (h.neg r i x c ps hx hx0 h1 hi) hc1);obtain ⟨_,c2,rs,h4,h5,h6⟩:=h.pos r x (.base h1.root) hx hx0;obtain ⟨e1,e2,_⟩:=h6 i c ps h1 hi hc1;obtain ⟨e4,e5,_⟩:=h6 k d qs h2 hk hd1;(rcases hne with e | e);(·exact e (by rw[e1,e4]));exact e tz1
theorem clash_iff {x y:GNode} (hx:x.k≠1) (hy:y.k≠1) {G:GS} {i k:Nat} (h1:G.N[i]?=some x) (h2:G.N[k]?=some y):clash x y=true->ClashAt (shG G) i k:=fun h=>by
 refine ⟨_,_,_,_,zdv h1,zdv h2,hx,hy,?_⟩;simpa [clash] using h
theorem clash_not {x y:GNode} (h:clash x y=false):x.k=y.k/\x.parts.length=y.parts.length:=by
 simpa [clash] using h
theorem zip_at {α:Type} {a b:List α} {j:Nat} {p q:α} (hp:a[j]?=some p) (hq:b[j]?=some q):(p,q)∈a.zip b:=by
 refine List.mem_iff_getElem?.2 ⟨j,?_⟩;rw[List.getElem?_zip_eq_some];exact ⟨hp,hq⟩
theorem CJoin.shape {S:CS} {a b:Nat} {s:CS×(List (Int×Int)×Bool)} (h:CJoin S a b s) (hc:CInv S):CInv s.1:=by
 obtain ⟨r,two,hF,hx⟩:=h.ex;have hg:=h.g;have hl:=hF.len;have hl:s.1.F.up.length=S.F.up.length:=hl
 have hW:s.1.W=S.W\/∃v:Int,s.1.W=S.W.set r v/\(v=-1\/(0<=v/\v<(S.G.N.length:Int))):=by
  (rcases hx with ⟨_,h1,_⟩ | ⟨_,ra,rb,x,y,_,_,hx,hy,h2⟩);(·exact .inl h1);have hx2:=hc.wr _ (zc hx);have hy2:=hc.wr _ (zc hy);(rcases h2 with ⟨_,h3,_⟩ | ⟨_,_,h3,_⟩);(·exact .inr ⟨_,h3,by omega⟩);exact .inr ⟨_,h3,hx2⟩
 have hWl:s.1.W.length=S.W.length:=by
  (rcases hW with h1 | ⟨v,h1,_⟩ <;> rw[h1]);rw[List.length_set]
 refine ⟨by rw[hg];exact hc.g,hF.inv,by rw[hl,hWl];exact hc.fl,by rw[hWl,hg];exact hc.wl,fun w hw=>?_,by rw[hg];exact hc.pl,by rw[hg];exact hc.pr⟩;rw[hg];(rcases hW with h1 | ⟨v,h1,h2⟩);(·rw[h1] at hw;exact hc.wr w hw);rw[h1] at hw;(rcases List.mem_or_eq_of_mem_set hw with hw | rfl);(·exact hc.wr w hw);exact h2
structure Link (up up':List Nat) (r ra rb:Nat):Prop where
 rt:∀k q,Rt up' k q↔(q=r/\(Rt up k ra\/Rt up k rb))\/(q≠ra/\q≠rb/\Rt up k q)
 r:r=ra\/r=rb
theorem Link.toR {up up':List Nat} {r ra rb k:Nat} (h:Link up up' r ra rb) (hk:Rt up k ra\/Rt up k rb):Rt up' k r:=(h.rt k r).2 (.inl ⟨rfl,hk⟩)
theorem Link.to {up up':List Nat} {r ra rb k q:Nat} (h:Link up up' r ra rb) (hk:Rt up k q):∃q',Rt up' k q'/\(q'=q\/(q'=r/\(q=ra\/q=rb))):=by
 by_cases e1:q=ra
 ·exact ⟨r,h.toR (.inl (e1▸hk)),.inr ⟨rfl,.inl e1⟩⟩
 by_cases e2:q=rb
 (·exact ⟨r,h.toR (.inr (e2▸hk)),.inr ⟨rfl,.inr e2⟩⟩);exact ⟨q,(h.rt k q).2 (.inr ⟨e1,e2,hk⟩),.inl rfl⟩
theorem Link.one {up up':List Nat} {r ra rb i k:Nat} (h:Link up up' r ra rb) (ho:One up i k):One up' i k:=by
 (rcases ho with rfl | ⟨q,h1,h2⟩);(·exact .inl rfl);obtain ⟨q',h3,h4⟩:=h.to h1;obtain ⟨q2,h5,h6⟩:=h.to h2;refine .inr ⟨q',h3,?_⟩
 have:q2=q':=by
  (rcases h4 with h4 | ⟨h4,h7⟩ <;> rcases h6 with h6 | ⟨h6,h8⟩);·rw[h4,h6]
  ·subst h4
   have:=(h.rt i q').1 h3;(rcases this with ⟨e,_⟩ | ⟨e1,e2,_⟩);(·rw[h6,e]);(rcases h8 with e | e);(·exact absurd e e1);exact absurd e e2
  ·subst h6
   have:=(h.rt k q2).1 h5;(rcases this with ⟨e,_⟩ | ⟨e1,e2,_⟩);(·rw[h4,e]);(rcases h7 with e | e);(·exact absurd e e1);exact absurd e e2
  rw[h4,h6]
 exact this▸h5
theorem WInv.link {E:List (Nat×Nat)} {S:CS} {w more:List (Int×Int)} {p q:Int} (h:WInv E S (w++[(p,q)])) {S':CS} {r ra rb:Nat} (hL:Link S.F.up S'.F.up r ra rb) (ha:Rt S.F.up p.toNat ra) (hb:Rt S.F.up q.toNat rb) (hg:S'.G=S.G) :
  (∀i k,One S'.F.up i k->Cl (shG S.G) E i k)/\∀i k,Qv S.F.up (w++[(p,q)]) i k->Qv S'.F.up (w++more) i k:=by
 have hab:Cl (shG S.G) E ra rb:=.trans (.symm (h.sub _ _ (.inr ⟨ra,ha,.base ha.root⟩))) (.trans (h.subw (p,q) tz4) (h.sub _ _ (.inr ⟨rb,hb,.base hb.root⟩)))
 have key:∀i,Rt S'.F.up i r->Cl (shG S.G) E i ra:=fun i hi=>by
  (rcases (hL.rt i r).1 hi with ⟨_,h1 | h1⟩ | ⟨h1,h2,_⟩);(·exact h.sub _ _ (.inr ⟨ra,h1,.base ha.root⟩));(·exact .trans (h.sub _ _ (.inr ⟨rb,h1,.base hb.root⟩)) (.symm hab));(rcases hL.r with e | e);(·exact absurd e h1);exact absurd e h2
 refine ⟨fun i k hik=>?_,fun i k hik=>hik.lift fun i k hik=>?_⟩
 ·rcases hik with rfl | ⟨t,h1,h2⟩
  ·exact .refl _
  by_cases e:t=r
  (·subst e;exact .trans (key i h1) (.symm (key k h2)));(rcases (hL.rt i t).1 h1 with ⟨e1,_⟩ | ⟨_,_,h3⟩);(·exact absurd e1 e);(rcases (hL.rt k t).1 h2 with ⟨e1,_⟩ | ⟨_,_,h4⟩);(·exact absurd e1 e);exact h.sub _ _ (.inr ⟨t,h3,h4⟩)
 (rcases hik with hik | ⟨z,hz,e1,e2⟩);(·exact Qv.one (hL.one hik));(rcases zE.1 hz with hz | hz);(·exact .base (.inr ⟨z,by simp[hz],e1,e2⟩));(simp at hz;subst hz);subst e1;subst e2;exact Qv.one (.inr ⟨r,hL.toR (.inl ha),hL.toR (.inr hb)⟩)
theorem WInv.step {E:List (Nat×Nat)} {S:CS} {w more:List (Int×Int)} {p q:Int} (h:WInv E S (w++[(p,q)])) {S':CS} (hj:CJoin S p.toNat q.toNat (S',(more,true))):WInv E S' (w++more):=by
 have hc:=hj.shape h.c;obtain ⟨hg,hcl,r,two,hF,hx⟩:=hj;dsimp only at hg hcl hF hx hc;obtain ⟨_,_,ra,rb,ha,hb,hF⟩:=hF;dsimp only at hF;rcases hx with ⟨rfl,hW,hm⟩ | ⟨rfl,ra',rb',x,y,ha',hb',hx,hy,h2⟩
 ·rcases hF with ⟨e,_,hrt⟩ | ⟨_,e,_⟩
  rotate_left
  (·cases e);(obtain rfl:more=[]:=by simpa using hm);have hup:∀i k,One S'.F.up i k↔One S.F.up i k:=fun i k=>by unfold One;simp only[hrt]
  have hQ:∀i k,Qv S.F.up (w++[(p,q)]) i k->Qv S'.F.up (w++[]) i k:=fun i k hik=>hik.lift fun i k hik=>by
   (rcases hik with hik | ⟨z,hz,e1,e2⟩);(·exact Qv.one ((hup _ _).2 hik));(rcases zE.1 hz with hz | hz);(·exact .base (.inr ⟨z,by simp[hz],e1,e2⟩));(simp at hz;subst hz;subst e1;subst e2);exact Qv.one ((hup _ _).2 (.inr ⟨ra,ha,e▸hb⟩))
  refine ⟨hc,fun z hz=>?_,fun i k hik=>?_,fun z hz=>?_,fun e he=>hQ _ _ (h.ex e he),?_,?_⟩;(·rw[hg];exact h.wr z (by simp at hz;simp[hz]));(·rw[hg];exact h.sub i k ((hup i k).1 hik));·rw[hg];exact h.subw z (by simp at hz;simp[hz])
  ·intro t i x c ps h1 h2 h3 h4
   rw[hW] at h1;rw[hg] at h4;exact h.neg t i x c ps h1 h2 ((hrt _ _).1 h3) h4
  intro t x h1 h2 h3;rw[hW] at h2;obtain ⟨h4,c,ps,h5,h6,h7⟩:=h.pos t x ((hrt _ _).1 h1) h2 h3;refine ⟨(hrt _ _).2 h4,c,ps,by rw[hg];exact h5,h6,fun i d qs h8 h9 h10=>?_⟩;rw[hg] at h9;obtain ⟨h11,h12,h13⟩:=h7 i d qs ((hrt _ _).1 h8) h9 h10;exact ⟨h11,h12,fun j p q h14 h15=>hQ _ _ (h13 j p q h14 h15)⟩
 (cases ha.det ha');(cases hb.det hb');(rcases hF with ⟨_,e,_⟩ | ⟨hne,_,hr,hrt⟩);(·cases e);have hL:Link S.F.up S'.F.up r ra rb:=⟨hrt,hr⟩;obtain ⟨hsub,hQ⟩:=h.link (more:=more) hL ha hb hg;have haa:Rt S.F.up ra ra:=.base ha.root;have hbb:Rt S.F.up rb rb:=.base hb.root
 have hrl:r<S.W.length:=by
  (rcases hr with rfl | rfl);(·exact (zb.1 hx).1);exact (zb.1 hy).1
 have hold:∀t i,t≠r->Rt S'.F.up i t->t≠ra/\t≠rb/\Rt S.F.up i t:=fun t i ht hi=>by
  (rcases (hrt i t).1 hi with ⟨e1,_⟩ | h3);(·exact absurd e1 ht);exact h3
 have hrr:∀i,Rt S'.F.up i r->Rt S.F.up i ra\/Rt S.F.up i rb:=fun i hi=>by
  (rcases (hrt i r).1 hi with ⟨_,h3⟩ | ⟨h3,h4,_⟩);(·exact h3);(rcases hr with e | e);(·exact absurd e h3);exact absurd e h4
 -- what holds behind the change,whatever stands at the new root
 have fin:∀v:Int,S'.W=S.W.set r v->(∀z∈more,((0<=z.1/\z.1<(S.G.N.length:Int))/\0<=z.2/\z.2<(S.G.N.length:Int))/\Cl (shG S.G) E z.1.toNat z.2.toNat) ->
   (v<0->x<0/\y<0)->(0<=v->Rt S'.F.up v.toNat r/\∃c ps,shG S.G v.toNat=some (c,ps)/\c≠1/\∀(i:Nat) (d:Int) (qs:List Int),Rt S'.F.up i r->shG S.G i=some (d,qs)->d≠1->d=c/\qs.length=ps.length/\∀(j:Nat) (p q:Int),ps[j]?=some p->qs[j]?=some q->Qv S'.F.up (w++more) q.toNat p.toNat) ->
   WInv E S' (w++more):=by
  intro v hW hmore hneg hpos;refine ⟨hc,fun z hz=>?_,fun i k hik=>by rw[hg];exact hsub i k hik,fun z hz=>?_,fun e he=>hQ _ _ (h.ex e he),?_,?_⟩
  ·rw[hg]
   (rcases zE.1 hz with hz | hz);(·exact h.wr z (by simp[hz]));exact (hmore z hz).1
  ·rw[hg]
   (rcases zE.1 hz with hz | hz);(·exact h.subw z (by simp[hz]));exact (hmore z hz).2
  ·intro t i u c ps h1 h2 h3 h4
   rw[hW] at h1;rw[hg] at h4
   by_cases e:t=r
   ·subst e
    rw[List.getElem?_set_self hrl] at h1;(cases h1);obtain ⟨hx0,hy0⟩:=hneg h2;(rcases hrr i h3 with h5 | h5);(·exact h.neg ra i x c ps hx hx0 h5 h4);exact h.neg rb i y c ps hy hy0 h5 h4
   rw[List.getElem?_set_ne (fun e2=>e e2.symm)] at h1;exact h.neg t i u c ps h1 h2 (hold t i e h3).2.2 h4
  intro t u h1 h2 h3;rw[hW] at h2;rw[hg]
  by_cases e:t=r
  ·subst e
   rw[List.getElem?_set_self hrl] at h2;(cases h2);exact hpos h3
  rw[List.getElem?_set_ne (fun e2=>e e2.symm)] at h2;obtain ⟨e1,e2,h1o⟩:=hold t t e h1;obtain ⟨h4,c,ps,h5,h6,h7⟩:=h.pos t u h1o h2 h3;refine ⟨(hrt _ _).2 (.inr ⟨e1,e2,h4⟩),c,ps,h5,h6,fun i d qs h8 h9 h10=>?_⟩;obtain ⟨h11,h12,h13⟩:=h7 i d qs (hold t i e h8).2.2 h9 h10;exact ⟨h11,h12,fun j p q h14 h15=>hQ _ _ (h13 j p q h14 h15)⟩
 rcases h2 with ⟨hor,hW,hm⟩ | ⟨hx0,hy0,hW,gx,gy,hgx,hgy,hcl2⟩
 ·obtain rfl:more=[]:=by simpa using hm
  refine fin _ hW tz4 (fun h9=>by omega) fun hv=>?_;rcases Int.lt_or_le x 0 with hx0 | hx0
  ·have hmax:max x y=y:=by omega
   rw[hmax] at hv ⊢;obtain ⟨h4,c,ps,h5,h6,h7⟩:=h.pos rb y hbb hy hv;refine ⟨hL.toR (.inr h4),c,ps,h5,h6,fun i d qs h8 h9 h10=>?_⟩;(rcases hrr i h8 with h11 | h11);(·exact absurd (h.neg ra i x d qs hx hx0 h11 h9) h10);obtain ⟨h12,h13,h14⟩:=h7 i d qs h11 h9 h10;exact ⟨h12,h13,fun j p q h15 h16=>hQ _ _ (h14 j p q h15 h16)⟩
  (have hy0:y<0:=by omega);(have hmax:max x y=x:=by omega);rw[hmax] at hv ⊢;obtain ⟨h4,c,ps,h5,h6,h7⟩:=h.pos ra x haa hx hv;refine ⟨hL.toR (.inl h4),c,ps,h5,h6,fun i d qs h8 h9 h10=>?_⟩;rcases hrr i h8 with h11 | h11
  ·obtain ⟨h12,h13,h14⟩:=h7 i d qs h11 h9 h10
   exact ⟨h12,h13,fun j p q h15 h16=>hQ _ _ (h14 j p q h15 h16)⟩
  exact absurd (h.neg rb i y d qs hy hy0 h11 h9) h10
 (rcases hcl2 with ⟨_,e⟩ | ⟨hcl2,e⟩);(·cases e);(obtain rfl:more=gx.parts.zip gy.parts:=by simpa using e);obtain ⟨hk,hl⟩:=clash_not hcl2;obtain ⟨h4,c,ps,h5,h6,h7⟩:=h.pos ra x haa hx hx0;obtain ⟨h4',c',ps',h5',h6',h7'⟩:=h.pos rb y hbb hy hy0;have ex:=zdv hgx;have ey:=zdv hgy;rw[h5] at ex;cases ex;rw[h5'] at ey;cases ey
 have hxy:Cl (shG S.G) E x.toNat y.toNat:=by
  have h8:=h.sub _ _ (.inr ⟨ra,h4,ha⟩);have h9:=h.sub _ _ (.inr ⟨rb,hb,h4'⟩);exact .trans h8 (.trans (h.subw (p,q) tz4) h9)
 refine fin _ hW (fun z hz=>?_) (fun h9=>by omega) fun _=>?_
 ·obtain ⟨j,hj⟩:=List.mem_iff_getElem?.1 hz
  obtain ⟨z1,z2⟩:=z;rw[List.getElem?_zip_eq_some] at hj;refine ⟨⟨h.c.pr gx (zc hgx) _ (zc hj.1),h.c.pr gy (zc hgy) _ (zc hj.2)⟩,?_⟩;refine .part hxy h5 ?_ h6 hl hj.1 hj.2;rw[h5',hk]
 refine ⟨hL.toR (.inl h4),_,_,h5,h6,fun i d qs h8 h9 h10=>?_⟩;rcases hrr i h8 with h11 | h11
 ·obtain ⟨h12,h13,h14⟩:=h7 i d qs h11 h9 h10
  exact ⟨h12,h13,fun j p q h15 h16=>hQ _ _ (h14 j p q h15 h16)⟩
 obtain ⟨h12,h13,h14⟩:=h7' i d qs h11 h9 h10;refine ⟨by rw[h12,hk],by rw[h13,hl],fun j p q h15 h16=>?_⟩;have hj:=(zb.1 h15).1;have h17:gy.parts[j]?=some (gy.parts[j]'tz1):=za tz1;refine .trans (hQ _ _ (h14 j _ q h17 h16)) (.symm (.base (.inr ⟨(p,_),?_,rfl,rfl⟩)));exact zE.2 (.inr (zip_at h15 h17))
theorem WInv.bad {E:List (Nat×Nat)} {S:CS} {w more:List (Int×Int)} {p q:Int} (h:WInv E S (w++[(p,q)])) {S':CS} (hj:CJoin S p.toNat q.toNat (S',(more,false))):Clash (shG S.G) E:=by
 obtain ⟨hg,hcl,r,two,hF,hx⟩:=hj;dsimp only at hg hcl hF hx;(rcases hx with ⟨_,_,hm⟩ | ⟨rfl,ra,rb,x,y,ha,hb,hx,hy,h2⟩);(·cases hm);(rcases h2 with ⟨_,_,hm⟩ | ⟨hx0,hy0,hW,gx,gy,hgx,hgy,hcl2⟩);(·cases hm);rcases hcl2 with ⟨hcl2,_⟩ | ⟨_,e⟩
 rotate_left
 (·cases e);obtain ⟨h4,c,ps,h5,h6,_⟩:=h.pos ra x (.base ha.root) hx hx0;obtain ⟨h4',c',ps',h5',h6',_⟩:=h.pos rb y (.base hb.root) hy hy0;have ex:=zdv hgx;have ey:=zdv hgy;rw[h5] at ex;cases ex;rw[h5'] at ey;cases ey;refine ⟨x.toNat,y.toNat,?_,clash_iff h6 h6' hgx hgy hcl2⟩;exact .trans (h.sub _ _ (.inr ⟨ra,h4,ha⟩)) (.trans (h.subw (p,q) tz4) (h.sub _ _ (.inr ⟨rb,hb,h4'⟩)))
def za3 (up:List Nat):Nat:=(List.range up.length).countP fun i=>decide (up[i]?=some i)
theorem zfm {α:Type} {p q:α->Bool}:∀{l:List α},(∀x∈l,p x=true->q x=true)->(∃x∈l,q x=true/\p x=false)->l.countP p<l.countP q
 | [],_,h=>by obtain ⟨_,h,_⟩:=h;cases h
 | a::l,h,hx=>by
  obtain ⟨x,hx,h1,h2⟩:=hx;(have hm:l.countP p<=l.countP q:=List.countP_mono_left fun x hx=>h x (by simp[hx]));simp only[List.countP_cons];(rcases zI.1 hx with rfl | hx);(·rw[h1,h2];simp;omega);have:=zfm (l:=l) (fun x hx=>h x (by simp[hx])) ⟨x,hx,h1,h2⟩;have h3:=h a tz4;(cases hp:p a <;> cases hq:q a);(·simpa using this);(·simp;omega);(·rw[h3 hp] at hq;cases hq);simpa using this
theorem zbX {up:List Nat} {i:Nat}:up[i]?=some i↔Rt up i i:=⟨.base,Rt.root⟩
theorem ziX {up up':List Nat} (hl:up'.length=up.length) (h:∀k q,Rt up' k q↔Rt up k q):za3 up'=za3 up:=by
 unfold za3;rw[hl];refine List.countP_congr fun i _=>?_;simp only[zd,zbX,h]
theorem zjc {up up':List Nat} {r ra rb:Nat} (hl:up'.length=up.length) (h:Link up up' r ra rb) (hne:ra≠rb) (ha:Rt up ra ra) (hb:Rt up rb rb):za3 up'<za3 up:=by
 unfold za3;rw[hl];refine zfm (fun i _ hi=>?_) ?_
 ·simp only[zd,zbX] at hi ⊢
  rcases (h.rt i i).1 hi with ⟨e,_⟩ | ⟨_,_,h1⟩
  ·rcases h.r with e2 | e2
   (·rw[e,e2];exact ha);rw[e,e2];exact hb
  exact h1
 have key:∀z,Rt up z z->z≠r->(z=ra\/z=rb)->∃x∈List.range up.length,decide (up[x]?=some x)=true/\decide (up'[x]?=some x)=false:=fun z hz hzr hzz=>by
  refine ⟨z,List.mem_range.2 hz.lt,by simpa [zbX] using hz,?_⟩;simp only[ze,zbX];intro h9;(rcases (h.rt z z).1 h9 with ⟨e,_⟩ | ⟨e1,e2,_⟩);(·exact hzr e);(rcases hzz with e | e);(·exact e1 e);exact e2 e
 (rcases h.r with e | e);(·exact key rb hb (fun e2=>hne (by rw[e2,e])) (.inr rfl));exact key ra ha (fun e2=>hne (by rw[e2,e])) (.inl rfl)
theorem WInv.less {E:List (Nat×Nat)} {S:CS} {w more:List (Int×Int)} {p q:Int} (h:WInv E S (w++[(p,q)])) {S':CS} {ok:Bool} (hj:CJoin S p.toNat q.toNat (S',(more,ok))) :
  9 * za3 S'.F.up+(w++more).length<9 * za3 S.F.up+(w++[(p,q)]).length:=by
 obtain ⟨hg,hcl,r,two,hF,hx⟩:=hj;dsimp only at hg hcl hF hx;obtain ⟨_,hlen,ra,rb,ha,hb,hF⟩:=hF;dsimp only at hF hlen;simp only[zh,zy,zH];rcases hx with ⟨rfl,hW,hm⟩ | ⟨rfl,ra',rb',x,y,ha',hb',hx,hy,h2⟩
 ·rcases hF with ⟨e,_,hrt⟩ | ⟨_,e,_⟩
  rotate_left
  (·cases e);rw[ziX hlen hrt];(have:more=[]:=by simpa using (congrArg Prod.fst hm));rw[this];simp
 (rcases hF with ⟨_,e,_⟩ | ⟨hne,_,hr,hrt⟩);(·cases e);have:=zjc hlen ⟨hrt,hr⟩ hne (.base ha.root) (.base hb.root)
 have hml:more.length<=8:=by
  rcases h2 with ⟨_,_,hm⟩ | ⟨_,_,_,gx,gy,hgx,_,hcl2⟩
  ·have:more=[]:=by simpa using (congrArg Prod.fst hm)
   rw[this];simp
  rcases hcl2 with ⟨_,e⟩ | ⟨_,e⟩
  ·have:more=[]:=by simpa using (congrArg Prod.fst e)
   rw[this];simp
  (have:more=gx.parts.zip gy.parts:=by simpa using (congrArg Prod.fst e));rw[this,List.length_zip];have:=h.c.pl gx (zc hgx);omega
 omega
end Go.Proofs.YtpfiliamceimmaaGreatDoor
namespace Go.Proofs.YtpfiliamceimmaaGreatDoor
open Go
theorem zfE {α:Type} {g:α->Bool} {l:List α} {r:α} (h:g r=false):zbo g (l++[r])=zbo g l:=by
 unfold zbo;simp only[List.any_append,List.any_cons,List.any_nil,h,Bool.or_false];split
 ·rename_i ha
  have:l.findIdx g<l.length:=List.findIdx_lt_length_of_exists (by simpa using ha);rw[List.findIdx_append,if_pos this]
 rfl
theorem zhZ {α:Type} {g:α->Bool} {l:List α} {r:α} (h:g r=true) (hl:zbo g l=-1):zbo g (l++[r])=(l.length:Int):=by
 have ha:l.any g=false:=by
  cases ha:l.any g with
  | false=>rfl
  | true=>rw[zbo,if_pos ha] at hl;omega
 refine zaK (p:=r) tz4 h fun j q hj hq=>?_;rw[zx hj] at hq
 cases hg:g q with
 | false=>rfl
 | true =>
  have:l.any g=true:=zc9 hq hg;rw[ha] at this;cases this
theorem zdA {α:Type} {g:α->Bool} {l:List α} (h:0<=zbo g l):∃r,l[(zbo g l).toNat]?=some r/\g r=true:=by
 unfold zbo at h ⊢;split at h
 ·rename_i ha
  rw[if_pos ha];have hlt:l.findIdx g<l.length:=List.findIdx_lt_length_of_exists (by simpa using ha);exact ⟨l[l.findIdx g],by simp[hlt],List.findIdx_getElem⟩
 omega
theorem zfY {k k' x:Int} (h:k≠k'):∀V:List (Int×Int),zau (zgV V k x) k'=zau V k'
 | []=>by simp[zgV,zau,h]
 | (a,b)::V=>by
  simp only[zgV];split;(·rename_i e;subst e;simp[zau,h]);simp only[zau];split;(·rfl);exact zfY h V
structure Rel (G:GS) (m:List RNode):Prop where
 len:G.N.length=m.length
 node:∀(i:Nat) (x:GNode) (r:RNode),G.N[i]?=some x->m[i]?=some r->x.k=r.t.k/\x.n=r.t.n/\x.parts=r.parts/\x.size=r.t.cnt/\r.t.cnt<=400/\r.t.right=true/\r.parts.length=r.t.ps.length /\
  ∀(j:Nat) (p:Int) (q:Ty),r.parts[j]?=some p->r.t.ps[j]?=some q->0<=p/\p<(i:Int)/\(m[p.toNat]?).map RNode.t=some q
 vars:∀n,(zau G.V n=none/\zbo (RNode.isVar n) m=-1)\/∃k,zau G.V n=some k/\zbo (RNode.isVar n) m=k/\0<=k
def Pre (m m':List RNode):Prop:=∃l,m'=m++l
theorem Pre.refl (m:List RNode):Pre m m:=⟨[],by simp⟩
theorem Pre.trans {a b c:List RNode} (h:Pre a b) (k:Pre b c):Pre a c:=by
 obtain ⟨l,rfl⟩:=h;obtain ⟨l',rfl⟩:=k;exact ⟨l++l',by simp⟩
theorem Pre.get {m m':List RNode} (h:Pre m m') {i:Nat} {q:Ty} (hq:(m[i]?).map RNode.t=some q):(m'[i]?).map RNode.t=some q:=by
 obtain ⟨l,rfl⟩:=h
 cases hm:m[i]? with
 | none=>rw[hm] at hq;cases hq
 | some r=>rw[zx (zb.1 hm).1];exact hq
theorem Pre.len {m m':List RNode} (h:Pre m m'):m.length<=m'.length:=by obtain ⟨l,rfl⟩:=h;simp
theorem zkA {N:List GNode}:∀(ps:List Int) (qs:List Ty) (a:Int),ps.length=qs.length->(∀(j:Nat) (p:Int) (q:Ty),ps[j]?=some p->qs[j]?=some q->(N[p.toNat]?).map GNode.size=some (q.cnt:Int)) ->
  0<=a->a+Ty.cntL qs<=1099511627776->zd8 N a ps=a+Ty.cntL qs
 | [],[],a,_,_,_,_=>by simp[zd8,Ty.cntL]
 | p::ps,q::qs,a,hl,h,ha,hb=>by
  simp only[Ty.cntL] at hb ⊢;have h0:=h 0 p q rfl rfl;simp only[zd8,h0,Option.getD_some];rw[show min 1099511627776 (a+(q.cnt:Int))=a+q.cnt by omega,zkA ps qs _ (by simpa using hl) (fun j p q hp hq=>h (j+1) p q (by simpa using hp) (by simpa using hq)) tz1 tz1]
  omega
 | [],_::_,_,hl,_,_,_=>by simp at hl
 | _::_,[],_,hl,_,_,_=>by simp at hl
theorem Rel.snoc {G:GS} {m:List RNode} (h:Rel G m) (T:Ty) (l:List Int) (V':List (Int×Int)) (hc:T.cnt<=400) (hr:T.right=true) (hl:l.length=T.ps.length)
  (hp:∀(j:Nat) (p:Int) (q:Ty),l[j]?=some p->T.ps[j]?=some q->0<=p/\(m[p.toNat]?).map RNode.t=some q)
  (hV:∀n,(zau V' n=none/\zbo (RNode.isVar n) (m++[⟨T,l⟩])=-1)\/∃k,zau V' n=some k/\zbo (RNode.isVar n) (m++[⟨T,l⟩])=k/\0<=k) :
  Rel ⟨G.N++[⟨T.k,T.n,T.cnt,l⟩],V'⟩ (m++[⟨T,l⟩]):=by
 refine ⟨by simp[h.len],fun i x r hx hrr=>?_,hV⟩;have hlen:=h.len;rcases zB i m.length with hi | hi
 ·simp only at hx
  rw[zx tz1] at hx;rw[zx hi] at hrr;obtain ⟨h1,h2,h3,h4,h5,h6,h7,h8⟩:=h.node i x r hx hrr;refine ⟨h1,h2,h3,h4,h5,h6,h7,fun j p q hj hq=>?_⟩;obtain ⟨h9,h10,h11⟩:=h8 j p q hj hq;exact ⟨h9,h10,Pre.get ⟨_,rfl⟩ h11⟩
 (simp only at hx);rw[zK tz1] at hx;rw[zK hi] at hrr;(have hi0:i-m.length=0:=by have:=(zb.1 hrr).1;simp at this;omega);rw[hi0] at hrr;rw[show i-G.N.length=0 by omega] at hx;(simp at hx hrr);subst hx;subst hrr;refine ⟨rfl,rfl,rfl,rfl,hc,hr,hl,fun j p q hj hq=>?_⟩;obtain ⟨h9,h11⟩:=hp j p q hj hq;refine ⟨h9,?_,Pre.get ⟨_,rfl⟩ h11⟩
 cases hm:m[p.toNat]? with
 | none=>rw[hm] at h11;cases h11
 | some r=>have:=(zb.1 hm).1;omega
theorem okN_var {n:Int} {l:Nat} {k:Int} (h:okN k n l=true) (hk:k=1):l=0:=by
 simp only[okN,zd] at h;omega
theorem okN_zero {n:Int} {l:Nat} {k:Int} (h:okN k n l=true) (hk:¬k=1):n=0:=by
 simp only[okN,zd] at h;omega
theorem Ty.right_ok {t:Ty} (h:t.right=true):okN t.k t.n t.ps.length=true/\∀p∈t.ps,p.right=true:=by
 rw[Ty.right_eq,zw,zN] at h;exact h
theorem Ty.var_eq {t:Ty} (h:t.right=true) (hk:t.k=1):t=.mk 1 t.n []:=by
 obtain ⟨h1,_⟩:=t.right_ok h;have:=okN_var h1 hk;obtain ⟨k,n,ps⟩:=t;simp only[Ty.k,Ty.ps] at hk this;rw[hk,List.length_eq_zero_iff.1 this];rfl
structure RelStep (T:Ty) (G:GS) (m:List RNode):Prop where
 rel:Rel (T.gadd G).1 (T.radd m).1
 same:(T.gadd G).2=(T.radd m).2
 ge:0<=(T.radd m).2
 at':((T.radd m).1[(T.radd m).2.toNat]?).map RNode.t=some T
 pre:Pre m (T.radd m).1
theorem zgW:∀(ps:List Ty) (_:∀p∈ps,∀(G:GS) (m:List RNode),Rel G m->RelStep p G m) (G:GS) (m:List RNode) (l:List Int),Rel G m ->
  Rel (Ty.gaddL ps G l).1 (Ty.raddL ps m l).1/\(Ty.gaddL ps G l).2=(Ty.raddL ps m l).2/\Pre m (Ty.raddL ps m l).1 /\
  ∃l',(Ty.raddL ps m l).2=l++l'/\l'.length=ps.length/\∀(j:Nat) (p:Int) (q:Ty),l'[j]?=some p->ps[j]?=some q->0<=p/\((Ty.raddL ps m l).1[p.toNat]?).map RNode.t=some q
 | [],_,G,m,l,h=>⟨h,rfl,.refl m,[],by simp[Ty.raddL],rfl,by simp⟩
 | p::ps,hp,G,m,l,h=>by
  have s:=hp p tz4 G m h;obtain ⟨h1,h2,h3,l',h4,h5,h6⟩:=zgW ps (fun q hq=>hp q (by simp[hq])) (p.gadd G).1 (p.radd m).1 (l++[(p.gadd G).2]) s.rel;simp only[Ty.gaddL,Ty.raddL];rw[<- s.same];refine ⟨h1,h2,s.pre.trans h3,(p.gadd G).2::l',by rw[h4];simp,by simp[h5],fun j a q ha hq=>?_⟩
  cases j with
  | zero =>
   (simp at ha hq;subst ha;subst hq);have e:=s.same
   exact ⟨by rw[e];exact s.ge,by have h9:=h3.get s.at';rw[<- e] at h9;exact h9⟩
  | succ j=>exact h6 j a q (by simpa using ha) (by simpa using hq)
theorem Ty.cnt_le_mem {t p:Ty} (h:p∈t.ps):p.cnt<=t.cnt:=by
 have:=Ty.cnt_mem h;rw[t.cnt_eq];omega
theorem zbu:∀(T:Ty),T.right=true->T.cnt<=400->∀(G:GS) (m:List RNode),Rel G m->RelStep T G m:=by
 refine Ty.ind fun T ih=>?_;intro hr hc G m h;obtain ⟨hok,hps⟩:=T.right_ok hr
 by_cases hk:T.k=1
 ·have hT:=T.var_eq hr hk
  (have hps0:T.ps=[]:=by rw[hT];rfl);(have hcn:T.cnt=1:=by rw[T.cnt_eq,hps0];simp[Ty.cntL]);rcases h.vars T.n with ⟨hv,hi⟩ | ⟨k,hv,hi,h0⟩
  ·have eg:T.gadd G=((⟨G.N++[⟨T.k,T.n,1,[]⟩],zgV G.V T.n G.N.length⟩:GS),(G.N.length:Int)):=by rw[Ty.gadd_var hk,hv]
   (have em:T.radd m=(m++[⟨T,[]⟩],(m.length:Int)):=by rw[Ty.radd_eq,if_neg tz1,hps0];rfl);refine ⟨?_,?_,?_,?_,?_⟩
   ·rw[eg,em]
    have:=h.snoc T [] (zgV G.V T.n G.N.length) hc hr (by rw[hps0];rfl) tz4 (fun n=>?_);·rw[hcn] at this;exact this
    by_cases hn:T.n=n
    ·subst hn
     refine .inr ⟨G.N.length,zes _ _ _,?_,by omega⟩;rw[zhZ (by simp[RNode.isVar,hk]) hi,h.len]
    rw[zfY hn,zfE (by simp[RNode.isVar,hn])];exact h.vars n
   (·rw[eg,em];simp[h.len]);(·rw[em];simp);(·rw[em];simp);rw[em];exact ⟨_,rfl⟩
  (have eg:T.gadd G=(G,k):=by rw[Ty.gadd_var hk,hv]);(have em:T.radd m=(m,k):=by rw[Ty.radd_eq,hi,if_pos ⟨hk,h0⟩]);refine ⟨by rw[eg,em];exact h,by rw[eg,em],by rw[em];exact h0,?_,by rw[em];exact .refl m⟩;rw[em];obtain ⟨r,hr1,hr2⟩:=zdA (g:=RNode.isVar T.n) (l:=m) tz1;rw[hi] at hr1;simp only[hr1,Option.map_some];simp only[RNode.isVar,zw,beq_iff_eq] at hr2;have hlt:=(zb.1 hr1).1;obtain ⟨x,hx⟩:∃x,G.N[k.toNat]?=some x:=⟨_,za (by rw[h.len];exact hlt)⟩;have hrr:=(h.node _ x r hx hr1).2.2.2.2.2.1;rw[Ty.var_eq hrr hr2.1,hr2.2,<- hT]
 have hn:=okN_zero hok hk;obtain ⟨h1,h2,h3,l',h4,h5,h6⟩:=zgW T.ps (fun p hp=>ih p hp (hps p hp) (Nat.le_trans (Ty.cnt_le_mem hp) hc)) G m [] h;simp only[zA] at h4;have em:T.radd m=((Ty.raddL T.ps m []).1++[⟨T,l'⟩],((Ty.raddL T.ps m []).1.length:Int)):=by rw[Ty.radd_eq,if_neg tz1,h4]
 have hsz:zd8 (Ty.gaddL T.ps G []).1.N 1 l'=T.cnt:=by
  have:=zkA (N:=(Ty.gaddL T.ps G []).1.N) l' T.ps 1 h5 (fun j p q hj hq=>by
   obtain ⟨h7,h8⟩:=h6 j p q hj hq
   cases hm:(Ty.raddL T.ps m []).1[p.toNat]? with
   | none=>rw[hm] at h8;cases h8
   | some r =>
    rw[hm] at h8;cases h8;have hlt:=(zb.1 hm).1;obtain ⟨x,hx⟩:∃x,(Ty.gaddL T.ps G []).1.N[p.toNat]?=some x:=⟨_,za (by rw[h1.len];exact hlt)⟩;rw[hx]
    simp only[Option.map_some,(h1.node _ x r hx hm).2.2.2.1]) tz1 (by have:=T.cnt_eq;omega)
  rw[this,T.cnt_eq];omega
 (have eg:T.gadd G=((⟨(Ty.gaddL T.ps G []).1.N++[⟨T.k,T.n,T.cnt,l'⟩],(Ty.gaddL T.ps G []).1.V⟩:GS),((Ty.gaddL T.ps G []).1.N.length:Int)):=by rw[Ty.gadd_more hk,h2,h4,hsz,hn]);refine ⟨?_,?_,?_,?_,?_⟩
 ·rw[eg,em]
  refine h1.snoc T l' _ hc hr h5 h6 fun n=>?_;rw[zfE (by simp[RNode.isVar,hk])];exact h1.vars n
 (·rw[eg,em];simp[h1.len]);(·rw[em];simp);(·rw[em];simp);rw[em];exact h3.trans ⟨_,rfl⟩
theorem Rel.wf {G:GS} {m:List RNode} (h:Rel G m):GWf G.N:=by
 intro j x hx;have hlt:=(zb.1 hx).1;obtain ⟨r,hr⟩:∃r,m[j]?=some r:=⟨_,za (by rw[<- h.len];exact hlt)⟩;obtain ⟨h1,h2,h3,h4,h5,h6,h7,h8⟩:=h.node j x r hx hr;rw[h3];refine ⟨fun p hp=>?_,?_⟩
 ·obtain ⟨k,hk,e⟩:=zU.1 hp
  have h9:=h8 k p (r.t.ps[k]'tz1) (by rw[za hk,e]) (za tz1);exact ⟨h9.1,h9.2.1⟩
 have:=Ty.cntL_len r.t.ps;have:=r.t.cnt_eq;omega
theorem Rel.empty:Rel ⟨[],[]⟩ []:=⟨rfl,by simp,fun n=>.inl ⟨rfl,rfl⟩⟩
theorem GInv.empty:GInv ⟨[],[]⟩:=⟨by simp,by simp⟩
structure BS where
 G:GS
 m:List RNode
 l:List Int
def bStep (b:BS) (t:Ty):BS:=if t.right=true then ⟨(t.gadd b.G).1,(t.radd b.m).1,b.l++[(t.radd b.m).2]⟩ else b
structure BInv (b:BS) (ts:List Ty):Prop where
 inv:GInv b.G
 rel:Rel b.G b.m
 len:b.G.N.length<=Ty.cntL ts
 llen:b.l.length=(ts.filter Ty.right).length
 at':∀(j:Nat) (p:Int) (q:Ty),b.l[j]?=some p->(ts.filter Ty.right)[j]?=some q->0<=p/\(b.m[p.toNat]?).map RNode.t=some q
end Go.Proofs.YtpfiliamceimmaaGreatDoor
