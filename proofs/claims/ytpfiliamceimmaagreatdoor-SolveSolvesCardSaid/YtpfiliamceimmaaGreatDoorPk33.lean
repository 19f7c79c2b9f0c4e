/- packed, part 33 of 48. Conditions: none. -/
import Derived.Test.YtpfiliamceimmaaGreatDoorPk32
set_option linter.unusedVariables false
set_option linter.unusedSimpArgs false
set_option maxRecDepth 100000
set_option maxHeartbeats 4000000
namespace Go.Proofs.YtpfiliamceimmaaGreatDoor
open Go Go.RowKit
attribute [local irreducible] aops zaA
theorem FAdd_f (F:FS) (hn:F.up.length<1048576) (hl:F.rank.length=F.up.length):FCalls (σ:=Unit) 142 [.ptr 0 0] (F) (fun s=>s.1=⟨F.up++[F.up.length],F.rank++[0],IntKind.i64.wrap (F.sets+1),F.steps⟩) (fun s=>.v (.int .i64 (F.up.length:Int))):=by
  refine ACalls.clean (C:=fun r os=>∃s:FS×Unit,(s.1=⟨F.up++[F.up.length],F.rank++[0],IntKind.i64.wrap (F.sets+1),F.steps⟩)/\r=(fun s:Unit=>.v (.int .i64 (F.up.length:Int))) s.2/\os=zad 0 (zcY s.1)) ?_;refine aIn Tryz.func142 fun hm=>?_;simp only[Tryz.ntmps142,Tryz.results142,go_sem,seval];simp only[zcY,zad,Nat.reduceAdd];(have hb1:(F.up.length+1) * 8<=140737488355328:=by omega);(have hb2:F.up.length+1<=maxLen:=by simp only[maxLen];omega);(have hb3:(F.rank.length+1) * 8<=140737488355328:=by omega);(have hb4:F.rank.length+1<=maxLen:=by simp only[maxLen];omega);refine sqD ?_;refine z6 fun _ y=>?_;refine sqR fun _ u=>?_;refine chS 3 ?_;simp only[go_sem];refine zag 6 rfl (fun hc6=>?_) (fun hc6=>?_)
  ·
   simp only[go_sem];cases hc6
  (iterate 2 (refine chS 3 ?_));simp only[↓bO,go_sem,seval];apply u;apply z8 rfl <;> intro hb13
  ·
   exact absurd hb13 tz8
  apply zaa;apply y;refine sqR fun _ y=>?_;refine chS 3 ?_;simp only[↓bO,go_sem,seval];apply y;refine sqR fun _ y=>?_;(iterate 2 (refine chS 3 ?_));refine chS 3 ?_ (by intro _ q;simp only[↓bO,go_sem,seval,↓zcQ,hb1,hb2,pushNC];exact q);simp only[↓bO,go_sem,seval];apply y;refine sqR fun _ y=>?_;refine chS 3 ?_;refine chS 3 ?_ (by intro _ q;simp only[↓bO,go_sem,seval,↓zcQ];exact q);refine chS 3 ?_ (by intro _ q;simp only[↓bO,go_sem,seval,hb3,hb4,pushIC];exact q);simp only[↓bO,go_sem,seval];apply y;refine sqR fun _ y=>?_;(iterate 2 (refine chS 3 ?_));simp only[↓bO,go_sem,seval];apply y;refine sqD ?_;apply zab;(try simp only[go_sem]);refine ⟨_,zad 0 (zcY (⟨F.up++[F.up.length],F.rank++[0],IntKind.i64.wrap (F.sets+1),F.steps⟩)),⟨(⟨F.up++[F.up.length],F.rank++[0],IntKind.i64.wrap (F.sets+1),F.steps⟩,()),?_,rfl,rfl⟩,.v _ _,fUnd tz1 _,?_,?_,by omega⟩;· rfl
  ·
   exact Le.refl _
  first | (refine ⟨0,rfl,rfl⟩) | (refine ⟨0,by simp only[zcY,zad,zk,zf,Nat.reduceAdd,zi,zz,zJ,zO],rfl⟩)
theorem zdD (G:GS) (i:Int) (x:GNode) (hi:0<=i) (hx:G.N[i.toNat]?=some x):GCalls 130 [.ptr 0 0,.v (.int .i64 i)] (G.N) (G.V) (.v (.int .i64 x.k)) (G.N) (G.V):=by
  refine ACalls.clean (C:=fun r os=>r=_/\os=_) ?_;refine aIn Tryz.func130 fun hm=>?_;simp only[Tryz.ntmps130,Tryz.results130,go_sem,seval];simp only[zcl,zad,Nat.reduceAdd];(have hi2:i<(G.N.length:Int):=by have:=(zb.1 hx).1;omega);refine sqD ?_;refine z6 fun _ u=>?_;refine sqR fun _ w=>?_;refine chS 2 ?_;refine zZ 1 fun _ y=>?_;simp only[↓bO,go_sem,seval];refine GCalls.at (zgk G i) (.cons (.v _) .nil) (.v _) (i:=0) (j:=1) (k:=2) rfl rfl rfl tz3 tz3 tz3 tz2 tz2 tz2 ?_;simp only[zam,Nat.reduceEqDiff,↓reduceIte];apply y;clear y;simp only[↓bO,go_sem,seval];apply w;apply z8 rfl <;> intro hb8
  ·
   exact absurd hb8 (by simp[GS.there];omega)
  apply zaa;apply u;refine sqR fun _ u=>?_;(iterate 2 (refine chS 4 ?_ (by intro _ q;simp only[↓bO,go_sem,seval,GNode.cells,hi,hi2,gM hx];exact q)));simp only[↓bO,go_sem,seval];apply u;apply zab;(try simp only[go_sem]);refine ⟨_,zad 0 (zcl (G.N) (G.V)),⟨rfl,rfl⟩,.v _ _,zjq tz1 _ _,?_,?_,by omega⟩
  ·
   refine Le.of_eq ?_;rfl
  first | (refine ⟨0,?_,rfl⟩;first | rfl | (simp only[zcl,zad,zf,zk,zu,zt,zW,zi,zz,zJ,GNode.cells,zI,Nat.reduceAdd,zO];done))
theorem tick_at {id t:Nat} {n:Int} {cs:List AV} {os:Os} {nx:Nat} (h:zav os id=some (.cells t (.v (.int .i64 n)::cs))) {Q:AV->Os->Nat->Prop} (hq:Q (.tup []) (zam os id (.cells t (.v (.int .i64 (IntKind.i64.wrap (n+1)))::cs))) nx):ACalls Tryz.prog 122 [.ptr id 0] os nx Q:=by
 refine aIn Tryz.func122 fun hm=>?_;simp only[Tryz.ntmps122,Tryz.results122,go_sem,seval];apply z7;refine chS 4 ?_ (by intro _ q;simp only[↓bO,go_sem,seval,h,Nat.le_add_left];exact q);simp only[↓bO,go_sem,seval,h,Nat.le_add_left];(try simp only[go_sem]);exact hq
structure CS where
 G:GS
 F:FS
 W:List Int
 steps:Int
 clash:Bool
def zat (i1 i2 i3 i4 i5 i6 i7:Nat) (S:CS):List Ob:=[.cells 127 [.v (.int .i64 S.steps),.ptr i1 0,.ptr i4 0,.own i7 S.W.length,.v (.bool S.clash)],.cells 169 [.osl i2 4 (S.G.N.map GNode.cells),.map i3],.tok 194 4 S.G.N.length,.map (S.G.V.map vC),
 .cells 184 [.own i5 S.F.up.length,.own i6 S.F.rank.length,.v (.int .i64 S.F.sets),.v (.int .i64 S.F.steps)],.row 3 1 (S.F.up.map nC),.row 3 1 (S.F.rank.map intC),.row 3 1 (S.W.map intC)]
def zan (S:CS):List Ob:=[.cells 127 [.v (.int .i64 S.steps),.ptr 1 0,.ptr 4 0,.own 7 S.W.length,.v (.bool S.clash)],.cells 169 [.osl 2 4 (S.G.N.map GNode.cells),.map 3],.tok 194 4 S.G.N.length,.map (S.G.V.map vC),
 .cells 184 [.own 5 S.F.up.length,.own 6 S.F.rank.length,.v (.int .i64 S.F.sets),.v (.int .i64 S.F.steps)],.row 3 1 (S.F.up.map nC),.row 3 1 (S.F.rank.map intC),.row 3 1 (S.W.map intC)]
theorem zcg {n:Nat} (h:8<=n) (S:CS):UndOs n (zad 0 (zan S)) :=
 ⟨by omega,⟨.v _ _,.ptr tz1,.ptr tz1,.own tz1,.v _ _,trivial⟩,by omega,⟨.osl tz1 (.data (.sl (GNode.dataRows S.G.N))),.map tz1,trivial⟩,by omega,trivial,by omega,fun p hp=>.data (zaU S.G.V p hp),
  by omega,⟨.own tz1,.own tz1,.v _ _,.v _ _,trivial⟩,by omega,Und.rowI (zaY _),by omega,Und.rowI (zaJ _),by omega,Und.rowI (zaJ _),trivial⟩
theorem renC (S:CS) (i0 i1 i2 i3 i4 i5 i6 i7 nx:Nat):RenOs (zbu [i0,i1,i2,i3,i4,i5,i6,i7] nx) 0 (zan S) (zat i1 i2 i3 i4 i5 i6 i7 S) :=
 ⟨.cells ⟨.v _,.ptr rfl,.ptr rfl,.own rfl,.v _,trivial⟩,.cells ⟨.osl rfl (GNode.dataRows S.G.N),.map rfl,trivial⟩,.tok,.map (zaU S.G.V),.cells ⟨.own rfl,.own rfl,.v _,.v _,trivial⟩,.row (zaY _),.row (zaJ _),.row (zaJ _),trivial⟩
def CCalls {σ:Type} (f:Nat) (args:List AV) (S:CS) (C:CS×σ->Prop) (R:σ->AV):Prop :=
 ACalls Tryz.prog f args (zad 0 (zan S)) 8 fun r os n=>(∃s:CS×σ,C s/\r=R s.2/\os=zad 0 (zan s.1))/\n=8
theorem CCalls.at {σ:Type} {f:Nat} {args:List AV} {S:CS} {C:CS×σ->Prop} {R:σ->AV} (h:CCalls f (.ptr 0 0::args) S C R) (hd:DataL args) (hR:∀s,Data (R s)) {i0 i1 i2 i3 i4 i5 i6 i7:Nat} {os':Os} {nx':Nat}
  (hnd:[i0,i1,i2,i3,i4,i5,i6,i7].Nodup) (hlt:∀x∈[i0,i1,i2,i3,i4,i5,i6,i7],x<nx') (hg:GetsO os' [i0,i1,i2,i3,i4,i5,i6,i7] (zat i1 i2 i3 i4 i5 i6 i7 S)) {Q':AV->Os->Nat->Prop}
  (hq:∀(S1:CS) (s:σ),C (S1,s)->Q' (R s) (zah os' ([i0,i1,i2,i3,i4,i5,i6,i7].zip (zat i1 i2 i3 i4 i5 i6 i7 S1))) nx'):ACalls Tryz.prog f (.ptr i0 0::args) os' nx' Q':=by
 have same:∀(l:List AV),DataL l->RenL (zbu [i0,i1,i2,i3,i4,i5,i6,i7] nx') l l:=by
  intro l hl
  induction l with
  | nil=>trivial
  | cons x l ih=>exact ⟨.data (hl x tz4),ih fun y hy=>hl y (by simp[hy])⟩
 exact ACalls.atE (σ:=CS×σ) (C:=C) (args:=.ptr 0 0::args) (R:=fun s=>R s.2) (R':=fun s=>R s.2) (obs:=zan S) (obs1:=fun s=>zan s.1) (obs':=zat i1 i2 i3 i4 i5 i6 i7 S) (obs1':=fun s=>zat i1 i2 i3 i4 i5 i6 i7 s.1) [i0,i1,i2,i3,i4,i5,i6,i7] h rfl (fun _=>rfl) hnd hlt ⟨.ptr rfl,same args hd⟩ (fun s=>.data (hR s.2)) (renC S i0 i1 i2 i3 i4 i5 i6 i7 nx') hg (fun s=>renC s.1 i0 i1 i2 i3 i4 i5 i6 i7 nx') (fun s hs=>hq s.1 s.2 hs)
theorem ze4 (S:CS) (hF:FInv S.F) (i:Nat) (hi:i<S.F.up.length):CCalls (σ:=Nat) 94 [.ptr 0 0,.v (.int .i64 (i:Int))] (S) (fun s=>FSame S.F s.1.F/\Rt S.F.up i s.2/\s.1={S with F:=s.1.F}) (fun s=>.v (.int .i64 (s:Int))):=by
  refine ACalls.clean (C:=fun r os=>∃s:CS×Nat,(FSame S.F s.1.F/\Rt S.F.up i s.2/\s.1={S with F:=s.1.F})/\r=(fun s:Nat=>.v (.int .i64 (s:Int))) s.2/\os=zad 0 (zan s.1)) ?_;refine aIn Tryz.func94 fun hm=>?_;simp only[Tryz.ntmps94,Tryz.results94,go_sem,seval];simp only[zan,zad,Nat.reduceAdd];refine sqD ?_;refine sqR fun _ y=>?_;refine zZ 4 fun _ q=>?_;(iterate 2 (simp only[↓bO,go_sem,seval];apply q;clear q;refine zZ 1 fun _ q=>?_));simp only[↓bO,go_sem,seval];refine FCalls.at (Root_f S.F hF i hi) (.cons (.v _) .nil) (fun _=>.tup (.cons (.v _) (.cons (.v _) .nil))) (i:=4) (j:=5) (k:=6) rfl rfl rfl tz3 tz3 tz3 tz2 tz2 tz2 (fun G r hG=>?_);(try dsimp only at hG);simp only[zam,Nat.reduceEqDiff,↓reduceIte];apply q;clear q;refine chS 4 ?_;simp only[↓bO,go_sem,seval];apply y;refine sqD ?_;apply zab;(try simp only[go_sem]);refine ⟨_,zad 0 (zan ({S with F:=G})),⟨({S with F:=G},r),?_,rfl,rfl⟩,.v _ _,zcg tz1 _,?_,?_,by omega⟩;· exact ⟨hG.1,hG.2,rfl⟩
  ·
   exact Le.refl _
  first | (refine ⟨0,rfl,rfl⟩) | (refine ⟨0,by simp only[zan,zad,zk,zf,Nat.reduceAdd],rfl⟩)
theorem Rt.push_iff {up:List Nat} {h:Nat->Nat} (H:UpOk up h) (k q:Nat):Rt (up++[up.length]) k q↔Rt up k q\/(k=up.length/\q=up.length):=by
 refine ⟨fun k1=>k1.push H.lt,fun k1=>?_⟩;(rcases k1 with k1 | ⟨rfl,rfl⟩);(·exact k1.mono);exact .base tz4
def wk (x:GNode) (k:Nat):Int:=if x.k=1 then -1 else (k:Int)
structure LayI (S:CS) (G:GS) (k:Nat) (F:FS) (W:List Int):Prop where
 inv:FInv F
 fl:F.up.length=k
 wl:W.length=k
 ge:S.W.length<=k
 rt:∀a q,Rt F.up a q↔Rt S.F.up a q\/(S.W.length<=a/\a<k/\q=a)
 old:∀i,i<S.W.length->W[i]?=S.W[i]?
 new:∀(i:Nat) (x:GNode),S.W.length<=i->i<k->G.N[i]?=some x->W[i]?=some (wk x i)
theorem LayI.start {S:CS} (G:GS) (h:FInv S.F) (hl:S.F.up.length=S.W.length):LayI S G S.W.length S.F S.W :=
 ⟨h,hl,rfl,zQ _,fun a q=>⟨.inl,fun h=>h.elim id fun h=>by omega⟩,fun _ _=>rfl,fun i x h1 h2=>by omega⟩
theorem LayI.step {S:CS} {G:GS} {k:Nat} {F:FS} {W:List Int} (h:LayI S G k F W) {x:GNode} (hx:G.N[k]?=some x) (a b:Int):LayI S G (k+1) ⟨F.up++[F.up.length],F.rank++[0],a,b⟩ (W++[wk x k]):=by
 obtain ⟨hi,hok⟩:=h.inv.ok;have hge:=h.ge;refine ⟨h.inv.push a b,by simp[h.fl],by simp[h.wl],by omega,fun a q=>?_,fun i hi=>?_,fun i y h1 h2 hy=>?_⟩
 ·refine (Rt.push_iff hok a q).trans ?_
  rw[h.rt,h.fl];constructor
  ·rintro ((h1 | h1) | h1)
   (·exact .inl h1);(·exact .inr ⟨h1.1,by omega,h1.2.2⟩);exact .inr ⟨by omega,by omega,by omega⟩
  rintro (h1 | ⟨h1,h2,h3⟩);·exact .inl (.inl h1)
  by_cases e:a=k
  (·exact .inr ⟨e,by omega⟩);exact .inl (.inr ⟨h1,by omega,h3⟩)
 ·rw[zA (by rw[h.wl];omega)];exact h.old i hi
 by_cases e:i=k
 ·subst e
  rw[hx] at hy;cases hy;rw[zK (by rw[h.wl];exact zQ _),h.wl];simp
 rw[zA (by rw[h.wl];omega)];exact h.new i y h1 tz1 hy
def StepsI (S:CS) (k:Nat) (st:Int):Prop:=0<=S.steps->S.steps<=1099511627776->st+(S.W.length:Int)=S.steps+(k:Int)
theorem StepsI.step {S:CS} {k:Nat} {st:Int} (h:StepsI S k st) (hk:k<=1048576) (hw:S.W.length<=k):StepsI S (k+1) (IntKind.i64.wrap (st+1)):=fun h1 h2=>by
 have h3:=h h1 h2;rw[zal tz1 tz1];omega
structure Lay (S:CS) (T:Ty) (s:CS×Int):Prop where
 node:s.2=(T.gadd S.G).2
 g:s.1.G=(T.gadd S.G).1
 clash:s.1.clash=S.clash
 lay:LayI S s.1.G s.1.G.N.length s.1.F s.1.W
theorem zeg {p:Prop} (h:p:=by exact ⟨⟨_,_,rfl,by simp,rfl,trivial,trivial⟩,trivial⟩):p:=h
theorem zlW (S:CS) (T:Ty) (hr:T.right=true) (hG:GInv S.G) (hF:FInv S.F) (hl1:S.F.up.length=S.W.length) (hl2:S.W.length=S.G.N.length) (hl:S.G.N.length+T.cnt<=1048576):CCalls (σ:=Int) 121 [.ptr 0 0,.agg T.cells] (S) (fun s=>Lay S T s/\StepsI S s.1.G.N.length s.1.steps) (fun s=>.v (.int .i64 s)):=by
  refine ACalls.clean (C:=fun r os=>∃s:CS×Int,(Lay S T s/\StepsI S s.1.G.N.length s.1.steps)/\r=(fun s:Int=>.v (.int .i64 s)) s.2/\os=zad 0 (zan s.1)) ?_;refine aIn Tryz.func121 fun hm=>?_;simp only[Tryz.ntmps121,Tryz.results121,go_sem,seval];simp only[zan,zad,Nat.reduceAdd];(have hg:T.gAdd S.G=((T.gadd S.G).1,(T.gadd S.G).2,0):=by rw[Ty.gAdd,if_pos hr]);have hA:=Add_calls T S.G hG tz1;rw[hg] at hA;obtain ⟨hs1,hs2,hs3⟩:=T.gadd_inv S.G hG;have hge:=hs1.ge;have hle:=hs1.le;dsimp only at hA;refine sqD ?_;refine z6 fun _ u=>?_;refine zax [(0,1,[.ptr 1 0])] 11 rfl mixed (zeg) rfl ?_;dsimp only;refine tkS 0 ?_;refine tkS 1 ?_;refine tkS 2 ?_;refine tkM 3 0 ?_;refine alS 4 ?_ (hH:=by exact zeg);refine al1 (i:=5) ?_;refine opT fun _ y=>?_;simp only[↓bO,go_sem,seval];refine GCalls.at (hA) (.cons (Ty.dataAgg T) .nil) (.tup (.cons (.v _) (.cons (.v _) .nil))) (i:=1) (j:=2) (k:=3) rfl rfl rfl tz3 tz3 tz3 tz2 tz2 tz2 ?_;simp only[zam,Nat.reduceEqDiff,↓reduceIte];(try simp only[go_sem]);refine y _ ⟨zeg,?_⟩;clear y;refine tkS 6 ?_;refine tkS 7 ?_;refine tkS 8 ?_;refine tkS 9 ?_;refine tkS 10 ?_;refine dnA ?_;apply u;refine z6 fun _ u=>?_;refine sqR fun _ w=>?_;(iterate 2 (refine chS 2 ?_));simp only[↓bO,go_sem,seval];apply w;apply zac;refine zai (σ:=Nat×FS×List Int×Int) (mB 67 161) (fun s=>LayI S (T.gadd S.G).1 s.1 s.2.1 s.2.2.1/\StepsI S s.1 s.2.2.2/\s.1<=(T.gadd S.G).1.N.length) (fun s=>[(7,.v (.int .i64 (s.1:Int)))]) (fun s=>[(0,.cells 127 [.v (.int .i64 s.2.2.2),.ptr 1 0,.ptr 4 0,.own 7 s.2.2.1.length,.v (.bool S.clash)]),(4,.cells 184 [.own 5 s.2.1.up.length,.own 6 s.2.1.rank.length,.v (.int .i64 s.2.1.sets),.v (.int .i64 s.2.1.steps)]),(5,.row 3 1 (s.2.1.up.map nC)),(6,.row 3 1 (s.2.1.rank.map intC)),(7,.row 3 1 (s.2.2.1.map intC))]) (fun s=>(T.gadd S.G).1.N.length-s.1) (S.W.length,S.F,S.W,S.steps) (⟨LayI.start _ hF hl1,fun _ _=>rfl,by omega⟩) ?_ (fun s hs=>?_)
  ·
   simp only[go_sem,seval];exact zaL
  simp only[go_sem,seval];refine z6 fun _ w=>?_;refine sqR fun _ z=>?_;(iterate 2 (refine chS 2 ?_));refine chS 1 ?_;refine zZ 1 fun _ y=>?_;simp only[↓bO,go_sem,seval];refine GCalls.at (Len_calls (T.gadd S.G).1) (.nil) (.v _) (i:=1) (j:=2) (k:=3) rfl rfl rfl tz3 tz3 tz3 tz2 tz2 tz2 ?_;simp only[zam,Nat.reduceEqDiff,↓reduceIte];apply y;clear y;simp only[↓bO,go_sem,seval];apply z;apply z8 rfl <;> intro hb28
  ·
   (have hk:s.1<(T.gadd S.G).1.N.length:=by have h8:=hb28;simp at h8;omega);obtain ⟨x,hx⟩:∃x,(T.gadd S.G).1.N[s.1]?=some x:=⟨_,za hk⟩;(have hxi:(T.gadd S.G).1.N[((s.1:Nat):Int).toNat]?=some x:=by simpa using hx);have hfl:=hs.1.fl;have hwl:=hs.1.wl;have hrl:=hs.1.inv.len;have hw:IntKind.i64.wrap ((s.1:Int)+1)=(s.1:Int)+1:=zal tz1 tz1;(have hb1:(s.2.2.1.length+1) * 8<=140737488355328:=by omega);(have hb2:s.2.2.1.length+1<=maxLen:=by simp only[maxLen];omega);(have hb3:(s.1+1) * 8<=140737488355328:=by omega);(have hb4:s.1+1<=maxLen:=by simp only[maxLen];omega);apply zaa;apply w;refine z6 fun _ w=>?_;apply zac;refine sqR fun _ z=>?_;refine chS 2 ?_ (by intro _ q;simp only[↓bO,go_sem,seval,hwl];exact q);refine chS 1 ?_;simp only[↓bO,go_sem,seval];refine tick_at rfl ?_;simp only[zam,Nat.reduceEqDiff,↓reduceIte];apply z;refine sqR fun _ z=>?_;(iterate 2 (refine chS 2 ?_));simp only[↓bO,go_sem,seval];refine FCalls.at (FAdd_f s.2.1 tz1 hrl) (.nil) (fun _=>.v _) (i:=4) (j:=5) (k:=6) rfl rfl rfl tz3 tz3 tz3 tz2 tz2 tz2 (fun F2 u2 hF2=>?_);(try dsimp only at hF2);simp only[zam,Nat.reduceEqDiff,↓reduceIte];subst hF2;apply z;refine sqR fun _ z=>?_;(iterate 2 (refine chS 2 ?_ (by intro _ q;simp only[↓bO,go_sem,seval,zi];exact q)));refine chS 1 ?_;refine zZ 1 fun _ y=>?_;simp only[↓bO,go_sem,seval];refine GCalls.at (zdD (T.gadd S.G).1 (s.1:Int) x tz1 hxi) (.cons (.v _) .nil) (.v _) (i:=1) (j:=2) (k:=3) rfl rfl rfl tz3 tz3 tz3 tz2 tz2 tz2 ?_;simp only[zam,Nat.reduceEqDiff,↓reduceIte];apply y;clear y;simp only[↓bO,go_sem,seval];apply z;apply z8 rfl <;> intro hb46
   ·
    (have hk1:x.k=1:=by simpa using hb46);have hw1:wk x s.1=-1:=if_pos hk1;apply z7;(iterate 2 (refine chS 2 ?_));refine chS 2 ?_ (by intro _ q;simp only[↓bO,go_sem,seval,↓zcQ];exact q);refine chS 2 ?_ (by intro _ q;simp only[↓bO,go_sem,seval,hb3,hb4,pushIC,hwl];exact q);simp only[↓bO,go_sem,seval];apply w;apply z7;refine chS 2 ?_ (by intro _ q;simp only[↓bO,go_sem,seval,hw];exact q);simp only[↓bO,go_sem,seval];refine ⟨(s.1+1,⟨s.2.1.up++[s.2.1.up.length],s.2.1.rank++[0],IntKind.i64.wrap (s.2.1.sets+1),s.2.1.steps⟩,s.2.2.1++[wk x s.1],IntKind.i64.wrap (s.2.2.2+1)),⟨hs.1.step hx _ _,hs.2.1.step tz1 hs.1.ge,by omega⟩,tz5,?_⟩;simp only[zar,zas,zah,zam,mB,seval,zi,bL,zj,zh,hwl,hw1];exact zaL
   (have hk1:¬x.k=1:=by simpa using hb46);have hw1:wk x s.1=(s.1:Int):=if_neg hk1;apply z7;(iterate 3 (refine chS 2 ?_));refine chS 2 ?_ (by intro _ q;simp only[↓bO,go_sem,seval,↓zcQ,hb3,hb4,pushIC,hwl];exact q);refine chS 2 ?_;simp only[↓bO,go_sem,seval];apply w;apply z7;refine chS 2 ?_ (by intro _ q;simp only[↓bO,go_sem,seval,hw];exact q);simp only[↓bO,go_sem,seval];refine ⟨(s.1+1,⟨s.2.1.up++[s.2.1.up.length],s.2.1.rank++[0],IntKind.i64.wrap (s.2.1.sets+1),s.2.1.steps⟩,s.2.2.1++[wk x s.1],IntKind.i64.wrap (s.2.2.2+1)),⟨hs.1.step hx _ _,hs.2.1.step tz1 hs.1.ge,by omega⟩,tz5,?_⟩;simp only[zar,zas,zah,zam,mB,seval,zi,bL,zj,zh,hwl,hw1];exact zaL
  (have hk:s.1=(T.gadd S.G).1.N.length:=by have h8:=hb28;simp at h8;have:=hs.2.2;omega);apply zak;simp only[zao,zaj,zaf,bA,Nat.reduceEqDiff,↓reduceIte];apply u;refine sqD ?_;apply zab;(try simp only[go_sem]);refine ⟨_,zad 0 (zan (⟨(T.gadd S.G).1,s.2.1,s.2.2.1,s.2.2.2,S.clash⟩)),⟨(⟨(T.gadd S.G).1,s.2.1,s.2.2.1,s.2.2.2,S.clash⟩,(T.gadd S.G).2),?_,rfl,rfl⟩,.v _ _,zcg tz1 _,?_,?_,by omega⟩;· exact ⟨⟨rfl,rfl,rfl,by have h9:=hs.1;rw[hk] at h9;exact h9⟩,by have h9:=hs.2.1;rw[hk] at h9;exact h9⟩
  ·
   exact Le.refl _
  first | (refine ⟨1,rfl,rfl⟩) | (refine ⟨1,by simp only[zan,zad,zk,zf,Nat.reduceAdd],rfl⟩)
def pC (p:Int×Int):List AV:=[.v (.int .i64 p.1),.v (.int .i64 p.2)]
theorem zd0 (l:List (Int×Int)):Data (.sl 2 (l.map pC)):=.sl fun x hx=>by
 obtain ⟨p,_,rfl⟩:=zq.1 hx;exact .cons (.v _) (.cons (.v _) .nil)
theorem Und.oslP {n id:Nat} {l:List (Int×Int)} (h:id<n):Und n (.osl id 2 (l.map pC)):=.osl h (.data (zd0 l))
structure CInv (S:CS):Prop where
 g:GInv S.G
 f:FInv S.F
 fl:S.F.up.length=S.W.length
 wl:S.W.length=S.G.N.length
 wr:∀w∈S.W,w=-1\/(0<=w/\w<(S.G.N.length:Int))
 pl:∀x∈S.G.N,x.parts.length<=8
 pr:∀x∈S.G.N,∀p∈x.parts,0<=p/\p<(S.G.N.length:Int)
def clash (x y:GNode):Bool:=x.k != y.k||x.parts.length != y.parts.length
structure CJoin (S:CS) (a b:Nat) (s:CS×(List (Int×Int)×Bool)):Prop where
  g:s.1.G=S.G
  c:s.1.clash=S.clash
  ex:∃(r:Nat) (two:Bool),FJoin S.F a b (s.1.F,(r,two))/\((two=false/\s.1.W=S.W/\s.2=([],true)) \/
    (two=true/\∃(ra rb:Nat) (x y:Int),Rt S.F.up a ra/\Rt S.F.up b rb/\S.W[ra]?=some x/\S.W[rb]?=some y /\
      (((x<0\/y<0)/\s.1.W=S.W.set r (max x y)/\s.2=([],true)) \/
       (0<=x/\0<=y/\s.1.W=S.W.set r x/\∃gx gy:GNode,S.G.N[x.toNat]?=some gx/\S.G.N[y.toNat]?=some gy /\
          ((clash gx gy=true/\s.2=([],false))\/(clash gx gy=false/\s.2=(gx.parts.zip gy.parts,true)))))))
theorem FJoin.of {F F2:FS} {a b:Nat} {s:FS×(Nat×Bool)} (h:FSame F F2) (k:FJoin F2 a b s):FJoin F a b s:=by
 obtain ⟨ra,rb,h1,h2,h3⟩:=k.ex;refine ⟨k.inv,k.len.trans h.len,ra,rb,(h.rt _ _).1 h1,(h.rt _ _).1 h2,?_⟩;(rcases h3 with ⟨e,h4,h5⟩ | ⟨e,h4,h5,h6⟩);(·exact .inl ⟨e,h4,fun k q=>(h5 k q).trans (h.rt k q)⟩);exact .inr ⟨e,h4,h5,fun k q=>(h6 k q).trans (by simp only[h.rt])⟩
theorem FJoin.rlt {F:FS} {a b:Nat} {s:FS×(Nat×Bool)} (k:FJoin F a b s):s.2.1<F.up.length:=by
 obtain ⟨ra,rb,h1,h2,h3⟩:=k.ex;(rcases h3 with ⟨e,h4,_⟩ | ⟨e,_,h4,_⟩);(·rw[h4];exact h1.lt);(rcases h4 with h4 | h4 <;> rw[h4]);(·exact h1.lt);exact h2.lt
theorem zkA (a b:Nat):(((a:Nat):Int) != ((b:Nat):Int))=(a != b):=by
 rw[zF];simp;omega
theorem clash_eq (x y:GNode):(x.k != y.k)=true->clash x y=true:=fun h=>by rw[clash,h];rfl
theorem zdA {p:Prop} (h:p:=by exact ⟨⟨_,_,rfl,by simp,rfl,by simp[CurL,CurOk,zav]⟩,trivial⟩):p:=h
theorem zbc {p:Prop} (h:p:=by exact ⟨rfl,rfl,rfl,rfl,rfl,rfl,rfl,rfl,trivial⟩):p:=h
theorem join_c (S:CS) (hS:CInv S) (a b:Nat) (ha:a<S.F.up.length) (hb:b<S.F.up.length):CCalls (σ:=List (Int×Int)×Bool) 123 [.ptr 0 0,.v (.int .i64 (a:Int)),.v (.int .i64 (b:Int))] (S) (fun s=>CJoin S a b s/\s.1.steps=S.steps) (fun s=>.tup [.sl 2 (s.1.map pC),.v (.bool s.2)]):=by
  refine ACalls.clean (C:=fun r os=>∃s:CS×List (Int×Int)×Bool,(CJoin S a b s/\s.1.steps=S.steps)/\r=(fun s:List (Int×Int)×Bool=>.tup [.sl 2 (s.1.map pC),.v (.bool s.2)]) s.2/\os=zad 0 (zan s.1)) ?_;refine aIn Tryz.func123 fun hm=>?_;simp only[Tryz.ntmps123,Tryz.results123,go_sem,seval];simp only[zan,zad,Nat.reduceAdd];(have hpl:∀x∈S.G.N,x.parts.length<=1099511627776:=fun x hx=>by have:=hS.pl x hx;omega);refine sqD ?_;refine AWp_joinE (σ:=FS×Nat×Nat×Int×Int) (mB 119 775) (fun j=>[(8,.v (.int .i64 j.2.2.2.1)),(9,.v (.int .i64 j.2.2.2.2))]) (fun j=>[(4,.cells 184 [.own 5 j.1.up.length,.own 6 j.1.rank.length,.v (.int .i64 j.1.sets),.v (.int .i64 j.1.steps)]),(5,.row 3 1 (j.1.up.map nC)),(6,.row 3 1 (j.1.rank.map intC))]) (fun j=>FSame S.F j.1/\Rt S.F.up a j.2.1/\Rt S.F.up b j.2.2.1/\S.W[j.2.1]?=some j.2.2.2.1/\S.W[j.2.2.1]?=some j.2.2.2.2) ?_ (fun j hj=>?_)
  ·
   refine zax [(0,3,[.own 7 S.W.length])] 20 rfl mixed (zdA) rfl ?_;dsimp only;refine tkS 0 ?_;refine tkS 1 ?_;refine tkS 2 ?_;refine tkM 3 0 ?_;refine tkS 4 ?_;refine tkS 5 ?_;refine tkS 9 ?_;refine tkS 10 ?_;refine tkS 11 ?_;refine tkM 12 0 ?_;refine tkS 13 ?_;refine tkS 14 ?_;refine al1 (i:=6) ?_;refine opT fun _ u=>?_;simp only[↓bO,go_sem,seval];refine CCalls.at (ze4 S hS.f a ha) (.cons (.v _) .nil) (fun _=>.v _) (i0:=0) (i1:=1) (i2:=2) (i3:=3) (i4:=4) (i5:=5) (i6:=6) (i7:=7) tz3 tz4 zbc (fun S1 r1 hS1=>?_);(try dsimp only at hS1);simp only[zat,zl,zp,zm,zah,zam,Nat.reduceEqDiff,↓reduceIte];obtain ⟨F1,rfl⟩:∃F1,S1={S with F:=F1}:=⟨S1.F,hS1.2.2⟩;dsimp only at hS1;obtain ⟨x,hx⟩:∃x,S.W[r1]?=some x:=⟨_,za (by rw[<- hS.fl];exact hS1.2.1.lt)⟩;have hi1:r1<S.W.length:=(zb.1 hx).1;(have hi2:(r1:Int)<(S.W.length:Int):=by omega);(try simp only[go_sem]);refine u _ ⟨zdA,?_⟩;clear u;refine al2 (i:=7) (j:=15) ?_ ?_
   ·
    refine opT fun _ u=>?_;simp only[↓bO,go_sem,seval,hi2];refine u _ ⟨zdA,?_⟩;clear u;refine al2 (i:=8) (j:=15) ?_ ?_
    ·
     refine opT fun _ u=>?_;simp only[↓bO,go_sem,seval,gM hx,hi1];refine u _ ⟨zdA,?_⟩;clear u;refine al1 (i:=15) ?_;refine opT fun _ u=>?_;simp only[↓bO,go_sem,seval];refine CCalls.at (ze4 {S with F:=F1} hS1.1.inv b (by dsimp only;rw[hS1.1.len];exact hb)) (.cons (.v _) .nil) (fun _=>.v _) (i0:=0) (i1:=1) (i2:=2) (i3:=3) (i4:=4) (i5:=5) (i6:=6) (i7:=7) tz3 tz4 zbc (fun S2 r2 hS2=>?_);(try dsimp only at hS2);simp only[zat,zl,zp,zm,zah,zam,Nat.reduceEqDiff,↓reduceIte];obtain ⟨F2,rfl⟩:∃F2,S2={S with F:=F2}:=⟨S2.F,hS2.2.2⟩;dsimp only at hS2;have hS3:=hS1.1.trans hS2.1;have hb2:Rt S.F.up b r2:=(hS1.1.rt _ _).1 hS2.2.1;obtain ⟨y,hy⟩:∃y,S.W[r2]?=some y:=⟨_,za (by rw[<- hS.fl];exact hb2.lt)⟩;have hj1:r2<S.W.length:=(zb.1 hy).1;(have hj2:(r2:Int)<(S.W.length:Int):=by omega);(try simp only[go_sem]);refine u _ ⟨zdA,?_⟩;clear u;refine tkS 18 ?_;refine al1 (i:=16) ?_;refine opT fun _ u=>?_;simp only[↓bO,go_sem,seval,hj2];refine u _ ⟨zdA,?_⟩;clear u;refine al1 (i:=17) ?_;refine opT fun _ u=>?_;simp only[↓bO,go_sem,seval,gM hy,hj1];refine u _ ⟨zdA,?_⟩;clear u;refine tkS 19 ?_;refine dnA ?_;simp only[go_sem];(try simp only[go_sem,seval]);refine ⟨(F2,r1,r2,x,y),⟨hS3,hS1.2.1,hb2,hx,hy⟩,?_⟩;exact zh9
    refine opT fun _ u=>?_;simp only[↓bO,go_sem,seval];refine CCalls.at (ze4 {S with F:=F1} hS1.1.inv b (by dsimp only;rw[hS1.1.len];exact hb)) (.cons (.v _) .nil) (fun _=>.v _) (i0:=0) (i1:=1) (i2:=2) (i3:=3) (i4:=4) (i5:=5) (i6:=6) (i7:=7) tz3 tz4 zbc (fun S2 r2 hS2=>?_);(try dsimp only at hS2);simp only[zat,zl,zp,zm,zah,zam,Nat.reduceEqDiff,↓reduceIte];obtain ⟨F2,rfl⟩:∃F2,S2={S with F:=F2}:=⟨S2.F,hS2.2.2⟩;dsimp only at hS2;have hS3:=hS1.1.trans hS2.1;have hb2:Rt S.F.up b r2:=(hS1.1.rt _ _).1 hS2.2.1;obtain ⟨y,hy⟩:∃y,S.W[r2]?=some y:=⟨_,za (by rw[<- hS.fl];exact hb2.lt)⟩;have hj1:r2<S.W.length:=(zb.1 hy).1;(have hj2:(r2:Int)<(S.W.length:Int):=by omega);(try simp only[go_sem]);refine u _ ⟨zdA,?_⟩;clear u;refine al2 (i:=8) (j:=16) ?_ ?_
    ·
     refine opT fun _ u=>?_;simp only[↓bO,go_sem,seval,gM hx,hi1];refine u _ ⟨zdA,?_⟩;clear u;refine tkS 18 ?_;refine al1 (i:=16) ?_;refine opT fun _ u=>?_;simp only[↓bO,go_sem,seval,hj2];refine u _ ⟨zdA,?_⟩;clear u;refine al1 (i:=17) ?_;refine opT fun _ u=>?_;simp only[↓bO,go_sem,seval,gM hy,hj1];refine u _ ⟨zdA,?_⟩;clear u;refine tkS 19 ?_;refine dnA ?_;simp only[go_sem];(try simp only[go_sem,seval]);refine ⟨(F2,r1,r2,x,y),⟨hS3,hS1.2.1,hb2,hx,hy⟩,?_⟩;exact zh9
    refine opT fun _ u=>?_;simp only[↓bO,go_sem,seval,hj2];refine u _ ⟨zdA,?_⟩;clear u;refine al2 (i:=8) (j:=17) ?_ ?_
    ·
     refine opT fun _ u=>?_;simp only[↓bO,go_sem,seval,gM hx,hi1];refine u _ ⟨zdA,?_⟩;clear u;refine tkS 18 ?_;refine al1 (i:=17) ?_;refine opT fun _ u=>?_;simp only[↓bO,go_sem,seval,gM hy,hj1];refine u _ ⟨zdA,?_⟩;clear u;refine tkS 19 ?_;refine dnA ?_;simp only[go_sem];(try simp only[go_sem,seval]);refine ⟨(F2,r1,r2,x,y),⟨hS3,hS1.2.1,hb2,hx,hy⟩,?_⟩;exact zh9
    refine opT fun _ u=>?_;simp only[↓bO,go_sem,seval,gM hy,hj1];refine u _ ⟨zdA,?_⟩;clear u;refine al1 (i:=8) ?_;refine opT fun _ u=>?_;simp only[↓bO,go_sem,seval,gM hx,hi1];refine u _ ⟨zdA,?_⟩;clear u;refine tkS 18 ?_;refine tkS 19 ?_;refine dnA ?_;simp only[go_sem];(try simp only[go_sem,seval]);refine ⟨(F2,r1,r2,x,y),⟨hS3,hS1.2.1,hb2,hx,hy⟩,?_⟩;exact zh9
   refine opT fun _ u=>?_;simp only[↓bO,go_sem,seval];refine CCalls.at (ze4 {S with F:=F1} hS1.1.inv b (by dsimp only;rw[hS1.1.len];exact hb)) (.cons (.v _) .nil) (fun _=>.v _) (i0:=0) (i1:=1) (i2:=2) (i3:=3) (i4:=4) (i5:=5) (i6:=6) (i7:=7) tz3 tz4 zbc (fun S2 r2 hS2=>?_);(try dsimp only at hS2);simp only[zat,zl,zp,zm,zah,zam,Nat.reduceEqDiff,↓reduceIte];obtain ⟨F2,rfl⟩:∃F2,S2={S with F:=F2}:=⟨S2.F,hS2.2.2⟩;dsimp only at hS2;have hS3:=hS1.1.trans hS2.1;have hb2:Rt S.F.up b r2:=(hS1.1.rt _ _).1 hS2.2.1;obtain ⟨y,hy⟩:∃y,S.W[r2]?=some y:=⟨_,za (by rw[<- hS.fl];exact hb2.lt)⟩;have hj1:r2<S.W.length:=(zb.1 hy).1;(have hj2:(r2:Int)<(S.W.length:Int):=by omega);(try simp only[go_sem]);refine u _ ⟨zdA,?_⟩;clear u;refine al2 (i:=7) (j:=16) ?_ ?_
   ·
    refine opT fun _ u=>?_;simp only[↓bO,go_sem,seval,hi2];refine u _ ⟨zdA,?_⟩;clear u;refine al2 (i:=8) (j:=16) ?_ ?_
    ·
     refine opT fun _ u=>?_;simp only[↓bO,go_sem,seval,gM hx,hi1];refine u _ ⟨zdA,?_⟩;clear u;refine tkS 18 ?_;refine al1 (i:=16) ?_;refine opT fun _ u=>?_;simp only[↓bO,go_sem,seval,hj2];refine u _ ⟨zdA,?_⟩;clear u;refine al1 (i:=17) ?_;refine opT fun _ u=>?_;simp only[↓bO,go_sem,seval,gM hy,hj1];refine u _ ⟨zdA,?_⟩;clear u;refine tkS 19 ?_;refine dnA ?_;simp only[go_sem];(try simp only[go_sem,seval]);refine ⟨(F2,r1,r2,x,y),⟨hS3,hS1.2.1,hb2,hx,hy⟩,?_⟩;exact zh9
    refine opT fun _ u=>?_;simp only[↓bO,go_sem,seval,hj2];refine u _ ⟨zdA,?_⟩;clear u;refine al2 (i:=8) (j:=17) ?_ ?_
    ·
     refine opT fun _ u=>?_;simp only[↓bO,go_sem,seval,gM hx,hi1];refine u _ ⟨zdA,?_⟩;clear u;refine tkS 18 ?_;refine al1 (i:=17) ?_;refine opT fun _ u=>?_;simp only[↓bO,go_sem,seval,gM hy,hj1];refine u _ ⟨zdA,?_⟩;clear u;refine tkS 19 ?_;refine dnA ?_;simp only[go_sem];(try simp only[go_sem,seval]);refine ⟨(F2,r1,r2,x,y),⟨hS3,hS1.2.1,hb2,hx,hy⟩,?_⟩;exact zh9
    refine opT fun _ u=>?_;simp only[↓bO,go_sem,seval,gM hy,hj1];refine u _ ⟨zdA,?_⟩;clear u;refine al1 (i:=8) ?_;refine opT fun _ u=>?_;simp only[↓bO,go_sem,seval,gM hx,hi1];refine u _ ⟨zdA,?_⟩;clear u;refine tkS 18 ?_;refine tkS 19 ?_;refine dnA ?_;simp only[go_sem];(try simp only[go_sem,seval]);refine ⟨(F2,r1,r2,x,y),⟨hS3,hS1.2.1,hb2,hx,hy⟩,?_⟩;exact zh9
   refine opT fun _ u=>?_;simp only[↓bO,go_sem,seval,hj2];refine u _ ⟨zdA,?_⟩;clear u;refine al2 (i:=7) (j:=17) ?_ ?_
   ·
    refine opT fun _ u=>?_;simp only[↓bO,go_sem,seval,hi2];refine u _ ⟨zdA,?_⟩;clear u;refine al2 (i:=8) (j:=17) ?_ ?_
    ·
     refine opT fun _ u=>?_;simp only[↓bO,go_sem,seval,gM hx,hi1];refine u _ ⟨zdA,?_⟩;clear u;refine tkS 18 ?_;refine al1 (i:=17) ?_;refine opT fun _ u=>?_;simp only[↓bO,go_sem,seval,gM hy,hj1];refine u _ ⟨zdA,?_⟩;clear u;refine tkS 19 ?_;refine dnA ?_;simp only[go_sem];(try simp only[go_sem,seval]);refine ⟨(F2,r1,r2,x,y),⟨hS3,hS1.2.1,hb2,hx,hy⟩,?_⟩;exact zh9
    refine opT fun _ u=>?_;simp only[↓bO,go_sem,seval,gM hy,hj1];refine u _ ⟨zdA,?_⟩;clear u;refine al1 (i:=8) ?_;refine opT fun _ u=>?_;simp only[↓bO,go_sem,seval,gM hx,hi1];refine u _ ⟨zdA,?_⟩;clear u;refine tkS 18 ?_;refine tkS 19 ?_;refine dnA ?_;simp only[go_sem];(try simp only[go_sem,seval]);refine ⟨(F2,r1,r2,x,y),⟨hS3,hS1.2.1,hb2,hx,hy⟩,?_⟩;exact zh9
   refine opT fun _ u=>?_;simp only[↓bO,go_sem,seval,gM hy,hj1];refine u _ ⟨zdA,?_⟩;clear u;refine al1 (i:=7) ?_;refine opT fun _ u=>?_;simp only[↓bO,go_sem,seval,hi2];refine u _ ⟨zdA,?_⟩;clear u;refine al1 (i:=8) ?_;refine opT fun _ u=>?_;simp only[↓bO,go_sem,seval,gM hx,hi1];refine u _ ⟨zdA,?_⟩;clear u;refine tkS 18 ?_;refine tkS 19 ?_;refine dnA ?_;simp only[go_sem];(try simp only[go_sem,seval]);refine ⟨(F2,r1,r2,x,y),⟨hS3,hS1.2.1,hb2,hx,hy⟩,?_⟩;exact zh9
  simp only[go_sem,seval];refine sqR fun _ w=>?_;(iterate 3 (refine chS 2 ?_));refine zZ 1 fun _ u=>?_;simp only[↓bO,go_sem,seval];refine FCalls.at (Join_f j.1 hj.1.inv a b (by rw[hj.1.len];exact ha) (by rw[hj.1.len];exact hb)) (.cons (.v _) (.cons (.v _) .nil)) (fun _=>.tup (.cons (.v _) (.cons (.v _) .nil))) (i:=4) (j:=5) (k:=6) rfl rfl rfl tz3 tz3 tz3 tz2 tz2 tz2 (fun G3 r hG3=>?_);(try dsimp only at hG3);simp only[zam,Nat.reduceEqDiff,↓reduceIte];(iterate 2 (apply u;clear u;refine zZ 2 fun _ u=>?_;simp only[↓bO,go_sem,seval]));apply u;clear u;simp only[↓bO,go_sem,seval];apply w;refine z6 fun _ w=>?_;refine sqD ?_;apply z8 rfl <;> intro hb45
  ·
   refine sqD ?_;apply zab;(try simp only[go_sem]);refine ⟨_,zad 0 (zan ({S with F:=G3})),⟨({S with F:=G3},([],true)),?_,rfl,rfl⟩,.tup ⟨.data (zd0 _),.v _ _,trivial⟩,zcg tz1 _,?_,?_,by omega⟩;· exact ⟨⟨rfl,rfl,r.1,r.2,FJoin.of hj.1 hG3,.inl ⟨by simpa using hb45,rfl,rfl⟩⟩,rfl⟩
   ·
    exact Le.tup ⟨Le.slNil 2,.refl _,trivial⟩
   first | (refine ⟨0,rfl,rfl⟩) | (refine ⟨0,by simp only[zan,zad,zk,zf,Nat.reduceAdd],rfl⟩)
  apply zaa;apply w;have hrl:=hG3.rlt;have hfl9:=hj.1.len;have hfl8:=hS.fl;obtain ⟨z,hz⟩:∃z,S.W[r.1]?=some z:=⟨_,za (by dsimp only at hrl;omega)⟩;have hk1:r.1<S.W.length:=(zb.1 hz).1;(have hk2:(r.1:Int)<(S.W.length:Int):=by omega);(have hz2:(S.W.set r.1 (max j.2.2.2.1 j.2.2.2.2))[r.1]?=some (max j.2.2.2.1 j.2.2.2.2):=by rw[List.getElem?_set_self hk1]);refine sqR fun _ w=>?_;(iterate 4 (refine chS 2 ?_));simp only[↓bO,go_sem,seval,gM hz,hk1,hk2,setIC,intC];apply w;refine z6 fun _ w=>?_;refine sqR fun _ d=>?_;refine chS 2 ?_;refine chS 1 ?_;simp only[go_sem];refine zag 57 rfl (fun hc57=>?_) (fun hc57=>?_)
  ·
   simp only[go_sem];have hneg:j.2.2.2.1<0\/j.2.2.2.2<0:=.inl (by simpa using hc57);refine chS 2 ?_;simp only[↓bO,go_sem,seval];apply d;refine z8 (b:=true) (by first | exact rfl | exact congrArg (fun b=>AV.v (.bool b)) hb60) (fun _=>?_) (fun h=>(by cases h));refine sqD ?_;apply zab;(try simp only[go_sem]);refine ⟨_,zad 0 (zan ({S with F:=G3,W:=S.W.set r.1 (max j.2.2.2.1 j.2.2.2.2)})),⟨({S with F:=G3,W:=S.W.set r.1 (max j.2.2.2.1 j.2.2.2.2)},([],true)),?_,rfl,rfl⟩,.tup ⟨.data (zd0 _),.v _ _,trivial⟩,zcg tz1 _,?_,?_,by omega⟩;· exact ⟨⟨rfl,rfl,r.1,r.2,FJoin.of hj.1 hG3,.inr ⟨by simpa using hb45,j.2.1,j.2.2.1,j.2.2.2.1,j.2.2.2.2,hj.2.1,hj.2.2.1,hj.2.2.2.1,hj.2.2.2.2,.inl ⟨hneg,rfl,rfl⟩⟩⟩,rfl⟩
   ·
    exact Le.tup ⟨Le.slNil 2,.refl _,trivial⟩
   first | (refine ⟨0,rfl,rfl⟩) | (refine ⟨0,by simp only[zan,zad,zk,zf,Nat.reduceAdd,List.length_set],rfl⟩)
  simp only[go_sem];(have hx0:0<=j.2.2.2.1:=by simpa using hc57);refine chS 2 ?_;simp only[↓bO,go_sem,seval];apply d;apply z8 rfl <;> intro hb60
  ·
   have hneg:j.2.2.2.1<0\/j.2.2.2.2<0:=.inr (by simpa using hb60);refine sqD ?_;apply zab;(try simp only[go_sem]);refine ⟨_,zad 0 (zan ({S with F:=G3,W:=S.W.set r.1 (max j.2.2.2.1 j.2.2.2.2)})),⟨({S with F:=G3,W:=S.W.set r.1 (max j.2.2.2.1 j.2.2.2.2)},([],true)),?_,rfl,rfl⟩,.tup ⟨.data (zd0 _),.v _ _,trivial⟩,zcg tz1 _,?_,?_,by omega⟩;· exact ⟨⟨rfl,rfl,r.1,r.2,FJoin.of hj.1 hG3,.inr ⟨by simpa using hb45,j.2.1,j.2.2.1,j.2.2.2.1,j.2.2.2.2,hj.2.1,hj.2.2.1,hj.2.2.2.1,hj.2.2.2.2,.inl ⟨hneg,rfl,rfl⟩⟩⟩,rfl⟩
   ·
    exact Le.tup ⟨Le.slNil 2,.refl _,trivial⟩
   first | (refine ⟨0,rfl,rfl⟩) | (refine ⟨0,by simp only[zan,zad,zk,zf,Nat.reduceAdd,List.length_set],rfl⟩)
  (have hy0:0<=j.2.2.2.2:=by simpa using hb60);obtain ⟨gx,hgx⟩:∃g,S.G.N[(j.2.2.2.1).toNat]?=some g:=⟨_,za (by have:=hS.wr _ (zc hj.2.2.2.1);omega)⟩;obtain ⟨gy,hgy⟩:∃g,S.G.N[(j.2.2.2.2).toNat]?=some g:=⟨_,za (by have:=hS.wr _ (zc hj.2.2.2.2);omega)⟩;have hPx:=zd6 S.G j.2.2.2.1 hpl;rw[GS.parts_in hx0 hgx] at hPx;have hPy:=zd6 S.G j.2.2.2.2 hpl;rw[GS.parts_in hy0 hgy] at hPy;have hlx:=hS.pl gx (zc hgx);have hly:=hS.pl gy (zc hgy);apply zaa;apply w;refine sqR fun _ w=>?_;(iterate 3 (refine chS 2 ?_));simp only[↓bO,go_sem,seval,gM hz2,hk1,hk2,setIC,intC,List.length_set,List.set_set];apply w;refine z6 fun _ w=>?_;refine zax [(0,1,[.ptr 1 0])] 14 rfl mixed (zeg) rfl ?_;dsimp only;refine tkS 0 ?_;refine tkS 1 ?_;refine tkS 2 ?_;refine tkM 3 0 ?_;refine tkS 4 ?_;refine tkS 6 ?_;refine tkS 7 ?_;refine tkS 8 ?_;refine tkM 9 0 ?_;refine tkS 10 ?_;refine al1 (i:=5) ?_;refine opT fun _ u=>?_;simp only[↓bO,go_sem,seval];refine GCalls.at (hPx) (.cons (.v _) .nil) (zap _) (i:=1) (j:=2) (k:=3) rfl rfl rfl tz3 tz3 tz3 tz2 tz2 tz2 ?_;simp only[zam,Nat.reduceEqDiff,↓reduceIte];(try simp only[go_sem]);refine u _ ⟨zeg,?_⟩;clear u;refine al1 (i:=11) ?_;refine opT fun _ u=>?_;simp only[↓bO,go_sem,seval];refine GCalls.at (hPy) (.cons (.v _) .nil) (zap _) (i:=1) (j:=2) (k:=3) rfl rfl rfl tz3 tz3 tz3 tz2 tz2 tz2 ?_;simp only[zam,Nat.reduceEqDiff,↓reduceIte];(try simp only[go_sem]);refine u _ ⟨zeg,?_⟩;clear u;refine tkS 12 ?_;refine tkS 13 ?_;refine dnA ?_;apply w;refine z6 fun _ w=>?_;refine zaP (mB 119 633825300114114700748351614976) ([(99,.v (.bool (clash gx gy)))]) ([]) ?_ ?_
  ·
   refine zax [(0,1,[.ptr 1 0])] 20 rfl mixed (zeg) rfl ?_;dsimp only;refine tkS 0 ?_;refine tkS 1 ?_;refine tkS 2 ?_;refine tkM 3 0 ?_;refine tkS 4 ?_;refine tkS 6 ?_;refine tkS 7 ?_;refine tkS 8 ?_;refine tkM 9 0 ?_;refine tkS 10 ?_;refine al1 (i:=5) ?_;refine opT fun _ u=>?_;simp only[↓bO,go_sem,seval];refine GCalls.at (zdD S.G j.2.2.2.1 gx hx0 hgx) (.cons (.v _) .nil) (.v _) (i:=1) (j:=2) (k:=3) rfl rfl rfl tz3 tz3 tz3 tz2 tz2 tz2 ?_;simp only[zam,Nat.reduceEqDiff,↓reduceIte];(try simp only[go_sem]);refine u _ ⟨zeg,?_⟩;clear u;refine al1 (i:=11) ?_;refine opT fun _ u=>?_;simp only[↓bO,go_sem,seval];refine GCalls.at (zdD S.G j.2.2.2.2 gy hy0 hgy) (.cons (.v _) .nil) (.v _) (i:=1) (j:=2) (k:=3) rfl rfl rfl tz3 tz3 tz3 tz2 tz2 tz2 ?_;simp only[zam,Nat.reduceEqDiff,↓reduceIte];(try simp only[go_sem]);refine u _ ⟨zeg,?_⟩;clear u;refine alS 12 ?_ (hH:=by exact zeg);refine tkS 13 ?_;refine zjf 93 rfl (fun hc93=>?_) (fun hc93=>?_)
   ·
    simp only[go_sem];have hcl:clash gx gy=true:=clash_eq gx gy hc93;refine zaZ 14 rfl tz0 tz0 tz0 (fun _ _ h=>h) tz0 ?_;simp only[go_sem];refine zaZ 15 rfl tz0 tz0 tz0 (fun _ _ h=>h) tz0 ?_;simp only[go_sem];refine zaZ 16 rfl tz0 tz0 tz0 (fun _ _ h=>h) tz0 ?_;simp only[go_sem];refine zaZ 17 rfl tz0 tz0 tz0 (fun _ _ h=>h) tz0 ?_;simp only[go_sem];refine zaZ 18 rfl tz0 tz0 tz0 (fun _ _ h=>h) tz0 ?_;simp only[go_sem];refine alS 19 ?_ (hH:=by exact zeg);refine dnA ?_;simp only[go_sem];(try simp only[go_sem,seval]);(first | rw[hcl] | rw[clash]);exact Weak.mk (by first | (simp only[go_sem,Le.refl,Le.any];done) | (simp only[go_sem,clash,hc93,zkA,Bool.false_or,Le.refl,Le.any];done)) (fun _ _ h=>h) rfl rfl
   simp only[go_sem];refine zb0 14 rfl tz0 tz0 tz0 (fun _ _ h=>h) tz0 fun _ u=>?_;simp only[↓bO,go_sem,seval];apply u;clear u;refine zb0 15 rfl tz0 tz0 tz0 (fun _ _ h=>h) tz0 fun _ u=>?_;simp only[↓bO,go_sem,seval];apply u;clear u;refine zb0 16 rfl tz0 tz0 tz0 (fun _ _ h=>h) tz0 fun _ u=>?_;simp only[↓bO,go_sem,seval];apply u;clear u;refine zb0 17 rfl tz0 tz0 tz0 (fun _ _ h=>h) tz0 fun _ u=>?_;simp only[↓bO,go_sem,seval];apply u;clear u;refine al1 (i:=18) ?_;refine aAt_if rfl fun _ u=>?_;simp only[↓bO,go_sem,seval];refine u _ ⟨zeg,?_⟩;clear u;refine alS 19 ?_ (hH:=by exact zeg);refine dnA ?_;simp only[go_sem];(try simp only[go_sem,seval]);(first | rw[hcl] | rw[clash]);exact Weak.mk (by first | (simp only[go_sem,Le.refl,Le.any];done) | (simp only[go_sem,hc93,zkA,Bool.false_or,Le.refl,Le.any];done)) (fun _ _ h=>h) rfl rfl
  simp only[go_sem,seval];apply z8 rfl <;> intro hb99
  ·
   (have hcl:clash gx gy=true:=by simpa using hb99);refine sqD ?_;apply zab;(try simp only[go_sem]);refine ⟨_,zad 0 (zan ({S with F:=G3,W:=S.W.set r.1 j.2.2.2.1})),⟨({S with F:=G3,W:=S.W.set r.1 j.2.2.2.1},([],false)),?_,rfl,rfl⟩,.tup ⟨.data (zd0 _),.v _ _,trivial⟩,zcg tz1 _,?_,?_,by omega⟩;· exact ⟨⟨rfl,rfl,r.1,r.2,FJoin.of hj.1 hG3,.inr ⟨by simpa using hb45,j.2.1,j.2.2.1,j.2.2.2.1,j.2.2.2.2,hj.2.1,hj.2.2.1,hj.2.2.2.1,hj.2.2.2.2,.inr ⟨hx0,hy0,rfl,gx,gy,hgx,hgy,.inl ⟨hcl,rfl⟩⟩⟩⟩,rfl⟩
   ·
    exact Le.tup ⟨Le.slNil 2,.refl _,trivial⟩
   first | (refine ⟨0,rfl,rfl⟩) | (refine ⟨0,by simp only[zan,zad,zk,zf,Nat.reduceAdd,List.length_set],rfl⟩)
  (have hcl:clash gx gy=false:=by simpa using hb99);(have hll:gx.parts.length=gy.parts.length:=by have h9:=hcl;simp[clash] at h9;exact h9.2);apply zaa;apply w;refine sqD ?_;refine z6 fun _ w=>?_;refine sqR fun _ d=>?_;refine chS 2 ?_;simp only[↓bO,go_sem,seval];apply d;apply zac;refine zaH (Weak.tokSlot 14 108 2 rfl) ?_;simp only[go_sem];refine zai (σ:=Nat) (mB 119 7605903601369376408980219260928) (fun s=>s<=gx.parts.length) (fun s=>[(14,.osl 8 2 (((gx.parts.zip gy.parts).take s).map pC)),(102,.v (.int .i64 (s:Int)))]) (fun s=>[(8,.tok 108 2 s)]) (fun s=>gx.parts.length-s) 0 tz1 ?_ (fun s hs=>?_)
  ·
   simp only[go_sem,seval,bL];exact zaL
  simp only[go_sem,seval];refine sqD ?_;refine z6 fun _ d=>?_;apply z8 rfl <;> intro hb103
  ·
   (have hk:s<gx.parts.length:=by simpa using hb103);(have hkk2:s<gy.parts.length:=by omega);obtain ⟨p,hp⟩:∃p,gx.parts[s]?=some p:=⟨_,za hk⟩;obtain ⟨q,hq⟩:∃q,gy.parts[s]?=some q:=⟨_,za hkk2⟩;(have hpq:(gx.parts.zip gy.parts)[s]?=some (p,q):=by rw[List.getElem?_zip_eq_some];exact ⟨hp,hq⟩);have hw:IntKind.i64.wrap ((s:Int)+1)=(s:Int)+1:=zal tz1 tz1;(have hln:(((gx.parts.zip gy.parts).take s).map pC).length=s:=by simp;omega);(have hb1:(s+1) * 16<=140737488355328:=by omega);(have hb2:s+1<=maxLen:=by simp only[maxLen];omega);apply zaa;apply d;refine z6 fun _ d=>?_;apply zac;refine sqR fun _ c=>?_;simp only[↓bO,go_sem,seval,hk];apply c;refine zay 11 mixed tz0 fun J0 j0=>?_;(iterate 5 (simp only[go_sem];refine zae 2 fun _ u=>?_;simp only[↓zaA,↓dOp,↓bO,go_sem,seval,hk,hkk2,gM hp,gM hq,intC];apply u;clear u));simp only[go_sem];simp only[↓zaA,↓dOp,↓bO,go_sem,seval,↓zlZ];refine j0 _ ?_;clear j0 J0;simp only[go_sem];simp only[↓bO,go_sem,seval,hln,hb1,hb2];apply d;apply z7;simp only[↓bO,go_sem,seval,hw];refine ⟨(s+1),tz1,by omega,?_⟩;simp only[zar,zas,zah,zam,mB,seval,zj,zh,zaM pC hpq,pC,bL];exact zaL
  (have hk:s=(gx.parts.zip gy.parts).length:=by have h9:=hb103;simp at h9;simp;omega);apply zak;simp only[zao,zaj,zaf,bA,Nat.reduceEqDiff,↓reduceIte];apply w;refine sqR fun _ w=>?_;refine chS 2 ?_;simp only[↓bO,go_sem,seval];apply w;apply zab;(try simp only[go_sem]);refine ⟨_,zad 0 (zan ({S with F:=G3,W:=S.W.set r.1 j.2.2.2.1})),⟨({S with F:=G3,W:=S.W.set r.1 j.2.2.2.1},(gx.parts.zip gy.parts,true)),?_,rfl,rfl⟩,.tup ⟨.data (zd0 _),.v _ _,trivial⟩,zcg tz1 _,?_,?_,by omega⟩;· exact ⟨⟨rfl,rfl,r.1,r.2,FJoin.of hj.1 hG3,.inr ⟨by simpa using hb45,j.2.1,j.2.2.1,j.2.2.2.1,j.2.2.2.2,hj.2.1,hj.2.2.1,hj.2.2.2.1,hj.2.2.2.2,.inr ⟨hx0,hy0,rfl,gx,gy,hgx,hgy,.inr ⟨hcl,rfl⟩⟩⟩⟩,rfl⟩
  ·
   rw[hk,zI];exact Le.tup ⟨Le.oslL,.refl _,trivial⟩
  first | (refine ⟨1,rfl,rfl⟩) | (refine ⟨1,by simp only[zan,zad,zk,zf,Nat.reduceAdd,List.length_set],rfl⟩)
end Go.Proofs.YtpfiliamceimmaaGreatDoor
namespace Go.Proofs.YtpfiliamceimmaaGreatDoor
open Go Go.RowKit
abbrev Sh:=Nat->Option (Int×List Int)
inductive Cl (sh:Sh) (E:List (Nat×Nat)):Nat->Nat->Prop
 | base {a b:Nat} (h:(a,b)∈E):Cl sh E a b
 | refl (i:Nat):Cl sh E i i
 | symm {i k:Nat} (h:Cl sh E i k):Cl sh E k i
 | trans {i k l:Nat} (h:Cl sh E i k) (h2:Cl sh E k l):Cl sh E i l
 | part {i k j:Nat} {c p q:Int} {ps qs:List Int} (h:Cl sh E i k) (hi:sh i=some (c,ps)) (hk:sh k=some (c,qs)) (hc:c≠1) (hl:ps.length=qs.length) (hp:ps[j]?=some p) (hq:qs[j]?=some q):Cl sh E p.toNat q.toNat
def ClashAt (sh:Sh) (i k:Nat):Prop:=∃(c d:Int) (ps qs:List Int),sh i=some (c,ps)/\sh k=some (d,qs)/\c≠1/\d≠1/\(c≠d\/ps.length≠qs.length)
def Clash (sh:Sh) (E:List (Nat×Nat)):Prop:=∃i k:Nat,Cl sh E i k/\ClashAt sh i k
def ShLe (a b:Sh):Prop:=∀i x,a i=some x->b i=some x
theorem Cl.mono {a b:Sh} {E D:List (Nat×Nat)} (hs:ShLe a b) (hE:∀e∈E,e∈D) {i k:Nat} (h:Cl a E i k):Cl b D i k:=by
 induction h with
 | base h=>exact .base (hE _ h)
 | refl i=>exact .refl i
 | symm _ ih=>exact .symm ih
 | trans _ _ ih1 ih2=>exact .trans ih1 ih2
 | part _ hi hk hc hl hp hq ih=>exact .part ih (hs _ _ hi) (hs _ _ hk) hc hl hp hq
theorem Clash.mono {a b:Sh} {E D:List (Nat×Nat)} (hs:ShLe a b) (hE:∀e∈E,e∈D) (h:Clash a E):Clash b D:=by
 obtain ⟨i,k,h,c,d,ps,qs,h1,h2,h3⟩:=h;exact ⟨i,k,h.mono hs hE,c,d,ps,qs,hs _ _ h1,hs _ _ h2,h3⟩
structure Closed (sh:Sh) (E:List (Nat×Nat)) (R:Nat->Nat->Prop):Prop where
 base:∀e∈E,R e.1 e.2
 refl:∀i,R i i
 symm:∀i k,R i k->R k i
 trans:∀i k l,R i k->R k l->R i l
 part:∀(i k j:Nat) (c p q:Int) (ps qs:List Int),R i k->sh i=some (c,ps)->sh k=some (c,qs)->c≠1->ps.length=qs.length->ps[j]?=some p->qs[j]?=some q->R p.toNat q.toNat
theorem Cl.least {sh:Sh} {E:List (Nat×Nat)} {R:Nat->Nat->Prop} (h:Closed sh E R) {i k:Nat} (hc:Cl sh E i k):R i k:=by
 induction hc with
 | base h1=>exact h.base _ h1
 | refl i=>exact h.refl i
 | symm _ ih=>exact h.symm _ _ ih
 | trans _ _ ih1 ih2=>exact h.trans _ _ _ ih1 ih2
 | part _ hi hk hc hl hp hq ih=>exact h.part _ _ _ _ _ _ _ _ ih hi hk hc hl hp hq
inductive Eqv (B:Nat->Nat->Prop):Nat->Nat->Prop
 | base {a b:Nat} (h:B a b):Eqv B a b
 | refl (i:Nat):Eqv B i i
 | symm {i k:Nat} (h:Eqv B i k):Eqv B k i
 | trans {i k l:Nat} (h:Eqv B i k) (h2:Eqv B k l):Eqv B i l
theorem Eqv.lift {B C:Nat->Nat->Prop} (h:∀i k,B i k->Eqv C i k) {i k:Nat} (hc:Eqv B i k):Eqv C i k:=by
 induction hc with
 | base h1=>exact h _ _ h1
 | refl i=>exact .refl i
 | symm _ ih=>exact .symm ih
 | trans _ _ ih1 ih2=>exact .trans ih1 ih2
def One (up:List Nat) (i k:Nat):Prop:=i=k\/∃r,Rt up i r/\Rt up k r
theorem One.symm {up:List Nat} {i k:Nat} (h:One up i k):One up k i:=by
 (rcases h with h | ⟨r,h1,h2⟩);(·exact .inl h.symm);exact .inr ⟨r,h2,h1⟩
theorem One.trans {up:List Nat} {i k l:Nat} (h:One up i k) (h':One up k l):One up i l:=by
 (rcases h with rfl | ⟨r,h1,h2⟩);(·exact h');(rcases h' with rfl | ⟨q,h3,h4⟩);(·exact .inr ⟨r,h1,h2⟩);(cases Rt.det h2 h3);exact .inr ⟨r,h1,h4⟩
def Wt (up:List Nat) (w:List (Int×Int)) (i k:Nat):Prop:=One up i k\/∃p∈w,i=p.1.toNat/\k=p.2.toNat
def Qv (up:List Nat) (w:List (Int×Int)):Nat->Nat->Prop:=Eqv (Wt up w)
theorem Qv.nil {up:List Nat} {i k:Nat} (h:Qv up [] i k):One up i k:=by
 induction h with
 | base h1 =>
  (rcases h1 with h1 | ⟨p,hp,_⟩);·exact h1
  cases hp
 | refl i=>exact .inl rfl
 | symm _ ih=>exact ih.symm
 | trans _ _ ih1 ih2=>exact ih1.trans ih2
theorem Qv.one {up:List Nat} {w:List (Int×Int)} {i k:Nat} (h:One up i k):Qv up w i k:=.base (.inl h)
def shG (G:GS):Sh:=fun i=>(G.N[i]?).map fun x=>(x.k,x.parts)
theorem shG_at {G:GS} {i:Nat} {c:Int} {ps:List Int} (h:shG G i=some (c,ps)):∃x,G.N[i]?=some x/\x.k=c/\x.parts=ps:=by
 unfold shG at h
 cases hx:G.N[i]? with
 | none=>rw[hx] at h;cases h
 | some x=>rw[hx] at h;cases h;exact ⟨x,rfl,rfl,rfl⟩
theorem zdW {G:GS} {i:Nat} {x:GNode} (h:G.N[i]?=some x):shG G i=some (x.k,x.parts):=by unfold shG;rw[h];rfl
structure WInv (E:List (Nat×Nat)) (S:CS) (w:List (Int×Int)):Prop where
 c:CInv S
 wr:∀p∈w,(0<=p.1/\p.1<(S.G.N.length:Int))/\0<=p.2/\p.2<(S.G.N.length:Int)
 sub:∀i k,One S.F.up i k->Cl (shG S.G) E i k
 subw:∀p∈w,Cl (shG S.G) E p.1.toNat p.2.toNat
 ex:∀e∈E,Qv S.F.up w e.1 e.2
 neg:∀(r i:Nat) (x c:Int) (ps:List Int),S.W[r]?=some x->x<0->Rt S.F.up i r->shG S.G i=some (c,ps)->c=1
 pos:∀(r:Nat) (x:Int),Rt S.F.up r r->S.W[r]?=some x->0<=x->Rt S.F.up x.toNat r/\∃c ps,shG S.G x.toNat=some (c,ps)/\c≠1 /\
  ∀(i:Nat) (d:Int) (qs:List Int),Rt S.F.up i r->shG S.G i=some (d,qs)->d≠1->d=c/\qs.length=ps.length/\∀(j:Nat) (p q:Int),ps[j]?=some p->qs[j]?=some q->Qv S.F.up w q.toNat p.toNat
theorem CInv.root {S:CS} (h:CInv S) {i:Nat} (hi:i<S.G.N.length):∃r,Rt S.F.up i r:=by
 obtain ⟨_,H⟩:=h.f.ok;exact H.ex (by have h3:=h.fl;have h4:=h.wl;omega)
theorem CInv.wat {S:CS} (h:CInv S) {i r:Nat} (k:Rt S.F.up i r):∃x,S.W[r]?=some x:=⟨_,za (by have h1:=k.lt;have h3:=h.fl;omega)⟩
theorem WInv.closed {E:List (Nat×Nat)} {S:CS} (h:WInv E S []):Closed (shG S.G) E (One S.F.up):=by
 refine ⟨fun e he=>(h.ex e he).nil,fun i=>.inl rfl,fun _ _ h=>h.symm,fun _ _ _ h k=>h.trans k,?_⟩;intro i k j c p q ps qs hik hi hk hc hl hp hq;(rcases hik with rfl | ⟨r,h1,h2⟩);(·rw[hi] at hk;cases hk;rw[hp] at hq;cases hq;exact .inl rfl);obtain ⟨x,hx⟩:=h.c.wat h1;(rcases Int.lt_or_le x 0 with hx0 | hx0);(·exact absurd (h.neg r i x c ps hx hx0 h1 hi) hc);obtain ⟨_,c2,rs,h4,h5,h6⟩:=h.pos r x (.base h1.root) hx hx0;obtain ⟨e1,e2,e3⟩:=h6 i c ps h1 hi hc;obtain ⟨_,e5,e6⟩:=h6 k c qs h2 hk hc;have hj:=(zb.1 hp).1;have hr:rs[j]?=some (rs[j]'tz1):=za tz1;exact ((e3 j _ _ hr hp).nil).trans ((e6 j _ _ hr hq).nil).symm
theorem WInv.iff {E:List (Nat×Nat)} {S:CS} (h:WInv E S []) (i k:Nat):One S.F.up i k↔Cl (shG S.G) E i k:=⟨h.sub i k,fun hc=>Cl.least h.closed hc⟩
theorem WInv.noClash {E:List (Nat×Nat)} {S:CS} (h:WInv E S []):¬Clash (shG S.G) E:=by
 rintro ⟨i,k,hc,c,d,ps,qs,hi,hk,hc1,hd1,hne⟩;rcases (h.iff i k).2 hc with rfl | ⟨r,h1,h2⟩
 ·rw[hi] at hk;cases hk
  rcases hne with e | e <;> exact e rfl
 obtain ⟨x,hx⟩:=h.c.wat h1;(rcases Int.lt_or_le x 0 with hx0 | hx0);(·exact absurd (h.neg r i x c ps hx hx0 h1 hi) hc1);obtain ⟨_,c2,rs,h4,h5,h6⟩:=h.pos r x (.base h1.root) hx hx0;obtain ⟨e1,e2,_⟩:=h6 i c ps h1 hi hc1;obtain ⟨e4,e5,_⟩:=h6 k d qs h2 hk hd1;(rcases hne with e | e);(·exact e (by rw[e1,e4]));exact e tz1
theorem clash_iff {x y:GNode} (hx:x.k≠1) (hy:y.k≠1) {G:GS} {i k:Nat} (h1:G.N[i]?=some x) (h2:G.N[k]?=some y):clash x y=true->ClashAt (shG G) i k:=fun h=>by
 refine ⟨_,_,_,_,zdW h1,zdW h2,hx,hy,?_⟩;simpa [clash] using h
theorem clash_not {x y:GNode} (h:clash x y=false):x.k=y.k/\x.parts.length=y.parts.length:=by
 simpa [clash] using h
theorem zip_at {α:Type} {a b:List α} {j:Nat} {p q:α} (hp:a[j]?=some p) (hq:b[j]?=some q):(p,q)∈a.zip b:=by
 refine List.mem_iff_getElem?.2 ⟨j,?_⟩;rw[List.getElem?_zip_eq_some];exact ⟨hp,hq⟩
theorem CJoin.shape {S:CS} {a b:Nat} {s:CS×(List (Int×Int)×Bool)} (h:CJoin S a b s) (hc:CInv S):CInv s.1:=by
 obtain ⟨r,two,hF,hx⟩:=h.ex;have hg:=h.g;have hl:=hF.len;have hl:s.1.F.up.length=S.F.up.length:=hl
 have hW:s.1.W=S.W\/∃v:Int,s.1.W=S.W.set r v/\(v=-1\/(0<=v/\v<(S.G.N.length:Int))):=by
  (rcases hx with ⟨_,h1,_⟩ | ⟨_,ra,rb,x,y,_,_,hx,hy,h2⟩);(·exact .inl h1);have hx2:=hc.wr _ (zc hx);have hy2:=hc.wr _ (zc hy);(rcases h2 with ⟨_,h3,_⟩ | ⟨_,_,h3,_⟩);(·exact .inr ⟨_,h3,by omega⟩);exact .inr ⟨_,h3,hx2⟩
 have hWl:s.1.W.length=S.W.length:=by
  (rcases hW with h1 | ⟨v,h1,_⟩ <;> rw[h1]);rw[List.length_set]
 refine ⟨by rw[hg];exact hc.g,hF.inv,by rw[hl,hWl];exact hc.fl,by rw[hWl,hg];exact hc.wl,fun w hw=>?_,by rw[hg];exact hc.pl,by rw[hg];exact hc.pr⟩;rw[hg];(rcases hW with h1 | ⟨v,h1,h2⟩);(·rw[h1] at hw;exact hc.wr w hw);rw[h1] at hw;(rcases List.mem_or_eq_of_mem_set hw with hw | rfl);(·exact hc.wr w hw);exact h2
structure Link (up up':List Nat) (r ra rb:Nat):Prop where
 rt:∀k q,Rt up' k q↔(q=r/\(Rt up k ra\/Rt up k rb))\/(q≠ra/\q≠rb/\Rt up k q)
 r:r=ra\/r=rb
theorem Link.toR {up up':List Nat} {r ra rb k:Nat} (h:Link up up' r ra rb) (hk:Rt up k ra\/Rt up k rb):Rt up' k r:=(h.rt k r).2 (.inl ⟨rfl,hk⟩)
theorem Link.to {up up':List Nat} {r ra rb k q:Nat} (h:Link up up' r ra rb) (hk:Rt up k q):∃q',Rt up' k q'/\(q'=q\/(q'=r/\(q=ra\/q=rb))):=by
 by_cases e1:q=ra
 ·exact ⟨r,h.toR (.inl (e1▸hk)),.inr ⟨rfl,.inl e1⟩⟩
 by_cases e2:q=rb
 (·exact ⟨r,h.toR (.inr (e2▸hk)),.inr ⟨rfl,.inr e2⟩⟩);exact ⟨q,(h.rt k q).2 (.inr ⟨e1,e2,hk⟩),.inl rfl⟩
theorem Link.one {up up':List Nat} {r ra rb i k:Nat} (h:Link up up' r ra rb) (ho:One up i k):One up' i k:=by
 (rcases ho with rfl | ⟨q,h1,h2⟩);(·exact .inl rfl);obtain ⟨q',h3,h4⟩:=h.to h1;obtain ⟨q2,h5,h6⟩:=h.to h2;refine .inr ⟨q',h3,?_⟩
 have:q2=q':=by
  (rcases h4 with h4 | ⟨h4,h7⟩ <;> rcases h6 with h6 | ⟨h6,h8⟩);·rw[h4,h6]
  ·subst h4
   have:=(h.rt i q').1 h3;(rcases this with ⟨e,_⟩ | ⟨e1,e2,_⟩);(·rw[h6,e]);(rcases h8 with e | e);(·exact absurd e e1);exact absurd e e2
  ·subst h6
   have:=(h.rt k q2).1 h5;(rcases this with ⟨e,_⟩ | ⟨e1,e2,_⟩);(·rw[h4,e]);(rcases h7 with e | e);(·exact absurd e e1);exact absurd e e2
  rw[h4,h6]
 exact this▸h5
theorem WInv.link {E:List (Nat×Nat)} {S:CS} {w more:List (Int×Int)} {p q:Int} (h:WInv E S (w++[(p,q)])) {S':CS} {r ra rb:Nat} (hL:Link S.F.up S'.F.up r ra rb) (ha:Rt S.F.up p.toNat ra) (hb:Rt S.F.up q.toNat rb) (hg:S'.G=S.G) :
  (∀i k,One S'.F.up i k->Cl (shG S.G) E i k)/\∀i k,Qv S.F.up (w++[(p,q)]) i k->Qv S'.F.up (w++more) i k:=by
 have hab:Cl (shG S.G) E ra rb:=.trans (.symm (h.sub _ _ (.inr ⟨ra,ha,.base ha.root⟩))) (.trans (h.subw (p,q) tz4) (h.sub _ _ (.inr ⟨rb,hb,.base hb.root⟩)))
 have key:∀i,Rt S'.F.up i r->Cl (shG S.G) E i ra:=fun i hi=>by
  (rcases (hL.rt i r).1 hi with ⟨_,h1 | h1⟩ | ⟨h1,h2,_⟩);(·exact h.sub _ _ (.inr ⟨ra,h1,.base ha.root⟩));(·exact .trans (h.sub _ _ (.inr ⟨rb,h1,.base hb.root⟩)) (.symm hab));(rcases hL.r with e | e);(·exact absurd e h1);exact absurd e h2
 refine ⟨fun i k hik=>?_,fun i k hik=>hik.lift fun i k hik=>?_⟩
 ·rcases hik with rfl | ⟨t,h1,h2⟩
  ·exact .refl _
  by_cases e:t=r
  (·subst e;exact .trans (key i h1) (.symm (key k h2)));(rcases (hL.rt i t).1 h1 with ⟨e1,_⟩ | ⟨_,_,h3⟩);(·exact absurd e1 e);(rcases (hL.rt k t).1 h2 with ⟨e1,_⟩ | ⟨_,_,h4⟩);(·exact absurd e1 e);exact h.sub _ _ (.inr ⟨t,h3,h4⟩)
 (rcases hik with hik | ⟨z,hz,e1,e2⟩);(·exact Qv.one (hL.one hik));(rcases zD.1 hz with hz | hz);(·exact .base (.inr ⟨z,by simp[hz],e1,e2⟩));(simp at hz;subst hz);subst e1;subst e2;exact Qv.one (.inr ⟨r,hL.toR (.inl ha),hL.toR (.inr hb)⟩)
theorem WInv.step {E:List (Nat×Nat)} {S:CS} {w more:List (Int×Int)} {p q:Int} (h:WInv E S (w++[(p,q)])) {S':CS} (hj:CJoin S p.toNat q.toNat (S',(more,true))):WInv E S' (w++more):=by
 have hc:=hj.shape h.c;obtain ⟨hg,hcl,r,two,hF,hx⟩:=hj;dsimp only at hg hcl hF hx hc;obtain ⟨_,_,ra,rb,ha,hb,hF⟩:=hF;dsimp only at hF;rcases hx with ⟨rfl,hW,hm⟩ | ⟨rfl,ra',rb',x,y,ha',hb',hx,hy,h2⟩
 ·rcases hF with ⟨e,_,hrt⟩ | ⟨_,e,_⟩
  rotate_left
  (·cases e);(obtain rfl:more=[]:=by simpa using hm);have hup:∀i k,One S'.F.up i k↔One S.F.up i k:=fun i k=>by unfold One;simp only[hrt]
  have hQ:∀i k,Qv S.F.up (w++[(p,q)]) i k->Qv S'.F.up (w++[]) i k:=fun i k hik=>hik.lift fun i k hik=>by
   (rcases hik with hik | ⟨z,hz,e1,e2⟩);(·exact Qv.one ((hup _ _).2 hik));(rcases zD.1 hz with hz | hz);(·exact .base (.inr ⟨z,by simp[hz],e1,e2⟩));(simp at hz;subst hz;subst e1;subst e2);exact Qv.one ((hup _ _).2 (.inr ⟨ra,ha,e▸hb⟩))
  refine ⟨hc,fun z hz=>?_,fun i k hik=>?_,fun z hz=>?_,fun e he=>hQ _ _ (h.ex e he),?_,?_⟩;(·rw[hg];exact h.wr z (by simp at hz;simp[hz]));(·rw[hg];exact h.sub i k ((hup i k).1 hik));·rw[hg];exact h.subw z (by simp at hz;simp[hz])
  ·intro t i x c ps h1 h2 h3 h4
   rw[hW] at h1;rw[hg] at h4;exact h.neg t i x c ps h1 h2 ((hrt _ _).1 h3) h4
  intro t x h1 h2 h3;rw[hW] at h2;obtain ⟨h4,c,ps,h5,h6,h7⟩:=h.pos t x ((hrt _ _).1 h1) h2 h3;refine ⟨(hrt _ _).2 h4,c,ps,by rw[hg];exact h5,h6,fun i d qs h8 h9 h10=>?_⟩;rw[hg] at h9;obtain ⟨h11,h12,h13⟩:=h7 i d qs ((hrt _ _).1 h8) h9 h10;exact ⟨h11,h12,fun j p q h14 h15=>hQ _ _ (h13 j p q h14 h15)⟩
 (cases ha.det ha');(cases hb.det hb');(rcases hF with ⟨_,e,_⟩ | ⟨hne,_,hr,hrt⟩);(·cases e);have hL:Link S.F.up S'.F.up r ra rb:=⟨hrt,hr⟩;obtain ⟨hsub,hQ⟩:=h.link (more:=more) hL ha hb hg;have haa:Rt S.F.up ra ra:=.base ha.root;have hbb:Rt S.F.up rb rb:=.base hb.root
 have hrl:r<S.W.length:=by
  (rcases hr with rfl | rfl);(·exact (zb.1 hx).1);exact (zb.1 hy).1
 have hold:∀t i,t≠r->Rt S'.F.up i t->t≠ra/\t≠rb/\Rt S.F.up i t:=fun t i ht hi=>by
  (rcases (hrt i t).1 hi with ⟨e1,_⟩ | h3);(·exact absurd e1 ht);exact h3
 have hrr:∀i,Rt S'.F.up i r->Rt S.F.up i ra\/Rt S.F.up i rb:=fun i hi=>by
  (rcases (hrt i r).1 hi with ⟨_,h3⟩ | ⟨h3,h4,_⟩);(·exact h3);(rcases hr with e | e);(·exact absurd e h3);exact absurd e h4
 -- what holds behind the change,whatever stands at the new root
 have fin:∀v:Int,S'.W=S.W.set r v->(∀z∈more,((0<=z.1/\z.1<(S.G.N.length:Int))/\0<=z.2/\z.2<(S.G.N.length:Int))/\Cl (shG S.G) E z.1.toNat z.2.toNat) ->
   (v<0->x<0/\y<0)->(0<=v->Rt S'.F.up v.toNat r/\∃c ps,shG S.G v.toNat=some (c,ps)/\c≠1/\∀(i:Nat) (d:Int) (qs:List Int),Rt S'.F.up i r->shG S.G i=some (d,qs)->d≠1->d=c/\qs.length=ps.length/\∀(j:Nat) (p q:Int),ps[j]?=some p->qs[j]?=some q->Qv S'.F.up (w++more) q.toNat p.toNat) ->
   WInv E S' (w++more):=by
  intro v hW hmore hneg hpos;refine ⟨hc,fun z hz=>?_,fun i k hik=>by rw[hg];exact hsub i k hik,fun z hz=>?_,fun e he=>hQ _ _ (h.ex e he),?_,?_⟩
  ·rw[hg]
   (rcases zD.1 hz with hz | hz);(·exact h.wr z (by simp[hz]));exact (hmore z hz).1
  ·rw[hg]
   (rcases zD.1 hz with hz | hz);(·exact h.subw z (by simp[hz]));exact (hmore z hz).2
  ·intro t i u c ps h1 h2 h3 h4
   rw[hW] at h1;rw[hg] at h4
   by_cases e:t=r
   ·subst e
    rw[List.getElem?_set_self hrl] at h1;(cases h1);obtain ⟨hx0,hy0⟩:=hneg h2;(rcases hrr i h3 with h5 | h5);(·exact h.neg ra i x c ps hx hx0 h5 h4);exact h.neg rb i y c ps hy hy0 h5 h4
   rw[List.getElem?_set_ne (fun e2=>e e2.symm)] at h1;exact h.neg t i u c ps h1 h2 (hold t i e h3).2.2 h4
  intro t u h1 h2 h3;rw[hW] at h2;rw[hg]
  by_cases e:t=r
  ·subst e
   rw[List.getElem?_set_self hrl] at h2;(cases h2);exact hpos h3
  rw[List.getElem?_set_ne (fun e2=>e e2.symm)] at h2;obtain ⟨e1,e2,h1o⟩:=hold t t e h1;obtain ⟨h4,c,ps,h5,h6,h7⟩:=h.pos t u h1o h2 h3;refine ⟨(hrt _ _).2 (.inr ⟨e1,e2,h4⟩),c,ps,h5,h6,fun i d qs h8 h9 h10=>?_⟩;obtain ⟨h11,h12,h13⟩:=h7 i d qs (hold t i e h8).2.2 h9 h10;exact ⟨h11,h12,fun j p q h14 h15=>hQ _ _ (h13 j p q h14 h15)⟩
 rcases h2 with ⟨hor,hW,hm⟩ | ⟨hx0,hy0,hW,gx,gy,hgx,hgy,hcl2⟩
 ·obtain rfl:more=[]:=by simpa using hm
  refine fin _ hW tz4 (fun h9=>by omega) fun hv=>?_;rcases Int.lt_or_le x 0 with hx0 | hx0
  ·have hmax:max x y=y:=by omega
   rw[hmax] at hv ⊢;obtain ⟨h4,c,ps,h5,h6,h7⟩:=h.pos rb y hbb hy hv;refine ⟨hL.toR (.inr h4),c,ps,h5,h6,fun i d qs h8 h9 h10=>?_⟩;(rcases hrr i h8 with h11 | h11);(·exact absurd (h.neg ra i x d qs hx hx0 h11 h9) h10);obtain ⟨h12,h13,h14⟩:=h7 i d qs h11 h9 h10;exact ⟨h12,h13,fun j p q h15 h16=>hQ _ _ (h14 j p q h15 h16)⟩
  (have hy0:y<0:=by omega);(have hmax:max x y=x:=by omega);rw[hmax] at hv ⊢;obtain ⟨h4,c,ps,h5,h6,h7⟩:=h.pos ra x haa hx hv;refine ⟨hL.toR (.inl h4),c,ps,h5,h6,fun i d qs h8 h9 h10=>?_⟩;rcases hrr i h8 with h11 | h11
  ·obtain ⟨h12,h13,h14⟩:=h7 i d qs h11 h9 h10
   exact ⟨h12,h13,fun j p q h15 h16=>hQ _ _ (h14 j p q h15 h16)⟩
  exact absurd (h.neg rb i y d qs hy hy0 h11 h9) h10
 (rcases hcl2 with ⟨_,e⟩ | ⟨hcl2,e⟩);(·cases e);(obtain rfl:more=gx.parts.zip gy.parts:=by simpa using e);obtain ⟨hk,hl⟩:=clash_not hcl2;obtain ⟨h4,c,ps,h5,h6,h7⟩:=h.pos ra x haa hx hx0;obtain ⟨h4',c',ps',h5',h6',h7'⟩:=h.pos rb y hbb hy hy0;have ex:=zdW hgx;have ey:=zdW hgy;rw[h5] at ex;cases ex;rw[h5'] at ey;cases ey
 have hxy:Cl (shG S.G) E x.toNat y.toNat:=by
  have h8:=h.sub _ _ (.inr ⟨ra,h4,ha⟩);have h9:=h.sub _ _ (.inr ⟨rb,hb,h4'⟩);exact .trans h8 (.trans (h.subw (p,q) tz4) h9)
 refine fin _ hW (fun z hz=>?_) (fun h9=>by omega) fun _=>?_
 ·obtain ⟨j,hj⟩:=List.mem_iff_getElem?.1 hz
  obtain ⟨z1,z2⟩:=z;rw[List.getElem?_zip_eq_some] at hj;refine ⟨⟨h.c.pr gx (zc hgx) _ (zc hj.1),h.c.pr gy (zc hgy) _ (zc hj.2)⟩,?_⟩;refine .part hxy h5 ?_ h6 hl hj.1 hj.2;rw[h5',hk]
 refine ⟨hL.toR (.inl h4),_,_,h5,h6,fun i d qs h8 h9 h10=>?_⟩;rcases hrr i h8 with h11 | h11
 ·obtain ⟨h12,h13,h14⟩:=h7 i d qs h11 h9 h10
  exact ⟨h12,h13,fun j p q h15 h16=>hQ _ _ (h14 j p q h15 h16)⟩
 obtain ⟨h12,h13,h14⟩:=h7' i d qs h11 h9 h10;refine ⟨by rw[h12,hk],by rw[h13,hl],fun j p q h15 h16=>?_⟩;have hj:=(zb.1 h15).1;have h17:gy.parts[j]?=some (gy.parts[j]'tz1):=za tz1;refine .trans (hQ _ _ (h14 j _ q h17 h16)) (.symm (.base (.inr ⟨(p,_),?_,rfl,rfl⟩)));exact zD.2 (.inr (zip_at h15 h17))
theorem WInv.bad {E:List (Nat×Nat)} {S:CS} {w more:List (Int×Int)} {p q:Int} (h:WInv E S (w++[(p,q)])) {S':CS} (hj:CJoin S p.toNat q.toNat (S',(more,false))):Clash (shG S.G) E:=by
 obtain ⟨hg,hcl,r,two,hF,hx⟩:=hj;dsimp only at hg hcl hF hx;(rcases hx with ⟨_,_,hm⟩ | ⟨rfl,ra,rb,x,y,ha,hb,hx,hy,h2⟩);(·cases hm);(rcases h2 with ⟨_,_,hm⟩ | ⟨hx0,hy0,hW,gx,gy,hgx,hgy,hcl2⟩);(·cases hm);rcases hcl2 with ⟨hcl2,_⟩ | ⟨_,e⟩
 rotate_left
 (·cases e);obtain ⟨h4,c,ps,h5,h6,_⟩:=h.pos ra x (.base ha.root) hx hx0;obtain ⟨h4',c',ps',h5',h6',_⟩:=h.pos rb y (.base hb.root) hy hy0;have ex:=zdW hgx;have ey:=zdW hgy;rw[h5] at ex;cases ex;rw[h5'] at ey;cases ey;refine ⟨x.toNat,y.toNat,?_,clash_iff h6 h6' hgx hgy hcl2⟩;exact .trans (h.sub _ _ (.inr ⟨ra,h4,ha⟩)) (.trans (h.subw (p,q) tz4) (h.sub _ _ (.inr ⟨rb,hb,h4'⟩)))
def zbd (up:List Nat):Nat:=(List.range up.length).countP fun i=>decide (up[i]?=some i)
theorem zfY {α:Type} {p q:α->Bool}:∀{l:List α},(∀x∈l,p x=true->q x=true)->(∃x∈l,q x=true/\p x=false)->l.countP p<l.countP q
 | [],_,h=>by obtain ⟨_,h,_⟩:=h;cases h
 | a::l,h,hx=>by
  obtain ⟨x,hx,h1,h2⟩:=hx;(have hm:l.countP p<=l.countP q:=List.countP_mono_left fun x hx=>h x (by simp[hx]));simp only[List.countP_cons];(rcases zE.1 hx with rfl | hx);(·rw[h1,h2];simp;omega);have:=zfY (l:=l) (fun x hx=>h x (by simp[hx])) ⟨x,hx,h1,h2⟩;have h3:=h a tz4;(cases hp:p a <;> cases hq:q a);(·simpa using this);(·simp;omega);(·rw[h3 hp] at hq;cases hq);simpa using this
theorem zcd {up:List Nat} {i:Nat}:up[i]?=some i↔Rt up i i:=⟨.base,Rt.root⟩
theorem zjN {up up':List Nat} (hl:up'.length=up.length) (h:∀k q,Rt up' k q↔Rt up k q):zbd up'=zbd up:=by
 unfold zbd;rw[hl];refine List.countP_congr fun i _=>?_;simp only[zd,zcd,h]
theorem zkp {up up':List Nat} {r ra rb:Nat} (hl:up'.length=up.length) (h:Link up up' r ra rb) (hne:ra≠rb) (ha:Rt up ra ra) (hb:Rt up rb rb):zbd up'<zbd up:=by
 unfold zbd;rw[hl];refine zfY (fun i _ hi=>?_) ?_
 ·simp only[zd,zcd] at hi ⊢
  rcases (h.rt i i).1 hi with ⟨e,_⟩ | ⟨_,_,h1⟩
  ·rcases h.r with e2 | e2
   (·rw[e,e2];exact ha);rw[e,e2];exact hb
  exact h1
 have key:∀z,Rt up z z->z≠r->(z=ra\/z=rb)->∃x∈List.range up.length,decide (up[x]?=some x)=true/\decide (up'[x]?=some x)=false:=fun z hz hzr hzz=>by
  refine ⟨z,List.mem_range.2 hz.lt,by simpa [zcd] using hz,?_⟩;simp only[ze,zcd];intro h9;(rcases (h.rt z z).1 h9 with ⟨e,_⟩ | ⟨e1,e2,_⟩);(·exact hzr e);(rcases hzz with e | e);(·exact e1 e);exact e2 e
 (rcases h.r with e | e);(·exact key rb hb (fun e2=>hne (by rw[e2,e])) (.inr rfl));exact key ra ha (fun e2=>hne (by rw[e2,e])) (.inl rfl)
theorem WInv.less {E:List (Nat×Nat)} {S:CS} {w more:List (Int×Int)} {p q:Int} (h:WInv E S (w++[(p,q)])) {S':CS} {ok:Bool} (hj:CJoin S p.toNat q.toNat (S',(more,ok))) :
  9 * zbd S'.F.up+(w++more).length<9 * zbd S.F.up+(w++[(p,q)]).length:=by
 obtain ⟨hg,hcl,r,two,hF,hx⟩:=hj;dsimp only at hg hcl hF hx;obtain ⟨_,hlen,ra,rb,ha,hb,hF⟩:=hF;dsimp only at hF hlen;simp only[zi,zz,zJ];rcases hx with ⟨rfl,hW,hm⟩ | ⟨rfl,ra',rb',x,y,ha',hb',hx,hy,h2⟩
 ·rcases hF with ⟨e,_,hrt⟩ | ⟨_,e,_⟩
  rotate_left
  (·cases e);rw[zjN hlen hrt];(have:more=[]:=by simpa using (congrArg Prod.fst hm));rw[this];simp
 (rcases hF with ⟨_,e,_⟩ | ⟨hne,_,hr,hrt⟩);(·cases e);have:=zkp hlen ⟨hrt,hr⟩ hne (.base ha.root) (.base hb.root)
 have hml:more.length<=8:=by
  rcases h2 with ⟨_,_,hm⟩ | ⟨_,_,_,gx,gy,hgx,_,hcl2⟩
  ·have:more=[]:=by simpa using (congrArg Prod.fst hm)
   rw[this];simp
  rcases hcl2 with ⟨_,e⟩ | ⟨_,e⟩
  ·have:more=[]:=by simpa using (congrArg Prod.fst e)
   rw[this];simp
  (have:more=gx.parts.zip gy.parts:=by simpa using (congrArg Prod.fst e));rw[this,List.length_zip];have:=h.c.pl gx (zc hgx);omega
 omega
end Go.Proofs.YtpfiliamceimmaaGreatDoor
namespace Go.Proofs.YtpfiliamceimmaaGreatDoor
open Go
theorem zfO {α:Type} {g:α->Bool} {l:List α} {r:α} (h:g r=false):zbE g (l++[r])=zbE g l:=by
 unfold zbE;simp only[List.any_append,List.any_cons,List.any_nil,h,Bool.or_false];split
 ·rename_i ha
  have:l.findIdx g<l.length:=List.findIdx_lt_length_of_exists (by simpa using ha);rw[List.findIdx_append,if_pos this]
 rfl
theorem ziZ {α:Type} {g:α->Bool} {l:List α} {r:α} (h:g r=true) (hl:zbE g l=-1):zbE g (l++[r])=(l.length:Int):=by
 have ha:l.any g=false:=by
  cases ha:l.any g with
  | false=>rfl
  | true=>rw[zbE,if_pos ha] at hl;omega
 refine zbl (p:=r) tz4 h fun j q hj hq=>?_;rw[zA hj] at hq
 cases hg:g q with
 | false=>rfl
 | true =>
  have:l.any g=true:=zcT hq hg;rw[ha] at this;cases this
theorem zdZ {α:Type} {g:α->Bool} {l:List α} (h:0<=zbE g l):∃r,l[(zbE g l).toNat]?=some r/\g r=true:=by
 unfold zbE at h ⊢;split at h
 ·rename_i ha
  rw[if_pos ha];have hlt:l.findIdx g<l.length:=List.findIdx_lt_length_of_exists (by simpa using ha);exact ⟨l[l.findIdx g],by simp[hlt],List.findIdx_getElem⟩
 omega
theorem zfP {k k' x:Int} (h:k≠k'):∀V:List (Int×Int),zaw (zg5 V k x) k'=zaw V k'
 | []=>by simp[zg5,zaw,h]
 | (a,b)::V=>by
  simp only[zg5];split;(·rename_i e;subst e;simp[zaw,h]);simp only[zaw];split;(·rfl);exact zfP h V
structure Rel (G:GS) (m:List RNode):Prop where
 len:G.N.length=m.length
 node:∀(i:Nat) (x:GNode) (r:RNode),G.N[i]?=some x->m[i]?=some r->x.k=r.t.k/\x.n=r.t.n/\x.parts=r.parts/\x.size=r.t.cnt/\r.t.cnt<=400/\r.t.right=true/\r.parts.length=r.t.ps.length /\
  ∀(j:Nat) (p:Int) (q:Ty),r.parts[j]?=some p->r.t.ps[j]?=some q->0<=p/\p<(i:Int)/\(m[p.toNat]?).map RNode.t=some q
 vars:∀n,(zaw G.V n=none/\zbE (RNode.isVar n) m=-1)\/∃k,zaw G.V n=some k/\zbE (RNode.isVar n) m=k/\0<=k
def Pre (m m':List RNode):Prop:=∃l,m'=m++l
theorem Pre.refl (m:List RNode):Pre m m:=⟨[],by simp⟩
theorem Pre.trans {a b c:List RNode} (h:Pre a b) (k:Pre b c):Pre a c:=by
 obtain ⟨l,rfl⟩:=h;obtain ⟨l',rfl⟩:=k;exact ⟨l++l',by simp⟩
theorem Pre.get {m m':List RNode} (h:Pre m m') {i:Nat} {q:Ty} (hq:(m[i]?).map RNode.t=some q):(m'[i]?).map RNode.t=some q:=by
 obtain ⟨l,rfl⟩:=h
 cases hm:m[i]? with
 | none=>rw[hm] at hq;cases hq
 | some r=>rw[zA (zb.1 hm).1];exact hq
theorem Pre.len {m m':List RNode} (h:Pre m m'):m.length<=m'.length:=by obtain ⟨l,rfl⟩:=h;simp
theorem zk8 {N:List GNode}:∀(ps:List Int) (qs:List Ty) (a:Int),ps.length=qs.length->(∀(j:Nat) (p:Int) (q:Ty),ps[j]?=some p->qs[j]?=some q->(N[p.toNat]?).map GNode.size=some (q.cnt:Int)) ->
  0<=a->a+Ty.cntL qs<=1099511627776->zeC N a ps=a+Ty.cntL qs
 | [],[],a,_,_,_,_=>by simp[zeC,Ty.cntL]
 | p::ps,q::qs,a,hl,h,ha,hb=>by
  simp only[Ty.cntL] at hb ⊢;have h0:=h 0 p q rfl rfl;simp only[zeC,h0,Option.getD_some];rw[show min 1099511627776 (a+(q.cnt:Int))=a+q.cnt by omega,zk8 ps qs _ (by simpa using hl) (fun j p q hp hq=>h (j+1) p q (by simpa using hp) (by simpa using hq)) tz1 tz1]
  omega
 | [],_::_,_,hl,_,_,_=>by simp at hl
 | _::_,[],_,hl,_,_,_=>by simp at hl
theorem Rel.snoc {G:GS} {m:List RNode} (h:Rel G m) (T:Ty) (l:List Int) (V':List (Int×Int)) (hc:T.cnt<=400) (hr:T.right=true) (hl:l.length=T.ps.length)
  (hp:∀(j:Nat) (p:Int) (q:Ty),l[j]?=some p->T.ps[j]?=some q->0<=p/\(m[p.toNat]?).map RNode.t=some q)
  (hV:∀n,(zaw V' n=none/\zbE (RNode.isVar n) (m++[⟨T,l⟩])=-1)\/∃k,zaw V' n=some k/\zbE (RNode.isVar n) (m++[⟨T,l⟩])=k/\0<=k) :
  Rel ⟨G.N++[⟨T.k,T.n,T.cnt,l⟩],V'⟩ (m++[⟨T,l⟩]):=by
 refine ⟨by simp[h.len],fun i x r hx hrr=>?_,hV⟩;have hlen:=h.len;rcases zG i m.length with hi | hi
 ·simp only at hx
  rw[zA tz1] at hx;rw[zA hi] at hrr;obtain ⟨h1,h2,h3,h4,h5,h6,h7,h8⟩:=h.node i x r hx hrr;refine ⟨h1,h2,h3,h4,h5,h6,h7,fun j p q hj hq=>?_⟩;obtain ⟨h9,h10,h11⟩:=h8 j p q hj hq;exact ⟨h9,h10,Pre.get ⟨_,rfl⟩ h11⟩
 (simp only at hx);rw[zK tz1] at hx;rw[zK hi] at hrr;(have hi0:i-m.length=0:=by have:=(zb.1 hrr).1;simp at this;omega);rw[hi0] at hrr;rw[show i-G.N.length=0 by omega] at hx;(simp at hx hrr);subst hx;subst hrr;refine ⟨rfl,rfl,rfl,rfl,hc,hr,hl,fun j p q hj hq=>?_⟩;obtain ⟨h9,h11⟩:=hp j p q hj hq;refine ⟨h9,?_,Pre.get ⟨_,rfl⟩ h11⟩
 cases hm:m[p.toNat]? with
 | none=>rw[hm] at h11;cases h11
 | some r=>have:=(zb.1 hm).1;omega
theorem okN_var {n:Int} {l:Nat} {k:Int} (h:okN k n l=true) (hk:k=1):l=0:=by
 simp only[okN,zd] at h;omega
theorem okN_zero {n:Int} {l:Nat} {k:Int} (h:okN k n l=true) (hk:¬k=1):n=0:=by
 simp only[okN,zd] at h;omega
theorem Ty.right_ok {t:Ty} (h:t.right=true):okN t.k t.n t.ps.length=true/\∀p∈t.ps,p.right=true:=by
 rw[Ty.right_eq,zy,zV] at h;exact h
theorem Ty.var_eq {t:Ty} (h:t.right=true) (hk:t.k=1):t=.mk 1 t.n []:=by
 obtain ⟨h1,_⟩:=t.right_ok h;have:=okN_var h1 hk;obtain ⟨k,n,ps⟩:=t;simp only[Ty.k,Ty.ps] at hk this;rw[hk,List.length_eq_zero_iff.1 this];rfl
structure RelStep (T:Ty) (G:GS) (m:List RNode):Prop where
 rel:Rel (T.gadd G).1 (T.radd m).1
 same:(T.gadd G).2=(T.radd m).2
 ge:0<=(T.radd m).2
 at':((T.radd m).1[(T.radd m).2.toNat]?).map RNode.t=some T
 pre:Pre m (T.radd m).1
theorem zhD:∀(ps:List Ty) (_:∀p∈ps,∀(G:GS) (m:List RNode),Rel G m->RelStep p G m) (G:GS) (m:List RNode) (l:List Int),Rel G m ->
  Rel (Ty.gaddL ps G l).1 (Ty.raddL ps m l).1/\(Ty.gaddL ps G l).2=(Ty.raddL ps m l).2/\Pre m (Ty.raddL ps m l).1 /\
  ∃l',(Ty.raddL ps m l).2=l++l'/\l'.length=ps.length/\∀(j:Nat) (p:Int) (q:Ty),l'[j]?=some p->ps[j]?=some q->0<=p/\((Ty.raddL ps m l).1[p.toNat]?).map RNode.t=some q
 | [],_,G,m,l,h=>⟨h,rfl,.refl m,[],by simp[Ty.raddL],rfl,by simp⟩
 | p::ps,hp,G,m,l,h=>by
  have s:=hp p tz4 G m h;obtain ⟨h1,h2,h3,l',h4,h5,h6⟩:=zhD ps (fun q hq=>hp q (by simp[hq])) (p.gadd G).1 (p.radd m).1 (l++[(p.gadd G).2]) s.rel;simp only[Ty.gaddL,Ty.raddL];rw[<- s.same];refine ⟨h1,h2,s.pre.trans h3,(p.gadd G).2::l',by rw[h4];simp,by simp[h5],fun j a q ha hq=>?_⟩
  cases j with
  | zero =>
   (simp at ha hq;subst ha;subst hq);have e:=s.same
   exact ⟨by rw[e];exact s.ge,by have h9:=h3.get s.at';rw[<- e] at h9;exact h9⟩
  | succ j=>exact h6 j a q (by simpa using ha) (by simpa using hq)
theorem Ty.cnt_le_mem {t p:Ty} (h:p∈t.ps):p.cnt<=t.cnt:=by
 have:=Ty.cnt_mem h;rw[t.cnt_eq];omega
theorem zbM:∀(T:Ty),T.right=true->T.cnt<=400->∀(G:GS) (m:List RNode),Rel G m->RelStep T G m:=by
 refine Ty.ind fun T ih=>?_;intro hr hc G m h;obtain ⟨hok,hps⟩:=T.right_ok hr
 by_cases hk:T.k=1
 ·have hT:=T.var_eq hr hk
  (have hps0:T.ps=[]:=by rw[hT];rfl);(have hcn:T.cnt=1:=by rw[T.cnt_eq,hps0];simp[Ty.cntL]);rcases h.vars T.n with ⟨hv,hi⟩ | ⟨k,hv,hi,h0⟩
  ·have eg:T.gadd G=((⟨G.N++[⟨T.k,T.n,1,[]⟩],zg5 G.V T.n G.N.length⟩:GS),(G.N.length:Int)):=by rw[Ty.gadd_var hk,hv]
   (have em:T.radd m=(m++[⟨T,[]⟩],(m.length:Int)):=by rw[Ty.radd_eq,if_neg tz1,hps0];rfl);refine ⟨?_,?_,?_,?_,?_⟩
   ·rw[eg,em]
    have:=h.snoc T [] (zg5 G.V T.n G.N.length) hc hr (by rw[hps0];rfl) tz4 (fun n=>?_);·rw[hcn] at this;exact this
    by_cases hn:T.n=n
    ·subst hn
     refine .inr ⟨G.N.length,zeD _ _ _,?_,by omega⟩;rw[ziZ (by simp[RNode.isVar,hk]) hi,h.len]
    rw[zfP hn,zfO (by simp[RNode.isVar,hn])];exact h.vars n
   (·rw[eg,em];simp[h.len]);(·rw[em];simp);(·rw[em];simp);rw[em];exact ⟨_,rfl⟩
  (have eg:T.gadd G=(G,k):=by rw[Ty.gadd_var hk,hv]);(have em:T.radd m=(m,k):=by rw[Ty.radd_eq,hi,if_pos ⟨hk,h0⟩]);refine ⟨by rw[eg,em];exact h,by rw[eg,em],by rw[em];exact h0,?_,by rw[em];exact .refl m⟩;rw[em];obtain ⟨r,hr1,hr2⟩:=zdZ (g:=RNode.isVar T.n) (l:=m) tz1;rw[hi] at hr1;simp only[hr1,zY];simp only[RNode.isVar,zy,beq_iff_eq] at hr2;have hlt:=(zb.1 hr1).1;obtain ⟨x,hx⟩:∃x,G.N[k.toNat]?=some x:=⟨_,za (by rw[h.len];exact hlt)⟩;have hrr:=(h.node _ x r hx hr1).2.2.2.2.2.1;rw[Ty.var_eq hrr hr2.1,hr2.2,<- hT]
 have hn:=okN_zero hok hk;obtain ⟨h1,h2,h3,l',h4,h5,h6⟩:=zhD T.ps (fun p hp=>ih p hp (hps p hp) (Nat.le_trans (Ty.cnt_le_mem hp) hc)) G m [] h;simp only[zB] at h4;have em:T.radd m=((Ty.raddL T.ps m []).1++[⟨T,l'⟩],((Ty.raddL T.ps m []).1.length:Int)):=by rw[Ty.radd_eq,if_neg tz1,h4]
 have hsz:zeC (Ty.gaddL T.ps G []).1.N 1 l'=T.cnt:=by
  have:=zk8 (N:=(Ty.gaddL T.ps G []).1.N) l' T.ps 1 h5 (fun j p q hj hq=>by
   obtain ⟨h7,h8⟩:=h6 j p q hj hq
   cases hm:(Ty.raddL T.ps m []).1[p.toNat]? with
   | none=>rw[hm] at h8;cases h8
   | some r =>
    rw[hm] at h8;cases h8;have hlt:=(zb.1 hm).1;obtain ⟨x,hx⟩:∃x,(Ty.gaddL T.ps G []).1.N[p.toNat]?=some x:=⟨_,za (by rw[h1.len];exact hlt)⟩;rw[hx]
    simp only[zY,(h1.node _ x r hx hm).2.2.2.1]) tz1 (by have:=T.cnt_eq;omega)
  rw[this,T.cnt_eq];omega
 (have eg:T.gadd G=((⟨(Ty.gaddL T.ps G []).1.N++[⟨T.k,T.n,T.cnt,l'⟩],(Ty.gaddL T.ps G []).1.V⟩:GS),((Ty.gaddL T.ps G []).1.N.length:Int)):=by rw[Ty.gadd_more hk,h2,h4,hsz,hn]);refine ⟨?_,?_,?_,?_,?_⟩
 ·rw[eg,em]
  refine h1.snoc T l' _ hc hr h5 h6 fun n=>?_;rw[zfO (by simp[RNode.isVar,hk])];exact h1.vars n
 (·rw[eg,em];simp[h1.len]);(·rw[em];simp);(·rw[em];simp);rw[em];exact h3.trans ⟨_,rfl⟩
theorem Rel.wf {G:GS} {m:List RNode} (h:Rel G m):GWf G.N:=by
 intro j x hx;have hlt:=(zb.1 hx).1;obtain ⟨r,hr⟩:∃r,m[j]?=some r:=⟨_,za (by rw[<- h.len];exact hlt)⟩;obtain ⟨h1,h2,h3,h4,h5,h6,h7,h8⟩:=h.node j x r hx hr;rw[h3];refine ⟨fun p hp=>?_,?_⟩
 ·obtain ⟨k,hk,e⟩:=zS.1 hp
  have h9:=h8 k p (r.t.ps[k]'tz1) (by rw[za hk,e]) (za tz1);exact ⟨h9.1,h9.2.1⟩
 have:=Ty.cntL_len r.t.ps;have:=r.t.cnt_eq;omega
theorem Rel.empty:Rel ⟨[],[]⟩ []:=⟨rfl,by simp,fun n=>.inl ⟨rfl,rfl⟩⟩
theorem GInv.empty:GInv ⟨[],[]⟩:=⟨by simp,by simp⟩
structure BS where
 G:GS
 m:List RNode
 l:List Int
def bStep (b:BS) (t:Ty):BS:=if t.right=true then ⟨(t.gadd b.G).1,(t.radd b.m).1,b.l++[(t.radd b.m).2]⟩ else b
structure BInv (b:BS) (ts:List Ty):Prop where
 inv:GInv b.G
 rel:Rel b.G b.m
 len:b.G.N.length<=Ty.cntL ts
 llen:b.l.length=(ts.filter Ty.right).length
 at':∀(j:Nat) (p:Int) (q:Ty),b.l[j]?=some p->(ts.filter Ty.right)[j]?=some q->0<=p/\(b.m[p.toNat]?).map RNode.t=some q
end Go.Proofs.YtpfiliamceimmaaGreatDoor
namespace Go.Proofs.YtpfiliamceimmaaGreatDoor
open Go Go.RowKit
def shR (m:List RNode):Sh:=fun i=>(m[i]?).map fun r=>(r.t.k,r.parts)
theorem Rel.sh {G:GS} {m:List RNode} (h:Rel G m):shG G=shR m:=by
 (funext i);unfold shG shR;have hl:=h.len;rcases zG i m.length with hi | hi
 ·have h1:m[i]?=some m[i]:=za hi
  have h2:G.N[i]?=some (G.N[i]'tz1):=za tz1;obtain ⟨h3,_,h4,_⟩:=h.node i _ _ h2 h1;rw[h1,h2];simp only[zY,h3,h4]
 rw[List.getElem?_eq_none hi,List.getElem?_eq_none tz1];rfl
theorem Pre.sh {m m':List RNode} (h:Pre m m'):ShLe (shR m) (shR m'):=by
 obtain ⟨l,rfl⟩:=h;intro i x hx;unfold shR at hx ⊢
 cases hm:m[i]? with
 | none=>rw[hm] at hx;cases hx
 | some r=>rw[zA (zb.1 hm).1];rw[hm] at hx;rw[hm];exact hx
theorem Rel.small {G:GS} {m:List RNode} (h:Rel G m):(∀x∈G.N,x.parts.length<=8)/\∀x∈G.N,∀p∈x.parts,0<=p/\p<(G.N.length:Int):=by
 have key:∀x∈G.N,∃(i:Nat) (r:RNode),m[i]?=some r/\G.N[i]?=some x:=fun x hx=>by
  obtain ⟨i,hi⟩:=List.mem_iff_getElem?.1 hx;exact ⟨i,_,za (by have:=(zb.1 hi).1;rw[<- h.len];exact this),hi⟩
 refine ⟨fun x hx=>?_,fun x hx p hp=>?_⟩
 ·obtain ⟨i,r,hr,hi⟩:=key x hx
  obtain ⟨_,_,h3,_,_,h6,h7,_⟩:=h.node i x r hi hr;have:=(r.t.right_ok h6).1;rw[h3,h7];simp only[okN,zd] at this;omega
 obtain ⟨i,r,hr,hi⟩:=key x hx;have:=(h.wf i x hi).1 p hp;have h9:=(zb.1 hi).1;omega
structure Good (E:List (Nat×Nat)) (m:List RNode) (S:CS):Prop where
 w:WInv E S []
 rel:Rel S.G m
theorem Good.lay {E:List (Nat×Nat)} {m:List RNode} {S S1:CS} {T:Ty} {n:Int} (h:Good E m S) (hr:T.right=true) (hc:T.cnt<=400) (hL:Lay S T (S1,n)) :
  Good E (T.radd m).1 S1/\n=(T.radd m).2/\0<=n/\n<(S1.G.N.length:Int)/\S1.G=(T.gadd S.G).1/\S1.clash=S.clash:=by
 obtain ⟨h1,h2,h3,h4⟩:=hL;dsimp only at h1 h2 h3 h4;have st:=zbM T hr hc S.G m h.rel;obtain ⟨g1,g2,g3⟩:=T.gadd_inv S.G h.w.c.g;(have hrel:Rel S1.G (T.radd m).1:=by rw[h2];exact st.rel);(have hsh:ShLe (shG S.G) (shG S1.G):=by rw[h.rel.sh,hrel.sh];exact st.pre.sh);(have hlen:S.G.N.length<=S1.G.N.length:=by rw[h2];exact g1.ge);have hwl:=h.w.c.wl;have hfl:=h.w.c.fl;obtain ⟨hs1,hs2⟩:=hrel.small
 have hnew:∀i,S.W.length<=i->i<S1.G.N.length->∃x,S1.G.N[i]?=some x/\S1.W[i]?=some (wk x i):=fun i hi1 hi2=>by
  have hx:S1.G.N[i]?=some (S1.G.N[i]'hi2):=za hi2;exact ⟨_,hx,h4.new i _ hi1 hi2 hx⟩
 have cI:CInv S1:=by
  refine ⟨by rw[h2];exact g1.inv,h4.inv,by rw[h4.fl,h4.wl],h4.wl,fun w hw=>?_,hs1,hs2⟩;obtain ⟨i,hi⟩:=List.mem_iff_getElem?.1 hw;have hil:=(zb.1 hi).1;rw[h4.wl] at hil;rcases zG i S.W.length with hlt | hge
  ·rw[h4.old i hlt] at hi
   have:=h.w.c.wr w (zc hi);omega
  obtain ⟨x,hx,hx2⟩:=hnew i hge hil;rw[hx2] at hi;cases hi;unfold wk;split;(·exact .inl rfl);exact .inr ⟨by omega,by omega⟩
 have hto:∀i k,One S.F.up i k->One S1.F.up i k:=fun i k hik=>by
  (rcases hik with rfl | ⟨t,h5,h6⟩);(·exact .inl rfl);exact .inr ⟨t,(h4.rt i t).2 (.inl h5),(h4.rt k t).2 (.inl h6)⟩
 have hQ:∀i k,Qv S.F.up [] i k->Qv S1.F.up [] i k:=fun i k hik=>Qv.one (hto i k hik.nil)
 have hback:∀i x,i<S.W.length->shG S1.G i=some x->shG S.G i=some x:=fun i x hi hx=>by
  have h5:S.G.N[i]?=some (S.G.N[i]'tz1):=za tz1;have h6:=zdW h5;have h7:=hsh _ _ h6;rw[hx] at h7;rw[h6,h7]
 have holt:∀i r,Rt S.F.up i r->i<S.W.length/\r<S.W.length:=fun i r k=>by
  have h5:=k.lt;have h6:=k.lt';omega
 (have hnk:0<=n/\n<(S1.G.N.length:Int):=by rw[h1,h2];exact ⟨g2,g3⟩);refine ⟨⟨⟨cI,by simp,fun i k hik=>?_,by simp,fun e he=>hQ _ _ (h.w.ex e he),?_,?_⟩,hrel⟩,by rw[h1,st.same],hnk.1,hnk.2,h2,h3⟩
 ·rcases hik with rfl | ⟨t,h5,h6⟩
  (·exact .refl _);rcases (h4.rt i t).1 h5 with h7 | ⟨h7,h8,rfl⟩
  ·rcases (h4.rt k t).1 h6 with h9 | ⟨h9,_,rfl⟩
   (·exact (h.w.sub i k (.inr ⟨t,h7,h9⟩)).mono hsh (fun _ h=>h));have:=(holt _ _ h7).2;omega
  (rcases (h4.rt k t).1 h6 with h9 | ⟨h9,_,rfl⟩);(·have:=(holt _ _ h9).2;omega);exact .refl _
 ·intro r i x c ps h5 h6 h7 h8
  rcases (h4.rt i r).1 h7 with h9 | ⟨h9,h10,rfl⟩
  ·obtain ⟨h11,h12⟩:=holt _ _ h9
   rw[h4.old r h12] at h5;exact h.w.neg r i x c ps h5 h6 h9 (hback i _ h11 h8)
  obtain ⟨y,hy,hy2⟩:=hnew r h9 h10;rw[hy2] at h5;cases h5;rw[zdW hy] at h8;cases h8;unfold wk at h6;(split at h6);(·assumption);omega
 intro r x h5 h6 h7;rcases (h4.rt r r).1 h5 with h9 | ⟨h9,h10,_⟩
 ·obtain ⟨h11,h12⟩:=holt _ _ h9
  rw[h4.old r h12] at h6;obtain ⟨h13,c,ps,h14,h15,h16⟩:=h.w.pos r x h9 h6 h7;refine ⟨(h4.rt _ _).2 (.inl h13),c,ps,hsh _ _ h14,h15,fun i d qs h17 h18 h19=>?_⟩;rcases (h4.rt i r).1 h17 with h20 | ⟨h20,_,rfl⟩
  ·obtain ⟨h21,h22,h23⟩:=h16 i d qs h20 (hback i _ (holt _ _ h20).1 h18) h19
   exact ⟨h21,h22,fun j p q h24 h25=>hQ _ _ (h23 j p q h24 h25)⟩
  omega
 obtain ⟨y,hy,hy2⟩:=hnew r h9 h10;rw[hy2] at h6;cases h6;(have hk:¬y.k=1:=fun e=>by unfold wk at h7;rw[if_pos e] at h7;omega);(have hw:wk y r=(r:Int):=by unfold wk;rw[if_neg hk]);rw[hw,zH];refine ⟨h5,y.k,y.parts,zdW hy,hk,fun i d qs h17 h18 h19=>?_⟩;(rcases (h4.rt i r).1 h17 with h20 | ⟨_,_,rfl⟩);(·have:=(holt _ _ h20).2;omega);rw[zdW hy] at h18;cases h18;refine ⟨rfl,rfl,fun j p q h24 h25=>?_⟩;rw[h24] at h25;cases h25;exact .refl _
theorem Qv.weaken {up:List Nat} {w v:List (Int×Int)} (h:∀p∈w,p∈v) {i k:Nat} (hc:Qv up w i k):Qv up v i k:=hc.lift fun _ _ hb=>by
 (rcases hb with hb | ⟨p,hp,h1⟩);(·exact Qv.one hb);exact .base (.inr ⟨p,h p hp,h1⟩)
theorem WInv.begin {E:List (Nat×Nat)} {S:CS} {a b:Int} (h:WInv E S []) (ha:0<=a/\a<(S.G.N.length:Int)) (hb:0<=b/\b<(S.G.N.length:Int)):WInv (E++[(a.toNat,b.toNat)]) S [(a,b)]:=by
 (have hE:∀e∈E,e∈E++[(a.toNat,b.toNat)]:=fun e he=>by simp[he]);refine ⟨h.c,by simpa using ⟨ha,hb⟩,fun i k hik=>(h.sub i k hik).mono (fun _ _ h=>h) hE,?_,?_,h.neg,?_⟩
 ·intro p hp
  (simp at hp;subst hp);exact .base tz4
 ·intro e he
  (rcases zD.1 he with he | he);(·exact (h.ex e he).weaken tz4);(simp at he;subst he);exact .base (.inr ⟨(a,b),by simp,rfl,rfl⟩)
 intro r x h1 h2 h3;obtain ⟨h4,c,ps,h5,h6,h7⟩:=h.pos r x h1 h2 h3;refine ⟨h4,c,ps,h5,h6,fun i d qs h8 h9 h10=>?_⟩;obtain ⟨h11,h12,h13⟩:=h7 i d qs h8 h9 h10;exact ⟨h11,h12,fun j p q h14 h15=>(h13 j p q h14 h15).weaken tz4⟩
def zdS (b:List RNode×List (Int×Int)) (e:Ty×Ty):List RNode×List (Int×Int) :=
 ((e.2.radd (e.1.radd b.1).1).1,b.2++[((e.1.radd b.1).2,(e.2.radd (e.1.radd b.1).1).2)])
def eqF (l:List (Ty×Ty)):List RNode×List (Int×Int):=l.foldl zdS ([],[])
def zcn (l:List (Int×Int)):List (Nat×Nat):=l.map fun p=>(p.1.toNat,p.2.toNat)
theorem za1 (l:List (Ty×Ty)) (e:Ty×Ty):eqF (l++[e])=zdS (eqF l) e:=by rw[eqF,List.foldl_append];rfl
def Clashes (l:List (Ty×Ty)):Prop:=Clash (shR (eqF l).1) (zcn (eqF l).2)
def Holds (l:List (Ty×Ty)) (S:CS):Prop:=S.clash=false/\Good (zcn (eqF l).2) (eqF l).1 S
theorem Holds.noClash {l:List (Ty×Ty)} {S:CS} (h:Holds l S):¬Clashes l:=by
 have:=h.2.w.noClash
 rwa [h.2.rel.sh] at this
end Go.Proofs.YtpfiliamceimmaaGreatDoor
namespace Go.Proofs.YtpfiliamceimmaaGreatDoor
open Go Go.RowKit
attribute [local irreducible] aops zaA
theorem Ty.sameL_refl:∀ps:List Ty,(∀p∈ps,p.same p=true)->Ty.sameL ps ps=true:=fun ps h =>
 Ty.sameL_true rfl fun k p q hp hq=>by
  rw[hp] at hq;cases hq;exact h p (zc hp)
theorem Ty.same_refl:∀t:Ty,t.same t=true:=by
 refine Ty.ind fun t ih=>?_;rw[Ty.same_eq,Ty.sameL_refl t.ps ih];simp
theorem New_calls:ACalls Tryz.prog 120 [] [] 0 fun r os n=>(r=.ptr 1 0/\os=[(1,.cells 169 [.v (.slice none 0 0),.map 0]),(0,.map [])])/\n=2:=by
 refine ACalls.cleanN (n:=2) (C:=fun r os=>r=_/\os=_) tz1 ?_;refine aIn Tryz.func120 fun hm=>?_;simp only[Tryz.ntmps120,Tryz.results120,go_sem,seval];(iterate 2 (refine z6 fun _ q=>?_;apply z7;simp only[↓bO,go_sem,seval];apply q));apply zab;(try simp only[go_sem]);refine ⟨_,_,⟨rfl,rfl⟩,.ptr tz1,⟨by omega,⟨.v _ _,.map tz1,trivial⟩,by omega,(by intro p hp;cases hp),trivial⟩,Le.refl _,⟨0,rfl,rfl⟩,by omega⟩
theorem Err_c (S:CS):CCalls (σ:=Unit) 89 [.ptr 0 0] (S) (fun s=>s.1=S) (fun s=>.v (.int .i64 (if S.clash then 7 else 0))):=by
  refine ACalls.clean (C:=fun r os=>∃s:CS×Unit,(s.1=S)/\r=(fun s:Unit=>.v (.int .i64 (if S.clash then 7 else 0))) s.2/\os=zad 0 (zan s.1)) ?_;refine aIn Tryz.func89 fun hm=>?_;simp only[Tryz.ntmps89,Tryz.results89,go_sem,seval];simp only[zan,zad,Nat.reduceAdd];refine sqD ?_;refine z6 fun _ q=>?_;apply zac;refine sqD ?_;apply z8 rfl <;> intro hb3
  ·
   cases hb3
  refine sqR fun _ y=>?_;refine chS 4 ?_;simp only[↓bO,go_sem,seval];apply y;apply z8 rfl <;> intro hb6
  ·
   refine sqD ?_;apply zab;(try simp only[go_sem]);refine ⟨_,zad 0 (zan (S)),⟨(S,()),?_,rfl,rfl⟩,.v _ _,zcg tz1 _,?_,?_,by omega⟩;· rfl
   ·
    rw[show S.clash=true from hb6];exact Le.refl _
   first | (refine ⟨0,rfl,rfl⟩) | (refine ⟨0,by simp only[zan,zad,zk,zf,Nat.reduceAdd],rfl⟩)
  apply zaa;apply q;refine sqD ?_;apply zab;(try simp only[go_sem]);refine ⟨_,zad 0 (zan (S)),⟨(S,()),?_,rfl,rfl⟩,.v _ _,zcg tz1 _,?_,?_,by omega⟩;· rfl
  ·
   rw[show S.clash=false from hb6];exact Le.refl _
  first | (refine ⟨0,rfl,rfl⟩) | (refine ⟨0,by simp only[zan,zad,zk,zf,Nat.reduceAdd],rfl⟩)
theorem UNew_calls:ACalls Tryz.prog 119 [.v (.int .i64 0)] [] 0 fun r os n=>(r=.tup [.ptr 0 0,.v (.int .i64 0)]/\os=[(0,.cells 184 [.v (.slice none 0 0),.v (.slice none 0 0),.v (.int .i64 0),.v (.int .i64 0)])])/\n=1:=by
  refine ACalls.cleanN (n:=1) (C:=fun r os=>r=_/\os=_) tz1 ?_;refine aIn Tryz.func119 fun hm=>?_;simp only[Tryz.ntmps119,Tryz.results119,go_sem,seval];refine sqD ?_;refine z6 fun _ q=>?_;refine sqR fun _ y=>?_;refine chS 3 ?_;simp only[go_sem];refine zag 7 rfl (fun hc7=>?_) (fun hc7=>?_)
  ·
   simp only[go_sem];cases hc7
  simp only[go_sem];simp only[↓bO,go_sem,seval];apply y;apply z8 rfl <;> intro hb10
  ·
   cases hb10
  apply zaa;apply q;refine sqD ?_;refine z6 fun _ q=>?_;refine sqD ?_;apply zac;refine zai (σ:=Unit) (mB 20 24592) (fun s=>True) (fun s=>[(14,.v (.int .i64 0))]) (fun s=>[]) (fun s=>0) () (trivial) ?_ (fun s hs=>?_)
  ·
   simp only[go_sem,seval];exact zaL
  simp only[go_sem,seval];refine sqD ?_;refine z6 fun _ y=>?_;apply z8 rfl <;> intro hb15
  ·
   cases hb15
  apply zak;simp only[zao,zaj,zaf,bA,Nat.reduceEqDiff,↓reduceIte];apply q;refine sqD ?_;apply zab;(try simp only[go_sem]);refine ⟨_,_,⟨rfl,rfl⟩,.tup ⟨.ptr tz1,.v _ _,trivial⟩,⟨by omega,⟨.v _ _,.v _ _,.v _ _,.v _ _,trivial⟩,trivial⟩,Le.refl _,⟨0,rfl,rfl⟩,by omega⟩
theorem zc1 (l:List (Int×Int)):∀x∈l.map pC,DataL x:=fun x hx=>by
 obtain ⟨p,_,rfl⟩:=zq.1 hx;exact .cons (.v _) (.cons (.v _) .nil)
theorem pC_all (l:List (Int×Int)):((l.map pC).all fun y=>y.all AV.one)=true:=by
 simp[pC,AV.one,Value.oneCell']
theorem snoc_of {α:Type} {l:List α} (h:0<l.length):∃w p,l=w++[p]:=by
 (rcases List.eq_nil_or_concat l with e | ⟨w,p,e⟩);(·rw[e] at h;simp at h);exact ⟨w,p,by rw[e,List.concat_eq_append]⟩
theorem pC_app (l m:List (Int×Int)):l.map pC++m.map pC=(l++m).map pC:=by rw[zu]
theorem zi9 (up:List Nat):zbd up<=up.length:=by
 have h:=List.countP_le_length (p:=fun i=>decide (up[i]?=some i)) (l:=List.range up.length);rw[List.length_range] at h;exact h
theorem zdn (p:Nat->Bool) (a:Nat):∀b,(List.range (a+b)).countP p<=(List.range a).countP p+b
 | 0=>zQ _
 | b+1=>by
  rw[<- Nat.add_assoc,List.range_succ,List.countP_append];have h1:=zdn p a b;have h2:=List.countP_le_length (p:=p) (l:=[a+b]);simp only[zz,zJ] at h2;omega
theorem zgP {S:CS} {G:GS} {k:Nat} {F:FS} {W:List Int} (h:LayI S G k F W) (hf:S.F.up.length=S.W.length):zbd F.up+S.W.length<=zbd S.F.up+k:=by
 have hge:=h.ge;unfold zbd;rw[h.fl,hf];obtain ⟨b,hb⟩:∃b,k=S.W.length+b:=⟨k-S.W.length,by omega⟩;have h1:=zdn (fun i=>decide (F.up[i]?=some i)) S.W.length b;rw[<- hb] at h1
 have h2:(List.range S.W.length).countP (fun i=>decide (F.up[i]?=some i))<=(List.range S.W.length).countP (fun i=>decide (S.F.up[i]?=some i)):=List.countP_mono_left fun i hi hp=>by
  simp only[zd] at hp ⊢;(have hi2:i<S.W.length:=by simpa using hi);(rcases (h.rt i i).1 (.base hp) with h3 | ⟨h3,_⟩);(·exact h3.root);omega
 omega
def StepJ (S S2:CS):Prop:=0<=S.steps->S.steps<=549755813888->S2.steps+(S.G.N.length:Int)=S.steps+(S2.G.N.length:Int)/\zbd S2.F.up+S.G.N.length<=zbd S.F.up+S2.G.N.length/\S.G.N.length<=S2.G.N.length
theorem StepJ.of {S S1 S2:CS} (h1:LayI S S1.G S1.G.N.length S1.F S1.W) (h2:LayI S1 S2.G S2.G.N.length S2.F S2.W) (k1:StepsI S S1.G.N.length S1.steps) (k2:StepsI S1 S2.G.N.length S2.steps) (w:S.W.length=S.G.N.length) (w1:S1.W.length=S1.G.N.length) (hf:S.F.up.length=S.W.length) (hm:S1.G.N.length<=1048576):StepJ S S2:=fun p1 p2=>by
 have g1:=h1.ge;have g2:=h2.ge;have a1:=k1 p1 tz1;have a2:=k2 tz1 tz1;have b1:=zgP h1 hf;have b2:=zgP h2 (h1.fl.trans h1.wl.symm);refine ⟨?_,?_,?_⟩ <;> omega
def StepL (S T:CS) (w:Nat):Prop:=0<=S.steps->S.steps<=549755813888->S.steps<=T.steps/\S.G.N.length<=T.G.N.length/\T.steps+9 * (zbd T.F.up:Int)+(w:Int)+10 * (S.G.N.length:Int)<=S.steps+9 * (zbd S.F.up:Int)+10 * (T.G.N.length:Int)+1
theorem StepJ.start {S T:CS} (h:StepJ S T):StepL S T 1:=fun p1 p2=>by
 obtain ⟨h1,h2,h3⟩:=h p1 p2;refine ⟨by omega,h3,?_⟩;omega
theorem StepL.step {S T U:CS} {w v:Nat} (h:StepL S T w) (hn:zbd S.F.up<=1048576) (ht:T.G.N.length<=1048576) (hU:U.steps=IntKind.i64.wrap (T.steps+1)) (hg:U.G=T.G) (hl:9 * zbd U.F.up+v<9 * zbd T.F.up+w):StepL S U v:=fun p1 p2=>by
 obtain ⟨h1,h2,h3⟩:=h p1 p2;rw[hU,hg,zal tz1 tz1];refine ⟨by omega,h2,?_⟩;omega
def StepR (S T:CS):Prop:=T=S\/StepL S T 0
theorem StepL.last {S T:CS} {w:Nat} (h:StepL S T w):StepR S T:=.inr fun p1 p2=>by
 obtain ⟨h1,h2,h3⟩:=h p1 p2;refine ⟨h1,h2,?_⟩;omega
def EqR (S:CS) (E:List (Nat×Nat)) (m:List RNode) (l u:Ty) (s:CS×Int):Prop :=
  (S.clash=true/\s=(S,7))\/(S.clash=false/\(l.right&&u.right)=false/\s=(S,1)) \/
  (S.clash=false/\l.right=true/\u.right=true/\s.1.G=(u.gadd (l.gadd S.G).1).1 /\
    ((s.2=0/\s.1.clash=false/\Good (E++[((l.radd m).2.toNat,(u.radd (l.radd m).1).2.toNat)]) (u.radd (l.radd m).1).1 s.1) \/
     (s.2=7/\s.1.clash=true/\Clash (shR (u.radd (l.radd m).1).1) (E++[((l.radd m).2.toNat,(u.radd (l.radd m).1).2.toNat)]))))
theorem tz13 {p:Prop} (h:p:=by exact ⟨rfl,rfl,rfl,rfl,rfl,rfl,rfl,rfl,rfl,trivial⟩):p:=h
theorem clz4 {p:Prop} (h:p:=by repeat' first | exact trivial | exact .any _ | exact .ptr tz1 | exact .own tz1 | exact .v _ _ | (refine ⟨?_,?_⟩)):p:=h
theorem clz5 {p:Prop} (h:p:=by exact Weak.mk (by simp only[go_sem,Le.refl,zn,zh]) (fun _ _ h=>h) rfl rfl):p:=h
theorem Equate2_c (S:CS) (E:List (Nat×Nat)) (m:List RNode) (l u:Ty) (h:S.clash=false->Good E m S) (hl:S.G.N.length+l.cnt+u.cnt<=1048576) (hcl:l.cnt<=400) (hcr:u.cnt<=400):CCalls (σ:=Int) 86 [.ptr 0 0,.agg l.cells,.agg u.cells] (S) (fun s=>EqR S E m l u s/\StepR S s.1) (fun s=>.v (.int .i64 s)):=by
  refine ACalls.clean (C:=fun r os=>∃s:CS×Int,(EqR S E m l u s/\StepR S s.1)/\r=(fun s:Int=>.v (.int .i64 s)) s.2/\os=zad 0 (zan s.1)) ?_;refine aIn Tryz.func86 fun hm=>?_;simp only[Tryz.ntmps86,Tryz.results86,go_sem,seval];simp only[zan,zad,Nat.reduceAdd];simp only[Ty.cells_eq l,Ty.cells_eq u,zw,zB];refine sqR fun _ z=>?_;refine chS 2 ?_;simp only[↓bO,go_sem,seval];apply z;refine zel ?_;refine z6 fun _ z=>?_;apply zac;refine sqR fun _ d=>?_;refine chS 2 ?_;simp only[↓bO,go_sem,seval];apply d;apply z8 rfl <;> intro hb11
  ·
   cases hb11
  refine sqR fun _ d=>?_;(iterate 2 (refine chS 2 ?_));simp only[↓bO,go_sem,seval];apply d;apply z8 rfl <;> intro hb14
  ·
   have hcs:S.clash=true:=hb14;refine sqD ?_;apply zab;(try simp only[go_sem]);refine ⟨_,zad 0 (zan (S)),⟨(S,7),?_,rfl,rfl⟩,.v _ _,zcg tz1 _,?_,?_,by omega⟩;· exact ⟨.inl ⟨hcs,rfl⟩,.inl rfl⟩
   ·
    exact Le.refl _
   first | (refine ⟨2,rfl,rfl⟩) | (refine ⟨2,by simp only[zan,zad,zk,zf,Nat.reduceAdd],rfl⟩)
  have hcs:S.clash=false:=hb14;have hG:=h hcs;refine sqR fun _ d=>?_;refine chS 1 ?_;refine zZ 1 fun _ y=>?_;simp only[↓bO,go_sem,seval];refine APure.call (show APure Tryz.prog 64 [.agg [.v (.int .i64 l.k),.v (.int .i64 l.n),.sl 3 (l.ps.map Ty.cells)]] _ from by rw[Ty.refold];exact zbp l) ?_;apply y;clear y;refine chS 2 ?_;simp only[go_sem];refine zag 23 rfl (fun hc23=>?_) (fun hc23=>?_)
  ·
   simp only[go_sem];(have hno:(l.right&&u.right)=false:=by (have h9:l.right=false:=by simpa using hc23);rw[h9];rfl);(iterate 2 (refine chS 2 ?_));simp only[↓bO,go_sem,seval];apply d;refine z8 (b:=true) (by first | exact rfl | exact congrArg (fun b=>AV.v (.bool b)) hb19) (fun _=>?_) (fun h=>(by cases h));refine sqD ?_;apply zab;(try simp only[go_sem]);refine ⟨_,zad 0 (zan (S)),⟨(S,1),?_,rfl,rfl⟩,.v _ _,zcg tz1 _,?_,?_,by omega⟩;· exact ⟨.inr (.inl ⟨hcs,hno,rfl⟩),.inl rfl⟩
   ·
    exact Le.refl _
   first | (refine ⟨2,rfl,rfl⟩) | (refine ⟨2,by simp only[zan,zad,zk,zf,Nat.reduceAdd],rfl⟩)
  simp only[go_sem];(have hlr:l.right=true:=by simpa using hc23);refine chS 1 ?_;refine zZ 1 fun _ y=>?_;simp only[↓bO,go_sem,seval];refine APure.call (show APure Tryz.prog 64 [.agg [.v (.int .i64 u.k),.v (.int .i64 u.n),.sl 3 (u.ps.map Ty.cells)]] _ from by rw[Ty.refold];exact zbp u) ?_;apply y;clear y;refine chS 2 ?_;simp only[↓bO,go_sem,seval];apply d;apply z8 rfl <;> intro hb19
  ·
   (have hno:(l.right&&u.right)=false:=by first | exact hno | ((have h9:u.right=false:=by simpa using hb19);rw[h9,Bool.and_false]));refine sqD ?_;apply zab;(try simp only[go_sem]);refine ⟨_,zad 0 (zan (S)),⟨(S,1),?_,rfl,rfl⟩,.v _ _,zcg tz1 _,?_,?_,by omega⟩;· exact ⟨.inr (.inl ⟨hcs,hno,rfl⟩),.inl rfl⟩
   ·
    exact Le.refl _
   first | (refine ⟨2,rfl,rfl⟩) | (refine ⟨2,by simp only[zan,zad,zk,zf,Nat.reduceAdd],rfl⟩)
  (have hrr:u.right=true:=by simpa using hb19);apply zaa;apply z;refine zcA (σ:=CS×Int×Int) (mB 73 129) (fun j=>[(7,.own 10 1)]) (fun j=>[(10,.row 108 2 ([(j.2.1,j.2.2)].map pC)),(0,.cells 127 [.v (.int .i64 j.1.steps),.ptr 1 0,.ptr 4 0,.own 7 j.1.W.length,.v (.bool j.1.clash)]),(1,.cells 169 [.osl 2 4 (j.1.G.N.map GNode.cells),.map 3]),(2,.tok 194 4 j.1.G.N.length),(3,.map (j.1.G.V.map vC)),(4,.cells 184 [.own 5 j.1.F.up.length,.own 6 j.1.F.rank.length,.v (.int .i64 j.1.F.sets),.v (.int .i64 j.1.F.steps)]),(5,.row 3 1 (j.1.F.up.map nC)),(6,.row 3 1 (j.1.F.rank.map intC)),(7,.row 3 1 (j.1.W.map intC))]) 11 (fun j=>Good E (u.radd (l.radd m).1).1 j.1/\j.2.1=(l.radd m).2/\j.2.2=(u.radd (l.radd m).1).2/\(0<=j.2.1/\j.2.1<(j.1.G.N.length:Int))/\(0<=j.2.2/\j.2.2<(j.1.G.N.length:Int))/\j.1.G=(u.gadd (l.gadd S.G).1).1/\j.1.clash=false/\j.1.G.N.length<=1048576/\StepJ S j.1) ?_ (fun j hj=>?_)
  ·
   refine zax [] 9 rfl mixed (trivial) rfl ?_;dsimp only;refine tkS 0 ?_;refine tkS 3 ?_;refine al2 (i:=1) (j:=4) ?_ ?_
   ·
    refine opT fun _ y=>?_;simp only[↓bO,go_sem,seval];refine y _ ⟨trivial,?_⟩;clear y;refine al2 (i:=2) (j:=4) ?_ ?_
    ·
     refine opT fun _ y=>?_;simp only[↓bO,go_sem,seval];rw[Ty.refold l];refine CCalls.at (zlW S l hlr hG.w.c.g hG.w.c.f hG.w.c.fl hG.w.c.wl tz1) (.cons (Ty.dataAgg l) .nil) (fun _=>.v _) (i0:=0) (i1:=1) (i2:=2) (i3:=3) (i4:=4) (i5:=5) (i6:=6) (i7:=7) tz3 tz4 zbc (fun S1 n1 hL1=>?_);(try dsimp only at hL1);simp only[zat,zl,zp,zm,zah,zam,Nat.reduceEqDiff,↓reduceIte];obtain ⟨hG1,he1,hn1,hn1b,hg1,hc1⟩:=hG.lay hlr hcl hL1.1;have hle1:=(l.gadd_inv S.G hG.w.c.g).1.le;rw[<- hg1] at hle1;(try simp only[go_sem]);refine y _ ⟨trivial,?_⟩;clear y;refine alS 4 ?_;refine al1 (i:=5) ?_;refine opT fun _ y=>?_;simp only[↓bO,go_sem,seval];rw[Ty.refold u];refine CCalls.at (zlW S1 u hrr hG1.w.c.g hG1.w.c.f hG1.w.c.fl hG1.w.c.wl tz1) (.cons (Ty.dataAgg u) .nil) (fun _=>.v _) (i0:=0) (i1:=1) (i2:=2) (i3:=3) (i4:=4) (i5:=5) (i6:=6) (i7:=7) tz3 tz4 zbc (fun S2 n2 hL2=>?_);(try dsimp only at hL2);simp only[zat,zl,zp,zm,zah,zam,Nat.reduceEqDiff,↓reduceIte];obtain ⟨hG2,he2,hn2,hn2b,hg2,hc2⟩:=hG1.lay hrr hcr hL2.1;have hle2:=(u.gadd_inv S1.G hG1.w.c.g).1.le;have hge2:=(u.gadd_inv S1.G hG1.w.c.g).1.ge;rw[<- hg2] at hle2 hge2;have hsj:=StepJ.of hL1.1.lay hL2.1.lay hL1.2 hL2.2 hG.w.c.wl hG1.w.c.wl hG.w.c.fl (by dsimp only at hle1 ⊢;omega);(try simp only[go_sem]);refine y _ ⟨trivial,?_⟩;clear y;refine alS 6 ?_;refine al1 (i:=7) ?_;refine opT fun _ y=>?_;simp only[↓bO,go_sem,seval,↓zlZ];refine y _ ⟨trivial,?_⟩;clear y;refine tkS 8 ?_;refine dnA ?_;simp only[go_sem];(try simp only[go_sem,seval]);refine ⟨(S2,n1,n2),⟨hG2,he1,he2,⟨hn1,by dsimp only;omega⟩,⟨hn2,hn2b⟩,by dsimp only;rw[hg2,hg1],hc2.trans (hc1.trans hcs),by dsimp only;omega,hsj⟩,?_⟩;refine Weak.sub ?_ tz13 tz2 tz2 ?_ ?_;(· simp only[go_sem,Le.refl,Le.any]);(· exact clz4);exact ⟨by omega,Und.rowI (by first | exact zc1 _ | exact (show ∀x∈List.map pC [_],DataL x from zc1 _)),zcg tz1 _⟩
    refine opT fun _ y=>?_;simp only[↓bO,go_sem,seval];refine y _ ⟨trivial,?_⟩;clear y;refine al1 (i:=2) ?_;refine opT fun _ y=>?_;simp only[↓bO,go_sem,seval];rw[Ty.refold l];refine CCalls.at (zlW S l hlr hG.w.c.g hG.w.c.f hG.w.c.fl hG.w.c.wl tz1) (.cons (Ty.dataAgg l) .nil) (fun _=>.v _) (i0:=0) (i1:=1) (i2:=2) (i3:=3) (i4:=4) (i5:=5) (i6:=6) (i7:=7) tz3 tz4 zbc (fun S1 n1 hL1=>?_);(try dsimp only at hL1);simp only[zat,zl,zp,zm,zah,zam,Nat.reduceEqDiff,↓reduceIte];obtain ⟨hG1,he1,hn1,hn1b,hg1,hc1⟩:=hG.lay hlr hcl hL1.1;have hle1:=(l.gadd_inv S.G hG.w.c.g).1.le;rw[<- hg1] at hle1;(try simp only[go_sem]);refine y _ ⟨trivial,?_⟩;clear y;refine al1 (i:=5) ?_;refine opT fun _ y=>?_;simp only[↓bO,go_sem,seval];rw[Ty.refold u];refine CCalls.at (zlW S1 u hrr hG1.w.c.g hG1.w.c.f hG1.w.c.fl hG1.w.c.wl tz1) (.cons (Ty.dataAgg u) .nil) (fun _=>.v _) (i0:=0) (i1:=1) (i2:=2) (i3:=3) (i4:=4) (i5:=5) (i6:=6) (i7:=7) tz3 tz4 zbc (fun S2 n2 hL2=>?_);(try dsimp only at hL2);simp only[zat,zl,zp,zm,zah,zam,Nat.reduceEqDiff,↓reduceIte];obtain ⟨hG2,he2,hn2,hn2b,hg2,hc2⟩:=hG1.lay hrr hcr hL2.1;have hle2:=(u.gadd_inv S1.G hG1.w.c.g).1.le;have hge2:=(u.gadd_inv S1.G hG1.w.c.g).1.ge;rw[<- hg2] at hle2 hge2;have hsj:=StepJ.of hL1.1.lay hL2.1.lay hL1.2 hL2.2 hG.w.c.wl hG1.w.c.wl hG.w.c.fl (by dsimp only at hle1 ⊢;omega);(try simp only[go_sem]);refine y _ ⟨trivial,?_⟩;clear y;refine alS 6 ?_;refine al1 (i:=7) ?_;refine opT fun _ y=>?_;simp only[↓bO,go_sem,seval,↓zlZ];refine y _ ⟨trivial,?_⟩;clear y;refine tkS 8 ?_;refine dnA ?_;simp only[go_sem];(try simp only[go_sem,seval]);refine ⟨(S2,n1,n2),⟨hG2,he1,he2,⟨hn1,by dsimp only;omega⟩,⟨hn2,hn2b⟩,by dsimp only;rw[hg2,hg1],hc2.trans (hc1.trans hcs),by dsimp only;omega,hsj⟩,?_⟩;refine Weak.sub ?_ tz13 tz2 tz2 ?_ ?_;(· simp only[go_sem,Le.refl,Le.any]);(· exact clz4);exact ⟨by omega,Und.rowI (by first | exact zc1 _ | exact (show ∀x∈List.map pC [_],DataL x from zc1 _)),zcg tz1 _⟩
   refine opT fun _ y=>?_;simp only[↓bO,go_sem,seval];refine y _ ⟨trivial,?_⟩;clear y;refine alS 1 ?_;refine al1 (i:=2) ?_;refine opT fun _ y=>?_;simp only[↓bO,go_sem,seval];rw[Ty.refold l];refine CCalls.at (zlW S l hlr hG.w.c.g hG.w.c.f hG.w.c.fl hG.w.c.wl tz1) (.cons (Ty.dataAgg l) .nil) (fun _=>.v _) (i0:=0) (i1:=1) (i2:=2) (i3:=3) (i4:=4) (i5:=5) (i6:=6) (i7:=7) tz3 tz4 zbc (fun S1 n1 hL1=>?_);(try dsimp only at hL1);simp only[zat,zl,zp,zm,zah,zam,Nat.reduceEqDiff,↓reduceIte];obtain ⟨hG1,he1,hn1,hn1b,hg1,hc1⟩:=hG.lay hlr hcl hL1.1;have hle1:=(l.gadd_inv S.G hG.w.c.g).1.le;rw[<- hg1] at hle1;(try simp only[go_sem]);refine y _ ⟨trivial,?_⟩;clear y;refine al1 (i:=5) ?_;refine opT fun _ y=>?_;simp only[↓bO,go_sem,seval];rw[Ty.refold u];refine CCalls.at (zlW S1 u hrr hG1.w.c.g hG1.w.c.f hG1.w.c.fl hG1.w.c.wl tz1) (.cons (Ty.dataAgg u) .nil) (fun _=>.v _) (i0:=0) (i1:=1) (i2:=2) (i3:=3) (i4:=4) (i5:=5) (i6:=6) (i7:=7) tz3 tz4 zbc (fun S2 n2 hL2=>?_);(try dsimp only at hL2);simp only[zat,zl,zp,zm,zah,zam,Nat.reduceEqDiff,↓reduceIte];obtain ⟨hG2,he2,hn2,hn2b,hg2,hc2⟩:=hG1.lay hrr hcr hL2.1;have hle2:=(u.gadd_inv S1.G hG1.w.c.g).1.le;have hge2:=(u.gadd_inv S1.G hG1.w.c.g).1.ge;rw[<- hg2] at hle2 hge2;have hsj:=StepJ.of hL1.1.lay hL2.1.lay hL1.2 hL2.2 hG.w.c.wl hG1.w.c.wl hG.w.c.fl (by dsimp only at hle1 ⊢;omega);(try simp only[go_sem]);refine y _ ⟨trivial,?_⟩;clear y;refine alS 6 ?_;refine al1 (i:=7) ?_;refine opT fun _ y=>?_;simp only[↓bO,go_sem,seval,↓zlZ];refine y _ ⟨trivial,?_⟩;clear y;refine tkS 8 ?_;refine dnA ?_;simp only[go_sem];(try simp only[go_sem,seval]);refine ⟨(S2,n1,n2),⟨hG2,he1,he2,⟨hn1,by dsimp only;omega⟩,⟨hn2,hn2b⟩,by dsimp only;rw[hg2,hg1],hc2.trans (hc1.trans hcs),by dsimp only;omega,hsj⟩,?_⟩;refine Weak.sub ?_ tz13 tz2 tz2 ?_ ?_;(· simp only[go_sem,Le.refl,Le.any]);(· exact clz4);exact ⟨by omega,Und.rowI (by first | exact zc1 _ | exact (show ∀x∈List.map pC [_],DataL x from zc1 _)),zcg tz1 _⟩
  simp only[go_sem,seval];refine z6 fun _ z=>?_;refine zex ?_;apply z;refine z6 fun _ z=>?_;apply zac;refine zai (σ:=CS×List (Int×Int)) (mB 73 129) (fun s=>WInv (E++[(j.2.1.toNat,j.2.2.toNat)]) s.1 s.2/\s.1.clash=false/\s.1.G=j.1.G/\9 * zbd s.1.F.up+s.2.length<=9437185/\StepL S s.1 s.2.length) (fun s=>[(7,.own 10 s.2.length)]) (fun s=>[(10,.row 108 2 (s.2.map pC)),(0,.cells 127 [.v (.int .i64 s.1.steps),.ptr 1 0,.ptr 4 0,.own 7 s.1.W.length,.v (.bool s.1.clash)]),(1,.cells 169 [.osl 2 4 (s.1.G.N.map GNode.cells),.map 3]),(2,.tok 194 4 s.1.G.N.length),(3,.map (s.1.G.V.map vC)),(4,.cells 184 [.own 5 s.1.F.up.length,.own 6 s.1.F.rank.length,.v (.int .i64 s.1.F.sets),.v (.int .i64 s.1.F.steps)]),(5,.row 3 1 (s.1.F.up.map nC)),(6,.row 3 1 (s.1.F.rank.map intC)),(7,.row 3 1 (s.1.W.map intC))]) (fun s=>9 * zbd s.1.F.up+s.2.length) (j.1,[(j.2.1,j.2.2)]) (⟨hj.1.w.begin hj.2.2.2.1 hj.2.2.2.2.1,hj.2.2.2.2.2.2.1,rfl,by have h7:=zi9 j.1.F.up;have h8:=hj.1.w.c.fl;have h9:=hj.1.w.c.wl;have h6:=hj.2.2.2.2.2.2.2.1;simp only[zz,zJ];omega,hj.2.2.2.2.2.2.2.2.start⟩) ?_ (fun s hs=>?_)
  ·
   simp only[go_sem,seval,bL];exact clz5
  simp only[go_sem,seval];refine z6 fun _ d=>?_;refine sqR fun _ e=>?_;refine chS 2 ?_;simp only[↓bO,go_sem,seval];apply e;apply z8 rfl <;> intro hb38
  ·
   (have hwl:0<s.2.length:=by simpa using hb38);obtain ⟨w0,p9,hw⟩:∃w0 p,s.2=w0++[p]:=snoc_of hwl;have hwr:=hs.1.wr p9 (by rw[hw];simp);obtain ⟨a,b,rfl⟩:∃a b:Nat,p9=((a:Int),(b:Int)):=⟨p9.1.toNat,p9.2.toNat,by ext <;> simp only <;> omega⟩;(have hw2:WInv (E++[(j.2.1.toNat,j.2.2.toNat)]) s.1 (w0++[((a:Int),(b:Int))]):=by rw[<- hw];exact hs.1);have hbd:=hs.2.2.2.1;(have hwl2:s.2.length=w0.length+1:=by rw[hw];simp);(have hwr2:IntKind.i64.wrap ((w0.length:Int)+1-1)=(w0.length:Int):=by rw[zal tz1 tz1];omega);have hgd:(s.2.map pC).getD w0.length []=pC ((a:Int),(b:Int)):=gM (by rw[hw];simp);(have htk:(s.2.map pC).take w0.length=w0.map pC:=by rw[hw];simp);(have hlt9:(w0.length:Int)<(w0.length:Int)+1:=by omega);(have hle9:(w0.length:Int)<=(w0.length:Int)+1:=by omega);(have h09:(0:Int)<=(w0.length:Int):=by omega);have hlen9:=hs.1.c.fl;have hlen8:=hs.1.c.wl;(have hn1:zbd S.F.up<=1048576:=by (have h7:=zi9 S.F.up;have h8:=hG.w.c.fl;have h9:=hG.w.c.wl;omega));(have hn2:s.1.G.N.length<=1048576:=by rw[hs.2.2.1];exact hj.2.2.2.2.2.2.2.1);apply zaa;apply d;apply zac;refine sqR fun _ d=>?_;refine chS 2 ?_ (by intro _ q;simp only[↓bO,go_sem,seval,hwl2,zj];exact q);refine chS 1 ?_;simp only[↓bO,go_sem,seval,hwl2];refine tick_at rfl ?_;simp only[zam,Nat.reduceEqDiff,↓reduceIte];apply d;refine sqR fun _ d=>?_;(iterate 3 (refine chS 2 ?_ (by intro _ q;simp only[↓bO,go_sem,seval,hwl2,hwr2,Nat.lt_add_one,hgd,hlt9,h09,pC,zj];exact q)));simp only[↓bO,go_sem,seval,hwl2];apply d;refine sqR fun _ d=>?_;(iterate 2 (refine chS 2 ?_ (by intro _ q;simp only[↓bO,go_sem,seval,hwl2,hwr2,zj];exact q)));simp only[↓bO,go_sem,seval,zck,zma,List.filter_cons,List.filter_nil,Nat.reduceBEq,hwl2,htk,hle9,h09,zj];apply d;refine sqR fun _ d=>?_;(iterate 2 (refine chS 2 ?_));refine chS 1 ?_;refine zZ 1 fun _ y=>?_;simp only[↓bO,go_sem,seval];refine CCalls.at (join_c {s.1 with steps:=IntKind.i64.wrap (s.1.steps+1)} ⟨hs.1.c.g,hs.1.c.f,hs.1.c.fl,hs.1.c.wl,hs.1.c.wr,hs.1.c.pl,hs.1.c.pr⟩ a b (by dsimp only;omega) (by dsimp only;omega)) (.cons (.v _) (.cons (.v _) .nil)) (fun _=>.tup (.cons (zd0 _) (.cons (.v _) .nil))) (i0:=0) (i1:=1) (i2:=2) (i3:=3) (i4:=4) (i5:=5) (i6:=6) (i7:=7) tz3 tz4 zbc (fun S3 r3 j0=>?_);(try dsimp only at j0);simp only[zat,zl,zp,zm,zah,zam,Nat.reduceEqDiff,↓reduceIte];have hJ:CJoin s.1 a b (S3,r3):=⟨j0.1.g,j0.1.c,j0.1.ex⟩;(have hsl0:=fun ok (hj:CJoin s.1 a b (S3,(r3.1,ok)))=>hs.2.2.2.2.step hn1 hn2 j0.2 j0.1.g (by have h8:=hw2.less hj;rw[<- hw] at h8;exact h8));(iterate 2 (apply y;clear y;refine zZ 2 fun _ y=>?_;simp only[↓bO,go_sem,seval,Nat.lt_add_one]));apply y;clear y;simp only[↓bO,go_sem,seval,hwl2];apply d;refine z6 fun _ d=>?_;refine sqR fun _ e=>?_;simp only[↓bO,go_sem,seval,hwl2];apply e;apply z8 rfl <;> intro hb64
   ·
    (have hJ2:CJoin s.1 a b (S3,(r3.1,false)):=by (have h9:r3.2=false:=by simpa using hb64);rw[<- h9];exact hJ);have hfg:S3.G=(u.gadd (l.gadd S.G).1).1:=hJ.g.trans (hs.2.2.1.trans hj.2.2.2.2.2.1);have hbad:=hw2.bad hJ2;rw[hs.2.2.1,hj.1.rel.sh,hj.2.1,hj.2.2.1] at hbad;have hsl:StepL S S3 (w0++r3.1).length:=hsl0 _ hJ2;have hsl2:StepL S {S3 with clash:=true} (w0++r3.1).length:=hsl;refine sqR fun _ e=>?_;refine chS 2 ?_;simp only[↓bO,go_sem,seval,hwl2];apply e;apply zak;simp only[zao,zaj,zaf,bA,Nat.reduceEqDiff,↓reduceIte];apply z;refine sqR fun _ z=>?_;refine chS 1 ?_;refine zZ 1 fun _ y=>?_;simp only[↓bO,go_sem,seval];refine CCalls.at (Err_c {S3 with clash:=true}) (.nil) (fun _=>.v _) (i0:=0) (i1:=1) (i2:=2) (i3:=3) (i4:=4) (i5:=5) (i6:=6) (i7:=7) tz3 tz4 zbc (fun Z9 u9 hZ9=>?_);(try dsimp only at hZ9);simp only[zat,zl,zp,zm,zah,zam,Nat.reduceEqDiff,↓reduceIte];subst hZ9;apply y;clear y;simp only[↓bO,go_sem,seval];apply z;apply zab;(try simp only[go_sem]);refine ⟨_,zad 0 (zan ({S3 with clash:=true})),⟨({S3 with clash:=true},7),?_,rfl,rfl⟩,.v _ _,zcg tz1 _,?_,?_,by omega⟩;· exact ⟨.inr (.inr ⟨hcs,hlr,hrr,hfg,.inr ⟨rfl,rfl,hbad⟩⟩),hsl2.last⟩
    ·
     exact Le.refl _
    first | (refine ⟨2,rfl,rfl⟩) | (refine ⟨3,rfl,rfl⟩) | (refine ⟨4,rfl,rfl⟩) | (refine ⟨5,rfl,rfl⟩) | (refine ⟨2,by simp only[zan,zad,zk,zf,Nat.reduceAdd],rfl⟩) | (refine ⟨3,by simp only[zan,zad,zk,zf,Nat.reduceAdd],rfl⟩) | (refine ⟨4,by simp only[zan,zad,zk,zf,Nat.reduceAdd],rfl⟩) | (refine ⟨5,by simp only[zan,zad,zk,zf,Nat.reduceAdd],rfl⟩)
   (have hJ2:CJoin s.1 a b (S3,(r3.1,true)):=by (have h9:r3.2=true:=by simpa using hb64);rw[<- h9];exact hJ);have hst:=hw2.step hJ2;have hsl:StepL S S3 (w0++r3.1).length:=hsl0 _ hJ2;have hls:=hw2.less hJ2;(have hml:r3.1.length<=9437185:=by have:=hs.2.2.2.1;simp only[hw,zi] at this hls;omega);(have hb1:(w0.length+r3.1.length) * 16<=140737488355328:=by omega);(have hb2:w0.length+r3.1.length<=maxLen:=by simp only[maxLen];omega);apply zaa;apply d;apply z7;refine chS 2 ?_;simp only[↓bO,go_sem,seval,hwl2,hb1,hb2,pC_all,pC_app];refine ⟨(S3,w0++r3.1),⟨hst,hJ2.c.trans hs.2.1,hJ2.g.trans hs.2.2.1,by have h9:=hs.2.2.2.1;have h8:=hls;simp only[zi,zz,zJ] at h8 ⊢;omega,hsl⟩,(by have h8:=hls;simp only[zi,zz,zJ] at h8 ⊢;omega),?_⟩;simp only[zar,zas,zah,zam,mB,seval,zi];refine Weak.backOwn 10 12 7 (w0.length+r3.1.length) tz2 tz2 tz2 ?_ ?_ ?_ ?_ ?_;· simp only[List.set_cons_zero,List.set_cons_succ,LeL,Le.refl,Le.any,and_self]
   ·
    simp only[go_sem];repeat' first | exact trivial | exact .any | exact .ptr rfl | exact .own rfl | exact .v _ | (refine ⟨?_,?_⟩)
   (· exact ⟨⟨_,rfl,.row (zc1 _)⟩,⟨_,rfl,.cells ⟨.v _,.ptr rfl,.ptr rfl,.own rfl,.v _,trivial⟩⟩,⟨_,rfl,.cells ⟨.osl rfl (GNode.dataRows _),.map rfl,trivial⟩⟩,⟨_,rfl,.tok⟩,⟨_,rfl,.map (zaU _)⟩,⟨_,rfl,.cells ⟨.own rfl,.own rfl,.v _,.v _,trivial⟩⟩,⟨_,rfl,.row (zaY _)⟩,⟨_,rfl,.row (zaJ _)⟩,⟨_,rfl,.row (zaJ _)⟩,trivial⟩);(· exact clz4);exact ⟨by omega,Und.rowI (by first | exact zc1 _ | exact (show ∀x∈List.map pC [_],DataL x from zc1 _)),zcg tz1 _⟩
  (have hwn:s.2=[]:=by have h9:¬((s.2.length:Int) > 0):=of_decide_eq_false hb38;exact List.length_eq_zero_iff.1 tz1);have hgood:Good (E++[((l.radd m).2.toNat,(u.radd (l.radd m).1).2.toNat)]) (u.radd (l.radd m).1).1 s.1:=⟨by have h9:=hs.1;rw[hwn,hj.2.1,hj.2.2.1] at h9;exact h9,by rw[hs.2.2.1];exact hj.1.rel⟩;apply zak;simp only[zao,zaj,zaf,bA,Nat.reduceEqDiff,↓reduceIte];apply z;refine sqR fun _ z=>?_;refine chS 1 ?_;refine zZ 1 fun _ y=>?_;simp only[↓bO,go_sem,seval];refine CCalls.at (Err_c s.1) (.nil) (fun _=>.v _) (i0:=0) (i1:=1) (i2:=2) (i3:=3) (i4:=4) (i5:=5) (i6:=6) (i7:=7) tz3 tz4 zbc (fun Z9 u9 hZ9=>?_);(try dsimp only at hZ9);simp only[zat,zl,zp,zm,zah,zam,Nat.reduceEqDiff,↓reduceIte];subst hZ9;apply y;clear y;simp only[↓bO,go_sem,seval];apply z;apply zab;(try simp only[go_sem]);refine ⟨_,zad 0 (zan (s.1)),⟨(s.1,0),?_,rfl,rfl⟩,.v _ _,zcg tz1 _,?_,?_,by omega⟩;· exact ⟨.inr (.inr ⟨hcs,hlr,hrr,hs.2.2.1.trans hj.2.2.2.2.2.1,.inl ⟨rfl,hs.2.1,hgood⟩⟩),hs.2.2.2.2.last⟩
  ·
   rw[hs.2.1];exact Le.refl _
  first | (refine ⟨0,rfl,rfl⟩) | (refine ⟨1,rfl,rfl⟩) | (refine ⟨2,rfl,rfl⟩) | (refine ⟨3,rfl,rfl⟩) | (refine ⟨0,by simp only[zan,zad,zk,zf,Nat.reduceAdd],rfl⟩) | (refine ⟨1,by simp only[zan,zad,zk,zf,Nat.reduceAdd],rfl⟩) | (refine ⟨2,by simp only[zan,zad,zk,zf,Nat.reduceAdd],rfl⟩) | (refine ⟨3,by simp only[zan,zad,zk,zf,Nat.reduceAdd],rfl⟩)
theorem CCalls.mono {σ:Type} {f:Nat} {args:List AV} {S:CS} {C C':CS×σ->Prop} {R:σ->AV} (h:CCalls f args S C R) (k:∀s,C s->C' s):CCalls f args S C' R:=by
 refine ACalls.mono h ?_;rintro r os n ⟨⟨s,h1,h2,h3⟩,h4⟩;exact ⟨⟨s,k s h1,h2,h3⟩,h4⟩
structure EqT where
 l:Ty
 r:Ty
 a:Int
 b:Int
def EqT.cells (e:EqT):List AV:=[.v (.int .i64 e.l.k),.v (.int .i64 e.l.n),.sl 3 (e.l.ps.map Ty.cells),.v (.int .i64 e.r.k),.v (.int .i64 e.r.n),.sl 3 (e.r.ps.map Ty.cells),.v (.int .i64 e.a),.v (.int .i64 e.b)]
theorem EqT.data (e:EqT):DataL e.cells:=.cons (.v _) (.cons (.v _) (.cons (Ty.dataSl _) (.cons (.v _) (.cons (.v _) (.cons (Ty.dataSl _) (.cons (.v _) (.cons (.v _) .nil)))))))
theorem EqT.dataSl (es:List EqT):Data (.sl 8 (es.map EqT.cells)):=.sl fun x hx=>by
 obtain ⟨y,_,rfl⟩:=zq.1 hx;exact y.data
def EqT.p (e:EqT):Ty×Ty:=(e.l,e.r)
def zbD:List (Ty×Ty)->Nat
 | []=>0
 | e::l=>e.1.cnt+e.2.cnt+zbD l
theorem zcV:∀(l:List (Ty×Ty)) (e:Ty×Ty),zbD (l++[e])=zbD l+(e.1.cnt+e.2.cnt)
 | [],e=>by simp[zbD]
 | x::l,e=>by simp only[zw,zbD,zcV l e];omega
theorem zcR:∀(l:List (Ty×Ty)) (s:Nat),zbD (l.take s)<=zbD l
 | [],s=>by simp
 | x::l,0=>by simp[zbD]
 | x::l,s+1=>by simp only[List.take_succ_cons,zbD];have:=zcR l s;omega
theorem zc2:∀l:List (Ty×Ty),2 * l.length<=zbD l
 | []=>by simp[zbD]
 | x::l=>by
  have:=zc2 l;have:=x.1.cnt_eq;have:=x.2.cnt_eq;simp only[zz,zbD];omega
theorem Holds.step {d:List (Ty×Ty)} {e:Ty×Ty} {S:CS} {s:CS×Int} (h:Holds d S) (hs:EqR S (zcn (eqF d).2) (eqF d).1 e.1 e.2 s) :
  ((e.1.right&&e.2.right)=false/\s.2=1)\/((e.1.right&&e.2.right)=true/\Clashes (d++[e])/\s.2=7) \/
  ((e.1.right&&e.2.right)=true/\¬Clashes (d++[e])/\s.2=0/\Holds (d++[e]) s.1/\s.1.G.N.length<=S.G.N.length+(e.1.cnt+e.2.cnt)):=by
 have hE:(eqF (d++[e])).1=(e.2.radd (e.1.radd (eqF d).1).1).1/\zcn (eqF (d++[e])).2=zcn (eqF d).2++[((e.1.radd (eqF d).1).2.toNat,(e.2.radd (e.1.radd (eqF d).1).1).2.toNat)]:=by
  rw[za1];exact ⟨rfl,by simp only[zdS,zcn,zu,zt,zW]⟩
 (rcases hs with ⟨h1,_⟩ | ⟨_,h1,h2⟩ | ⟨_,h1,h2,h3,h4⟩);(·rw[h.1] at h1;cases h1);(·exact .inl ⟨h1,by rw[h2]⟩);(have hr:(e.1.right&&e.2.right)=true:=by rw[h1,h2];rfl);rcases h4 with ⟨h4,h5,h6⟩ | ⟨h4,h5,h6⟩
 ·have hH:Holds (d++[e]) s.1:=⟨h5,by rw[hE.1,hE.2];exact h6⟩
  refine .inr (.inr ⟨hr,hH.noClash,h4,hH,?_⟩);have g1:=e.1.gadd_inv S.G h.2.w.c.g;have g2:=e.2.gadd_inv _ g1.1.inv;have:=g1.1.le;have:=g2.1.le;rw[h3];omega
 exact .inr (.inl ⟨hr,by unfold Clashes;rw[hE.1,hE.2];exact h6,h4⟩)
def CS0:CS:=⟨⟨[],[]⟩,⟨[],[],0,0⟩,[],0,false⟩
theorem Rt.none {i r:Nat} (h:Rt [] i r):False:=by have:=h.lt;simp at this
theorem Holds.none:Holds [] CS0:=by
 refine ⟨rfl,⟨⟨⟨.empty,⟨rfl,fun _=>0,⟨by simp[CS0],by simp[CS0]⟩⟩,rfl,rfl,by simp[CS0],by simp[CS0],by simp[CS0]⟩,by simp,fun i k hik=>?_,by simp,by simp[eqF,zcn],?_,?_⟩,.empty⟩⟩
 ·rcases hik with rfl | ⟨t,h,_⟩
  (·exact .refl _);exact (Rt.none h).elim
 ·intro r i x c ps h1 h2 h3
  exact (Rt.none h3).elim
 intro r x h1;exact (Rt.none h1).elim
end Go.Proofs.YtpfiliamceimmaaGreatDoor
