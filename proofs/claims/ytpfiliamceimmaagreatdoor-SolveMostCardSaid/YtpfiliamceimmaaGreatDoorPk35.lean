/- packed, part 35 of 47. Conditions: none. -/
import Derived.Test.YtpfiliamceimmaaGreatDoorPk34
set_option linter.unusedVariables false
set_option linter.unusedSimpArgs false
set_option maxRecDepth 100000
set_option maxHeartbeats 4000000
namespace Go.Proofs.YtpfiliamceimmaaGreatDoor
open Go Go.RowKit
attribute [local irreducible] aops zaA
def zhH {α:Type} (f:α->α->Bool):List α->List α->Bool
 | [],[]=>true
 | p::ps,q::qs=>f p q&&zhH f ps qs
 | _,_=>false
theorem zfj {α:Type} {f:α->α->Bool}:∀{ps qs:List α},ps.length≠qs.length->zhH f ps qs=false
 | [],[],h=>by simp at h
 | [],_::_,_=>rfl
 | _::_,[],_=>rfl
 | p::ps,q::qs,h=>by simp only[zhH];rw[zfj (by simpa using h)];simp
theorem zdt {α:Type} {f:α->α->Bool}:∀{ps qs:List α} {k:Nat} {p q:α},ps[k]?=some p->qs[k]?=some q->f p q=false->zhH f ps qs=false
 | [],_,k,p,q,h,_,_=>by simp at h
 | _::_,[],k,p,q,_,h,_=>by simp at h
 | a::ps,b::qs,0,p,q,h1,h2,hf=>by simp at h1 h2;subst h1;subst h2;simp[zhH,hf]
 | a::ps,b::qs,k+1,p,q,h1,h2,hf=>by simp only[zhH];rw[zdt (k:=k) (by simpa using h1) (by simpa using h2) hf];simp
theorem zei {α:Type} {f:α->α->Bool}:∀{ps qs:List α},ps.length=qs.length->(∀(k:Nat) (p q:α),ps[k]?=some p->qs[k]?=some q->f p q=true)->zhH f ps qs=true
 | [],[],_,_=>rfl
 | [],_::_,h,_=>by simp at h
 | _::_,[],h,_=>by simp at h
 | a::ps,b::qs,h,hf=>by
  simp only[zhH];rw[hf 0 a b rfl rfl,zei (by simpa using h) fun k p q hp hq=>hf (k+1) p q (by simpa using hp) (by simpa using hq)];rfl
theorem zdk:∀ps qs:List Ty,Ty.sameL ps qs=zhH Ty.same ps qs
 | [],[]=>by simp[Ty.sameL,zhH]
 | [],_::_=>by simp[Ty.sameL,zhH]
 | _::_,[]=>by simp[Ty.sameL,zhH]
 | p::ps,q::qs=>by simp[Ty.sameL,zhH,zdk ps qs]
def zgL (l:List Int) (n:Int):List Int:=if l.any (fun x=>x==n) then l else l++[n]
mutual
def Ty.rvars:Ty->List Int->List Int
 | .mk k n ps,l=>Ty.rvarsL ps (if k=1 then zgL l n else l)
def Ty.rvarsL:List Ty->List Int->List Int
 | [],l=>l
 | p::ps,l=>Ty.rvarsL ps (Ty.rvars p l)
end
theorem Ty.rvars_eq (t:Ty) (l:List Int):t.rvars l=Ty.rvarsL t.ps (if t.k=1 then zgL l t.n else l):=by cases t;rw[Ty.rvars];rfl
theorem Ty.rvarsL_append:∀(ps qs:List Ty) (l:List Int),Ty.rvarsL (ps++qs) l=Ty.rvarsL qs (Ty.rvarsL ps l)
 | [],qs,l=>by simp[Ty.rvarsL]
 | p::ps,qs,l=>by simp[Ty.rvarsL,Ty.rvarsL_append ps qs]
theorem Ty.rvarsL_step {ps:List Ty} {s:Nat} {p:Ty} (hp:ps[s]?=some p) (l:List Int):Ty.rvarsL (ps.take (s+1)) l=p.rvars (Ty.rvarsL (ps.take s) l):=by
 rw[zR,hp,Ty.rvarsL_append];simp[Ty.rvarsL]
theorem zcJ (k n:Int) (l:List Int):(k=1->(l.any fun x=>x==n)=false->(if k=1 then zgL l n else l)=l++[n])/\((l.any fun x=>x==n)=true->(if k=1 then zgL l n else l)=l)/\(¬k=1->(if k=1 then zgL l n else l)=l):=by
 refine ⟨fun h1 h2=>?_,fun h1=>?_,fun h1=>?_⟩;·rw[if_pos h1,zgL,if_neg (by rw[h2];simp)]
 ·split
  (·rw[zgL,if_pos h1]);rfl
 rw[if_neg h1]
theorem zkX (l:List Int) (n:Int):(zgL l n).length<=l.length+1:=by unfold zgL;split <;> simp
theorem Ty.rvars_len:∀(t:Ty) (l:List Int),(t.rvars l).length<=l.length+t.cnt:=by
 refine Ty.ind fun t ih=>?_
 have key:∀ps:List Ty,(∀p∈ps,∀l:List Int,(p.rvars l).length<=l.length+p.cnt)->∀l:List Int,(Ty.rvarsL ps l).length<=l.length+Ty.cntL ps:=by
  intro ps
  induction ps with
  | nil=>intro _ l;simp[Ty.rvarsL,Ty.cntL]
  | cons p ps ihp =>
   intro hp l;have h1:=hp p tz4 l;have h2:=ihp (fun q hq=>hp q (by simp[hq])) (p.rvars l);simp only[Ty.rvarsL,Ty.cntL];omega
 intro l;rw[Ty.rvars_eq,Ty.cnt_eq];have:=key t.ps ih (if t.k=1 then zgL l t.n else l);(have h2:(if t.k=1 then zgL l t.n else l).length<=l.length+1:=by split <;> first | exact zkX l t.n | omega);omega
theorem Ty.rvarsL_len (ps:List Ty) (l:List Int):(Ty.rvarsL ps l).length<=l.length+Ty.cntL ps:=by
 have:=Ty.rvars_len (.mk 0 0 ps) l;rw[Ty.rvars_eq,Ty.cnt_eq] at this
 induction ps generalizing l with
 | nil=>simp[Ty.rvarsL,Ty.cntL]
 | cons p ps ih =>
  have h1:=p.rvars_len l;have h2:=ih (p.rvars l) (by have:=Ty.rvars_len (.mk 0 0 ps) (p.rvars l);rw[Ty.rvars_eq,Ty.cnt_eq] at this;exact this);simp only[Ty.rvarsL,Ty.cntL];omega
structure Bd where
 v:Int
 t:Ty
def Bd.cells (b:Bd):List AV:=.v (.int .i64 b.v)::b.t.cells
theorem Bd.cells_eq (b:Bd):b.cells=[.v (.int .i64 b.v),.v (.int .i64 b.t.k),.v (.int .i64 b.t.n),.sl 3 (b.t.ps.map Ty.cells)]:=by rw[Bd.cells,Ty.cells_eq]
theorem Bd.cells_len (b:Bd):b.cells.length=4:=by rw[b.cells_eq];rfl
theorem Bd.data (b:Bd):DataL b.cells:=.cons (.v _) b.t.data
theorem Bd.dataSl (l:List Bd):Data (.sl 4 (l.map Bd.cells)):=.sl fun x hx=>by
 obtain ⟨y,_,rfl⟩:=zq.1 hx;exact y.data
theorem Bd.take1 (b:Bd):b.cells.take 1=[.v (.int .i64 b.v)]:=by rw[b.cells_eq];rfl
theorem Bd.drop1 (b:Bd):b.cells.drop 1=b.t.cells:=rfl
theorem Bd.one (b:Bd):b.cells.all AV.one=true:=by rw[b.cells_eq];rfl
def zbI (l:List Bd) (n:Int):Int:=zbv (fun b=>b.v==n) l
mutual
/-- what a substitution makes of a type -/
def Ty.sub (l:List Bd):Ty->Ty
 | .mk k n ps=>if k=1/\0<=zbI l n then ((l[(zbI l n).toNat]?).map Bd.t).getD (.mk 0 0 []) else .mk k n (Ty.subL l ps)
def Ty.subL (l:List Bd):List Ty->List Ty
 | []=>[]
 | p::ps=>Ty.sub l p::Ty.subL l ps
end
theorem Ty.subL_eq (l:List Bd):∀ps,Ty.subL l ps=ps.map (Ty.sub l)
 | []=>by simp[Ty.subL]
 | p::ps=>by simp[Ty.subL,Ty.subL_eq l ps]
theorem Ty.sub_no {l:List Bd} {t:Ty} (h:¬(t.k=1/\0<=zbI l t.n)):t.sub l=.mk t.k t.n (t.ps.map (Ty.sub l)):=by
 obtain ⟨k,n,ps⟩:=t;have h:¬(k=1/\0<=zbI l n):=h;rw[Ty.sub,if_neg h,Ty.subL_eq];rfl
theorem zfc (ps qs:List Ty) (g:Nat) (f:Ty->Ty->Bool) (hf:∀p∈ps,∀q,APure Tryz.prog g [.agg p.cells,.agg q.cells] (.v (.bool (f p q)))):APure Tryz.prog 103 [.sl 3 (ps.map Ty.cells),.sl 3 (qs.map Ty.cells),.clo g []] (.v (.bool (zhH f ps qs))):=by
  refine APure.mkL (.cons (Ty.dataSl ps) (.cons (Ty.dataSl qs) (.cons (.clo (fun _ h=>by cases h)) .nil))) (.v _) ?_;refine aIn Tryz.func103 fun hm=>?_;simp only[Tryz.ntmps103,Tryz.results103,go_sem,seval];have hm1:=hm.len (sz:=3) (xs:=ps.map Ty.cells) tz4;rw[zC] at hm1;refine sqD ?_;refine zZ fun _ u=>?_;refine sqR fun _ w=>?_;refine chS 4 ?_;simp only[↓bO,go_sem,seval];apply w;apply z8 rfl <;> intro hb14
  ·
   refine sqD ?_;apply zaa;(try simp only[go_sem]);refine Le.of_eq (congrArg (fun b=>AV.v (.bool b)) ?_);first | (rw[zfj (ps:=ps) (qs:=qs) (by simp at hb14;omega)];done) | (rw[zdt hp hq (by simpa using hb30)];done) | (rw[zei hl fun k p q hp hq=>hs.2 k p q (by have:=(zb.1 hp).1;omega) hp hq];done)
  (have hl:ps.length=qs.length:=by simp at hb14;omega);apply zac;apply u;refine zZ fun _ u=>?_;refine sqD ?_;apply zab;refine zah (σ:=Nat) (mB 32 229382) (fun s=>s<=ps.length/\∀(k:Nat) (p q:Ty),k<s->ps[k]?=some p->qs[k]?=some q->f p q=true) (fun s=>[(17,.v (.int .i64 (s:Int)))]) (fun s=>[]) (fun s=>ps.length-s) 0 (⟨by omega,fun k p q hk=>by omega⟩) ?_ (fun s hs=>?_)
  ·
   simp only[go_sem,seval];exact zaK
  simp only[go_sem,seval];refine sqD ?_;refine zZ fun _ w=>?_;apply z8 rfl <;> intro hb18
  ·
   (have hk:s<ps.length:=by simpa using hb18);obtain ⟨p,hp⟩:∃p,ps[s]?=some p:=⟨_,za hk⟩;(have hk2:s<qs.length:=by omega);obtain ⟨q,hq⟩:∃q,qs[s]?=some q:=⟨_,za hk2⟩;have hw:IntKind.i64.wrap ((s:Int)+1)=(s:Int)+1:=zal tz1 (by simp only[maxLen] at hm1;omega);apply zac;apply w;refine zZ fun _ w=>?_;apply zab;refine sqR fun _ z=>?_;refine chS 4 ?_ (by intro _ q;simp only[↓bO,go_sem,seval,hk,gM hp];exact q);simp only[↓bO,go_sem,seval];apply z;refine sqR fun _ z=>?_;refine chS 4 ?_ (by intro _ q;simp only[↓bO,go_sem,seval,hk2,gM hq];exact q);simp only[↓bO,go_sem,seval];apply z;refine sqR fun _ z=>?_;refine chS 3 ?_;refine z6 1 fun _ y=>?_;simp only[↓bO,go_sem,seval];refine APure.call (hf p (zc hp) q) ?_;apply y;clear y;simp only[↓bO,go_sem,seval];apply z;apply z8 rfl <;> intro hb30
   ·
    refine sqD ?_;apply zaa;(try simp only[go_sem]);refine Le.of_eq (congrArg (fun b=>AV.v (.bool b)) ?_);first | (rw[zfj (ps:=ps) (qs:=qs) (by simp at hb14;omega)];done) | (rw[zdt hp hq (by simpa using hb30)];done) | (rw[zei hl fun k p q hp hq=>hs.2 k p q (by have:=(zb.1 hp).1;omega) hp hq];done)
   apply zac;apply w;apply z7;simp only[↓bO,go_sem,seval,hw];refine ⟨(s+1),⟨by omega,fun k p' q' hi h1 h2=>(by rcases zD k s with h3 | h3 <;> first | exact hs.2 k p' q' h3 h1 h2 | (obtain rfl:k=s:=tz1;rw[hp] at h1;rw[hq] at h2;cases h1;cases h2;simpa using hb30))⟩,by omega,?_⟩;simp only[zas,zat,zag,zam,mB,seval,zj,zi];(first | (refine Weak.drops 2 0 rfl rfl tz5 tz5 ?_ ?_ ?_) | (refine Weak.drops 1 0 rfl rfl tz5 tz5 ?_ ?_ ?_) | (refine Weak.drops 0 0 rfl rfl tz5 tz5 ?_ ?_ ?_));(· simp only[go_sem,Le.refl,Le.any,zn,zi]);(· simp only[UndL,UndOs,Ob.Und,and_true,true_and,and_self,Und.v,Und.any,Und.ptr,Und.map,Nat.reduceLT,zL,Und.tys,Und.tyAgg,Und.oslTys,Und.oslTys1,Und.clo0,Und.ty]);simp only[UndL,UndOs,Ob.Und,and_true,true_and,and_self,Und.v,Und.any,Und.ptr,Und.map,Nat.reduceLT,zL,Und.tys,Und.tyAgg,Und.oslTys,Und.oslTys1,Und.clo0,Und.ty]
  (have hk:s=ps.length:=by have:=hs.1;simp at hb18;omega);apply zaj;simp only[zaq,zak,zaf,bA,Nat.reduceEqDiff,↓reduceIte];apply u;refine sqD ?_;apply zaa;(try simp only[go_sem]);refine Le.of_eq (congrArg (fun b=>AV.v (.bool b)) ?_);first | (rw[zfj (ps:=ps) (qs:=qs) (by simp at hb14;omega)];done) | (rw[zdt hp hq (by simpa using hb30)];done) | (rw[zei hl fun k p q hp hq=>hs.2 k p q (by have:=(zb.1 hp).1;omega) hp hq];done)
theorem zg0:∀(T:Ty) (U:Ty),APure Tryz.prog 57 [.agg T.cells,.agg U.cells] (.v (.bool (T.same U))):=by
  refine Ty.ind fun T ih=>?_;intro U;refine APure.mkL (.cons T.dataAgg (.cons U.dataAgg .nil)) (.v _) ?_;refine aIn Tryz.func57 fun hm=>?_;simp only[Tryz.ntmps57,Tryz.results57,go_sem,seval];refine sqD ?_;refine sqR fun _ u=>?_;refine chS 4 ?_;refine chS 2 ?_;simp only[go_sem];refine zai 10 rfl (fun hc10=>?_) (fun hc10=>?_)
  ·
   refine chS 4 ?_;refine chS 3 ?_;simp only[go_sem];refine zai 17 rfl (fun hc17=>?_) (fun hc17=>?_)
   ·
    refine chS 4 ?_;refine z6 1 fun _ y=>?_;simp only[↓bO,go_sem,seval];refine APure.call (zfc T.ps U.ps 57 Ty.same (fun p hp q=>ih p hp q)) ?_;apply y;clear y;simp only[↓bO,go_sem,seval];apply u;apply zaa;(try simp only[go_sem]);refine Le.of_eq (congrArg (fun b=>AV.v (.bool b)) ?_);rw[Ty.same_eq,zdk];simp_all
   refine chS 4 ?_;simp only[↓bO,go_sem,seval];apply u;apply zaa;(try simp only[go_sem]);refine Le.of_eq (congrArg (fun b=>AV.v (.bool b)) ?_);rw[Ty.same_eq,zdk];simp_all
  (iterate 3 (refine chS 4 ?_));simp only[↓bO,go_sem,seval];apply u;apply zaa;(try simp only[go_sem]);refine Le.of_eq (congrArg (fun b=>AV.v (.bool b)) ?_);rw[Ty.same_eq,zdk];simp_all
theorem In_pure (l:List Int) (n:Int):APure Tryz.prog 69 [.sl 1 (l.map intC),.v (.int .i64 n)] (.v (.bool (l.any fun x=>x==n))):=by
  refine APure.mkL (.cons (zap l) (.cons (.v _) .nil)) (.v _) ?_;refine aIn Tryz.func69 fun hm=>?_;simp only[Tryz.ntmps69,Tryz.results69,go_sem,seval];have hm1:=hm.len (sz:=1) (xs:=l.map intC) tz4;rw[zC] at hm1;refine sqD ?_;refine zZ fun _ y=>?_;refine sqD ?_;apply zab;refine zah (σ:=Nat) (mB 18 35) (fun s=>s<=l.length/\∀(i:Nat) (p:Int),i<s->l[i]?=some p->(p==n)=false) (fun s=>[(5,.v (.int .i64 (s:Int)))]) (fun s=>[]) (fun s=>l.length-s) 0 (⟨by omega,fun i p hi=>by omega⟩) ?_ (fun s hs=>?_)
  ·
   simp only[go_sem,seval];exact zaK
  simp only[go_sem,seval];refine zZ fun _ u=>?_;refine sqD ?_;apply z8 rfl <;> intro hb9
  ·
   (have hk:s<l.length:=by simpa using hb9);obtain ⟨p,hp⟩:∃p,l[s]?=some p:=⟨_,za hk⟩;have hw:IntKind.i64.wrap ((s:Int)+1)=(s:Int)+1:=zal tz1 (by simp only[maxLen] at hm1;omega);apply zac;apply u;refine zZ fun _ u=>?_;apply zab;refine sqR fun _ w=>?_;refine chS 4 ?_ (by intro _ q;simp only[↓bO,go_sem,seval,hk,gM hp,intC];exact q);simp only[↓bO,go_sem,seval];apply w;apply z8 rfl <;> intro hb17
   ·
    refine sqD ?_;apply zaa;(try simp only[go_sem]);refine Le.of_eq (congrArg (fun b=>AV.v (.bool b)) ?_);first | (rw[zce hp (by exact hb17)];done) | (rw[zbZ (fun i p hi hp=>hs.2 i p tz1 hp)];done)
   apply zac;apply u;apply z7;simp only[↓bO,go_sem,seval,hw];refine ⟨(s+1),⟨by omega,fun i p' hi h1=>(by rcases zD i s with h3 | h3 <;> first | exact hs.2 i p' h3 h1 | (obtain rfl:i=s:=tz1;rw[hp] at h1;cases h1;exact hb17))⟩,by omega,?_⟩;simp only[zas,zat,zag,zam,mB,seval,zj,zi];exact zaK
  (have hk:s=l.length:=by have:=hs.1;simp at hb9;omega);apply zaj;simp only[zaq,zak,zaf,bA,Nat.reduceEqDiff,↓reduceIte];apply y;refine sqD ?_;apply zaa;(try simp only[go_sem]);refine Le.of_eq (congrArg (fun b=>AV.v (.bool b)) ?_);first | (rw[zce hp (by exact hb17)];done) | (rw[zbZ (fun i p hi hp=>hs.2 i p tz1 hp)];done)
theorem zgN:∀(T:Ty) (l:List Int) (hl:l.length+T.cnt<=1099511627776),APure Tryz.prog 62 [.agg T.cells,.sl 1 (l.map intC)] (.sl 1 ((T.rvars l).map intC)):=by
  refine Ty.ind fun T ih=>?_;intro l hl;refine APure.mkL (.cons T.dataAgg (.cons (zap l) .nil)) ((zap _)) ?_;refine aIn Tryz.func62 fun hm=>?_;simp only[Tryz.ntmps62,Tryz.results62,go_sem,seval];have hcn:=T.cnt_eq;have hcl:=Ty.cntL_len T.ps;simp only[Ty.cells_eq T,zt,zx];(have hl0:(if T.k=1 then zgL l T.n else l).length<=l.length+1:=by split <;> first | exact zkX l T.n | omega);(have hb1:l.length * 8<=140737488355328:=by omega);(have hb2:l.length<=maxLen:=by simp only[maxLen];omega);(have hb3:(l.length+1) * 8<=140737488355328:=by omega);(have hb4:l.length+1<=maxLen:=by simp only[maxLen];omega);have hon:=zks l;refine sqD ?_;refine zbm (mB 38 6) ([(1,.sl 1 ((if T.k=1 then zgL l T.n else l).map intC))]) [(0,.cells 28 [.v (.int .i64 T.k),.v (.int .i64 T.n),.sl 3 (T.ps.map Ty.cells)])] 1 (True) ?_ (fun hC=>?_)
  ·
   refine sqR fun _ u=>?_;refine chS 4 ?_;simp only[go_sem];refine zai 9 rfl (fun hc9=>?_) (fun hc9=>?_)
   ·
    refine chS 3 ?_;refine z6 1 fun _ y=>?_;simp only[↓bO,go_sem,seval];refine APure.call (In_pure l T.n) ?_;apply y;clear y;simp only[↓bO,go_sem,seval];apply u;apply z8 rfl <;> intro hb15
    ·
     refine zax [(0,1,[.v (.int .i64 T.n)])] 8 rfl mixed (zdZ) rfl ?_;dsimp only;refine tkS 1 ?_;refine tkS 3 ?_;refine tkM 4 0 ?_;refine al2 (i:=0) (j:=5) ?_ ?_
     ·
      refine opT fun _ y=>?_;simp only[↓bO,go_sem,seval,↓bs0_1];refine y _ ⟨zdZ,?_⟩;clear y;refine al2 (i:=2) (j:=5) ?_ ?_
      ·
       refine opT fun _ y=>?_;simp only[↓bO,go_sem,seval,hb1,hb2,hon];refine y _ ⟨zdZ,?_⟩;clear y;refine al1 (i:=5) ?_;refine opT fun _ y=>?_;simp only[↓bO,go_sem,seval,↓zcy];refine y _ ⟨zdZ,?_⟩;clear y;refine al1 (i:=6) ?_;refine opT fun _ y=>?_;simp only[↓bO,go_sem,seval,hb3,hb4];refine y _ ⟨zdZ,?_⟩;clear y;refine tkS 7 ?_;refine dnA ?_;simp only[go_sem];(try simp only[go_sem,seval]);(first | refine ⟨trivial,?_⟩ | skip);have h9:=zcJ T.k T.n l;(first | (have h9:=h9.1 (by simpa using hc9) (by simpa using hb15);rw[h9]) | (have h9:=h9.2.1 (by simpa using hb15);rw[h9]) | (have h9:=h9.2.2 (by simpa using hc9);rw[h9]));(first | (refine Weak.drops 0 1 rfl rfl tz5 tz5 ?_ ?_ ?_) | (refine Weak.drops 1 1 rfl rfl tz5 tz5 ?_ ?_ ?_));(· simp only[go_sem,Le.refl,Le.any,Le.oslL,zu,zy,zW]);(· simp only[UndL,Und.any,Und.v,Und.ptr,zd8,zL,Nat.reduceLT,and_self]);simp only[UndOs,Ob.Und,UndL,Und.v,Und.tys,zL,Nat.reduceLT,and_self]
      refine opT fun _ y=>?_;simp only[↓bO,go_sem,seval,↓zcy];refine y _ ⟨zdZ,?_⟩;clear y;refine al1 (i:=2) ?_;refine opT fun _ y=>?_;simp only[↓bO,go_sem,seval,hb1,hb2,hon];refine y _ ⟨zdZ,?_⟩;clear y;refine al1 (i:=6) ?_;refine opT fun _ y=>?_;simp only[↓bO,go_sem,seval,hb3,hb4];refine y _ ⟨zdZ,?_⟩;clear y;refine tkS 7 ?_;refine dnA ?_;simp only[go_sem];(try simp only[go_sem,seval]);(first | refine ⟨trivial,?_⟩ | skip);have h9:=zcJ T.k T.n l;(first | (have h9:=h9.1 (by simpa using hc9) (by simpa using hb15);rw[h9]) | (have h9:=h9.2.1 (by simpa using hb15);rw[h9]) | (have h9:=h9.2.2 (by simpa using hc9);rw[h9]));(first | (refine Weak.drops 0 1 rfl rfl tz5 tz5 ?_ ?_ ?_) | (refine Weak.drops 1 1 rfl rfl tz5 tz5 ?_ ?_ ?_));(· simp only[go_sem,Le.refl,Le.any,Le.oslL,zu,zy,zW]);(· simp only[UndL,Und.any,Und.v,Und.ptr,zd8,zL,Nat.reduceLT,and_self]);simp only[UndOs,Ob.Und,UndL,Und.v,Und.tys,zL,Nat.reduceLT,and_self]
     refine opT fun _ y=>?_;simp only[↓bO,go_sem,seval,↓zcy];refine y _ ⟨zdZ,?_⟩;clear y;refine al1 (i:=0) ?_;refine opT fun _ y=>?_;simp only[↓bO,go_sem,seval,↓bs0_1];refine y _ ⟨zdZ,?_⟩;clear y;refine al1 (i:=2) ?_;refine opT fun _ y=>?_;simp only[↓bO,go_sem,seval,hb1,hb2,hon];refine y _ ⟨zdZ,?_⟩;clear y;refine al1 (i:=6) ?_;refine opT fun _ y=>?_;simp only[↓bO,go_sem,seval,hb3,hb4];refine y _ ⟨zdZ,?_⟩;clear y;refine tkS 7 ?_;refine dnA ?_;simp only[go_sem];(try simp only[go_sem,seval]);(first | refine ⟨trivial,?_⟩ | skip);have h9:=zcJ T.k T.n l;(first | (have h9:=h9.1 (by simpa using hc9) (by simpa using hb15);rw[h9]) | (have h9:=h9.2.1 (by simpa using hb15);rw[h9]) | (have h9:=h9.2.2 (by simpa using hc9);rw[h9]));(first | (refine Weak.drops 0 1 rfl rfl tz5 tz5 ?_ ?_ ?_) | (refine Weak.drops 1 1 rfl rfl tz5 tz5 ?_ ?_ ?_));(· simp only[go_sem,Le.refl,Le.any,Le.oslL,zu,zy,zW]);(· simp only[UndL,Und.any,Und.v,Und.ptr,zd8,zL,Nat.reduceLT,and_self]);simp only[UndOs,Ob.Und,UndL,Und.v,Und.tys,zL,Nat.reduceLT,and_self]
    apply zac;(try simp only[go_sem]);(try simp only[go_sem,seval]);(first | refine ⟨trivial,?_⟩ | skip);have h9:=zcJ T.k T.n l;(first | (have h9:=h9.1 (by simpa using hc9) (by simpa using hb15);rw[h9]) | (have h9:=h9.2.1 (by simpa using hb15);rw[h9]) | (have h9:=h9.2.2 (by simpa using hc9);rw[h9]));(first | (refine Weak.drops 0 1 rfl rfl tz5 tz5 ?_ ?_ ?_) | (refine Weak.drops 1 1 rfl rfl tz5 tz5 ?_ ?_ ?_));(· simp only[go_sem,Le.refl,Le.any]);(· simp only[UndL,Und.any,Und.v,Und.ptr,zd8,zL,Nat.reduceLT,and_self]);simp only[UndOs,Ob.Und,UndL,Und.v,Und.tys,zL,Nat.reduceLT,and_self]
   refine chS 4 ?_;simp only[↓bO,go_sem,seval];apply u;refine z8 (b:=false) (by first | exact rfl | exact congrArg (fun b=>AV.v (.bool b)) hb15) (fun h=>(by cases h)) (fun _=>?_);apply zac;(try simp only[go_sem]);(try simp only[go_sem,seval]);(first | refine ⟨trivial,?_⟩ | skip);have h9:=zcJ T.k T.n l;(first | (have h9:=h9.1 (by simpa using hc9) (by simpa using hb15);rw[h9]) | (have h9:=h9.2.1 (by simpa using hb15);rw[h9]) | (have h9:=h9.2.2 (by simpa using hc9);rw[h9]));(first | (refine Weak.drops 0 1 rfl rfl tz5 tz5 ?_ ?_ ?_) | (refine Weak.drops 1 1 rfl rfl tz5 tz5 ?_ ?_ ?_));(· simp only[go_sem,Le.refl,Le.any]);(· simp only[UndL,Und.any,Und.v,Und.ptr,zd8,zL,Nat.reduceLT,and_self]);simp only[UndOs,Ob.Und,UndL,Und.v,Und.tys,zL,Nat.reduceLT,and_self]
  simp only[go_sem,seval];refine zZ fun _ u=>?_;refine sqD ?_;apply zab;refine zah (σ:=Nat) (mB 38 38) (fun s=>s<=T.ps.length) (fun s=>[(1,.sl 1 ((Ty.rvarsL (T.ps.take s) (if T.k=1 then zgL l T.n else l)).map intC)),(5,.v (.int .i64 (s:Int)))]) (fun s=>[]) (fun s=>T.ps.length-s) 0 tz1 ?_ (fun s hs=>?_)
  ·
   simp only[go_sem,seval,bL,Ty.rvarsL];exact Weak.mk (by simp only[go_sem,Le.refl,zn,zi]) (fun _ _ h=>h) rfl rfl
  simp only[go_sem,seval];refine zZ fun _ w=>?_;refine sqR fun _ z=>?_;refine chS 4 ?_;simp only[↓bO,go_sem,seval];apply z;apply z8 rfl <;> intro hb27
  ·
   (have hk:s<T.ps.length:=by simpa using hb27);obtain ⟨p,hp⟩:∃p,T.ps[s]?=some p:=⟨_,za hk⟩;have hpc:=Ty.cntL_step hp;have hvl:=Ty.rvarsL_len (T.ps.take s) (if T.k=1 then zgL l T.n else l);have hw:IntKind.i64.wrap ((s:Int)+1)=(s:Int)+1:=zal tz1 tz1;apply zac;apply w;refine zZ fun _ w=>?_;apply zab;apply z7;refine chS 4 ?_ (by intro _ q;simp only[↓bO,go_sem,seval,hk,gM hp];exact q);refine chS 2 ?_;refine z6 1 fun _ y=>?_;simp only[↓bO,go_sem,seval];refine APure.call (ih p (zc hp) (Ty.rvarsL (T.ps.take s) (if T.k=1 then zgL l T.n else l)) tz1) ?_;apply y;clear y;simp only[↓bO,go_sem,seval];apply w;apply z7;simp only[↓bO,go_sem,seval,hw];refine ⟨(s+1),tz1,by omega,?_⟩;simp only[zas,zat,zag,zam,mB,seval,zj,zi,Ty.rvarsL_step hp];exact zaK
  (have hk:s=T.ps.length:=by simp at hb27;omega);apply zaj;simp only[zaq,zak,zaf,bA,Nat.reduceEqDiff,↓reduceIte];apply u;refine sqD ?_;apply zaa;(try simp only[go_sem]);refine Le.of_eq ?_;rw[Ty.rvars_eq,hk,zM]
end Go.Proofs.YtpfiliamceimmaaGreatDoor
namespace Go.Proofs.YtpfiliamceimmaaGreatDoor
open Go Go.RowKit
theorem Ty.k_mk (k n:Int) (ps:List Ty):(Ty.mk k n ps).k=k:=rfl
theorem Ty.n_mk (k n:Int) (ps:List Ty):(Ty.mk k n ps).n=n:=rfl
theorem Ty.ps_mk (k n:Int) (ps:List Ty):(Ty.mk k n ps).ps=ps:=rfl
theorem okN_one {n:Int} {len:Nat} (h:okN 1 n len=true):0<=n/\n<1073741824/\len=0:=by
 simp only[okN,zd] at h;omega
theorem okN_more {k n:Int} {len:Nat} (h:okN k n len=true) (hk:¬k=1):n=0:=by
 simp only[okN,zd] at h;omega
theorem Ty.right_part {t p:Ty} (h:t.right=true) (hp:p∈t.ps):p.right=true:=by
 rw[Ty.right_eq,zw] at h;exact zP.1 h.2 p hp
theorem Ty.right_var {t:Ty} (h:t.right=true) (hk:t.k=1):t=.mk 1 t.n []:=by
 obtain ⟨k,n,ps⟩:=t;have hk:k=1:=hk;subst hk;rw[Ty.right_eq,zw] at h;have:=(okN_one h.1).2.2;simp only[Ty.ps,List.length_eq_zero_iff] at this;simp[Ty.n,this]
theorem Ty.right_n {t:Ty} (h:t.right=true) (hk:¬t.k=1):t.n=0:=by
 rw[Ty.right_eq,zw] at h;exact okN_more h.1 hk
theorem zkp {α:Type} {f:α->α->Bool}:∀{ps qs:List α},(∀p∈ps,∀q,f p q=true↔p=q)->(zhH f ps qs=true↔ps=qs)
 | [],[],_=>by simp[zhH]
 | [],_::_,_=>by simp[zhH]
 | _::_,[],_=>by simp[zhH]
 | p::ps,q::qs,h=>by
  simp only[zhH,zw,List.cons.injEq];rw[h p tz4 q,zkp fun p' hp q'=>h p' (by simp[hp]) q']
theorem Ty.same_iff:∀T U:Ty,T.same U=true↔T=U:=by
 (refine Ty.ind fun T ih=>fun U=>?_);rw[Ty.same_eq,zdk,zw,zw,zkp ih];obtain ⟨k,n,ps⟩:=T;obtain ⟨k',n',ps'⟩:=U;simp only[Ty.k,Ty.n,Ty.ps,beq_iff_eq,Ty.mk.injEq];exact ⟨fun h=>⟨h.1.1,h.1.2,h.2⟩,fun h=>⟨⟨h.1,h.2.1⟩,h.2.2⟩⟩
def zaH {α:Type}:List (Int×α)->Int->Option α
 | [],_=>none
 | (k,x)::r,i=>if k=i then some x else zaH r i
def zeH {α:Type}:List (Int×α)->Int->α->List (Int×α)
 | [],k,x=>[(k,x)]
 | (k',y)::r,k,x=>if k'=k then (k,x)::r else (k',y)::zeH r k x
theorem zg5 {α:Type} (k:Int) (x:α) (i:Int):∀m:List (Int×α),zaH (zeH m k x) i=if k=i then some x else zaH m i
 | []=>by simp[zeH,zaH]
 | (a,b)::m=>by
  simp only[zeH];split;(·rename_i e;subst e;simp only[zaH];split <;> rfl);(rename_i e);simp only[zaH,zg5 k x i m]
  by_cases h1:k=i
  (·subst h1;simp[e]);simp[h1]
theorem zf8 {α:Type} (f:α->AV) (i:Int):∀m:List (Int×α),zbG (m.map fun p=>(p.1,f p.2)) i=(zaH m i).map f
 | []=>rfl
 | (a,b)::m=>by simp only[zy,zbG,zaH];split <;> simp[zf8 f i m]
theorem aSet_p {α:Type} (f:α->AV) (k:Int) (x:α):∀m:List (Int×α),zd0 (m.map fun p=>(p.1,f p.2)) k (f x)=(zeH m k x).map fun p=>(p.1,f p.2)
 | []=>rfl
 | (a,b)::m=>by simp only[zy,zd0,zeH];split <;> simp[aSet_p f k x m]
def Ty.occ (v:Int) (t:Ty):Prop:=v∈t.rvars []
theorem zkt {l:List Int} {n v:Int}:v∈zgL l n↔v∈l\/v=n:=by
 unfold zgL;split
 ·rename_i h
  obtain ⟨x,hx,e⟩:=List.any_eq_true.1 h;simp only[beq_iff_eq] at e;subst e;exact ⟨.inl,fun h=>h.elim id fun h=>h▸hx⟩
 simp
theorem Ty.mem_rvars (v:Int):∀(t:Ty) (l:List Int),v∈t.rvars l↔v∈l\/t.occ v:=by
 have key:∀t:Ty,(∀p∈t.ps,∀l:List Int,v∈p.rvars l↔v∈l\/p.occ v)->∀l,v∈t.rvars l↔v∈l\/(t.k=1/\v=t.n)\/∃p∈t.ps,p.occ v:=by
  intro t ih l
  have hL:∀ps:List Ty,(∀p∈ps,∀l:List Int,v∈p.rvars l↔v∈l\/p.occ v)->∀l:List Int,v∈Ty.rvarsL ps l↔v∈l\/∃p∈ps,p.occ v:=by
   intro ps
   induction ps with
   | nil=>intro _ l;simp[Ty.rvarsL]
   | cons p ps ih2 =>
    intro h l;rw[Ty.rvarsL,ih2 (fun q hq=>h q (by simp[hq])),h p tz4];simp only[zG,exists_eq_or_imp,or_assoc]
  rw[Ty.rvars_eq,hL t.ps ih];split;(·rename_i hk;simp only[zkt,hk,true_and,or_assoc]);rename_i hk;simp only[hk,false_and,false_or]
 refine Ty.ind fun t ih l=>?_;have h1:=key t ih l;have h2:=key t ih [];unfold Ty.occ;rw[h1,h2];simp
theorem Ty.occ_iff (v:Int) (t:Ty):t.occ v↔(t.k=1/\v=t.n)\/∃p∈t.ps,p.occ v:=by
 have hL:∀(ps:List Ty) (l:List Int),v∈Ty.rvarsL ps l↔v∈l\/∃p∈ps,p.occ v:=by
  intro ps
  induction ps with
  | nil=>intro l;simp[Ty.rvarsL]
  | cons p ps ih2 =>
   intro l;rw[Ty.rvarsL,ih2,Ty.mem_rvars];simp only[zG,exists_eq_or_imp,or_assoc]
 rw[Ty.occ,Ty.rvars_eq,hL];split;(·rename_i hk;simp[zkt,hk]);rename_i hk;simp[hk]
mutual
/-- what a function of variables makes of a type -/
def Ty.subF (σ:Int->Ty):Ty->Ty
 | .mk k n ps=>if k=1 then σ n else .mk k n (Ty.subFL σ ps)
def Ty.subFL (σ:Int->Ty):List Ty->List Ty
 | []=>[]
 | p::ps=>Ty.subF σ p::Ty.subFL σ ps
end
theorem Ty.subFL_eq (σ:Int->Ty):∀ps,Ty.subFL σ ps=ps.map (Ty.subF σ)
 | []=>by simp[Ty.subFL]
 | p::ps=>by simp[Ty.subFL,Ty.subFL_eq σ ps]
theorem Ty.subF_var {σ:Int->Ty} {t:Ty} (h:t.k=1):t.subF σ=σ t.n:=by
 obtain ⟨k,n,ps⟩:=t;have h:k=1:=h;rw[Ty.subF,if_pos h];rfl
theorem Ty.subF_more {σ:Int->Ty} {t:Ty} (h:¬t.k=1):t.subF σ=.mk t.k t.n (t.ps.map (Ty.subF σ)):=by
 obtain ⟨k,n,ps⟩:=t;have h:¬k=1:=h;rw[Ty.subF,if_neg h,Ty.subFL_eq];rfl
theorem Ty.subF_congr {σ τ:Int->Ty}:∀t:Ty,(∀v,t.occ v->σ v=τ v)->t.subF σ=t.subF τ:=by
 refine Ty.ind fun t ih h=>?_
 by_cases hk:t.k=1
 ·rw[Ty.subF_var hk,Ty.subF_var hk]
  exact h _ ((Ty.occ_iff _ _).2 (.inl ⟨hk,rfl⟩))
 rw[Ty.subF_more hk,Ty.subF_more hk];(congr 1);exact List.map_congr_left fun p hp=>ih p hp fun v hv=>h v ((Ty.occ_iff _ _).2 (.inr ⟨p,hp,hv⟩))
def zgi (l:List Bd) (n:Int):Ty:=if 0<=zbI l n then ((l[(zbI l n).toNat]?).map Bd.t).getD (.mk 0 0 []) else .mk 1 n []
theorem Ty.sub_subF (l:List Bd):∀t:Ty,t.right=true->t.sub l=t.subF (zgi l):=by
 refine Ty.ind fun t ih hr=>?_
 by_cases hk:t.k=1
 ·have e:=Ty.right_var hr hk
  rw[Ty.subF_var hk]
  conv=>lhs;rw[e]
  simp only[Ty.sub,zgi,true_and,Ty.subL]
 rw[Ty.subF_more hk,Ty.sub_no fun h=>hk h.1];(congr 1);exact List.map_congr_left fun p hp=>ih p hp (Ty.right_part hr hp)
mutual
/-- matching: what is told behind what was -/
def Ty.match:Ty->Ty->List (Int×Ty)->Bool×List (Int×Ty)
 | .mk k n ps,t,m=>if k=1 then (match zaH m n with | none=>(true,zeH m n t) | some x=>(x.same t,m)) else if k=t.k/\ps.length=t.ps.length then Ty.matchL ps t.ps m else (false,m)
def Ty.matchL:List Ty->List Ty->List (Int×Ty)->Bool×List (Int×Ty)
 | p::ps,q::qs,m=>if (Ty.match p q m).1 then Ty.matchL ps qs (Ty.match p q m).2 else (false,(Ty.match p q m).2)
 | [],_,m=>(true,m)
 | _::_,[],m=>(true,m)
end
theorem Ty.subF_k {σ:Int->Ty} {x:Ty} (h:(x.subF σ).k=1):x.k=1:=by
 by_cases hk:x.k=1
 (·exact hk);rw[Ty.subF_more hk] at h;exact absurd h hk
end Go.Proofs.YtpfiliamceimmaaGreatDoor
namespace Go.Proofs.YtpfiliamceimmaaGreatDoor
open Go Go.RowKit
abbrev vTy (n:Int):Ty:=.mk 1 n []
theorem Ty.subF_subF (σ τ:Int->Ty):∀t:Ty,(t.subF σ).subF τ=t.subF fun v=>(σ v).subF τ:=by
 refine Ty.ind fun t ih=>?_
 by_cases hk:t.k=1
 (·rw[Ty.subF_var hk,Ty.subF_var hk]);rw[Ty.subF_more hk,Ty.subF_more (σ:=fun v=>(σ v).subF τ) hk,Ty.subF_more (by exact hk)];simp only[Ty.k_mk,Ty.n_mk,Ty.ps_mk,List.map_map];(congr 1);exact List.map_congr_left fun p hp=>ih p hp
theorem Ty.subF_fixed {σ:Int->Ty}:∀t:Ty,t.right=true->(∀v,t.occ v->σ v=vTy v)->t.subF σ=t:=by
 refine Ty.ind fun t ih hr h=>?_
 by_cases hk:t.k=1
 ·rw[Ty.subF_var hk,h _ ((Ty.occ_iff _ _).2 (.inl ⟨hk,rfl⟩))]
  exact (Ty.right_var hr hk).symm
 rw[Ty.subF_more hk];have e:t.ps.map (Ty.subF σ)=t.ps:=(List.map_congr_left fun p hp=>ih p hp (Ty.right_part hr hp) fun v hv=>h v ((Ty.occ_iff _ _).2 (.inr ⟨p,hp,hv⟩))).trans (List.map_id t.ps);rw[e,Ty.eta]
theorem Ty.occ_vTy {v w:Int}:(vTy v).occ w↔w=v:=by
 rw[Ty.occ_iff];simp[vTy,Ty.k,Ty.n,Ty.ps]
theorem Ty.cnt_lt {t p:Ty} (h:p∈t.ps):p.cnt<t.cnt:=by
 rw[t.cnt_eq];have:=Ty.cnt_mem h;omega
def za0 (σ:Int->Ty) (l:List (Ty×Ty)):Prop:=∀e∈l,e.1.subF σ=e.2.subF σ
structure MG (l:List (Ty×Ty)) (σ:Int->Ty):Prop where
 solves:za0 σ l
 most:∀θ:Int->Ty,za0 θ l->∀v,(σ v).subF θ=θ v
structure Norm (L:List Int) (σ:Int->Ty):Prop where
 right:∀v∈L,(σ v).right=true
 out:∀v,v∉L->σ v=vTy v
 fix:∀v∈L,∀u,(σ v).occ u->u∈L/\σ u=vTy u
 least:∀v∈L,∀u,σ v=vTy u->u<=v
theorem var_of_k {t:Ty} (hr:t.right=true) (hk:t.k=1):t=vTy t.n:=Ty.right_var hr hk
theorem Norm.var {L:List Int} {σ τ:Int->Ty} (h:Norm L σ) (k:Norm L τ) (h1:∀v∈L,(σ v).subF τ=τ v) (h2:∀v∈L,(τ v).subF σ=σ v) {u:Int} (hu:u∈L) (e:σ u=vTy u):τ u=vTy u:=by
 have h3:=h2 u hu;rw[e] at h3;have hk:(τ u).k=1:=Ty.subF_k (σ:=σ) (by rw[h3];rfl);have e2:=var_of_k (k.right u hu) hk;obtain ⟨hw,e3⟩:=k.fix u hu (τ u).n (by rw[e2];exact Ty.occ_vTy.2 rfl);rw[e2,Ty.subF_var rfl] at h3;have h5:=h.least _ hw u h3;have h6:=k.least u hu _ e2;(have:(τ u).n=u:=by omega);rw[e2,this]
theorem Norm.unique {L:List Int} {σ τ:Int->Ty} (h:Norm L σ) (k:Norm L τ) (h1:∀v∈L,(σ v).subF τ=τ v) (h2:∀v∈L,(τ v).subF σ=σ v) (v:Int):σ v=τ v:=by
 by_cases hv:v∈L
 ·rw[<- h1 v hv]
  refine (Ty.subF_fixed (σ v) (h.right v hv) fun u hu=>?_).symm;obtain ⟨h3,h4⟩:=h.fix v hv u hu;exact h.var k h1 h2 h3 h4
 rw[h.out v hv,k.out v hv]
theorem MG.unique {L:List Int} {l:List (Ty×Ty)} {σ τ:Int->Ty} (h:Norm L σ) (k:Norm L τ) (hs:MG l σ) (ks:MG l τ):σ=τ :=
 funext fun v=>h.unique k (fun v _=>hs.most τ ks.solves v) (fun v _=>ks.most σ hs.solves v) v
structure Raw (L:List Int) (l:List (Ty×Ty)) (o:Int->Ty):Prop where
 right:∀v∈L,(o v).right=true
 out:∀v,v∉L->o v=vTy v
 rng:∀v∈L,∀u,(o v).occ u->u∈L
 idem:∀v∈L,(o v).subF o=o v
 mg:MG l o
def firstV (L:List Int) (o:Int->Ty) (w:Int):Ty:=match L.find? fun v=>(o v).same (vTy w) with
 | some v=>vTy v
 | none=>vTy w
theorem Ty.subF_right {σ:Int->Ty}:∀t:Ty,t.right=true->(∀v,t.occ v->(σ v).right=true)->(t.subF σ).right=true:=by
 refine Ty.ind fun t ih hr h=>?_
 by_cases hk:t.k=1
 (·rw[Ty.subF_var hk];exact h _ ((Ty.occ_iff _ _).2 (.inl ⟨hk,rfl⟩)));rw[Ty.subF_more hk,Ty.right_eq,zw];have hr2:=hr;rw[Ty.right_eq,zw] at hr2;refine ⟨by simp only[Ty.k_mk,Ty.n_mk,Ty.ps_mk,zC];exact hr2.1,zP.2 fun q hq=>?_⟩;obtain ⟨p,hp,rfl⟩:=zq.1 hq;exact ih p hp (Ty.right_part hr hp) fun v hv=>h v ((Ty.occ_iff _ _).2 (.inr ⟨p,hp,hv⟩))
theorem Ty.subF_occ {σ:Int->Ty}:∀(t:Ty) (u:Int),(t.subF σ).occ u->∃v,t.occ v/\(σ v).occ u:=by
 refine Ty.ind fun t ih u h=>?_
 by_cases hk:t.k=1
 ·rw[Ty.subF_var hk] at h
  exact ⟨t.n,(Ty.occ_iff _ _).2 (.inl ⟨hk,rfl⟩),h⟩
 rw[Ty.subF_more hk] at h;(rcases (Ty.occ_iff _ _).1 h with ⟨h1,_⟩ | ⟨q,hq,h2⟩);(·exact absurd h1 hk);obtain ⟨p,hp,rfl⟩:=zq.1 hq;obtain ⟨v,h3,h4⟩:=ih p hp u h2;exact ⟨v,(Ty.occ_iff _ _).2 (.inr ⟨p,hp,h3⟩),h4⟩
def OccE (l:List (Ty×Ty)) (v:Int):Prop:=∃e∈l,e.1.occ v\/e.2.occ v
def zfu (l:List (Ty×Ty)):Prop:=∀e∈l,e.1.right=true/\e.2.right=true
theorem bfind_neg {o:List Bd} {v:Int} (h:v∉o.map Bd.v):zbI o v=-1:=by
 unfold zbI
 exact za3 fun j q hj hq=>by
  have h1:=zc hq
  cases hb:q.v==v with
  | false=>rfl
  | true=>exact absurd (zq.2 ⟨q,h1,by simpa using hb⟩) h
theorem zhj {o:List Bd} {v:Int} (h:v∉o.map Bd.v):zgi o v=vTy v:=by
 unfold zgi;rw[bfind_neg h,if_neg tz1]
theorem zkA {o:List Bd} (hn:(o.map Bd.v).Nodup) {i:Nat} {b:Bd} (hb:o[i]?=some b):zbI o b.v=(i:Int):=by
 unfold zbI;refine zaO (p:=b) hb tz4 fun j q hj hq=>?_
 cases hg:q.v==b.v with
 | false=>rfl
 | true =>
  have h1:=List.pairwise_iff_getElem.1 hn j i (by have:=(zb.1 hq).1;simpa using this) (by have:=(zb.1 hb).1;simpa using this) hj;simp only[List.getElem_map] at h1;rw[(zb.1 hq).2,(zb.1 hb).2] at h1;exact absurd (by simpa using hg) h1
theorem zja {o:List Bd} (hn:(o.map Bd.v).Nodup) {b:Bd} (hb:b∈o):zgi o b.v=b.t:=by
 obtain ⟨i,hi⟩:=List.mem_iff_getElem?.1 hb;unfold zgi;rw[zkA hn hi,if_pos tz1,zI,hi];rfl
theorem zhh (n:Int) (b:Ty) (v:Int):zgi [⟨n,b⟩] v=if v=n then b else vTy v:=by
 by_cases h:v=n
 ·subst h
  rw[if_pos rfl];exact zja (o:=[⟨v,b⟩]) tz4 (b:=⟨v,b⟩) tz4
 rw[if_neg h,zhj (by simpa using h)]
theorem zet {n:Int} {b:Ty} {θ:Int->Ty} (hb:b.subF θ=θ n) (t:Ty) (hr:t.right=true):(t.sub [⟨n,b⟩]).subF θ=t.subF θ:=by
 rw[Ty.sub_subF _ _ hr,Ty.subF_subF];refine Ty.subF_congr t fun v _=>?_;rw[zhh]
 by_cases h:v=n
 (·rw[if_pos h,hb,h]);rw[if_neg h,Ty.subF_var rfl];rfl
theorem Ty.var_right {v:Int}:∀{t:Ty},t.right=true->t.occ v->(vTy v).right=true:=by
 have key:∀t:Ty,t.right=true->t.occ v->(vTy v).right=true:=by
  refine Ty.ind fun t ih hr h=>?_;(rcases (Ty.occ_iff _ _).1 h with ⟨h1,rfl⟩ | ⟨p,hp,hv⟩);(·exact (congrArg Ty.right (Ty.right_var hr h1)).symm.trans hr);exact ih p hp (Ty.right_part hr hp) hv
 exact fun {t}=>key t
theorem zfS {n:Int} {b:Ty} (hb:b.right=true) (t:Ty) (hr:t.right=true):(t.sub [⟨n,b⟩]).right=true:=by
 rw[Ty.sub_subF _ _ hr];refine Ty.subF_right t hr fun v hv=>?_;rw[zhh];split;(·exact hb);(rename_i hne);have h:=Ty.var_right hr hv;exact h
theorem one_occ {n:Int} {b:Ty} (t:Ty) (hr:t.right=true) {u:Int} (h:(t.sub [⟨n,b⟩]).occ u):(t.occ u/\u≠n)\/(t.occ n/\b.occ u):=by
 rw[Ty.sub_subF _ _ hr] at h;obtain ⟨v,h1,h2⟩:=Ty.subF_occ t u h;rw[zhh] at h2
 by_cases he:v=n
 ·rw[if_pos he] at h2
  exact .inr ⟨he▸h1,h2⟩
 rw[if_neg he] at h2;have:=Ty.occ_vTy.1 h2;subst this;exact .inl ⟨h1,he⟩
structure RInv (l l':List (Ty×Ty)) (o:List Bd):Prop where
 rl:zfu l'
 ro:∀b∈o,b.t.right=true
 nd:(o.map Bd.v).Nodup
 vl:∀v,OccE l' v->OccE l v/\v∉o.map Bd.v
 vo:∀b∈o,OccE l b.v/\∀v,b.t.occ v->OccE l v/\v∉o.map Bd.v
 fwd:∀θ:Int->Ty,za0 θ l->za0 θ l'/\∀b∈o,b.t.subF θ=θ b.v
 bwd:∀θ:Int->Ty,za0 θ l'->(∀b∈o,b.t.subF θ=θ b.v)->za0 θ l
section
variable {l l':List (Ty×Ty)} {o:List Bd} {a b:Ty}
theorem RInv.drop (h:RInv l ((a,b)::l') o) (he:a=b):RInv l l' o :=
 ⟨fun e he=>h.rl e (by simp[he]),h.ro,h.nd,fun v ⟨e,he,hv⟩=>h.vl v ⟨e,by simp[he],hv⟩,h.vo,fun θ hθ=>⟨fun e he=>(h.fwd θ hθ).1 e (by simp[he]),(h.fwd θ hθ).2⟩,
  fun θ h1 h2=>h.bwd θ (fun e hm=>by
   (rcases zG.1 hm with rfl | hm);·simp only[he]
   exact h1 e hm) h2⟩
def subE (n:Int) (b:Ty) (l:List (Ty×Ty)):List (Ty×Ty):=l.map fun e=>(e.1.sub [⟨n,b⟩],e.2.sub [⟨n,b⟩])
def subB (n:Int) (b:Ty) (o:List Bd):List Bd:=o.map (fun x=>⟨x.v,x.t.sub [⟨n,b⟩]⟩)++[⟨n,b⟩]
theorem zkf (n:Int) (b:Ty) (o:List Bd):(subB n b o).map Bd.v=o.map Bd.v++[n]:=by simp[subB,Function.comp]
theorem RInv.bind {n:Int} {e:Ty×Ty} (h:RInv l (e::l') o) (he:e=(vTy n,b)\/e=(b,vTy n)) (hn:¬b.occ n):RInv l (subE n b l') (subB n b o):=by
 have hbr:b.right=true:=by
  have:=h.rl e tz4;(rcases he with rfl | rfl);(·exact this.2);exact this.1
 have hocc:∀v,(v=n\/b.occ v)->OccE (e::l') v:=fun v hv=>⟨e,by simp,by
  (rcases he with rfl | rfl);·exact hv.imp (fun h=>Ty.occ_vTy.2 h) id
  exact hv.symm.imp id (fun h=>Ty.occ_vTy.2 h)⟩
 have hnl:=h.vl n (hocc n (.inl rfl))
 have hbl:∀v,b.occ v->OccE l v/\v∉(subB n b o).map Bd.v:=fun v hv=>by
  have h1:=h.vl v (hocc v (.inr hv));refine ⟨h1.1,?_⟩;rw[zkf,zE];rintro (h2 | h2);(·exact h1.2 h2);simp at h2;subst h2;exact hn hv
 have heq:∀θ:Int->Ty,e.1.subF θ=e.2.subF θ↔b.subF θ=θ n:=fun θ=>by
  (rcases he with rfl | rfl);(·simp only;rw[Ty.subF_var (t:=vTy n) rfl];exact eq_comm);simp only;rw[Ty.subF_var (t:=vTy n) rfl];rfl
 refine ⟨fun x hx=>?_,fun x hx=>?_,?_,fun v hv=>?_,fun x hx=>?_,fun θ hθ=>?_,fun θ h1 h2=>?_⟩
 ·obtain ⟨y,hy,rfl⟩:=zq.1 hx
  have:=h.rl y (by simp[hy]);exact ⟨zfS hbr _ this.1,zfS hbr _ this.2⟩
 ·rcases zE.1 hx with hx | hx
  ·obtain ⟨y,hy,rfl⟩:=zq.1 hx
   exact zfS hbr _ (h.ro y hy)
  simp at hx;subst hx;exact hbr
 ·rw[zkf,List.nodup_append]
  exact ⟨h.nd,by simp,fun x hx y hy=>by simp at hy;subst hy;exact fun e=>hnl.2 (e▸hx)⟩
 ·obtain ⟨x,hx,hv⟩:=hv
  obtain ⟨y,hy,rfl⟩:=zq.1 hx;have hyr:=h.rl y (by simp[hy])
  have key:∀t:Ty,t.right=true->(∀u,t.occ u->OccE (e::l') u)->(t.sub [⟨n,b⟩]).occ v->OccE l v/\v∉(subB n b o).map Bd.v:=fun t ht hto hv=>by
   rcases one_occ t ht hv with ⟨h1,h2⟩ | ⟨_,h2⟩
   ·have h3:=h.vl v (hto v h1)
    refine ⟨h3.1,?_⟩;rw[zkf,zE];rintro (h4 | h4);(·exact h3.2 h4);simp at h4;exact h2 h4
   exact hbl v h2
  (rcases hv with hv | hv);(·exact key _ hyr.1 (fun u hu=>⟨y,by simp[hy],.inl hu⟩) hv);exact key _ hyr.2 (fun u hu=>⟨y,by simp[hy],.inr hu⟩) hv
 ·rcases zE.1 hx with hx | hx
  ·obtain ⟨y,hy,rfl⟩:=zq.1 hx
   have h3:=h.vo y hy;refine ⟨h3.1,fun v hv=>?_⟩;rcases one_occ _ (h.ro y hy) hv with ⟨h1,h2⟩ | ⟨_,h2⟩
   ·have h4:=h3.2 v h1
    refine ⟨h4.1,?_⟩;rw[zkf,zE];rintro (h5 | h5);(·exact h4.2 h5);simp at h5;exact h2 h5
   exact hbl v h2
  (simp at hx;subst hx);exact ⟨hnl.1,hbl⟩
 ·obtain ⟨h1,h2⟩:=h.fwd θ hθ
  have hb:=(heq θ).1 (h1 e tz4);refine ⟨fun x hx=>?_,fun x hx=>?_⟩
  ·obtain ⟨y,hy,rfl⟩:=zq.1 hx
   have hyr:=h.rl y (by simp[hy]);(simp only);rw[zet hb _ hyr.1,zet hb _ hyr.2];exact h1 y (by simp[hy])
  rcases zE.1 hx with hx | hx
  ·obtain ⟨y,hy,rfl⟩:=zq.1 hx
   (simp only);rw[zet hb _ (h.ro y hy)];exact h2 y hy
  simp at hx;subst hx;exact hb
 have hb:b.subF θ=θ n:=h2 ⟨n,b⟩ (by simp[subB]);refine h.bwd θ (fun x hx=>?_) fun x hx=>?_
 ·rcases zG.1 hx with rfl | hx
  (·exact (heq θ).2 hb);have hyr:=h.rl x (by simp[hx]);have:=h1 _ (zq.2 ⟨x,hx,rfl⟩);simp only at this
  rwa [zet hb _ hyr.1,zet hb _ hyr.2] at this
 have:=h2 ⟨x.v,x.t.sub [⟨n,b⟩]⟩ (zE.2 (.inl (zq.2 ⟨x,hx,rfl⟩)));simp only at this
 rwa [zet hb _ (h.ro x hx)] at this
end
structure Sch where
 vs:List Int
 t:Ty
def butL (l m:List Int):List Int:=l.filter fun v=>!decide (v∈m)
def Sch.all (s:Sch):List Int:=s.t.rvars []
def Sch.ok (s:Sch):Bool:=s.t.right&&decide (s.vs=s.all.filter fun v=>decide (v∈s.vs))
def Sch.free (s:Sch):List Int:=butL s.all s.vs
section
variable {s:Sch}
end
mutual
def Ty.mark (p:Int->Bool):Ty->Ty
 | .mk k n ps=>if k=1/\p n=true then .mk (-1) n [] else .mk k n (Ty.markL p ps)
def Ty.markL (p:Int->Bool):List Ty->List Ty
 | []=>[]
 | t::ts=>Ty.mark p t::Ty.markL p ts
end
mutual
/-- does a type come of a general one? what its variables are then -/
def Ty.cov:Ty->Ty->List (Int×Ty)->Bool×List (Int×Ty)
 | .mk k n ps,t,m=>if k=1 then ((match zaH m n with | none=>true | some x=>x.same t),zeH m n t) else if k=t.k/\n=t.n/\ps.length=t.ps.length then Ty.covL ps t.ps m else (false,m)
def Ty.covL:List Ty->List Ty->List (Int×Ty)->Bool×List (Int×Ty)
 | p::ps,q::qs,m=>if (Ty.cov p q m).1 then Ty.covL ps qs (Ty.cov p q m).2 else (false,(Ty.cov p q m).2)
 | [],_,m=>(true,m)
 | _::_,[],m=>(true,m)
end
end Go.Proofs.YtpfiliamceimmaaGreatDoor
