/- packed, part 37 of 54. Conditions: none. -/
import Derived.Test.YtpfiliamceimmaaGreatDoorPk36
set_option linter.unusedVariables false
set_option linter.unusedSimpArgs false
namespace Go.Proofs.YtpfiliamceimmaaGreatDoor
open Go
theorem zfW {α:Type} {g:α→Bool} {l:List α} {r:α} (h:g r=false):zb4 g (l++[r])=zb4 g l:=by
  unfold zb4;simp only[List.any_append,List.any_cons,List.any_nil,h,Bool.or_false];split
  · rename_i ha
    have:l.findIdx g<l.length:=List.findIdx_lt_length_of_exists (by simpa using ha);rw[List.findIdx_append,if_pos this]
  rfl
theorem zhW {α:Type} {g:α→Bool} {l:List α} {r:α} (h:g r=true) (hl:zb4 g l=-1):zb4 g (l++[r])=(l.length:Int):=by
  have ha:l.any g=false:=by
    cases ha:l.any g with
    | false=>rfl
    | true=>rw[zb4,if_pos ha] at hl;omega
  refine zb8 (p:=r) tz4 h fun j q hj hq=>?_;rw[zG hj] at hq
  cases hg:g q with
  | false=>rfl
  | true =>
    have:l.any g=true:=zex hq hg;rw[ha] at this;cases this
theorem zdY {α:Type} {g:α→Bool} {l:List α} (h:0≤zb4 g l):∃r,l[(zb4 g l).toNat]?=some r∧g r=true:=by
  unfold zb4 at h ⊢;split at h
  · rename_i ha
    rw[if_pos ha];have hlt:l.findIdx g<l.length:=List.findIdx_lt_length_of_exists (by simpa using ha);exact ⟨l[l.findIdx g],by simp[hlt],List.findIdx_getElem⟩
  omega
theorem zfq {k k' x:Int} (h:k≠k'):∀V:List (Int×Int),zaR (zgq V k x) k'=zaR V k'
  | []=>by simp[zgq,zaR,h]
  | (a,b)::V=>by
    simp only[zgq];split;(· rename_i e;subst e;simp[zaR,h]);simp only[zaR];split;(· rfl);exact zfq h V
structure Rel (G:GS) (m:List RNode):Prop where
  len:G.N.length=m.length
  node:∀(i:Nat) (x:GNode) (r:RNode),G.N[i]?=some x→m[i]?=some r→x.k=r.t.k∧x.n=r.t.n∧x.parts=r.parts∧x.size=r.t.cnt∧r.t.cnt≤400∧r.t.right=true∧r.parts.length=r.t.ps.length ∧
    ∀(j:Nat) (p:Int) (q:Ty),r.parts[j]?=some p→r.t.ps[j]?=some q→0≤p∧p<(i:Int)∧(m[p.toNat]?).map RNode.t=some q
  vars:∀n,(zaR G.V n=none∧zb4 (RNode.isVar n) m=-1)∨∃k,zaR G.V n=some k∧zb4 (RNode.isVar n) m=k∧0≤k
def Pre (m m':List RNode):Prop:=∃l,m'=m++l
theorem Pre.refl (m:List RNode):Pre m m:=⟨[],by simp⟩
theorem Pre.trans {a b c:List RNode} (h:Pre a b) (k:Pre b c):Pre a c:=by
  obtain ⟨l,rfl⟩:=h;obtain ⟨l',rfl⟩:=k;exact ⟨l++l',by simp⟩
theorem Pre.get {m m':List RNode} (h:Pre m m') {i:Nat} {q:Ty} (hq:(m[i]?).map RNode.t=some q):(m'[i]?).map RNode.t=some q:=by
  obtain ⟨l,rfl⟩:=h
  cases hm:m[i]? with
  | none=>rw[hm] at hq;cases hq
  | some r=>rw[zG (zf.1 hm).1];exact hq
theorem Pre.len {m m':List RNode} (h:Pre m m'):m.length≤m'.length:=by obtain ⟨l,rfl⟩:=h;simp
theorem zjz {N:List GNode}:∀(ps:List Int) (qs:List Ty) (a:Int),ps.length=qs.length→(∀(j:Nat) (p:Int) (q:Ty),ps[j]?=some p→qs[j]?=some q→(N[p.toNat]?).map GNode.size=some (q.cnt:Int)) →
    0≤a→a+Ty.cntL qs≤1099511627776→zbe N a ps=a+Ty.cntL qs
  | [],[],a,_,_,_,_=>by simp[zbe,Ty.cntL]
  | p::ps,q::qs,a,hl,h,ha,hb=>by
    simp only[Ty.cntL] at hb ⊢;have h0:=h 0 p q rfl rfl;simp only[zbe,h0,zx];rw[show min 1099511627776 (a+(q.cnt:Int))=a+q.cnt by omega,zjz ps qs _ (by simpa using hl) (fun j p q hp hq=>h (j+1) p q (by simpa using hp) (by simpa using hq)) tz1 tz1]
    omega
  | [],_::_,_,hl,_,_,_=>by simp at hl
  | _::_,[],_,hl,_,_,_=>by simp at hl
theorem Rel.snoc {G:GS} {m:List RNode} (h:Rel G m) (T:Ty) (l:List Int) (V':List (Int×Int)) (hc:T.cnt≤400) (hr:T.right=true) (hl:l.length=T.ps.length)
    (hp:∀(j:Nat) (p:Int) (q:Ty),l[j]?=some p→T.ps[j]?=some q→0≤p∧(m[p.toNat]?).map RNode.t=some q)
    (hV:∀n,(zaR V' n=none∧zb4 (RNode.isVar n) (m++[⟨T,l⟩])=-1)∨∃k,zaR V' n=some k∧zb4 (RNode.isVar n) (m++[⟨T,l⟩])=k∧0≤k) :
    Rel ⟨G.N++[⟨T.k,T.n,T.cnt,l⟩],V'⟩ (m++[⟨T,l⟩]):=by
  refine ⟨by simp[h.len],fun i x r hx hrr=>?_,hV⟩;have hlen:=h.len;rcases zQ i m.length with hi | hi
  · simp only at hx
    rw[zG tz1] at hx;rw[zG hi] at hrr;obtain ⟨h1,h2,h3,h4,h5,h6,h7,h8⟩:=h.node i x r hx hrr;refine ⟨h1,h2,h3,h4,h5,h6,h7,fun j p q hj hq=>?_⟩;obtain ⟨h9,h10,h11⟩:=h8 j p q hj hq;exact ⟨h9,h10,Pre.get ⟨_,rfl⟩ h11⟩
  (simp only at hx);rw[zP tz1] at hx;rw[zP hi] at hrr;(have hi0:i-m.length=0:=by have:=(zf.1 hrr).1;simp at this;omega);rw[hi0] at hrr;rw[show i-G.N.length=0 by omega] at hx;(simp at hx hrr);subst hx;subst hrr;refine ⟨rfl,rfl,rfl,rfl,hc,hr,hl,fun j p q hj hq=>?_⟩;obtain ⟨h9,h11⟩:=hp j p q hj hq;refine ⟨h9,?_,Pre.get ⟨_,rfl⟩ h11⟩
  cases hm:m[p.toNat]? with
  | none=>rw[hm] at h11;cases h11
  | some r=>have:=(zf.1 hm).1;omega
theorem okN_var {n:Int} {l:Nat} {k:Int} (h:okN k n l=true) (hk:k=1):l=0:=by
  simp only[okN,zl] at h;omega
theorem okN_zero {n:Int} {l:Nat} {k:Int} (h:okN k n l=true) (hk:¬k=1):n=0:=by
  simp only[okN,zl] at h;omega
theorem Ty.right_ok {t:Ty} (h:t.right=true):okN t.k t.n t.ps.length=true∧∀p∈t.ps,p.right=true:=by
  rw[Ty.right_eq,zI,z8] at h;exact h
theorem Ty.var_eq {t:Ty} (h:t.right=true) (hk:t.k=1):t=.mk 1 t.n []:=by
  obtain ⟨h1,_⟩:=t.right_ok h;have:=okN_var h1 hk;obtain ⟨k,n,ps⟩:=t;simp only[Ty.k,Ty.ps] at hk this;rw[hk,List.length_eq_zero_iff.1 this];rfl
structure RelStep (T:Ty) (G:GS) (m:List RNode):Prop where
  rel:Rel (T.gadd G).1 (T.radd m).1
  same:(T.gadd G).2=(T.radd m).2
  ge:0≤(T.radd m).2
  at':((T.radd m).1[(T.radd m).2.toNat]?).map RNode.t=some T
  pre:Pre m (T.radd m).1
theorem zg2:∀(ps:List Ty) (_:∀p∈ps,∀(G:GS) (m:List RNode),Rel G m→RelStep p G m) (G:GS) (m:List RNode) (l:List Int),Rel G m →
    Rel (Ty.gaddL ps G l).1 (Ty.raddL ps m l).1∧(Ty.gaddL ps G l).2=(Ty.raddL ps m l).2∧Pre m (Ty.raddL ps m l).1 ∧
    ∃l',(Ty.raddL ps m l).2=l++l'∧l'.length=ps.length∧∀(j:Nat) (p:Int) (q:Ty),l'[j]?=some p→ps[j]?=some q→0≤p∧((Ty.raddL ps m l).1[p.toNat]?).map RNode.t=some q
  | [],_,G,m,l,h=>⟨h,rfl,.refl m,[],by simp[Ty.raddL],rfl,by simp⟩
  | p::ps,hp,G,m,l,h=>by
    have s:=hp p tz4 G m h;obtain ⟨h1,h2,h3,l',h4,h5,h6⟩:=zg2 ps (fun q hq=>hp q (by simp[hq])) (p.gadd G).1 (p.radd m).1 (l++[(p.gadd G).2]) s.rel;simp only[Ty.gaddL,Ty.raddL];rw[← s.same];refine ⟨h1,h2,s.pre.trans h3,(p.gadd G).2::l',by rw[h4];simp,by simp[h5],fun j a q ha hq=>?_⟩
    cases j with
    | zero =>
      (simp at ha hq;subst ha;subst hq);have e:=s.same
      exact ⟨by rw[e];exact s.ge,by have h9:=h3.get s.at';rw[← e] at h9;exact h9⟩
    | succ j=>exact h6 j a q (by simpa using ha) (by simpa using hq)
theorem Ty.cnt_le_mem {t p:Ty} (h:p∈t.ps):p.cnt≤t.cnt:=by
  have:=Ty.cnt_mem h;rw[t.cnt_eq];omega
theorem zb0:∀(T:Ty),T.right=true→T.cnt≤400→∀(G:GS) (m:List RNode),Rel G m→RelStep T G m:=by
  refine Ty.ind fun T ih=>?_;intro hr hc G m h;obtain ⟨hok,hps⟩:=T.right_ok hr
  by_cases hk:T.k=1
  · have hT:=T.var_eq hr hk
    (have hps0:T.ps=[]:=by rw[hT];rfl);(have hcn:T.cnt=1:=by rw[T.cnt_eq,hps0];simp[Ty.cntL]);rcases h.vars T.n with ⟨hv,hi⟩ | ⟨k,hv,hi,h0⟩
    · have eg:T.gadd G=((⟨G.N++[⟨T.k,T.n,1,[]⟩],zgq G.V T.n G.N.length⟩:GS),(G.N.length:Int)):=by rw[Ty.gadd_var hk,hv]
      (have em:T.radd m=(m++[⟨T,[]⟩],(m.length:Int)):=by rw[Ty.radd_eq,if_neg tz1,hps0];rfl);refine ⟨?_,?_,?_,?_,?_⟩
      · rw[eg,em]
        have:=h.snoc T [] (zgq G.V T.n G.N.length) hc hr (by rw[hps0];rfl) tz4 (fun n=>?_);· rw[hcn] at this;exact this
        by_cases hn:T.n=n
        · subst hn
          refine .inr ⟨G.N.length,zav _ _ _,?_,by omega⟩;rw[zhW (by simp[RNode.isVar,hk]) hi,h.len]
        rw[zfq hn,zfW (by simp[RNode.isVar,hn])];exact h.vars n
      (· rw[eg,em];simp[h.len]);(· rw[em];simp);(· rw[em];simp);rw[em];exact ⟨_,rfl⟩
    (have eg:T.gadd G=(G,k):=by rw[Ty.gadd_var hk,hv]);(have em:T.radd m=(m,k):=by rw[Ty.radd_eq,hi,if_pos ⟨hk,h0⟩]);refine ⟨by rw[eg,em];exact h,by rw[eg,em],by rw[em];exact h0,?_,by rw[em];exact .refl m⟩;rw[em];obtain ⟨r,hr1,hr2⟩:=zdY (g:=RNode.isVar T.n) (l:=m) tz1;rw[hi] at hr1;simp only[hr1,Option.map_some];simp only[RNode.isVar,zI,beq_iff_eq] at hr2;have hlt:=(zf.1 hr1).1;obtain ⟨x,hx⟩:∃x,G.N[k.toNat]?=some x:=⟨_,ze (by rw[h.len];exact hlt)⟩;have hrr:=(h.node _ x r hx hr1).2.2.2.2.2.1;rw[Ty.var_eq hrr hr2.1,hr2.2,← hT]
  have hn:=okN_zero hok hk;obtain ⟨h1,h2,h3,l',h4,h5,h6⟩:=zg2 T.ps (fun p hp=>ih p hp (hps p hp) (Nat.le_trans (Ty.cnt_le_mem hp) hc)) G m [] h;simp only[zj] at h4;have em:T.radd m=((Ty.raddL T.ps m []).1++[⟨T,l'⟩],((Ty.raddL T.ps m []).1.length:Int)):=by rw[Ty.radd_eq,if_neg tz1,h4]
  have hsz:zbe (Ty.gaddL T.ps G []).1.N 1 l'=T.cnt:=by
    have:=zjz (N:=(Ty.gaddL T.ps G []).1.N) l' T.ps 1 h5 (fun j p q hj hq=>by
      obtain ⟨h7,h8⟩:=h6 j p q hj hq
      cases hm:(Ty.raddL T.ps m []).1[p.toNat]? with
      | none=>rw[hm] at h8;cases h8
      | some r =>
        rw[hm] at h8;cases h8;have hlt:=(zf.1 hm).1;obtain ⟨x,hx⟩:∃x,(Ty.gaddL T.ps G []).1.N[p.toNat]?=some x:=⟨_,ze (by rw[h1.len];exact hlt)⟩;rw[hx]
        simp only[Option.map_some,(h1.node _ x r hx hm).2.2.2.1]) tz1 (by have:=T.cnt_eq;omega)
    rw[this,T.cnt_eq];omega
  (have eg:T.gadd G=((⟨(Ty.gaddL T.ps G []).1.N++[⟨T.k,T.n,T.cnt,l'⟩],(Ty.gaddL T.ps G []).1.V⟩:GS),((Ty.gaddL T.ps G []).1.N.length:Int)):=by rw[Ty.gadd_more hk,h2,h4,hsz,hn]);refine ⟨?_,?_,?_,?_,?_⟩
  · rw[eg,em]
    refine h1.snoc T l' _ hc hr h5 h6 fun n=>?_;rw[zfW (by simp[RNode.isVar,hk])];exact h1.vars n
  (· rw[eg,em];simp[h1.len]);(· rw[em];simp);(· rw[em];simp);rw[em];exact h3.trans ⟨_,rfl⟩
theorem Rel.wf {G:GS} {m:List RNode} (h:Rel G m):GWf G.N:=by
  intro j x hx;have hlt:=(zf.1 hx).1;obtain ⟨r,hr⟩:∃r,m[j]?=some r:=⟨_,ze (by rw[← h.len];exact hlt)⟩;obtain ⟨h1,h2,h3,h4,h5,h6,h7,h8⟩:=h.node j x r hx hr;rw[h3];refine ⟨fun p hp=>?_,?_⟩
  · obtain ⟨k,hk,e⟩:=z7.1 hp
    have h9:=h8 k p (r.t.ps[k]'tz1) (by rw[ze hk,e]) (ze tz1);exact ⟨h9.1,h9.2.1⟩
  have:=Ty.cntL_len r.t.ps;have:=r.t.cnt_eq;omega
theorem Rel.empty:Rel ⟨[],[]⟩ []:=⟨rfl,by simp,fun n=>.inl ⟨rfl,rfl⟩⟩
theorem GInv.empty:GInv ⟨[],[]⟩:=⟨by simp,by simp⟩
structure BS where
  G:GS
  m:List RNode
  l:List Int
def bStep (b:BS) (t:Ty):BS:=if t.right=true then ⟨(t.gadd b.G).1,(t.radd b.m).1,b.l++[(t.radd b.m).2]⟩ else b
structure BInv (b:BS) (ts:List Ty):Prop where
  inv:GInv b.G
  rel:Rel b.G b.m
  len:b.G.N.length≤Ty.cntL ts
  llen:b.l.length=(ts.filter Ty.right).length
  at':∀(j:Nat) (p:Int) (q:Ty),b.l[j]?=some p→(ts.filter Ty.right)[j]?=some q→0≤p∧(b.m[p.toNat]?).map RNode.t=some q
end Go.Proofs.YtpfiliamceimmaaGreatDoor
