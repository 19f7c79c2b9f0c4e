/- packed, part 38 of 54. Conditions: none. -/
import Derived.Test.YtpfiliamceimmaaGreatDoorPk37
set_option linter.unusedVariables false
set_option linter.unusedSimpArgs false
namespace Go.Proofs.YtpfiliamceimmaaGreatDoor
open Go Go.RowKit
def shR (m:List RNode):Sh:=fun i=>(m[i]?).map fun r=>(r.t.k,r.parts)
theorem Rel.sh {G:GS} {m:List RNode} (h:Rel G m):shG G=shR m:=by
  (funext i);unfold shG shR;have hl:=h.len;rcases zQ i m.length with hi | hi
  · have h1:m[i]?=some m[i]:=ze hi
    have h2:G.N[i]?=some (G.N[i]'tz1):=ze tz1;obtain ⟨h3,_,h4,_⟩:=h.node i _ _ h2 h1;rw[h1,h2];simp only[Option.map_some,h3,h4]
  rw[List.getElem?_eq_none hi,List.getElem?_eq_none tz1];rfl
theorem Pre.sh {m m':List RNode} (h:Pre m m'):ShLe (shR m) (shR m'):=by
  obtain ⟨l,rfl⟩:=h;intro i x hx;unfold shR at hx ⊢
  cases hm:m[i]? with
  | none=>rw[hm] at hx;cases hx
  | some r=>rw[zG (zf.1 hm).1];rw[hm] at hx;rw[hm];exact hx
theorem Rel.small {G:GS} {m:List RNode} (h:Rel G m):(∀x∈G.N,x.parts.length≤8)∧∀x∈G.N,∀p∈x.parts,0≤p∧p<(G.N.length:Int):=by
  have key:∀x∈G.N,∃(i:Nat) (r:RNode),m[i]?=some r∧G.N[i]?=some x:=fun x hx=>by
    obtain ⟨i,hi⟩:=List.mem_iff_getElem?.1 hx;exact ⟨i,_,ze (by have:=(zf.1 hi).1;rw[← h.len];exact this),hi⟩
  refine ⟨fun x hx=>?_,fun x hx p hp=>?_⟩
  · obtain ⟨i,r,hr,hi⟩:=key x hx
    obtain ⟨_,_,h3,_,_,h6,h7,_⟩:=h.node i x r hi hr;have:=(r.t.right_ok h6).1;rw[h3,h7];simp only[okN,zl] at this;omega
  obtain ⟨i,r,hr,hi⟩:=key x hx;have:=(h.wf i x hi).1 p hp;have h9:=(zf.1 hi).1;omega
structure Good (E:List (Nat×Nat)) (m:List RNode) (S:CS):Prop where
  w:WInv E S []
  rel:Rel S.G m
theorem Good.lay {E:List (Nat×Nat)} {m:List RNode} {S S1:CS} {T:Ty} {n:Int} (h:Good E m S) (hr:T.right=true) (hc:T.cnt≤400) (hL:Lay S T (S1,n)) :
    Good E (T.radd m).1 S1∧n=(T.radd m).2∧0≤n∧n<(S1.G.N.length:Int)∧S1.G=(T.gadd S.G).1∧S1.clash=S.clash:=by
  obtain ⟨h1,h2,h3,h4⟩:=hL;dsimp only at h1 h2 h3 h4;have st:=zb0 T hr hc S.G m h.rel;obtain ⟨g1,g2,g3⟩:=T.gadd_inv S.G h.w.c.g;(have hrel:Rel S1.G (T.radd m).1:=by rw[h2];exact st.rel);(have hsh:ShLe (shG S.G) (shG S1.G):=by rw[h.rel.sh,hrel.sh];exact st.pre.sh);(have hlen:S.G.N.length≤S1.G.N.length:=by rw[h2];exact g1.ge);have hwl:=h.w.c.wl;have hfl:=h.w.c.fl;obtain ⟨hs1,hs2⟩:=hrel.small
  have hnew:∀i,S.W.length≤i→i<S1.G.N.length→∃x,S1.G.N[i]?=some x∧S1.W[i]?=some (wk x i):=fun i hi1 hi2=>by
    have hx:S1.G.N[i]?=some (S1.G.N[i]'hi2):=ze hi2;exact ⟨_,hx,h4.new i _ hi1 hi2 hx⟩
  have cI:CInv S1:=by
    refine ⟨by rw[h2];exact g1.inv,h4.inv,by rw[h4.fl,h4.wl],h4.wl,fun w hw=>?_,hs1,hs2⟩;obtain ⟨i,hi⟩:=List.mem_iff_getElem?.1 hw;have hil:=(zf.1 hi).1;rw[h4.wl] at hil;rcases zQ i S.W.length with hlt | hge
    · rw[h4.old i hlt] at hi
      have:=h.w.c.wr w (zm hi);omega
    obtain ⟨x,hx,hx2⟩:=hnew i hge hil;rw[hx2] at hi;cases hi;unfold wk;split;(· exact .inl rfl);exact .inr ⟨by omega,by omega⟩
  have hto:∀i k,One S.F.up i k→One S1.F.up i k:=fun i k hik=>by
    (rcases hik with rfl | ⟨t,h5,h6⟩);(· exact .inl rfl);exact .inr ⟨t,(h4.rt i t).2 (.inl h5),(h4.rt k t).2 (.inl h6)⟩
  have hQ:∀i k,Qv S.F.up [] i k→Qv S1.F.up [] i k:=fun i k hik=>Qv.one (hto i k hik.nil)
  have hback:∀i x,i<S.W.length→shG S1.G i=some x→shG S.G i=some x:=fun i x hi hx=>by
    have h5:S.G.N[i]?=some (S.G.N[i]'tz1):=ze tz1;have h6:=zdS h5;have h7:=hsh _ _ h6;rw[hx] at h7;rw[h6,h7]
  have holt:∀i r,Rt S.F.up i r→i<S.W.length∧r<S.W.length:=fun i r k=>by
    have h5:=k.lt;have h6:=k.lt';omega
  (have hnk:0≤n∧n<(S1.G.N.length:Int):=by rw[h1,h2];exact ⟨g2,g3⟩);refine ⟨⟨⟨cI,by simp,fun i k hik=>?_,by simp,fun e he=>hQ _ _ (h.w.ex e he),?_,?_⟩,hrel⟩,by rw[h1,st.same],hnk.1,hnk.2,h2,h3⟩
  · rcases hik with rfl | ⟨t,h5,h6⟩
    (· exact .refl _);rcases (h4.rt i t).1 h5 with h7 | ⟨h7,h8,rfl⟩
    · rcases (h4.rt k t).1 h6 with h9 | ⟨h9,_,rfl⟩
      (· exact (h.w.sub i k (.inr ⟨t,h7,h9⟩)).mono hsh (fun _ h=>h));have:=(holt _ _ h7).2;omega
    (rcases (h4.rt k t).1 h6 with h9 | ⟨h9,_,rfl⟩);(· have:=(holt _ _ h9).2;omega);exact .refl _
  · intro r i x c ps h5 h6 h7 h8
    rcases (h4.rt i r).1 h7 with h9 | ⟨h9,h10,rfl⟩
    · obtain ⟨h11,h12⟩:=holt _ _ h9
      rw[h4.old r h12] at h5;exact h.w.neg r i x c ps h5 h6 h9 (hback i _ h11 h8)
    obtain ⟨y,hy,hy2⟩:=hnew r h9 h10;rw[hy2] at h5;cases h5;rw[zdS hy] at h8;cases h8;unfold wk at h6;(split at h6);(· assumption);omega
  intro r x h5 h6 h7;rcases (h4.rt r r).1 h5 with h9 | ⟨h9,h10,_⟩
  · obtain ⟨h11,h12⟩:=holt _ _ h9
    rw[h4.old r h12] at h6;obtain ⟨h13,c,ps,h14,h15,h16⟩:=h.w.pos r x h9 h6 h7;refine ⟨(h4.rt _ _).2 (.inl h13),c,ps,hsh _ _ h14,h15,fun i d qs h17 h18 h19=>?_⟩;rcases (h4.rt i r).1 h17 with h20 | ⟨h20,_,rfl⟩
    · obtain ⟨h21,h22,h23⟩:=h16 i d qs h20 (hback i _ (holt _ _ h20).1 h18) h19
      exact ⟨h21,h22,fun j p q h24 h25=>hQ _ _ (h23 j p q h24 h25)⟩
    omega
  obtain ⟨y,hy,hy2⟩:=hnew r h9 h10;rw[hy2] at h6;cases h6;(have hk:¬y.k=1:=fun e=>by unfold wk at h7;rw[if_pos e] at h7;omega);(have hw:wk y r=(r:Int):=by unfold wk;rw[if_neg hk]);rw[hw,zN];refine ⟨h5,y.k,y.parts,zdS hy,hk,fun i d qs h17 h18 h19=>?_⟩;(rcases (h4.rt i r).1 h17 with h20 | ⟨_,_,rfl⟩);(· have:=(holt _ _ h20).2;omega);rw[zdS hy] at h18;cases h18;refine ⟨rfl,rfl,fun j p q h24 h25=>?_⟩;rw[h24] at h25;cases h25;exact .refl _
theorem Qv.weaken {up:List Nat} {w v:List (Int×Int)} (h:∀p∈w,p∈v) {i k:Nat} (hc:Qv up w i k):Qv up v i k:=hc.lift fun _ _ hb=>by
  (rcases hb with hb | ⟨p,hp,h1⟩);(· exact Qv.one hb);exact .base (.inr ⟨p,h p hp,h1⟩)
theorem WInv.begin {E:List (Nat×Nat)} {S:CS} {a b:Int} (h:WInv E S []) (ha:0≤a∧a<(S.G.N.length:Int)) (hb:0≤b∧b<(S.G.N.length:Int)):WInv (E++[(a.toNat,b.toNat)]) S [(a,b)]:=by
  (have hE:∀e∈E,e∈E++[(a.toNat,b.toNat)]:=fun e he=>by simp[he]);refine ⟨h.c,by simpa using ⟨ha,hb⟩,fun i k hik=>(h.sub i k hik).mono (fun _ _ h=>h) hE,?_,?_,h.neg,?_⟩
  · intro p hp
    (simp at hp;subst hp);exact .base tz4
  · intro e he
    (rcases zM.1 he with he | he);(· exact (h.ex e he).weaken tz4);(simp at he;subst he);exact .base (.inr ⟨(a,b),by simp,rfl,rfl⟩)
  intro r x h1 h2 h3;obtain ⟨h4,c,ps,h5,h6,h7⟩:=h.pos r x h1 h2 h3;refine ⟨h4,c,ps,h5,h6,fun i d qs h8 h9 h10=>?_⟩;obtain ⟨h11,h12,h13⟩:=h7 i d qs h8 h9 h10;exact ⟨h11,h12,fun j p q h14 h15=>(h13 j p q h14 h15).weaken tz4⟩
def zdR (b:List RNode×List (Int×Int)) (e:Ty×Ty):List RNode×List (Int×Int) :=
  ((e.2.radd (e.1.radd b.1).1).1,b.2++[((e.1.radd b.1).2,(e.2.radd (e.1.radd b.1).1).2)])
def eqF (l:List (Ty×Ty)):List RNode×List (Int×Int):=l.foldl zdR ([],[])
def zcA (l:List (Int×Int)):List (Nat×Nat):=l.map fun p=>(p.1.toNat,p.2.toNat)
theorem zbm (l:List (Ty×Ty)) (e:Ty×Ty):eqF (l++[e])=zdR (eqF l) e:=by rw[eqF,List.foldl_append];rfl
def Clashes (l:List (Ty×Ty)):Prop:=Clash (shR (eqF l).1) (zcA (eqF l).2)
def Holds (l:List (Ty×Ty)) (S:CS):Prop:=S.clash=false∧Good (zcA (eqF l).2) (eqF l).1 S
theorem Holds.noClash {l:List (Ty×Ty)} {S:CS} (h:Holds l S):¬Clashes l:=by
  have:=h.2.w.noClash
  rwa [h.2.rel.sh] at this
end Go.Proofs.YtpfiliamceimmaaGreatDoor
