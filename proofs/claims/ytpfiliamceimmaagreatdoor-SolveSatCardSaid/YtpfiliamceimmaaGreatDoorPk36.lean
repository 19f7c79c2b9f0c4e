/- packed, part 36 of 54. Conditions: none. -/
import Derived.Test.YtpfiliamceimmaaGreatDoorPk35
set_option linter.unusedVariables false
set_option linter.unusedSimpArgs false
namespace Go.Proofs.YtpfiliamceimmaaGreatDoor
open Go Go.RowKit
structure Link (up up':List Nat) (r ra rb:Nat):Prop where
  rt:∀k q,Rt up' k q↔(q=r∧(Rt up k ra∨Rt up k rb))∨(q≠ra∧q≠rb∧Rt up k q)
  r:r=ra∨r=rb
theorem Link.toR {up up':List Nat} {r ra rb k:Nat} (h:Link up up' r ra rb) (hk:Rt up k ra∨Rt up k rb):Rt up' k r:=(h.rt k r).2 (.inl ⟨rfl,hk⟩)
theorem Link.to {up up':List Nat} {r ra rb k q:Nat} (h:Link up up' r ra rb) (hk:Rt up k q):∃q',Rt up' k q'∧(q'=q∨(q'=r∧(q=ra∨q=rb))):=by
  by_cases e1:q=ra
  · exact ⟨r,h.toR (.inl (e1▸hk)),.inr ⟨rfl,.inl e1⟩⟩
  by_cases e2:q=rb
  (· exact ⟨r,h.toR (.inr (e2▸hk)),.inr ⟨rfl,.inr e2⟩⟩);exact ⟨q,(h.rt k q).2 (.inr ⟨e1,e2,hk⟩),.inl rfl⟩
theorem Link.one {up up':List Nat} {r ra rb i k:Nat} (h:Link up up' r ra rb) (ho:One up i k):One up' i k:=by
  (rcases ho with rfl | ⟨q,h1,h2⟩);(· exact .inl rfl);obtain ⟨q',h3,h4⟩:=h.to h1;obtain ⟨q2,h5,h6⟩:=h.to h2;refine .inr ⟨q',h3,?_⟩
  have:q2=q':=by
    (rcases h4 with h4 | ⟨h4,h7⟩ <;> rcases h6 with h6 | ⟨h6,h8⟩);· rw[h4,h6]
    · subst h4
      have:=(h.rt i q').1 h3;(rcases this with ⟨e,_⟩ | ⟨e1,e2,_⟩);(· rw[h6,e]);(rcases h8 with e | e);(· exact absurd e e1);exact absurd e e2
    · subst h6
      have:=(h.rt k q2).1 h5;(rcases this with ⟨e,_⟩ | ⟨e1,e2,_⟩);(· rw[h4,e]);(rcases h7 with e | e);(· exact absurd e e1);exact absurd e e2
    rw[h4,h6]
  exact this▸h5
theorem WInv.link {E:List (Nat×Nat)} {S:CS} {w more:List (Int×Int)} {p q:Int} (h:WInv E S (w++[(p,q)])) {S':CS} {r ra rb:Nat} (hL:Link S.F.up S'.F.up r ra rb) (ha:Rt S.F.up p.toNat ra) (hb:Rt S.F.up q.toNat rb) (hg:S'.G=S.G) :
    (∀i k,One S'.F.up i k→Cl (shG S.G) E i k)∧∀i k,Qv S.F.up (w++[(p,q)]) i k→Qv S'.F.up (w++more) i k:=by
  have hab:Cl (shG S.G) E ra rb:=.trans (.symm (h.sub _ _ (.inr ⟨ra,ha,.base ha.root⟩))) (.trans (h.subw (p,q) tz4) (h.sub _ _ (.inr ⟨rb,hb,.base hb.root⟩)))
  have key:∀i,Rt S'.F.up i r→Cl (shG S.G) E i ra:=fun i hi=>by
    (rcases (hL.rt i r).1 hi with ⟨_,h1 | h1⟩ | ⟨h1,h2,_⟩);(· exact h.sub _ _ (.inr ⟨ra,h1,.base ha.root⟩));(· exact .trans (h.sub _ _ (.inr ⟨rb,h1,.base hb.root⟩)) (.symm hab));(rcases hL.r with e | e);(· exact absurd e h1);exact absurd e h2
  refine ⟨fun i k hik=>?_,fun i k hik=>hik.lift fun i k hik=>?_⟩
  · rcases hik with rfl | ⟨t,h1,h2⟩
    · exact .refl _
    by_cases e:t=r
    (· subst e;exact .trans (key i h1) (.symm (key k h2)));(rcases (hL.rt i t).1 h1 with ⟨e1,_⟩ | ⟨_,_,h3⟩);(· exact absurd e1 e);(rcases (hL.rt k t).1 h2 with ⟨e1,_⟩ | ⟨_,_,h4⟩);(· exact absurd e1 e);exact h.sub _ _ (.inr ⟨t,h3,h4⟩)
  (rcases hik with hik | ⟨z,hz,e1,e2⟩);(· exact Qv.one (hL.one hik));(rcases zM.1 hz with hz | hz);(· exact .base (.inr ⟨z,by simp[hz],e1,e2⟩));(simp at hz;subst hz);subst e1;subst e2;exact Qv.one (.inr ⟨r,hL.toR (.inl ha),hL.toR (.inr hb)⟩)
theorem WInv.step {E:List (Nat×Nat)} {S:CS} {w more:List (Int×Int)} {p q:Int} (h:WInv E S (w++[(p,q)])) {S':CS} (hj:CJoin S p.toNat q.toNat (S',(more,true))):WInv E S' (w++more):=by
  have hc:=hj.shape h.c;obtain ⟨hg,hcl,r,two,hF,hx⟩:=hj;dsimp only at hg hcl hF hx hc;obtain ⟨_,_,ra,rb,ha,hb,hF⟩:=hF;dsimp only at hF;rcases hx with ⟨rfl,hW,hm⟩ | ⟨rfl,ra',rb',x,y,ha',hb',hx,hy,h2⟩
  · rcases hF with ⟨e,_,hrt⟩ | ⟨_,e,_⟩
    rotate_left
    (· cases e);(obtain rfl:more=[]:=by simpa using hm);have hup:∀i k,One S'.F.up i k↔One S.F.up i k:=fun i k=>by unfold One;simp only[hrt]
    have hQ:∀i k,Qv S.F.up (w++[(p,q)]) i k→Qv S'.F.up (w++[]) i k:=fun i k hik=>hik.lift fun i k hik=>by
      (rcases hik with hik | ⟨z,hz,e1,e2⟩);(· exact Qv.one ((hup _ _).2 hik));(rcases zM.1 hz with hz | hz);(· exact .base (.inr ⟨z,by simp[hz],e1,e2⟩));(simp at hz;subst hz;subst e1;subst e2);exact Qv.one ((hup _ _).2 (.inr ⟨ra,ha,e▸hb⟩))
    refine ⟨hc,fun z hz=>?_,fun i k hik=>?_,fun z hz=>?_,fun e he=>hQ _ _ (h.ex e he),?_,?_⟩;(· rw[hg];exact h.wr z (by simp at hz;simp[hz]));(· rw[hg];exact h.sub i k ((hup i k).1 hik));· rw[hg];exact h.subw z (by simp at hz;simp[hz])
    · intro t i x c ps h1 h2 h3 h4
      rw[hW] at h1;rw[hg] at h4;exact h.neg t i x c ps h1 h2 ((hrt _ _).1 h3) h4
    intro t x h1 h2 h3;rw[hW] at h2;obtain ⟨h4,c,ps,h5,h6,h7⟩:=h.pos t x ((hrt _ _).1 h1) h2 h3;refine ⟨(hrt _ _).2 h4,c,ps,by rw[hg];exact h5,h6,fun i d qs h8 h9 h10=>?_⟩;rw[hg] at h9;obtain ⟨h11,h12,h13⟩:=h7 i d qs ((hrt _ _).1 h8) h9 h10;exact ⟨h11,h12,fun j p q h14 h15=>hQ _ _ (h13 j p q h14 h15)⟩
  (cases ha.det ha');(cases hb.det hb');(rcases hF with ⟨_,e,_⟩ | ⟨hne,_,hr,hrt⟩);(· cases e);have hL:Link S.F.up S'.F.up r ra rb:=⟨hrt,hr⟩;obtain ⟨hsub,hQ⟩:=h.link (more:=more) hL ha hb hg;have haa:Rt S.F.up ra ra:=.base ha.root;have hbb:Rt S.F.up rb rb:=.base hb.root
  have hrl:r<S.W.length:=by
    (rcases hr with rfl | rfl);(· exact (zf.1 hx).1);exact (zf.1 hy).1
  have hold:∀t i,t≠r→Rt S'.F.up i t→t≠ra∧t≠rb∧Rt S.F.up i t:=fun t i ht hi=>by
    (rcases (hrt i t).1 hi with ⟨e1,_⟩ | h3);(· exact absurd e1 ht);exact h3
  have hrr:∀i,Rt S'.F.up i r→Rt S.F.up i ra∨Rt S.F.up i rb:=fun i hi=>by
    (rcases (hrt i r).1 hi with ⟨_,h3⟩ | ⟨h3,h4,_⟩);(· exact h3);(rcases hr with e | e);(· exact absurd e h3);exact absurd e h4
  -- what holds behind the change,whatever stands at the new root
  have fin:∀v:Int,S'.W=S.W.set r v→(∀z∈more,((0≤z.1∧z.1<(S.G.N.length:Int))∧0≤z.2∧z.2<(S.G.N.length:Int))∧Cl (shG S.G) E z.1.toNat z.2.toNat) →
      (v<0→x<0∧y<0)→(0≤v→Rt S'.F.up v.toNat r∧∃c ps,shG S.G v.toNat=some (c,ps)∧c≠1∧∀(i:Nat) (d:Int) (qs:List Int),Rt S'.F.up i r→shG S.G i=some (d,qs)→d≠1→d=c∧qs.length=ps.length∧∀(j:Nat) (p q:Int),ps[j]?=some p→qs[j]?=some q→Qv S'.F.up (w++more) q.toNat p.toNat) →
      WInv E S' (w++more):=by
    intro v hW hmore hneg hpos;refine ⟨hc,fun z hz=>?_,fun i k hik=>by rw[hg];exact hsub i k hik,fun z hz=>?_,fun e he=>hQ _ _ (h.ex e he),?_,?_⟩
    · rw[hg]
      (rcases zM.1 hz with hz | hz);(· exact h.wr z (by simp[hz]));exact (hmore z hz).1
    · rw[hg]
      (rcases zM.1 hz with hz | hz);(· exact h.subw z (by simp[hz]));exact (hmore z hz).2
    · intro t i u c ps h1 h2 h3 h4
      rw[hW] at h1;rw[hg] at h4
      by_cases e:t=r
      · subst e
        rw[List.getElem?_set_self hrl] at h1;(cases h1);obtain ⟨hx0,hy0⟩:=hneg h2;(rcases hrr i h3 with h5 | h5);(· exact h.neg ra i x c ps hx hx0 h5 h4);exact h.neg rb i y c ps hy hy0 h5 h4
      rw[List.getElem?_set_ne (fun e2=>e e2.symm)] at h1;exact h.neg t i u c ps h1 h2 (hold t i e h3).2.2 h4
    intro t u h1 h2 h3;rw[hW] at h2;rw[hg]
    by_cases e:t=r
    · subst e
      rw[List.getElem?_set_self hrl] at h2;(cases h2);exact hpos h3
    rw[List.getElem?_set_ne (fun e2=>e e2.symm)] at h2;obtain ⟨e1,e2,h1o⟩:=hold t t e h1;obtain ⟨h4,c,ps,h5,h6,h7⟩:=h.pos t u h1o h2 h3;refine ⟨(hrt _ _).2 (.inr ⟨e1,e2,h4⟩),c,ps,h5,h6,fun i d qs h8 h9 h10=>?_⟩;obtain ⟨h11,h12,h13⟩:=h7 i d qs (hold t i e h8).2.2 h9 h10;exact ⟨h11,h12,fun j p q h14 h15=>hQ _ _ (h13 j p q h14 h15)⟩
  rcases h2 with ⟨hor,hW,hm⟩ | ⟨hx0,hy0,hW,gx,gy,hgx,hgy,hcl2⟩
  · obtain rfl:more=[]:=by simpa using hm
    refine fin _ hW tz4 (fun h9=>by omega) fun hv=>?_;rcases Int.lt_or_le x 0 with hx0 | hx0
    · have hmax:max x y=y:=by omega
      rw[hmax] at hv ⊢;obtain ⟨h4,c,ps,h5,h6,h7⟩:=h.pos rb y hbb hy hv;refine ⟨hL.toR (.inr h4),c,ps,h5,h6,fun i d qs h8 h9 h10=>?_⟩;(rcases hrr i h8 with h11 | h11);(· exact absurd (h.neg ra i x d qs hx hx0 h11 h9) h10);obtain ⟨h12,h13,h14⟩:=h7 i d qs h11 h9 h10;exact ⟨h12,h13,fun j p q h15 h16=>hQ _ _ (h14 j p q h15 h16)⟩
    (have hy0:y<0:=by omega);(have hmax:max x y=x:=by omega);rw[hmax] at hv ⊢;obtain ⟨h4,c,ps,h5,h6,h7⟩:=h.pos ra x haa hx hv;refine ⟨hL.toR (.inl h4),c,ps,h5,h6,fun i d qs h8 h9 h10=>?_⟩;rcases hrr i h8 with h11 | h11
    · obtain ⟨h12,h13,h14⟩:=h7 i d qs h11 h9 h10
      exact ⟨h12,h13,fun j p q h15 h16=>hQ _ _ (h14 j p q h15 h16)⟩
    exact absurd (h.neg rb i y d qs hy hy0 h11 h9) h10
  (rcases hcl2 with ⟨_,e⟩ | ⟨hcl2,e⟩);(· cases e);(obtain rfl:more=gx.parts.zip gy.parts:=by simpa using e);obtain ⟨hk,hl⟩:=clash_not hcl2;obtain ⟨h4,c,ps,h5,h6,h7⟩:=h.pos ra x haa hx hx0;obtain ⟨h4',c',ps',h5',h6',h7'⟩:=h.pos rb y hbb hy hy0;have ex:=zdS hgx;have ey:=zdS hgy;rw[h5] at ex;cases ex;rw[h5'] at ey;cases ey
  have hxy:Cl (shG S.G) E x.toNat y.toNat:=by
    have h8:=h.sub _ _ (.inr ⟨ra,h4,ha⟩);have h9:=h.sub _ _ (.inr ⟨rb,hb,h4'⟩);exact .trans h8 (.trans (h.subw (p,q) tz4) h9)
  refine fin _ hW (fun z hz=>?_) (fun h9=>by omega) fun _=>?_
  · obtain ⟨j,hj⟩:=List.mem_iff_getElem?.1 hz
    obtain ⟨z1,z2⟩:=z;rw[List.getElem?_zip_eq_some] at hj;refine ⟨⟨h.c.pr gx (zm hgx) _ (zm hj.1),h.c.pr gy (zm hgy) _ (zm hj.2)⟩,?_⟩;refine .part hxy h5 ?_ h6 hl hj.1 hj.2;rw[h5',hk]
  refine ⟨hL.toR (.inl h4),_,_,h5,h6,fun i d qs h8 h9 h10=>?_⟩;rcases hrr i h8 with h11 | h11
  · obtain ⟨h12,h13,h14⟩:=h7 i d qs h11 h9 h10
    exact ⟨h12,h13,fun j p q h15 h16=>hQ _ _ (h14 j p q h15 h16)⟩
  obtain ⟨h12,h13,h14⟩:=h7' i d qs h11 h9 h10;refine ⟨by rw[h12,hk],by rw[h13,hl],fun j p q h15 h16=>?_⟩;have hj:=(zf.1 h15).1;have h17:gy.parts[j]?=some (gy.parts[j]'tz1):=ze tz1;refine .trans (hQ _ _ (h14 j _ q h17 h16)) (.symm (.base (.inr ⟨(p,_),?_,rfl,rfl⟩)));exact zM.2 (.inr (zip_at h15 h17))
theorem WInv.bad {E:List (Nat×Nat)} {S:CS} {w more:List (Int×Int)} {p q:Int} (h:WInv E S (w++[(p,q)])) {S':CS} (hj:CJoin S p.toNat q.toNat (S',(more,false))):Clash (shG S.G) E:=by
  obtain ⟨hg,hcl,r,two,hF,hx⟩:=hj;dsimp only at hg hcl hF hx;(rcases hx with ⟨_,_,hm⟩ | ⟨rfl,ra,rb,x,y,ha,hb,hx,hy,h2⟩);(· cases hm);(rcases h2 with ⟨_,_,hm⟩ | ⟨hx0,hy0,hW,gx,gy,hgx,hgy,hcl2⟩);(· cases hm);rcases hcl2 with ⟨hcl2,_⟩ | ⟨_,e⟩
  rotate_left
  (· cases e);obtain ⟨h4,c,ps,h5,h6,_⟩:=h.pos ra x (.base ha.root) hx hx0;obtain ⟨h4',c',ps',h5',h6',_⟩:=h.pos rb y (.base hb.root) hy hy0;have ex:=zdS hgx;have ey:=zdS hgy;rw[h5] at ex;cases ex;rw[h5'] at ey;cases ey;refine ⟨x.toNat,y.toNat,?_,clash_iff h6 h6' hgx hgy hcl2⟩;exact .trans (h.sub _ _ (.inr ⟨ra,h4,ha⟩)) (.trans (h.subw (p,q) tz4) (h.sub _ _ (.inr ⟨rb,hb,h4'⟩)))
def zbD (up:List Nat):Nat:=(List.range up.length).countP fun i=>decide (up[i]?=some i)
theorem zfw {α:Type} {p q:α→Bool}:∀{l:List α},(∀x∈l,p x=true→q x=true)→(∃x∈l,q x=true∧p x=false)→l.countP p<l.countP q
  | [],_,h=>by obtain ⟨_,h,_⟩:=h;cases h
  | a::l,h,hx=>by
    obtain ⟨x,hx,h1,h2⟩:=hx;(have hm:l.countP p≤l.countP q:=List.countP_mono_left fun x hx=>h x (by simp[hx]));simp only[List.countP_cons];(rcases zR.1 hx with rfl | hx);(· rw[h1,h2];simp;omega);have:=zfw (l:=l) (fun x hx=>h x (by simp[hx])) ⟨x,hx,h1,h2⟩;have h3:=h a tz4;(cases hp:p a <;> cases hq:q a);(· simpa using this);(· simp;omega);(· rw[h3 hp] at hq;cases hq);simpa using this
theorem zcr {up:List Nat} {i:Nat}:up[i]?=some i↔Rt up i i:=⟨.base,Rt.root⟩
theorem ziC {up up':List Nat} (hl:up'.length=up.length) (h:∀k q,Rt up' k q↔Rt up k q):zbD up'=zbD up:=by
  unfold zbD;rw[hl];refine List.countP_congr fun i _=>?_;simp only[zl,zcr,h]
theorem ziG {up up':List Nat} {r ra rb:Nat} (hl:up'.length=up.length) (h:Link up up' r ra rb) (hne:ra≠rb) (ha:Rt up ra ra) (hb:Rt up rb rb):zbD up'<zbD up:=by
  unfold zbD;rw[hl];refine zfw (fun i _ hi=>?_) ?_
  · simp only[zl,zcr] at hi ⊢
    rcases (h.rt i i).1 hi with ⟨e,_⟩ | ⟨_,_,h1⟩
    · rcases h.r with e2 | e2
      (· rw[e,e2];exact ha);rw[e,e2];exact hb
    exact h1
  have key:∀z,Rt up z z→z≠r→(z=ra∨z=rb)→∃x∈List.range up.length,decide (up[x]?=some x)=true∧decide (up'[x]?=some x)=false:=fun z hz hzr hzz=>by
    refine ⟨z,List.mem_range.2 hz.lt,by simpa [zcr] using hz,?_⟩;simp only[zn,zcr];intro h9;(rcases (h.rt z z).1 h9 with ⟨e,_⟩ | ⟨e1,e2,_⟩);(· exact hzr e);(rcases hzz with e | e);(· exact e1 e);exact e2 e
  (rcases h.r with e | e);(· exact key rb hb (fun e2=>hne (by rw[e2,e])) (.inr rfl));exact key ra ha (fun e2=>hne (by rw[e2,e])) (.inl rfl)
theorem WInv.less {E:List (Nat×Nat)} {S:CS} {w more:List (Int×Int)} {p q:Int} (h:WInv E S (w++[(p,q)])) {S':CS} {ok:Bool} (hj:CJoin S p.toNat q.toNat (S',(more,ok))) :
    9 * zbD S'.F.up+(w++more).length<9 * zbD S.F.up+(w++[(p,q)]).length:=by
  obtain ⟨hg,hcl,r,two,hF,hx⟩:=hj;dsimp only at hg hcl hF hx;obtain ⟨_,hlen,ra,rb,ha,hb,hF⟩:=hF;dsimp only at hF hlen;simp only[zd,zh,zk];rcases hx with ⟨rfl,hW,hm⟩ | ⟨rfl,ra',rb',x,y,ha',hb',hx,hy,h2⟩
  · rcases hF with ⟨e,_,hrt⟩ | ⟨_,e,_⟩
    rotate_left
    (· cases e);rw[ziC hlen hrt];(have:more=[]:=by simpa using (congrArg Prod.fst hm));rw[this];simp
  (rcases hF with ⟨_,e,_⟩ | ⟨hne,_,hr,hrt⟩);(· cases e);have:=ziG hlen ⟨hrt,hr⟩ hne (.base ha.root) (.base hb.root)
  have hml:more.length≤8:=by
    rcases h2 with ⟨_,_,hm⟩ | ⟨_,_,_,gx,gy,hgx,_,hcl2⟩
    · have:more=[]:=by simpa using (congrArg Prod.fst hm)
      rw[this];simp
    rcases hcl2 with ⟨_,e⟩ | ⟨_,e⟩
    · have:more=[]:=by simpa using (congrArg Prod.fst e)
      rw[this];simp
    (have:more=gx.parts.zip gy.parts:=by simpa using (congrArg Prod.fst e));rw[this,List.length_zip];have:=h.c.pl gx (zm hgx);omega
  omega
end Go.Proofs.YtpfiliamceimmaaGreatDoor
