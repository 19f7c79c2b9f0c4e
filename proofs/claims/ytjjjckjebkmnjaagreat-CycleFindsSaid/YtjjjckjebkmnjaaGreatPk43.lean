/- Texts of the abstract walk, of the contracts and of the plain laws, packed (part 43 of 50): UniL4. Conditions: none. -/
import Derived.Test.YtjjjckjebkmnjaaGreatPk42
set_option linter.unusedVariables false
set_option linter.unusedSimpArgs false
namespace Go.Proofs.YtjjjckjebkmnjaaGreat
open Go Go.RowKit
theorem One.congr {up up':List Nat} (h:∀i q,Rt up' i q↔Rt up i q) {i k:Nat}:One up' i k↔One up i k:=by
  unfold One;simp only[h]
theorem WInv.fsame {E:List (Nat×Nat)} {S:CS} {F':FS} (h:WInv E S []) (k:FSame S.F F'):WInv E {S with F:=F'} []:=by
  have hc:=h.c;refine ⟨⟨hc.g,k.inv,k.len.trans hc.fl,hc.wl,hc.wr,hc.pl,hc.pr⟩,by simp,fun i j hij=>h.sub i j ((One.congr k.rt).1 hij),by simp,fun e he=>Qv.one ((One.congr k.rt).2 (h.ex e he).nil),?_,?_⟩
  · intro r i x c ps h1 h2 h3 h4
    exact h.neg r i x c ps h1 h2 ((k.rt _ _).1 h3) h4
  · intro r x h1 h2 h3
    obtain ⟨h4,c,ps,h5,h6,h7⟩:=h.pos r x ((k.rt _ _).1 h1) h2 h3;refine ⟨(k.rt _ _).2 h4,c,ps,h5,h6,fun i d qs h8 h9 h10=>?_⟩;obtain ⟨h11,h12,h13⟩:=h7 i d qs ((k.rt _ _).1 h8) h9 h10;exact ⟨h11,h12,fun j p q hp hq=>Qv.one ((One.congr k.rt).2 (h13 j p q hp hq).nil)⟩
theorem Good.fsame {E:List (Nat×Nat)} {m:List RNode} {S:CS} {F':FS} (h:Good E m S) (k:FSame S.F F'):Good E m {S with F:=F'}:=⟨h.w.fsame k,h.rel⟩
theorem Holds.fsame {l:List (Ty×Ty)} {S S1:CS} (h:Holds l S) (k:FSame S.F S1.F) (e:S1={S with F:=S1.F}):Holds l S1:=by
  rw[e];exact ⟨h.1,h.2.fsame k⟩
def KindIs (sh:Sh) (E:List (Nat×Nat)) (i:Nat) (k:Int):Prop :=
  (k=0∧∀(j:Nat) (c:Int) (qs:List Int),Cl sh E i j→sh j=some (c,qs)→c=1)∨(k≠1∧∃(j:Nat) (qs:List Int),Cl sh E i j∧sh j=some (k,qs))
theorem One.rt {up:List Nat} {i k r:Nat} (h:One up i k) (hr:Rt up i r):Rt up k r:=by
  (rcases h with rfl | ⟨q,h1,h2⟩);(· exact hr);· cases Rt.det hr h1;exact h2
theorem KindIs.of_node {sh:Sh} {E:List (Nat×Nat)} {i j:Nat} {k c:Int} {qs:List Int} (h:KindIs sh E i k) (hn:¬Clash sh E) (hj:Cl sh E i j) (hs:sh j=some (c,qs)) (hc:c≠1):k=c:=by
  (rcases h with ⟨_,h⟩ | ⟨hk,a,ps,ha,hsa⟩);· exact absurd (h j c qs hj hs) hc
  · rcases Decidable.em (k=c) with e | e
    (· exact e);· exact absurd ⟨a,j,ha.symm.trans hj,k,c,ps,qs,hsa,hs,hk,hc,.inl e⟩ hn
def zit (m:List RNode) (E:List (Nat×Nat)) (cls:Nat→Nat):Bool :=
  (E.all fun e=>cls e.1==cls e.2)&&(List.range m.length).all fun i=>(List.range m.length).all fun k=>cls i != cls k||(match m[i]?,m[k]? with
    | some x,some y=>decide (x.t.k=1)||decide (y.t.k=1)||(decide (x.t.k=y.t.k)&&decide (x.parts.length=y.parts.length)&&(x.parts.zip y.parts).all fun p=>cls p.1.toNat==cls p.2.toNat)
    | _,_=>true)
theorem zhU {m:List RNode} {E:List (Nat×Nat)} {cls:Nat→Nat} (h:zit m E cls=true) {i k:Nat} {x y:RNode} (hx:m[i]?=some x) (hy:m[k]?=some y) (hc:cls i=cls k) (h1:x.t.k≠1) (h2:y.t.k≠1) :
    x.t.k=y.t.k∧x.parts.length=y.parts.length∧∀p∈x.parts.zip y.parts,cls p.1.toNat=cls p.2.toNat:=by
  simp only[zit,Bool.and_eq_true,z8,List.mem_range] at h;have h3:=h.2 i (zf.1 hx).1 k (zf.1 hy).1;rw[hx,hy] at h3;simp only[hc,bne_self_eq_false,Bool.false_or,Bool.or_eq_true,zl,Bool.and_eq_true,z8,beq_iff_eq] at h3;(rcases h3 with (h3 | h3) | ⟨⟨h3,h4⟩,h5⟩);(· exact absurd h3 h1);(· exact absurd h3 h2);· exact ⟨h3,h4,h5⟩
theorem zgN {m:List RNode} {E:List (Nat×Nat)} {cls:Nat→Nat} (h:zit m E cls=true):Closed (shR m) E (fun i k=>cls i=cls k):=by
  refine ⟨fun e he=>?_,fun _=>rfl,fun _ _ h=>h.symm,fun _ _ _ h k=>h.trans k,fun i k j c p q ps qs hc hi hk h1 _ hp hq=>?_⟩
  · simp only[zit,Bool.and_eq_true,z8,beq_iff_eq] at h
    exact h.1 e he
  · obtain ⟨x,hx,rfl,rfl⟩:=zcy hi
    obtain ⟨y,hy,hyk,rfl⟩:=zcy hk;exact (zhU h hx hy hc h1 (by rw[hyk];exact h1)).2.2 _ (zip_at hp hq)
theorem zf3 {m:List RNode} {E:List (Nat×Nat)} {cls:Nat→Nat} (h:zit m E cls=true):¬Clash (shR m) E:=by
  rintro ⟨i,k,hc,c,d,ps,qs,hi,hk,h1,h2,h3⟩;have hcc:=Cl.least (zgN h) hc;obtain ⟨x,hx,rfl,rfl⟩:=zcy hi;obtain ⟨y,hy,rfl,rfl⟩:=zcy hk;obtain ⟨h4,h5,_⟩:=zhU h hx hy hcc h1 h2;(rcases h3 with h3 | h3);(· exact h3 h4);· exact h3 h5
theorem Good.var {E:List (Nat×Nat)} {m:List RNode} {S:CS} (h:Good E m S) {n k:Int} (hi:zb3 (RNode.isVar n) m=k) (h0:0≤k):za3 S.G.V n=some k:=by
  (rcases h.rel.vars n with ⟨_,h1⟩ | ⟨j,h1,h2,_⟩);(· omega);· rw[h1,← hi,h2]
theorem Good.vin {E:List (Nat×Nat)} {m:List RNode} {S:CS} (h:Good E m S):∀n k,za3 S.G.V n=some k→0≤k∧k<(S.F.up.length:Int):=fun n k hv=>by
  have:=h.w.c.g.vars _ (zc1 hv);have h1:=h.w.c.fl;have h2:=h.w.c.wl;(simp only at this);omega
end Go.Proofs.YtjjjckjebkmnjaaGreat
