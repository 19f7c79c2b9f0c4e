/- Texts of the abstract walk, of the contracts and of the plain laws, packed (part 24 of 50): Ab20. Conditions: none. -/
import Derived.Test.YtjjjckjebkmnjaaGreatPk23
set_option linter.unusedVariables false
set_option linter.unusedSimpArgs false
namespace Go.Proofs.YtjjjckjebkmnjaaGreat
open Go Go.RowKit
theorem Weak.ren {st st':St} (σ:Nat→Nat) (hσ:∀i,σ (σ i)=i) (h0:∀i,i<st.n0→σ i=i) (hn:∀i,i<st.nx→σ i<st.nx) (hl:RenL σ st.sl st'.sl)
    (ho:∀id ob',zaQ st'.os id=some ob'→∃ob,zaQ st.os (σ id)=some ob∧RenO σ (σ id) ob ob') (hnx:st'.nx=st.nx) (hn0:st'.n0=st.n0):Weak st st':=by
  intro A0 E0 os0 w0 E a w hs
  have hE:(E.pull σ).pull σ=E:=by
    obtain ⟨v,b,c,n⟩:=E;simp only[Env.pull,hσ]
  have hblk:∀id ob' ob,RenO σ (σ id) ob ob'→ob'.blk (E.pull σ) id=ob.blk E (σ id):=fun id ob' ob h=>by
    have:=h.blk (E.pull σ)
    rwa [hσ,hE] at this
  have hav:∀b o,Av (E.pull σ) st'.os b o→Av E st.os b o:=by
    rintro b o ⟨id,ob',hg,hb,ha⟩;obtain ⟨ob,h1,h2⟩:=ho id ob' hg;exact ⟨σ id,ob,h1,by rw[← hblk id ob' ob h2];exact hb,by rw[← h2.av];exact ha⟩
  (have hAX:∀b o,AvX A0 (E.pull σ) st'.os b o→AvX A0 E st.os b o:=fun b o ha=>ha.imp (fun h=>h) (hav b o));refine ⟨E.pull σ,?_⟩;refine {size:=by rw[hs.size,hl.length],sl:=fun i c u hc hu=>?_,os:=?_,nx:=fun id=>?_,defers:=hs.defers,ext:=?_,stp:=hs.stp,sub:=fun b o ha=>hs.sub b o (hav b o ha),base:=by rw[hn0];exact hs.base}
  · obtain ⟨x,hx,hr⟩:=hl.get' i c hc
    have h1:=hs.sl i x u hx hu;have h2:=(hr (E.pull σ) (AvX A0 E st.os) w u).1 (by rw[hE];exact h1);exact h2.mono hAX
  · refine ⟨fun id ob' hg=>?_,fun i j oi oj b hi hj hbi hbj=>?_,fun id ob' b hg hb=>?_,hs.os.bnd⟩
    · obtain ⟨ob,h1,h2⟩:=ho id ob' hg
      obtain ⟨h3,h4⟩:=hs.os.ok (σ id) ob h1;refine ⟨h3,?_⟩;have h5:=(h2.ok (E.pull σ) (AvX A0 E st.os) w).1 (by rw[hE];exact h4);rw[hσ] at h5;exact Ob.ok_step h5 h3 (.refl _) (.refl _ w) (fun b o ha=>.inl (hAX b o ha)) rfl (fun _ _=>rfl)
    · obtain ⟨ox,h1,h2⟩:=ho i oi hi
      obtain ⟨oy,h3,h4⟩:=ho j oj hj;have:=hs.os.inj (σ i) (σ j) ox oy b h1 h3 (by rw[← hblk i oi ox h2];exact hbi) (by rw[← hblk j oj oy h4];exact hbj);rw[← hσ i,this,hσ]
    · obtain ⟨ob,h1,h2⟩:=ho id ob' hg
      exact hs.os.out (σ id) ob b h1 (by rw[← hblk id ob' ob h2];exact hb)
  · rw[hnx]
    (show E.valid (σ id)↔id<st.nx);rw[hs.nx (σ id)];exact ⟨fun h=>by have:=hn _ h;rwa [hσ] at this,fun h=>hn _ h⟩
  · refine ⟨fun id hv=>?_,fun id hv=>?_,fun id hv=>?_,fun id hv=>?_⟩
    (· show E.valid (σ id);rw[h0 id (hs.base id hv)];exact hs.ext.valid id hv);(· show E.blk (σ id)=E0.blk id;rw[h0 id (hs.base id hv)];exact hs.ext.blk id hv);(· show E0.cnt id≤E.cnt (σ id);rw[h0 id (hs.base id hv)];exact hs.ext.cnt id hv);· show E.cnt (σ id)=E0.cnt id→E.cur (σ id)=E0.cur id;rw[h0 id (hs.base id hv)];exact hs.ext.cur id hv
def ze9 (i j k:Nat):Nat:=if k=i then j else if k=j then i else k
theorem zij (i j k:Nat):ze9 i j (ze9 i j k)=k:=by
  unfold ze9;(repeat' split);all_goals omega
theorem Data.eptr {cs:List AV} (h:DataL cs):Data (.eptr cs):=fun E E' A w u hr=>by
  cases hr with
  | eptr g hcell hr=>exact .eptr g hcell fun j c hj=>h c (zn hj) E E' A w _ (hr j c hj)
end Go.Proofs.YtjjjckjebkmnjaaGreat
