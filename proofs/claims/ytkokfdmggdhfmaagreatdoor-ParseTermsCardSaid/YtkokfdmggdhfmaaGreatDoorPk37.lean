/- packed, part 37 of 45. Conditions: none. -/
import Derived.Test.YtkokfdmggdhfmaaGreatDoorPk36
import Derived.WideKeyEntry
set_option linter.unusedVariables false
set_option linter.unusedSimpArgs false
namespace Go.Proofs.YtkokfdmggdhfmaaGreatDoor
open Go Go.RowKit
set_option linter.unnecessarySimpa false
def aInt (o:Op) (ev:Operand->AV) (K:AV->Prop):Prop :=
 match o with
 | .binOp .add _ x y _=>match ev x,ev y with
  | .v (.int k a),.v (.int k' b)=>k=k'/\K (.v (.int k (k.wrap (a+b))))
  | _,_=>False
 | .call {callee:=.builtin .min,args:=⟨[x,y]⟩,argTypes:=_}=>match ev x,ev y with
  | .v (.int k a),.v (.int k' b)=>k=k'/\K (.v (.int k (min a b)))
  | _,_=>False
 | _=>False
theorem zgC {P:Program} {A0:Nat->Nat->Prop} {E0:Env} {os0:Os} {w0:World} {E:Env} {st:St} {a:Act} {w:World} {o:Oper} {K:AV->Prop} (h:SimC A0 E0 os0 w0 E st a w) (hq:aInt o.op st.ev K) :
  ∃v,K (.v v)/\∀w',(execOp a.eval o).run P w'=.ok (.value v) w':=by
 obtain ⟨dst,op,ty,pos,after,guard⟩:=o;unfold aInt at hq;split at hq
 ·rename_i t x y t2 heq
  (simp only at heq;subst heq);split at hq
  case h_2=>exact hq.elim
  (rename_i k n k' m hx hy);obtain ⟨rfl,hq⟩:=hq;have hrx:=h.ev x;have hry:=h.ev y;rw[hx] at hrx;rw[hy] at hry;(generalize hux:a.eval x=u at hrx);(generalize huy:a.eval y=u2 at hry);(cases hrx;cases hry);refine ⟨_,hq,fun w'=>?_⟩;obtain ⟨r,z,h1,h2,h3⟩:=zdI (P:=P) (w:=w') (E:=E) (A:=fun _ _=>False) (op:=.add) (t:=t) (p:=x) (q:=y) (K:=fun r=>r=.v (.int k (k.wrap (n+m)))) (Rp.v (.int k n)) (Rp.v (.int k m)) (by simp[aBin]);subst h3;(cases h2);simp only[execOp,hux,huy];simp only[Sem.run_bind] at h1 ⊢;rw[h1];simp only[Result.andThen_ok,Sem.run_pure]
 ·rename_i x y tys heq
  (simp only at heq;subst heq);split at hq
  case h_2=>exact hq.elim
  (rename_i k n k' m hx hy);obtain ⟨rfl,hq⟩:=hq;have hrx:=h.ev x;have hry:=h.ev y;rw[hx] at hrx;rw[hy] at hry;(generalize hux:a.eval x=u at hrx);(generalize huy:a.eval y=u2 at hry);(cases hrx;cases hry);refine ⟨_,hq,fun w'=>?_⟩;obtain ⟨r,z,h1,h2,h3⟩:=zcT (P:=P) (w:=w') (E:=E) (A:=fun _ _=>False) (o:={dst:=dst,op:=.call {callee:=.builtin .min,args:=⟨[x,y]⟩,argTypes:=tys},type:=ty,pos:=pos,after:=after,guard:=guard}) (ev:=fun z=>.v (a.eval z)) (ρ:=a.eval) (K:=fun r=>r=.v (.int k (min n m))) (fun z=>Rp.v _) (by simp[zc7,zbf,hux,huy]);subst h3;(cases h2);exact h1
 exact hq.elim
theorem zdF {P:Program} {l:List Oper} {Q:Exit->St->Prop} {H:Held} {fuel:Nat} {listed:Array Bool} {st:St} (i:Nat) {o:Oper} (hi:l[i]?=some o) (hg:o.guard=none) (hs:Region.noSelect l.toArray=true) (hf:Region.free .any l.toArray listed i=true) (hr:(Region.ready .any l.toArray listed).contains i=true)
  (hQ:∀c st,¬Q (.panic c) st) (h:∀K:St->Prop,(∀st',zbo P l Q H fuel (listed.setIfInBounds i true) st'->K st')->aInt o.op st.ev fun x=>K (st.put o.dst x)):zbo P l Q H (fuel+1) listed st:=by
 intro A0 Er os0 w0 E a w hE hW hsim;obtain ⟨v,hk,hrun⟩:=zgC (P:=P) hsim (h _ fun _ h=>h);refine wpAnyH_take (oi:=o) (v:=v) (by simpa using hi) hs hf hr ?_ (.inl ⟨by simp[Region.wanted,hg],fun w' _=>hrun w'⟩) hW ?_;(·rintro c a w ⟨st',E',hq,_⟩;exact absurd hq (hQ c st'));exact hk A0 Er os0 w0 E _ w hE hW (hsim.set (.v _) o.dst)
section
variable {P:Program} {l:List Oper} {Q:Exit->St->Prop} {H:Held} {fuel:Nat} {listed:Array Bool} {st:St}
end
end Go.Proofs.YtkokfdmggdhfmaaGreatDoor
