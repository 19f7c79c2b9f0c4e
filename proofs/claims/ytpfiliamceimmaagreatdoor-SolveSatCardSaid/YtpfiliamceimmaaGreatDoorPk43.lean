/- packed, part 43 of 54. Conditions: none. -/
import Derived.Test.YtpfiliamceimmaaGreatDoorPk42
set_option linter.unusedVariables false
set_option linter.unusedSimpArgs false
namespace Go.Proofs.YtpfiliamceimmaaGreatDoor
open Go Go.RowKit
theorem One.congr {up up':List Nat} (h:∀i q,Rt up' i q↔Rt up i q) {i k:Nat}:One up' i k↔One up i k:=by
  unfold One;simp only[h]
theorem WInv.fsame {E:List (Nat×Nat)} {S:CS} {F':FS} (h:WInv E S []) (k:FSame S.F F'):WInv E {S with F:=F'} []:=by
  have hc:=h.c;refine ⟨⟨hc.g,k.inv,k.len.trans hc.fl,hc.wl,hc.wr,hc.pl,hc.pr⟩,by simp,fun i j hij=>h.sub i j ((One.congr k.rt).1 hij),by simp,fun e he=>Qv.one ((One.congr k.rt).2 (h.ex e he).nil),?_,?_⟩
  · intro r i x c ps h1 h2 h3 h4
    exact h.neg r i x c ps h1 h2 ((k.rt _ _).1 h3) h4
  intro r x h1 h2 h3;obtain ⟨h4,c,ps,h5,h6,h7⟩:=h.pos r x ((k.rt _ _).1 h1) h2 h3;refine ⟨(k.rt _ _).2 h4,c,ps,h5,h6,fun i d qs h8 h9 h10=>?_⟩;obtain ⟨h11,h12,h13⟩:=h7 i d qs ((k.rt _ _).1 h8) h9 h10;exact ⟨h11,h12,fun j p q hp hq=>Qv.one ((One.congr k.rt).2 (h13 j p q hp hq).nil)⟩
theorem Good.fsame {E:List (Nat×Nat)} {m:List RNode} {S:CS} {F':FS} (h:Good E m S) (k:FSame S.F F'):Good E m {S with F:=F'}:=⟨h.w.fsame k,h.rel⟩
theorem Holds.fsame {l:List (Ty×Ty)} {S S1:CS} (h:Holds l S) (k:FSame S.F S1.F) (e:S1={S with F:=S1.F}):Holds l S1:=by
  rw[e];exact ⟨h.1,h.2.fsame k⟩
def KindIs (sh:Sh) (E:List (Nat×Nat)) (i:Nat) (k:Int):Prop :=
  (k=0∧∀(j:Nat) (c:Int) (qs:List Int),Cl sh E i j→sh j=some (c,qs)→c=1)∨(k≠1∧∃(j:Nat) (qs:List Int),Cl sh E i j∧sh j=some (k,qs))
theorem One.rt {up:List Nat} {i k r:Nat} (h:One up i k) (hr:Rt up i r):Rt up k r:=by
  (rcases h with rfl | ⟨q,h1,h2⟩);(· exact hr);cases Rt.det hr h1;exact h2
theorem Good.vin {E:List (Nat×Nat)} {m:List RNode} {S:CS} (h:Good E m S):∀n k,zaR S.G.V n=some k→0≤k∧k<(S.F.up.length:Int):=fun n k hv=>by
  have:=h.w.c.g.vars _ (zcm hv);have h1:=h.w.c.fl;have h2:=h.w.c.wl;(simp only at this);omega
end Go.Proofs.YtpfiliamceimmaaGreatDoor
