/- packed, part 33 of 45. Conditions: none. -/
import Derived.Test.YtkokfdmggdhfmaaGreatDoorPk32
set_option linter.unusedVariables false
set_option linter.unusedSimpArgs false
namespace Go.Proofs.YtkokfdmggdhfmaaGreatDoor
open Go
set_option linter.unnecessarySimpa false
def mB:Nat->Nat->List Bool
 | 0,_=>[]
 | n+1,b=>(b % 2==1)::mB n (b / 2)
theorem bU:(∀(α β:Type) (f:α->β) (l:List α),(l.map f).length=l.length)/\(∀(α β:Type) (f:α->β) (x:α),(some x).map f=some (f x))/\(∀(α β:Type) (f:α->β),(none:Option α).map f=none)/\(∀(α:Type) (l:List α),l.take l.length=l)/\(∀(α β:Type) (f:α->β) (l:List α),(l.map f).take l.length=l.map f) :=
 ⟨fun _ _ _ _=>zd _,fun _ _ _ _=>rfl,fun _ _ _=>rfl,fun _ _=>List.take_length,fun _ _ f l=>by have h:=List.take_length (l:=l.map f);rwa [zd] at h⟩
theorem bV:(∀(α:Type) (p:α->Prop) (a:α) (l:List α),(∀x,x∈a::l->p x)↔p a/\∀x,x∈l->p x)/\(∀(α:Type) (a:α),(a∈([]:List α))=False)/\(∀p:Prop,(False->p)↔True)/\(∀(α:Type),(α->True)↔True)/\(∀(α:Type) (p:α->Prop) (a:α),(∀x,x=a->p x)↔p a)/\(∀(α:Type) (a b:α),(a∈[b])↔a=b) :=
 ⟨fun _ _ _ _=>List.forall_mem_cons,fun _ _=>by simp,fun _=>by simp,fun _=>by simp,fun _ _ _=>by simp,fun _ _ _=>by simp⟩
theorem bO:type_of% (And.intro @aops.eq_1 (And.intro @aops.eq_2 (And.intro @aop.eq_1 (And.intro @aWant.eq_1 @aVal.eq_1)))):=And.intro @aops.eq_1 (And.intro @aops.eq_2 (And.intro @aop.eq_1 (And.intro @aWant.eq_1 @aVal.eq_1)))
theorem chS {P:Program} {ops:List Oper} (n:Nat) {l:List Oper} {st st':St} {K:St->Prop} (k:aops P ops (l.drop n) st' K) (h:∀K':St->Prop,K' st'->aops P ops (l.take n) st K':=by intro _ q;simp only[↓bO,go_sem,seval];exact q):aops P ops l st K:=zq n fun K' y=>h K' (y st' k)
theorem sqD {P:Program} {Q:Exit->St->Prop} {st st':St} {id:Nat} {l:List Oper} {y:Code} (k:AWp P y Q st') (h:∀K:St->Prop,K st'->aops P l l st (zD K Q .normal):=by intro _ q;simp only[↓bO,go_sem,seval];exact q):AWp P (.seq (.region id l.toArray false) y) Q st:=sqR fun K q=>h K (q st' k)
theorem tkS {P:Program} {l:List Oper} {Q:Exit->St->Prop} {fuel:Nat} {listed:Array Bool} {st st':St} {H:Held} (i:Nat) {o:Oper} (k:zbo P l Q H fuel (listed.setIfInBounds i true) st') (hi:l[i]?=some o:=by rfl) (h:∀K:St->Prop,K st'->zdj P o st.ev fun x=>K (st.put o.dst x):=by intro _ q;simp only[↓bO,go_sem,seval];exact q) (hs:Region.noSelect l.toArray=true:=by kernel_rfl) (hf:Region.free .any l.toArray listed i=true:=by kernel_rfl) (hr:(Region.ready .any l.toArray listed).contains i=true:=by kernel_rfl) (hQ:∀c st,¬Q (.panic c) st:=by exact fun _ _ h=>h):zbo P l Q H (fuel+1) listed st:=zdG i hi hs hf hr hQ fun K q=>h K (q st' k)
theorem tkM {P:Program} {l:List Oper} {Q:Exit->St->Prop} {fuel:Nat} {listed:Array Bool} {st st':St} {H:Held} (i:Nat) {o:Oper} (j:Nat) {id off:Nat} {vs:List AV} (k:zbo P l Q H fuel (listed.setIfInBounds i true) st') (hk:H[j]?=some (id,off,vs):=by rfl) (hi:l[i]?=some o:=by rfl) (h:∀K:St->Prop,K st'->zbs P o st.ev st.os vs id off fun x=>K (st.put o.dst x):=by intro _ q;simp only[↓bO,go_sem,seval];exact q) (hs:Region.noSelect l.toArray=true:=by kernel_rfl) (hf:Region.free .any l.toArray listed i=true:=by kernel_rfl) (hr:(Region.ready .any l.toArray listed).contains i=true:=by kernel_rfl) (hQ:∀c st,¬Q (.panic c) st:=by exact fun _ _ h=>h):zbo P l Q H (fuel+1) listed st:=zdK i j hk hi hs hf hr hQ fun K q=>h K (q st' k)
theorem alS {P:Program} {l:List Oper} {Q:Exit->St->Prop} {fuel:Nat} {listed:Array Bool} {st st':St} {H:Held} (i:Nat) {o:Oper} (k:zbo P l Q H fuel (listed.setIfInBounds i true) st') (hi:l[i]?=some o:=by rfl) (hg:o.guard=none:=by rfl) (h:∀K:St->Prop,K st'->aop P o st K:=by intro _ q;simp only[↓bO,go_sem,seval];exact q) (hH:HeldS H st':=by repeat' first | trivial | rfl | apply And.intro) (hr:Region.ready .any l.toArray listed=[i]:=by kernel_rfl):zbo P l Q H (fuel+1) listed st:=zeW hr (aAt_op hi hg fun K q=>h K (q st' ⟨hH,k⟩))
attribute [go_sem] zK zJ zS zf9 zQ zay zbx aPart aBin aUn aBool zbe za1 zeK zcm zcR zc7 zbW zfQ zcy zgl zdg valAV zd9 aLenX aLen zbf zd8 slIn slAt slOf zf1 AV.flat AV.cl AV.one Value.oneCell' zD zB zz undef mB zbS zcb zbR zW zU zL LeL UndL UndOs Ob.Und zdj zbs CurL CurOk
attribute [go_sem] bS bA bL bU bV tyX and_self and_true true_and Und.v Und.any Und.ptr Und.map Und.tys Und.tyAgg Und.oslTys Und.oslTys1 Und.clo0 Und.ty
attribute [go_sem] Int.natCast_nonneg Int.toNat_natCast Int.le_refl Int.toNat_zero Int.toNat_one Nat.zero_lt_succ Int.ofNat_lt Int.natCast_one Int.cast_ofNat_Int Nat.one_mul Nat.mul_one List.range_succ List.range_zero
end Go.Proofs.YtkokfdmggdhfmaaGreatDoor
