/- packed, part 31 of 46. Conditions: none. -/
import Derived.Test.YtpfiliamceimmaaGreatDoorPk30
set_option linter.unusedVariables false
set_option linter.unusedSimpArgs false
namespace Go.Proofs.YtpfiliamceimmaaGreatDoor
open Go
def mB:Nat->Nat->List Bool
 | 0,_=>[]
 | n+1,b=>(b % 2==1)::mB n (b / 2)
theorem bU:(∀(α β:Type) (f:α->β) (l:List α),(l.map f).length=l.length)/\(∀(α β:Type) (f:α->β) (x:α),(some x).map f=some (f x))/\(∀(α β:Type) (f:α->β),(none:Option α).map f=none)/\(∀(α:Type) (l:List α),l.take l.length=l)/\(∀(α β:Type) (f:α->β) (l:List α),(l.map f).take l.length=l.map f) :=
 ⟨fun _ _ _ _=>zD _,fun _ _ _ _=>rfl,fun _ _ _=>rfl,fun _ _=>zS,fun _ _ f l=>by have h:=zS (l:=l.map f);rwa [zD] at h⟩
theorem bV:(∀(α:Type) (p:α->Prop) (a:α) (l:List α),(∀x,x∈a::l->p x)↔p a/\∀x,x∈l->p x)/\(∀(α:Type) (a:α),(a∈([]:List α))=False)/\(∀p:Prop,(False->p)↔True)/\(∀(α:Type),(α->True)↔True)/\(∀(α:Type) (p:α->Prop) (a:α),(∀x,x=a->p x)↔p a)/\(∀(α:Type) (a b:α),(a∈[b])↔a=b) :=
 ⟨fun _ _ _ _=>List.forall_mem_cons,fun _ _=>by simp,fun _=>by simp,fun _=>by simp,fun _ _ _=>by simp,fun _ _ _=>by simp⟩
theorem bO:type_of% (And.intro @aops.eq_1 (And.intro @aops.eq_2 (And.intro @aop.eq_1 (And.intro @aWant.eq_1 @aVal.eq_1)))):=And.intro @aops.eq_1 (And.intro @aops.eq_2 (And.intro @aop.eq_1 (And.intro @aWant.eq_1 @aVal.eq_1)))
theorem chS {P:Program} {ops:List Oper} (n:Nat) {l:List Oper} {st st':St} {K:St->Prop} (k:aops P ops (l.drop n) st' K) (h:∀K':St->Prop,K' st'->aops P ops (l.take n) st K':=by intro _ q;simp only[↓bO,go_sem,seval];exact q):aops P ops l st K:=zX n fun K' y=>h K' (y st' k)
attribute [go_sem] za5 zar zbR zfk zaj za8 zcl zho aBin aUn aBool zb5 zbI zfa zdv zc0 zei zek zh9 zcL zkf zdt zib zcU ziM aLen zb1 zdZ slIn slAt slOf zgg AV.flat AV.cl AV.one Value.oneCell' zap zaf zac undef mB zas zat zad zeA zcT zbd LeL UndL UndOs Ob.Und zfq zct CurL CurOk
attribute [go_sem] bS bA bL bU bV tyX and_self and_true true_and Und.v Und.any Und.ptr Und.map Und.tys Und.tyAgg Und.oslTys Und.oslTys1 Und.clo0 Und.ty
attribute [go_sem] Int.natCast_nonneg zF Int.le_refl Int.toNat_zero Int.toNat_one Nat.zero_lt_succ Int.ofNat_lt zm zp Nat.one_mul Nat.mul_one List.range_succ List.range_zero
end Go.Proofs.YtpfiliamceimmaaGreatDoor
