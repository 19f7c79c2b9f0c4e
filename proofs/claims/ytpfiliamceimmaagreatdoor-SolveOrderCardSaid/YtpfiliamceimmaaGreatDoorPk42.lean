/- packed, part 42 of 46. Conditions: none. -/
import Derived.Test.YtpfiliamceimmaaGreatDoorPk41
set_option linter.unusedVariables false
set_option linter.unusedSimpArgs false
set_option maxRecDepth 100000
set_option maxHeartbeats 4000000
namespace Go.Proofs.YtpfiliamceimmaaGreatDoor
open Go Go.RowKit
def tC (t:Ty):AV:=.agg t.cells
def mTC (m:List (Int×Ty)):List (Int×AV):=m.map fun p=>(p.1,tC p.2)
theorem mC_nil:mTC []=[]:=rfl
theorem zg7 (m:List (Int×Ty)):∀p∈mTC m,Data p.2:=fun p hp=>by
 obtain ⟨q,_,rfl⟩:=zq.1 hp;exact Ty.dataAgg _
theorem zeA (m:List (Int×Ty)) (k:Int):(zbx (mTC m) k).isSome=(zck m k).isSome:=by rw[mTC,zg8];cases zck m k <;> rfl
theorem ziR (m:List (Int×Ty)) (k:Int) (t:Ty):zdQ (mTC m) k (.agg t.cells)=mTC (zfG m k t):=aSet_p tC k t m
def zT:AV:=.agg [.v (.int .i64 0),.v (.int .i64 0),.v (.slice none 0 0)]
theorem zbi:zi0 (.agg #[.int .i64 0,.int .i64 0,.slice none 0 0])=zT:=rfl
theorem mGet {m:List (Int×Ty)} {k:Int} {x:Ty} (h:zck m k=some x) (z:AV):(zbx (mTC m) k).getD z=.agg x.cells:=by rw[mTC,zg8,h];rfl
def MCalls (f:Nat) (args:List AV) (m:List (Int×Ty)) (R:AV) (m1:List (Int×Ty)):Prop :=
 ACalls Tryz.prog f args (z8 0 [.map (mTC m)]) 1 fun r os n=>(r=R/\os=z8 0 [.map (mTC m1)])/\n=1
end Go.Proofs.YtpfiliamceimmaaGreatDoor
namespace Go.Proofs.YtpfiliamceimmaaGreatDoor
open Go Go.RowKit
attribute [local irreducible] aops zax
theorem Und.bds {n:Nat} (l:List Bd):Und n (.sl 4 (l.map Bd.cells))=True:=eq_true (.data (Bd.dataSl l))
theorem Und.bdsO {n id:Nat} {l:List Bd} (h:id<n):Und n (.osl id 4 (l.map Bd.cells)):=.osl h (.data (Bd.dataSl l))
theorem lookTy9 (m:List (Int×Ty)) (k:Int):∃cs:List AV,(zbx (mTC m) k).getD zT=.agg cs/\cs.length=3/\cs.all AV.one=true/\cs.take 3=cs/\(∀x,zck m k=some x->cs=x.cells)/\DataL cs:=by
 cases h:zck m k with
 | none=>exact ⟨[.v (.int .i64 0),.v (.int .i64 0),.v (.slice none 0 0)],by rw[mTC,zg8,h];rfl,rfl,rfl,rfl,(fun x hx=>by cases hx),.cons (.v _) (.cons (.v _) (.cons (.v _) .nil))⟩
 | some x=>exact ⟨x.cells,mGet h _,x.cells_len,x.cells_one,x.cells_take3,(fun y hy=>by cases hy;rfl),Ty.data x⟩
end Go.Proofs.YtpfiliamceimmaaGreatDoor
