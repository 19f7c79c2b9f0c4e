/- packed, part 5 of 45. Conditions: none. -/
import Derived.Test.YtkokfdmggdhfmaaGreatDoorPk4
set_option linter.unusedVariables false
set_option linter.unusedSimpArgs false
namespace Go.Proofs.YtkokfdmggdhfmaaGreatDoor
open Go Go.RowKit
set_option linter.unnecessarySimpa false
section
variable {P:Program} {A0:Nat->Nat->Prop} {E:Env} {os:Os} {w:World}
theorem zaT {op:BinOp} {t:Nat} {x y:Operand} {u v:Value} (h:∀cs,u≠.agg cs) (h':u≠.nilIface):(eqGuard op t x y u v).run P w=.ok () w:=by
 cases op <;> cases u <;> first | rfl | exact absurd rfl (h _) | exact absurd rfl h'
theorem zde {t:Nat} {k:IntKind} (h:zgv P t=some k):P.underlying t=some (.int k):=by
 unfold zgv at h;(split at h);(·cases h;assumption);cases h
theorem zeQ {t:Nat} (h:zdW P t=true):P.underlying t=some .bool:=by
 unfold zdW at h;(split at h);(·assumption);cases h
theorem zfg {t:Nat} (h:ze6 P t=true):∃e,P.underlying t=some (.pointer e):=by
 unfold ze6 at h;(split at h);(·exact ⟨_,by assumption⟩);cases h
theorem zcr {t e:Nat} (hu:P.underlying t=some (.pointer e)) (a:Option Addr):(Op.equal t (.pointer a) (.pointer none)).run P w=.ok a.isNone w:=by
 have key:∀d,(Op.equalIn (d+1) t (.pointer a) (.pointer none)).run P w=.ok a.isNone w:=fun d=>by
  cases a <;> simp[Op.equalIn,run_underlying hu]
 exact key 9999
theorem zcI {t:Nat} (h:zdS P t=true):(∃k,P.underlying t=some (.int k))/\zaW P t=some (false,1):=by
 unfold zdS at h;(split at h);(·exact ⟨⟨_,by assumption⟩,by simpa using h⟩);cases h
theorem eq2_spec {xs ys:List AV} {b:Bool} (h:eq2 xs ys=some b):∃m n p q,xs=[.v (.int .i64 m),.v (.int .i64 n)]/\ys=[.v (.int .i64 p),.v (.int .i64 q)]/\b=(m==p&&n==q):=by
 unfold eq2 at h;(split at h);(·cases h;exact ⟨_,_,_,_,rfl,rfl,rfl⟩);cases h
theorem Rp.v_eq {A:Nat->Nat->Prop} {a u:Value} (h:Rp E A w (.v a) u):u=a:=by cases h;rfl
theorem Rp.agg2 {A:Nat->Nat->Prop} {a b u:Value} (h:Rp E A w (.agg [.v a,.v b]) u):u=.agg #[a,b]:=by
 cases h with
 | @agg _ us hs hr =>
  have hsz:us.size=2:=hs
  have h0:us[0]?=some a:=by
   have h1:us[0]?=some (us[0]'tz1):=zo tz1;have h2:=hr 0 _ _ rfl h1;rw[h1];exact congrArg some (Rp.v_eq h2)
  have h3:us[1]?=some b:=by
   have h1:us[1]?=some (us[1]'tz1):=zo tz1;have h2:=hr 1 _ _ rfl h1;rw[h1];exact congrArg some (Rp.v_eq h2)
  (congr 1);apply Array.ext_getElem?;intro i
  match i with
  | 0=>rw[h0];rfl
  | 1=>rw[h3];rfl
  | i+2=>rw[Array.getElem?_eq_none tz1];simp
theorem zgy {t:Nat} (h:isI2T P t=true) {a b c d:Int}:P.eqGuardType P.depth t=false/\∀d1,(Op.equalIn (d1+2) t (.agg #[.int .i64 a,.int .i64 b]) (.agg #[.int .i64 c,.int .i64 d])).run P w=.ok (a==c&&b==d) w:=by
 unfold isI2T at h;split at h
 case h_2=>cases h
 (rename_i f g hfs);simp only[Bool.and_eq_true,bne_iff_ne,ne_eq,beq_iff_eq,Bool.not_eq_true'] at h;obtain ⟨⟨⟨⟨⟨⟨⟨h1,h2⟩,h3⟩,h4⟩,h5⟩,h6⟩,h7⟩,h8⟩:=h;refine ⟨h8,fun d1=>?_⟩
 have hu:P.underlying t=some (.struct (P.fieldsOf t)):=by
  unfold Program.fieldsOf at hfs ⊢;(split at hfs);(·assumption);simp at hfs
 obtain ⟨⟨k1,hi1⟩,ht1⟩:=zcI h5;obtain ⟨⟨k2,hi2⟩,ht2⟩:=zcI h6;obtain ⟨ha1,_⟩:=zaU ht1;obtain ⟨ha2,_⟩:=zaU ht2;(have key:∀(x y:Value),(part f.type #[x,y] f.offset).run P w=.ok x w:=fun x y=>by rw[h3];simp[part,ha1]);(have key2:∀(x y:Value),(part g.type #[x,y] g.offset).run P w=.ok y w:=fun x y=>by rw[h4];simp[part,ha2]);rw[run_equalIn_agg w (d1+1) t _ _ hu h7,hfs];simp only[Op.eqFields,Sem.run_bind,Sem.run_ite,h1,h2,not_false_eq_true,if_true,key,key2,Result.andThen_ok,ne_eq,run_equalIn_int w d1 f.type .i64 k1 a c hi1,run_equalIn_int w d1 g.type .i64 k2 b d hi2];cases (a==c) <;> cases (b==d) <;> simp[Sem.run]
theorem tz3 {p:Prop} (h:p:=by decide):p:=h
theorem zdI {op:BinOp} {t:Nat} {x y:AV} {u v:Value} {A:Nat->Nat->Prop} {K:AV->Prop} {p q:Operand} (hx:Rp E A w x u) (hy:Rp E A w y v) (h:aBin P op t q x y K) :
  ∃r z,(do eqGuard op t p q u v;binOp op t u v:Sem Value).run P w=.ok z w/\Rp E A w r z/\K r:=by
 unfold aBin at h;split at h
 ·rename_i k a k' b
  (cases hx;cases hy);have hg:∀op,(eqGuard op t p q (.int k a) (.int k' b)).run P w=.ok () w:=fun op=>zaT tz4 tz4
  have hsh:∀op,0<=b->(op=.shl\/op=.shr)->∃z,(Op.shift op k a k' b).run P w=.ok (.int k z) w/\z=if op=.shl then iShl k a b else iShr k a b:=fun op h0 ho=>by
   (rcases ho with rfl | rfl);(·exact ⟨_,by unfold Op.shift;rw[if_neg (Int.not_lt.2 h0)];rfl,rfl⟩);exact ⟨_,by unfold Op.shift;rw[if_neg (Int.not_lt.2 h0)];rfl,rfl⟩
  cases op <;> simp only[] at h
  case shl =>
   obtain ⟨z,h1,h2⟩:=hsh .shl h.1 (.inl rfl);refine ⟨_,_,?_,.v _,h.2⟩;rw[if_pos rfl] at h2;subst h2;simp only[Sem.run_bind,hg,Result.andThen_ok];exact h1
  case shr =>
   obtain ⟨z,h1,h2⟩:=hsh .shr h.1 (.inr rfl);refine ⟨_,_,?_,.v _,h.2⟩;rw[if_neg tz3] at h2;subst h2;simp only[Sem.run_bind,hg,Result.andThen_ok];exact h1
  all_goals
   obtain ⟨rfl,h⟩:=h
   first
   | exact h.elim
   | (refine ⟨_,_,?_,.v _,h⟩;simp only[Sem.run_bind,hg,Result.andThen_ok];simp[binOp,Op.intArith,Op.intCmp,Op.intBits,iAnd,iOr,iXor,iAndNot,pure,Sem.run];done)
   | (refine ⟨_,_,?_,.v _,h.2⟩;simp only[Sem.run_bind,hg,Result.andThen_ok];simp[binOp,Op.intDiv,h.1,pure,Sem.run];done)
 ·rename_i a b
  (cases hx;cases hy);have hg:∀op,(eqGuard op t p q (.string a) (.string b)).run P w=.ok () w:=fun op=>zaT tz4 tz4
  cases op <;> simp only[] at h <;> first
   | exact h.elim
   | (refine ⟨_,_,?_,.v _,h⟩;simp only[Sem.run_bind,hg,Result.andThen_ok];simp[binOp,Op.stringOp,pure,Sem.run];done)
   | (refine ⟨_,_,?_,.v _,h.2⟩;simp only[Sem.run_bind,hg,Result.andThen_ok];simp only[binOp,Op.stringOp];rw[if_neg (by have:=h.1;omega)];rfl)
 ·rename_i a b
  (cases hx;cases hy);obtain ⟨hb,h⟩:=h;have hu:=zeQ hb;have hg:∀op,(eqGuard op t p q (.bool a) (.bool b)).run P w=.ok () w:=fun op=>zaT tz4 tz4
  have he:(Op.equal t (.bool a) (.bool b)).run P w=.ok (a==b) w:=by
   have key:∀d,(Op.equalIn (d+1) t (.bool a) (.bool b)).run P w=.ok (a==b) w:=fun d=>by
    simp[Op.equalIn,run_underlying hu]
   exact key 9999
  cases op <;> simp only[] at h <;> first
   | exact h.elim
   | (refine ⟨_,_,?_,.v _,h⟩;simp only[Sem.run_bind,hg,Result.andThen_ok];simp only[binOp,Sem.run_bind,he,Result.andThen_ok,Sem.run_pure])
 case h_8 =>
  obtain ⟨hb,h⟩:=h;unfold aEq2 at h;split at h
  case h_2=>exact h.elim
  (rename_i r hr);obtain ⟨m,n,p',q',rfl,rfl,rfl⟩:=eq2_spec hr;obtain rfl:=hx.agg2;obtain rfl:=hy.agg2;obtain ⟨hg,he⟩:=zgy (w:=w) hb (a:=m) (b:=n) (c:=p') (d:=q');have hgu:=fun op=>run_eqGuard_agg (P:=P) w op t p q #[.int .i64 m,.int .i64 n] #[.int .i64 p',.int .i64 q'] hg
  cases op <;> simp only[] at h <;> first
   | exact h.elim
   | (refine ⟨_,_,?_,.v _,h⟩;rw[Sem.run_bind,hgu,Result.andThen_ok,run_eql_struct,he 9998];rfl)
   | (refine ⟨_,_,?_,.v _,h⟩;rw[Sem.run_bind,hgu,Result.andThen_ok,run_neq_struct,he 9998];rfl)
 case h_9 =>
  obtain ⟨hb,h⟩:=h;(cases hx;cases hy);have hg:∀op a b,(eqGuard op t p q (.iface a b) .nilIface).run P w=.ok () w:=fun op a b=>zaT tz4 tz4
  cases op <;> simp only[] at h <;> first
   | exact h.elim
   | (refine ⟨_,_,?_,.v _,h⟩;rw[Sem.run_bind,hg,Result.andThen_ok,run_eql_iface_nil w t hb])
   | (refine ⟨_,_,?_,.v _,h⟩;rw[Sem.run_bind,hg,Result.andThen_ok,run_neq_iface_nil w t hb])
 case h_10 =>
  obtain ⟨⟨hc,hb⟩,h⟩:=h;cases hx;cases hy
  have hg:∀op,(eqGuard op t p q .nilIface .nilIface).run P w=.ok () w:=fun op=>by
   cases q <;> first | (simp[isCn] at hc;done) | (cases op <;> simp[eqGuard,Sem.run])
  cases op <;> simp only[] at h <;> first
   | exact h.elim
   | (refine ⟨_,_,?_,.v _,h⟩;rw[Sem.run_bind,hg,Result.andThen_ok,run_eql_nil_nil_at w t hb])
   | (refine ⟨_,_,?_,.v _,h⟩;rw[Sem.run_bind,hg,Result.andThen_ok,run_neq_nil_nil_at w t hb])
 all_goals try exact False.elim h
 all_goals
  obtain ⟨hb,h⟩:=h;obtain ⟨e,hu⟩:=zfg hb;(cases hx);(cases hy);(have hg:∀op a,(eqGuard op t p q (.pointer a) (.pointer none)).run P w=.ok () w:=fun op a=>zaT tz4 tz4);have he:=fun a=>zcr (w:=w) hu a
  cases op <;> simp only[] at h <;> first
   | exact h.elim
   | (refine ⟨_,_,?_,.v _,h⟩;simp only[Sem.run_bind,hg,Result.andThen_ok];simp only[binOp,Sem.run_bind,he,Result.andThen_ok,Sem.run_pure];rfl)
theorem aUn_sound {op:UnOp} {x:AV} {u:Value} {A:Nat->Nat->Prop} {K:AV->Prop} (hx:Rp E A w x u) (h:aUn op x K) :
  ∃r z,(Op.unary op u).run P w=.ok z w/\Rp E A w r z/\K r:=by
 unfold aUn at h;(split at h);(·cases hx;exact ⟨_,_,by simp[Op.unary],.v _,h⟩);(·cases hx;exact ⟨_,_,by simp[Op.unary,Op.intArith],.v _,h⟩);(·cases hx;exact ⟨_,_,by simp[Op.unary,Op.intBits,iXor],.v _,h⟩);exact h.elim
theorem zdJ {t ty:Nat} {x:AV} {u:Value} {A:Nat->Nat->Prop} {K:AV->Prop} (hx:Rp E A w x u) (h:aLen P t x K) :
  ∃r z,(Builtin.len_ #[t] ty #[u]).run P w=.ok z w/\Rp E A w r z/\K r:=by
 have slc:∀(a:Option Addr) (n cap:Nat),zdy P t=some true->(Builtin.len_ #[t] ty #[.slice a n cap]).run P w=.ok (.int .i64 n) w:=by
  intro a n cap hl;unfold zdy at hl;(split at hl);(·cases hl);(·rename_i e hu;simp[Builtin.len_,run_underlying hu,goInt]);cases hl
 have key:∀(sz:Nat) (xs:List (List AV)),zdy P t=some true->Rp E A w (.sl sz xs) u->(Builtin.len_ #[t] ty #[u]).run P w=.ok (.int .i64 xs.length) w:=by
  intro sz xs hl hr
  cases hr with
  | sl0 hc=>exact slc _ _ _ hl
  | sl g hn hcap hc hsz hcell hr=>rw[<- hn];exact slc _ _ _ hl
 unfold aLen at h;(split at h);(·exact ⟨_,_,key _ _ (by assumption) hx,.v _,h⟩);(·exact ⟨_,_,key _ _ (by assumption) (Le.osl _ _ _ _ _ _ _ hx),.v _,h⟩);·cases hx;exact ⟨_,_,slc _ _ _ (by assumption),.v _,h⟩
 ·rename_i s hl
  (cases hx);refine ⟨_,_,?_,.v _,h⟩;unfold zdy at hl;(split at hl);(·rename_i hu;simp[Builtin.len_,run_underlying hu,goInt]);(·cases hl);cases hl
 exact h.elim
theorem zb6 {t ty:Nat} (a:Option Addr) (n cap:Nat) (hl:zdy P t=some true):(Builtin.len_ #[t] ty #[.slice a n cap]).run P w=.ok (.int .i64 n) w:=by
 unfold zdy at hl;(split at hl);(·cases hl);(·rename_i e hu;simp[Builtin.len_,run_underlying hu,goInt]);cases hl
theorem zfE {A0:Nat->Nat->Prop} {os:Os} {t ty:Nat} {x:AV} {u:Value} {K:AV->Prop} (hos:OsOk A0 E os w) (hx:Rp E (AvX A0 E os) w x u) (h:aLenX P t x os K) :
  ∃r z,(Builtin.len_ #[t] ty #[u]).run P w=.ok z w/\Rp E (AvX A0 E os) w r z/\K r:=by
 unfold aLenX at h;split at h
 ·rename_i id n
  split at h
  ·rename_i xs hl hg
   obtain ⟨hn,hk⟩:=h;obtain ⟨hv,hcnt,hxl,hrow⟩:=hos.ok id _ hg
   cases hx with
   | own _ hle hcur h1 =>
    have hue:=hcur tz1;rcases hrow with ⟨h2,h3⟩ | ⟨b,cap,cur,h2,_⟩
    ·have:u=.slice none 0 0:=by rw[hue,h2]
     subst this;(have hn0:n=0:=by omega);subst hn0;exact ⟨_,_,zb6 _ _ _ hl,.v _,hk⟩
    (have:u=.slice (some ⟨b,0,none⟩) xs.length cap:=by rw[hue,h2]);subst this;subst hn;exact ⟨_,_,zb6 _ _ _ hl,.v _,hk⟩
  exact h.elim
 exact zdJ hx h
theorem zdr {x:AV} {i:Nat} {u:Value} {A:Nat->Nat->Prop} {K:AV->Prop} (hx:Rp E A w x u) (h:za1 x i K) :
  ∃r z,(Instr.extract u i).run P w=.ok z w/\Rp E A w r z/\K r:=by
 unfold za1 at h;split at h
 ·rename_i l
  cases hx with
  | @tup _ us hs hr =>
   obtain ⟨hi,hk⟩:=h;have h1:us[i]?=some us[i]:=zo tz1;(have h2:l[i]?=some (l.getD i .any):=by rw[zg,zc hi];rfl);exact ⟨_,us[i],by simp[Instr.extract,h1],hr i _ _ h2 h1,hk⟩
 exact h.elim
theorem zbp {t:Nat} {i:TypeInfo} (h:P.info? t=some i):(sizeOf t).run P w=.ok i.size w:=by simp[sizeOf,typeInfo,h]
theorem zcn {cs ds:List AV} {o:Nat} (h:o+ds.length<=cs.length) (i:Nat):(zay cs o ds)[i]?=if o<=i/\i<o+ds.length then ds[i-o]? else cs[i]?:=by
 unfold zay
 by_cases h1:i<o
 ·rw[if_neg tz1,List.append_assoc,zl tz7,List.getElem?_take,if_pos h1]
 by_cases h2:i<o+ds.length
 ·rw[if_pos ⟨by omega,h2⟩,zl tz7,zp tz7]
  (congr 1);simp;omega
 rw[if_neg tz1,zp tz7,List.getElem?_drop];(congr 1);simp;omega
theorem zcA {cs ds:List AV} {o:Nat} (h:o+ds.length<=cs.length):(zay cs o ds).length=cs.length:=by
 unfold zay;simp;omega
theorem zbL:∀(vs:List Value) (off k:Nat) (cs:Array Value),((vs.zipIdx k).foldl (fun cs (p:Value×Nat)=>cs.setIfInBounds (off+p.2) p.1) cs).size=cs.size
 | [],_,_,_=>rfl
 | v::vs,off,k,cs=>by simp[zbL vs off (k+1)]
theorem zb7:∀(vs:List Value) (off k:Nat) (cs:Array Value) (_:off+k+vs.length<=cs.size) (i:Nat),
  ((vs.zipIdx k).foldl (fun cs (p:Value×Nat)=>cs.setIfInBounds (off+p.2) p.1) cs)[i]?=if off+k<=i/\i<off+k+vs.length then vs[i-(off+k)]? else cs[i]?
 | [],off,k,cs,_,i=>by
  rw[if_neg tz4];rfl
 | v::vs,off,k,cs,h,i=>by
  simp only[List.length_cons] at h;simp only[List.zipIdx_cons,List.foldl_cons];rw[zb7 vs off (k+1) _ tz7 i];simp only[List.length_cons]
  by_cases h1:off+k=i
  ·rw[if_neg tz1,if_pos tz1,Array.getElem?_setIfInBounds,if_pos h1,if_pos tz1]
   simp[<- h1]
  by_cases h2:off+k+1<=i/\i<off+k+1+vs.length
  (·rw[if_pos tz1,if_pos tz1,show i-(off+k)=(i-(off+(k+1)))+1 by omega,List.getElem?_cons_succ]);rw[if_neg tz1,if_neg tz1,Array.getElem?_setIfInBounds,if_neg h1]
theorem zbK {A:Nat->Nat->Prop} {places:List (Nat×Nat)} {place:Nat->Option (Nat×Nat)}:∀(parts:List (Nat×AV)) (us:List (Nat×Value)) (cs:List AV) (cur:Array Value) (K:List AV->Prop),
  (∀p∈parts,place p.1=places[p.1]?)->parts.length=us.length->(∀(i:Nat) (p:Nat×AV) (u:Nat×Value),parts[i]?=some p->us[i]?=some u->p.1=u.1/\Rp E A w p.2 u.2)->cur.size=cs.length ->
  (∀(i:Nat) (c:AV) (u:Value),cs[i]?=some c->cur[i]?=some u->Rp E A w c u)->zcm places parts cs K ->
  ∃ds cells,Instr.fill place cur us=some cells/\cells.size=ds.length/\(∀(i:Nat) (c:AV) (u:Value),ds[i]?=some c->cells[i]?=some u->Rp E A w c u)/\K ds
 | [],[],cs,cur,K,_,_,_,hs,hr,h=>⟨cs,cur,rfl,hs,hr,h⟩
 | (i,x)::rest,(i',u)::us,cs,cur,K,hp,hl,hpr,hs,hr,h=>by
  obtain ⟨h1,h2⟩:=hpr 0 _ _ rfl rfl;(simp only at h1 h2);subst h1;simp only[zcm] at h;(split at h);(·exact h.elim);(rename_i off size hpl);obtain ⟨hf,hsz,hle,hk⟩:=h;obtain ⟨h3,h4⟩:=h2.cl hf;(have hle':off+x.cl.length<=cs.length:=by omega);(have hcl:off+0+u.cells.toList.length<=cur.size:=by rw[Array.length_toList,h3];omega);have hget:=zb7 u.cells.toList off 0 cur hcl;have hsize:=zbL u.cells.toList off 0 cur
  obtain ⟨ds,cells,h5,h6,h7,h8⟩:=zbK rest us (zay cs off x.cl) ((u.cells.toList.zipIdx 0).foldl (fun cs (p:Value×Nat)=>cs.setIfInBounds (off+p.2) p.1) cur) K (fun p hm=>hp p (List.mem_cons_of_mem _ hm)) (by simpa using hl)
   (fun i p u hp hu=>hpr (i+1) p u (by simpa using hp) (by simpa using hu)) (by rw[hsize,zcA hle',hs]) (fun j c y hc hy=>by
    rw[zcn hle'] at hc;rw[hget] at hy;simp only[Nat.add_zero,Array.length_toList,h3] at hy;split at hc
    ·rename_i hj
     rw[if_pos hj] at hy;exact h4 _ c y hc (by simpa using hy)
    (rename_i hj);rw[if_neg hj] at hy
    exact hr j c y hc hy) hk
  refine ⟨ds,cells,?_,h6,h7,h8⟩;have hp0:=hp (i,x) (List.mem_cons_self ..);simp only[hpl] at hp0;simp only[Instr.fill,hp0];rw[if_neg];(·rw[<- h5,<- Array.foldl_toList,Array.toList_zipIdx]);simp only[Bool.or_eq_true,bne_iff_ne,decide_eq_true_eq,not_or,Decidable.not_not];exact ⟨by simp[h3,hsz],by omega⟩
theorem zf4 {places:List (Nat×Nat)} {K:List AV->Prop}:∀(parts:List (Nat×AV)) (cs:List AV),zcm places parts cs K->∀p∈parts,∃x,places[p.1]?=some x
 | [],_,_=>fun p hp=>by cases hp
 | (i,x)::rest,cs,h=>fun p hp=>by
  rw[zcm] at h;(split at h);(·exact h.elim);(rename_i off size hpl);(rcases List.mem_cons.1 hp with e | hp);(·rw[e];exact ⟨_,hpl⟩);exact zf4 rest _ h.2.2.2 p hp
theorem zeT {A:Nat->Nat->Prop} {t:Nat} {parts:List (Nat×AV)} {us:Array (Nat×Value)} {K:AV->Prop} (hl:parts.length=us.size)
  (hpr:∀(i:Nat) (p:Nat×AV) (u:Nat×Value),parts[i]?=some p->us[i]?=some u->p.1=u.1/\Rp E A w p.2 u.2) (h:zeK P t parts K) :
  ∃r z,(Instr.build t us).run P w=.ok z w/\Rp E A w r z/\K r:=by
 unfold zeK at h;split at h
 case h_2=>exact h.elim
 (rename_i z pl hz hpl);unfold zao at hz
 cases hi:P.info? t with
 | none=>simp[hi] at hz
 | some inf =>
  cases hzz:inf.zero with
  | none=>simp[hi,hzz] at hz
  | some zv =>
   (simp[hi,hzz] at hz);subst hz;unfold zad at hpl;split at hpl
   case h_3=>cases hpl
   case h_2 =>
    rename_i n e hu
    cases hie:P.info? e with
    | none=>rw[hie] at hpl;cases hpl
    | some ie =>
     rw[hie] at hpl;simp only[Option.map_some,Option.some.injEq] at hpl;subst hpl
     obtain ⟨ds,cells,h3,h4,h5,h6⟩:=zbK (E:=E) (A:=A) (w:=w) (places:=(List.range n).map fun j=>(j * ie.size,ie.size)) (place:=fun i=>some (i * ie.size,ie.size)) parts us.toList (zv.cells.toList.map .v) zv.cells (fun cs=>K (.agg cs))
      (fun p hp=>by
       obtain ⟨x,hx⟩:=zf4 _ _ h p hp;rw[hx];simp only[List.getElem?_map] at hx
       cases hr:(List.range n)[p.1]? with
       | none=>rw[hr] at hx;cases hx
       | some j =>
        rw[hr] at hx;obtain ⟨hlt,hj⟩:=ze.1 hr;simp only[List.getElem_range] at hj;subst hj
        simpa using hx) (by simpa using hl)
      (fun i p u hp hu=>hpr i p u hp (by simpa using hu)) tz4 (fun i c u hc hu=>by
       simp only[List.getElem?_map,zn,hu,Option.map_some,Option.some.injEq] at hc
       subst hc;exact .v _) h
     refine ⟨.agg ds,.agg cells,?_,.agg h4 h5,h6⟩;simp only[Instr.build,zeroValue,typeInfo,Sem.run_bind,run_program,Result.andThen_ok,hi,hzz,Sem.run_pure,run_underlying hu,zbp hie,h3]
   rename_i fs hu
   have hplaces:∀(l:List Field) (pl:List (Nat×Nat)),l.mapM (fun f=>(P.info? f.type).map fun i=>(f.offset,i.size))=some pl ->
     (l.mapM (m:=Sem) fun f=>do pure (f.offset,<- sizeOf f.type)).run P w=.ok pl w:=by
    intro l
    induction l with
    | nil=>intro pl h;simp at h;subst h;simp
    | cons f l ih =>
     intro pl h;simp only[List.mapM_cons] at h
     cases hf:P.info? f.type with
     | none=>simp[hf] at h
     | some fi =>
      simp only[hf,Option.map_some,Option.bind_eq_bind,Option.bind_some] at h
      cases hm:l.mapM (fun f=>(P.info? f.type).map fun i=>(f.offset,i.size)) with
      | none=>simp[hm] at h
      | some pl' =>
       simp only[hm,Option.bind_some,Option.pure_def,Option.some.injEq] at h;subst h;simp only[List.mapM_cons,Sem.run_bind,ih pl' hm,zbp hf,Result.andThen_ok,Sem.run_pure]
   have h1:=hplaces fs.toList pl hpl
   have h2:(fs.mapM (m:=Sem) fun f=>do pure (f.offset,<- sizeOf f.type)).run P w=.ok pl.toArray w:=by
    rw[Array.mapM_eq_mapM_toList];simp only[<- bind_pure_comp,Sem.run_bind] at h1 ⊢;simp only[h1,Result.andThen_ok,Sem.run_pure]
   obtain ⟨ds,cells,h3,h4,h5,h6⟩:=zbK (E:=E) (A:=A) (w:=w) (places:=pl) (place:=fun i=>pl.toArray[i]?) parts us.toList (zv.cells.toList.map .v) zv.cells (fun cs=>K (.agg cs)) (fun _ _=>by simp) (by simpa using hl)
    (fun i p u hp hu=>hpr i p u hp (by simpa using hu)) tz4 (fun i c u hc hu=>by
     simp only[List.getElem?_map,zn,hu,Option.map_some,Option.some.injEq] at hc
     subst hc;exact .v _) h
   refine ⟨.agg ds,.agg cells,?_,.agg h4 h5,h6⟩;simp only[Instr.build,zeroValue,typeInfo,Sem.run_bind,run_program,Result.andThen_ok,hi,hzz,Sem.run_pure,run_underlying hu,h2,h3]
theorem zfk {A:Nat->Nat->Prop} {t off:Nat} {x:AV} {u:Value} {K:AV->Prop} (hx:Rp E A w x u) (h:aPart P t off x K) :
  ∃cs r z,u=.agg cs/\(part t cs off).run P w=.ok z w/\Rp E A w r z/\K r:=by
 unfold aPart at h;split at h
 case h_2=>exact h.elim
 (rename_i agg n cs ht);obtain ⟨hle,hk⟩:=h;obtain ⟨h1,h2,_⟩:=zaU ht
 cases hx with
 | @agg _ us hs hr =>
  cases agg with
  | true =>
   simp only[if_true] at hle hk;refine ⟨us,_,.agg (us.extract off (off+n)),rfl,by simp[part,h1,h2],.agg (cs:=(cs.drop off).take n) ?_ (fun i c y hc hy=>?_),hk⟩;(·simp;omega);obtain ⟨h3,h4⟩:=zaL cs off n i c hc;rw[Array.getElem?_extract] at hy;(split at hy);·exact hr _ c y h3 hy
   cases hy
  | false =>
   simp only[zf,if_false] at hle hk;have h3:us[off]?=some us[off]:=zo tz1
   have h4:(cs.drop off).take 1=[cs[off]]:=by
    rw[List.drop_eq_getElem_cons tz1];rfl
   rw[h4] at hk;exact ⟨us,_,us[off],rfl,by simp[part,h1,h3],hr off _ _ (zc tz1) h3,hk⟩
theorem zgg {A:Nat->Nat->Prop} (z:Value):Rp E A w (valAV z) z:=by
 cases z with
 | agg cs=>exact .agg tz4 (fun i c u hc hu=>by
   simp only[List.getElem?_map,zn,hu,Option.map_some,Option.some.injEq] at hc
   subst hc;exact .v _)
 | _=>exact .v _
theorem zba {A:Nat->Nat->Prop} (k:Int):∀(es:List (Int×AV)) (ents:List MapEntry) (n:Nat),ents.length=es.length ->
  (∀(i:Nat) (p:Int×AV) (e:MapEntry),es[i]?=some p->ents[i]?=some e->e.key=.int .i64 p.1/\Rp E A w p.2 e.val) ->
  (zch es k=none/\Instr.findNow (.int .i64) (.int .i64 k) ents n=some none/\∀p∈es,p.1≠k) \/
  ∃i x e,zch es k=some x/\Instr.findNow (.int .i64) (.int .i64 k) ents n=some (some (n+i,e.val))/\es[i]?=some (k,x)/\ents[i]?=some e/\Rp E A w x e.val/\∀j p,es[j]?=some p->j<i->p.1≠k
 | [],[],n,_,_=>.inl ⟨rfl,rfl,by simp⟩
 | (k',x)::es,e::ents,n,hl,h=>by
  obtain ⟨h1,h2⟩:=h 0 _ _ rfl rfl;simp only at h1 h2
  by_cases hk:k'=k
  ·subst hk
   refine .inr ⟨0,x,e,by simp[zch],?_,rfl,rfl,h2,fun j p _ hj=>by omega⟩;simp[Instr.findNow,Instr.sameNow,h1]
  (have hne:(k==k')=false:=by simp;exact fun h=>hk h.symm);have ih:=zba k es ents (n+1) (by simpa using hl) (fun i p e hp he=>h (i+1) p e (by simpa using hp) (by simpa using he));have e1:zch ((k',x)::es) k=zch es k:=by simp[zch,hk]
  have e2:Instr.findNow (.int .i64) (.int .i64 k) (e::ents) n=Instr.findNow (.int .i64) (.int .i64 k) ents (n+1):=by
   simp[Instr.findNow,Instr.sameNow,h1,hne]
  rw[e1,e2];rcases ih with ⟨h3,h4,h5⟩ | ⟨i,y,e',h3,h4,h5,h6,h7,h8⟩
  ·exact .inl ⟨h3,h4,fun p hp=>by
    (rcases List.mem_cons.1 hp with rfl | hp);·exact hk
    exact h5 p hp⟩
  refine .inr ⟨i+1,y,e',h3,by rw[h4];congr 3;omega,by simpa using h5,by simpa using h6,h7,fun j p hp hj=>?_⟩
  cases j with
  | zero=>simp at hp;subst hp;exact hk
  | succ j=>exact h8 j p (by simpa using hp) tz1
theorem ze5 {t:Nat} {z:Value} (h:mapZ P t=some z):∃k e i,P.underlying t=some (.map k e)/\P.underlying k=some (.int .i64)/\P.info? e=some i/\i.zero=some z:=by
 unfold mapZ at h;split at h
 ·rename_i k e hu
  split at h
  ·rename_i hk
   cases hi:P.info? e with
   | none=>simp[hi] at h
   | some i=>simp[hi] at h;exact ⟨k,e,i,hu,hk,hi,h⟩
  cases h
 cases h
theorem zcL {kt:Nat} (h:P.underlying kt=some (.int .i64)) (b:Bool) (n:Int):(Instr.checkKey b 10000 kt (.int .i64 n)).run P w=.ok () w:=by
 (have key:∀d,(Instr.checkKey b (d+1) kt (.int .i64 n)).run P w=.ok () w:=fun d=>by simp[Instr.checkKey,run_underlying h]);exact key 9999
theorem zec {t:Nat} {x i:AV} {ok:Bool} {u v:Value} {K:AV->Prop} (hos:OsOk A0 E os w) (hr:Rp E (AvX A0 E os) w x u) (hi:Rp E (AvX A0 E os) w i v) (h:zdg P t x i ok os K) :
  ∃y z,(Instr.lookup t u v ok).run P w=.ok z w/\Rp E (AvX A0 E os) w y z/\K y:=by
 unfold zdg at h;split at h
 case h_2=>exact h.elim
 (rename_i z id k hz);split at h
 case h_2=>exact h.elim
 (rename_i es hg);obtain ⟨hv,ents,clock,hh,hsz,hent,_⟩:=hos.ok id _ hg;obtain ⟨kt,et,inf,hu,hku,hinf,hzero⟩:=ze5 hz;(cases hr);(cases hi);(have hget:∀r,w.heap[r]?=some (.map ents clock)->(getObj r).run P w=.ok (.map ents clock) w:=fun r hr=>by simp[getObj,Sem.run,hr]);have hck:=zcL (w:=w) hku ents.isEmpty k;(have hzv:(zeroValue et).run P w=.ok z w:=by simp[zeroValue,typeInfo,hinf,hzero]);rcases zba (E:=E) (w:=w) k es ents.toList 0 (by simpa using hsz) (fun i p e hp he=>hent i p e hp (by simpa using he)) with ⟨h1,h2,_⟩ | ⟨i,y,e,h1,h2,h3,h4,h5,_⟩
 ·refine ⟨_,if ok then .tuple #[z,.bool false] else z,?_,?_,h⟩
  (·simp only[Instr.lookup,run_underlying hu,Sem.run_bind,Result.andThen_ok,hget _ hh,Sem.run_pure,hck,Instr.findKey,run_underlying hku,h2,hzv]);rw[h1];(cases ok);(·exact zgg z);refine .tup tz4 (fun i c u hc hu=>?_)
  match i with
  | 0=>simp at hc hu;subst hc;subst hu;exact zgg z
  | 1=>simp at hc hu;subst hc;subst hu;exact .v _
  | i+2=>simp at hc
 refine ⟨_,if ok then .tuple #[e.val,.bool true] else e.val,?_,?_,h⟩;(·simp only[Instr.lookup,run_underlying hu,Sem.run_bind,Result.andThen_ok,hget _ hh,Sem.run_pure,hck,Instr.findKey,run_underlying hku,h2]);rw[h1];(cases ok);(·exact h5);refine .tup tz4 (fun i c u hc hu=>?_)
 match i with
 | 0=>simp at hc hu;subst hc;subst hu;exact h5
 | 1=>simp at hc hu;subst hc;subst hu;exact .v _
 | i+2=>simp at hc
theorem zbP {t:Nat} (h:zdP P t=true):P.underlying t=some .string:=by
 unfold zdP at h;(split at h);(·assumption);cases h
theorem za4 {A:Nat->Nat->Prop} {lo:Option Operand} {ev:Operand->AV} {ρ:Operand->Value} (hr:∀y,Rp E A w (ev y) (ρ y)) {d:Nat} {l:Int} (h:zfQ d (lo.map ev)=some l) :
  (lo=none/\l=d)\/∃k y,lo=some y/\ρ y=.int k l:=by
 cases lo with
 | none=>simp[zfQ] at h;exact .inl ⟨rfl,h.symm⟩
 | some y =>
  have h1:=hr y;simp only[Option.map_some] at h;generalize ev y=z at h h1
  cases z with
  | v u=>cases u with
   | int k i =>
    (simp[zfQ] at h);subst h;(generalize hv:ρ y=v at h1);cases h1
    exact .inr ⟨k,y,rfl,hv⟩
   | _=>simp[zfQ] at h
  | _=>simp[zfQ] at h
theorem zak {isS:Bool} {n cap:Nat} {lo hi:Option Value} {l h:Int} (hl:(lo=none/\l=0)\/∃k,lo=some (.int k l)) (hh:(hi=none/\h=n)\/∃k,hi=some (.int k h)) (h0:0<=l) (h1:l<=h) (h2:h<=n) (h3:n<=cap) :
  (Instr.sliceBounds isS n cap lo hi none).run P w=.ok (l.toNat,h.toNat,cap) w:=by
 have hb:∀k c,(Instr.sliceBound (.int k h) cap c).run P w=.ok h.toNat w:=fun k c=>by simp[Instr.sliceBound,asIntOf,show 0<=h/\h<=cap by omega]
 have lb:∀k c,(Instr.sliceBound (.int k l) h.toNat c).run P w=.ok l.toNat w:=fun k c=>by
  simp only[Instr.sliceBound,asIntOf,Sem.run_bind,Sem.run_pure,Result.andThen_ok];rw[if_pos ⟨h0,by omega⟩];rfl
 rcases hh with ⟨rfl,rfl⟩ | ⟨k,rfl⟩
 ·clear hb lb
  have lb':∀k c,(Instr.sliceBound (.int k l) n c).run P w=.ok l.toNat w:=fun k c=>by
   simp only[Instr.sliceBound,asIntOf,Sem.run_bind,Sem.run_pure,Result.andThen_ok];rw[if_pos ⟨h0,by omega⟩];try rfl
  (rcases hl with ⟨rfl,rfl⟩ | ⟨k',rfl⟩);(·simp[Instr.sliceBounds]);simp[Instr.sliceBounds,lb']
 (rcases hl with ⟨rfl,rfl⟩ | ⟨k',rfl⟩);(·simp[Instr.sliceBounds,hb]);simp only[Instr.sliceBounds,hb,lb,Sem.run_bind,Sem.run_pure,Result.andThen_ok]
theorem Rp.cut {A:Nat->Nat->Prop} {sz:Nat} {xs:List (List AV)} {u:Value} (hx:Rp E A w (.sl sz xs) u) {l h:Nat} (h1:l<=h) (h2:h<=xs.length) :
  ∃a cap,u=.slice a xs.length cap/\xs.length<=cap/\Rp E A w (.sl sz ((xs.take h).drop l)) (.slice (if cap=l then a else a.map (·.add (l * sz))) (h-l) (cap-l)):=by
 cases hx with
 | @sl0 _ cap a hc =>
  (simp at h2);subst h2;(obtain rfl:l=0:=by omega);refine ⟨a,cap,rfl,by simp,?_⟩;simp only[List.take_nil,List.drop_nil,Nat.sub_self]
  exact .sl0 tz1
 | @sl _ _ b o n cap g hn hcap hc hsz hcell hr =>
  subst hn;refine ⟨_,cap,rfl,hcap,?_⟩;rcases Nat.lt_or_ge l h with hlt | hge
  ·rw[if_neg tz1]
   simp only[Option.map_some,zZ];have hmem:∀x∈(xs.take h).drop l,x.length=sz:=fun x hx=>hsz x (List.mem_of_mem_take (List.mem_of_mem_drop hx))
   have hget:∀j,j<((xs.take h).drop l).flatten.length->xs.flatten[l * sz+j]?=((xs.take h).drop l).flatten[j]?:=by
    intro j hj
    have e1:xs=xs.take l++((xs.take h).drop l++xs.drop h):=by
     rw[<- List.take_append_drop h xs]
     conv=>lhs;lhs;rw[<- List.take_append_drop l (xs.take h)]
     simp[List.take_take,Nat.min_eq_left h1,List.append_assoc,List.take_append,show l-h=0 by omega,List.length_take,Nat.min_eq_left h2]
    have hl:(xs.take l).flatten.length=l * sz:=by
     rw[zP sz _ (fun x hx=>hsz x (List.mem_of_mem_take hx)),List.length_take,Nat.min_eq_left tz1]
    conv=>lhs;rw[e1]
    rw[List.flatten_append,zp tz1,hl,Nat.add_sub_cancel_left,List.flatten_append,zl hj]
   refine .sl (fun j=>g (l * sz+j)) tz7 tz1 tz1 hmem (fun j hj=>?_) (fun j c hj=>?_)
   ·have h5:=hget j hj
    rw[zc hj] at h5;have:=hcell (l * sz+j) (ze.1 h5).1
    rwa [<- Nat.add_assoc] at this
   have h5:=(ze.1 hj).1;exact hr (l * sz+j) c ((hget j h5).trans hj)
  (have e0:(xs.take h).drop l=[]:=by rw[List.drop_eq_nil_iff];simp;omega);rw[e0,show h-l=0 by omega];exact .sl0 tz1
theorem zcT {o:Oper} {ev:Operand->AV} {ρ:Operand->Value} {K:AV->Prop} {A:Nat->Nat->Prop} (hr:∀y,Rp E A w (ev y) (ρ y)) (h:zc7 P o.op ev K) :
  ∃r z,(execOp ρ o).run P w=.ok (.value z) w/\Rp E A w r z/\K r:=by
 have wrap:∀(s:Sem Value),(∃r z,s.run P w=.ok z w/\Rp E A w r z/\K r) ->
   ∃r z,((do pure (.value (<- s))):Sem Next).run P w=.ok (.value z) w/\Rp E A w r z/\K r:=by
  rintro s ⟨r,z,h1,h2,h3⟩;exact ⟨r,z,by simp only[Sem.run_bind,h1,Result.andThen_ok,Sem.run_pure],h2,h3⟩
 obtain ⟨dst,op,ty,pos,after,guard⟩:=o;unfold zc7 at h;(split at h);(all_goals (try exact h.elim));all_goals (rename_i heq;simp only at heq;subst heq;simp only[execOp])
 ·rename_i t x lo hi
  refine wrap _ ?_;have hx:=hr x
  have conv:∀(v:Option Operand) (d:Nat) (l:Int),((v=none/\l=d)\/∃k y,v=some y/\ρ y=.int k l)->((v.map ρ=none/\l=d)\/∃k,v.map ρ=some (.int k l)):=by
   rintro v d l (⟨rfl,rfl⟩ | ⟨k,y,rfl,hy⟩);(·exact .inl ⟨rfl,rfl⟩);exact .inr ⟨k,by simp[hy]⟩
  have slc:∀(sz:Nat) (xs:List (List AV)) (l h:Int),zfQ 0 (lo.map ev)=some l->zfQ xs.length (hi.map ev)=some h->zaa P t=some sz->0<=l->l<=h->h<=(xs.length:Int)->Rp E A w (.sl sz xs) (ρ x) ->
    ∃z,(Instr.sliceAt t (ρ x) (lo.map ρ) (hi.map ρ) (Option.map ρ none)).run P w=.ok z w/\Rp E A w (.sl sz ((xs.take h.toNat).drop l.toNat)) z:=by
   intro sz xs l h hl hh he h0 h1 h2 hrx;obtain ⟨e,inf,hu,hinf,hsz⟩:=zaF he;obtain ⟨a,cap,hv,hcap,hres⟩:=hrx.cut (l:=l.toNat) (h:=h.toNat) tz1 tz1;have hb:=zak (P:=P) (w:=w) (isS:=true) (n:=xs.length) (cap:=cap) (conv lo 0 l (za4 hr hl)) (conv hi _ h (za4 hr hh)) h0 h1 h2 hcap;refine ⟨_,?_,hres⟩;simp only[Option.map_none];simp only[Instr.sliceAt,run_underlying hu,Sem.run_bind,Result.andThen_ok,Instr.slice,hv,hb,sizeOf,typeInfo,run_program,hinf,Sem.run_pure,hsz]
  unfold zbW at h;split at h
  ·split at h
   case h_2=>exact h.elim
   (rename_i heq _ _ _ _ hl hh);obtain ⟨he,h0,h1,h2,hk⟩:=h;rw[heq] at hx;obtain ⟨z,h3,h4⟩:=slc _ _ _ _ hl hh he h0 h1 h2 hx;exact ⟨_,z,h3,h4,hk⟩
  ·split at h
   case h_2=>exact h.elim
   (rename_i heq _ _ _ _ hl hh);obtain ⟨he,h0,h1,h2,hk⟩:=h;rw[heq] at hx;obtain ⟨z,h3,h4⟩:=slc _ _ _ _ hl hh he h0 h1 h2 (Le.osl _ _ _ _ _ _ _ hx);exact ⟨_,z,h3,h4,hk⟩
  ·split at h
   case h_2=>exact h.elim
   (rename_i s heq _ _ l h' hl hh);obtain ⟨he,h0,h1,h2,hk⟩:=h;rw[heq] at hx;have hu:=zbP he;have hb:=zak (P:=P) (w:=w) (isS:=false) (n:=s.size) (cap:=s.size) (conv lo 0 l (za4 hr hl)) (conv hi _ h' (za4 hr hh)) h0 h1 h2 (zh _);refine ⟨_,.string (s.extract l.toNat h'.toNat),?_,.v _,hk⟩;(generalize ρ x=v at hx);(cases hx);simp only[Option.map_none];simp[Instr.sliceAt,run_underlying hu,Instr.slice,hb]
  exact h.elim
 ·rename_i t x i
  refine wrap _ ?_;have hx:=hr x;have hi:=hr i;unfold zcy at h;split at h
  case h_2=>exact h.elim
  (rename_i s k n hx' hi');rw[hx'] at hx;rw[hi'] at hi;obtain ⟨he,h0,h1,hk⟩:=h;(generalize ρ x=v at hx);(generalize ρ i=v' at hi);(cases hx);(cases hi);have hu:=zbP he;(have hlt:n.toNat<s.size:=by omega);(have hget:s[n.toNat]?=some s[n.toNat]:=by simp[getElem?_def,hlt]);refine ⟨_,_,?_,.v _,hk⟩;simp[Instr.index,asIntOf,run_underlying hu,h0,hget]
 ·rename_i s t x
  refine wrap _ ?_;have hx:=hr x;unfold zgl at h;split at h
  case h_3=>exact h.elim
  ·rename_i k n k1 k2 hx' hs ht
   rw[hx'] at hx;(generalize ρ x=v at hx);(cases hx);refine ⟨_,_,?_,.v _,h⟩;simp[convert,run_underlying (zde hs),run_underlying (zde ht),Conv.intToInt]
  (rename_i k n k1 hx' hs ht);rw[hx'] at hx;(generalize ρ x=v at hx);(cases hx);obtain ⟨h1,h2⟩:=h;refine ⟨_,_,?_,.v _,h2⟩;simp[convert,run_underlying (zde hs),run_underlying (zbP h1),Conv.intToString]
 ·rename_i x y tys
  have hx:=hr x;have hy:=hr y;unfold zbf at h;split at h
  case h_2=>exact h.elim
  (rename_i k a k' b hx' hy');rw[hx'] at hx;rw[hy'] at hy;(have e1:ρ x=.int k a:=by generalize ρ x=v at hx;cases hx;rfl);(have e2:ρ y=.int k' b:=by generalize ρ y=v at hy;cases hy;rfl);refine ⟨_,.int k (min a b),?_,.v _,h⟩;simp only[resolve,Sem.run_bind,Sem.run_pure,Result.andThen_ok,invoke,builtin,List.map_toArray,zk,zi,e1,e2,Builtin.min_,Builtin.min2,List.foldlM_cons,List.foldlM_nil];(congr 3);rw[Int.min_def];split <;> split <;> omega
 (rename_i x y tys);have hx:=hr x;have hy:=hr y;unfold zbf at h;split at h
 case h_2=>exact h.elim
 (rename_i k a k' b hx' hy');rw[hx'] at hx;rw[hy'] at hy;(have e1:ρ x=.int k a:=by generalize ρ x=v at hx;cases hx;rfl);(have e2:ρ y=.int k' b:=by generalize ρ y=v at hy;cases hy;rfl);refine ⟨_,.int k (max a b),?_,.v _,h⟩;simp only[resolve,Sem.run_bind,Sem.run_pure,Result.andThen_ok,invoke,builtin,List.map_toArray,zk,zi,e1,e2,Builtin.max_,Builtin.max2,List.foldlM_cons,List.foldlM_nil];(congr 3);rw[Int.max_def];split <;> split <;> omega
theorem zcC {o:Oper} {ev:Operand->AV} {ρ:Operand->Value} {K:AV->Prop} (hos:OsOk A0 E os w) (hr:∀y,Rp E (AvX A0 E os) w (ev y) (ρ y)) (h:aVal P o ev os K) :
  ∃r z,(execOp ρ o).run P w=.ok (.value z) w/\Rp E (AvX A0 E os) w r z/\K r:=by
 have wrap:∀(s:Sem Value),(∃r z,s.run P w=.ok z w/\Rp E (AvX A0 E os) w r z/\K r) ->
   ∃r z,((do pure (.value (<- s))):Sem Next).run P w=.ok (.value z) w/\Rp E (AvX A0 E os) w r z/\K r:=by
  rintro s ⟨r,z,h1,h2,h3⟩;exact ⟨r,z,by simp only[Sem.run_bind,h1,Result.andThen_ok,Sem.run_pure],h2,h3⟩
 obtain ⟨dst,op,ty,pos,after,guard⟩:=o;unfold aVal at h;split at h
 case h_17=>exact zcT (o:=⟨dst,op,ty,pos,after,guard⟩) hr h
 (all_goals (try exact h.elim));(all_goals (rename_i heq;simp only at heq;subst heq;simp only[execOp]));(·exact ⟨_,_,by simp,hr _,h⟩);·exact ⟨_,_,by simp,hr _,h⟩
 ·rename_i c x y
  have hc:=hr c;unfold aBool at h;split at h
  ·rename_i b hb
   rw[hb] at hc;(generalize ρ c=v at hc ⊢);(cases hc);refine ⟨_,if b=true then ρ x else ρ y,by simp only[asBool,Sem.run_bind,Sem.run_pure,Result.andThen_ok],?_,h⟩;(cases b);(·exact hr y);exact hr x
  exact h.elim
 ·rename_i s x f
  obtain ⟨y,v,h1,h2,h3⟩:=zbu (hr x) h;exact wrap _ ⟨_,_,h1,h2,h3⟩
 ·rename_i s x f
  split at h
  case h_2=>exact h.elim
  (rename_i t off ht);obtain ⟨cs,r,z,h1,h2,h3,h4⟩:=zfk (hr x) h;refine wrap _ ⟨r,z,?_,h3,h4⟩;unfold zfj at ht;split at ht
  case h_2=>cases ht
  rename_i fs hu
  cases hf:fs[f]? with
  | none=>simp[hf] at ht
  | some fl =>
   (simp[hf] at ht);obtain ⟨rfl,rfl⟩:=ht;simp[Instr.field,run_underlying hu,hf,h1,asAgg,h2]
 ·rename_i t x
  obtain ⟨a,y,v,h1,h2,h3,h4⟩:=zbN hos (hr x) h;refine wrap _ ⟨y,v,?_,h3,h4⟩;simp only[Instr.loadAt,h1,Instr.sureAddr,Sem.run_bind,Sem.run_pure,Result.andThen_ok,h2]
 ·rename_i x
  have hx:=hr x;(split at h);(all_goals (try exact h.elim));(all_goals (rename_i he;rw[he] at hx;generalize ρ x=v at hx ⊢));(·cases hx with | ptr hv=>exact ⟨_,_,by simp,.ptr hv,h⟩);(·cases hx with | rptr hv hl hc=>exact ⟨_,_,by simp,.rptr hv hl hc,h⟩);(·cases hx with | eptr g hc hh=>exact ⟨_,_,by simp,.eptr g hc hh,h⟩);cases hx with | clo hs hh=>exact ⟨_,_,by simp,.clo hs hh,h⟩
 ·rename_i op t x y yt
  obtain ⟨r,z,h1,h2,h3⟩:=zdI (p:=x) (q:=y) (hr x) (hr y) h;exact wrap _ ⟨r,z,h1,h2,h3⟩
 ·rename_i op t x
  obtain ⟨r,z,h1,h2,h3⟩:=aUn_sound (hr x) h;exact wrap _ ⟨r,z,h1,h2,h3⟩
 ·rename_i t x i
  obtain ⟨r,z,h1,h2,h3⟩:=zd2 hos (hr x) (hr i) h;exact wrap _ ⟨r,z,h1,h2,h3⟩
 ·rename_i x i
  obtain ⟨r,z,h1,h2,h3⟩:=zdr (hr x) h;exact wrap _ ⟨r,z,h1,h2,h3⟩
 ·rename_i t parts
  obtain ⟨r,z,h1,h2,h3⟩:=zeT (us:=parts.map fun (i,x)=>(i,ρ x)) tz4 (fun i p u hp hu=>by
   simp only[List.getElem?_map,zn,Array.getElem?_map] at hp hu
   cases hq:parts[i]? with
   | none=>simp[hq] at hp
   | some q =>
    simp only[hq,Option.map_some,Option.some.injEq] at hp hu;subst hp;subst hu
    exact ⟨rfl,hr _⟩) h
  exact wrap _ ⟨r,z,h1,h2,h3⟩
 ·rename_i t x i ok
  obtain ⟨r,z,h1,h2,h3⟩:=zec hos (hr x) (hr i) h;exact wrap _ ⟨r,z,h1,h2,h3⟩
 ·rename_i f caps
  have hk:=h;refine wrap _ ⟨_,.func (.func f) #[] (caps.map ρ),by simp[Instr.makeFunc],.clo tz4 (fun i c u hc hu=>?_),hk⟩;simp only[List.getElem?_map,zn,Array.getElem?_map] at hc hu
  cases hq:caps[i]? with
  | none=>simp[hq] at hc
  | some q =>
   simp only[hq,Option.map_some,Option.some.injEq] at hc hu;subst hc;subst hu;exact hr _
 ·rename_i f x0 l0
  have hk:=h;refine wrap _ ⟨_,.func (.func f) ((x0::l0).toArray.map ρ) #[],by simp[Instr.makeFunc],.mth tz4 (fun i c u hc hu=>?_),hk⟩;simp only[List.getElem?_map,Array.getElem?_map,List.getElem?_toArray] at hc hu
  cases hq:(x0::l0)[i]? with
  | none=>simp[hq] at hc
  | some q =>
   simp only[hq,Option.map_some,Option.some.injEq] at hc hu;subst hc;subst hu;exact hr _
 (rename_i x t);obtain ⟨r,z,h1,h2,h3⟩:=zfE (ty:=ty) hos (hr x) h;refine ⟨r,z,?_,h2,h3⟩;simp only[resolve,Sem.run_bind,Sem.run_pure,Result.andThen_ok,invoke,builtin,List.map_toArray,zk,zi,h1]
end
end Go.Proofs.YtkokfdmggdhfmaaGreatDoor
