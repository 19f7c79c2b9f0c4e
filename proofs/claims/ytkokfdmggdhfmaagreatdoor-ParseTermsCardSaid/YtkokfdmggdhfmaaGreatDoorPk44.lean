/- packed, part 44 of 45. Conditions: none. -/
import Derived.Test.YtkokfdmggdhfmaaGreatDoorPk43
import Derived.Shelf.LaysM
import Derived.Shelf.LaysC
import Derived.Shelf.Strconv.AtoiAll
import Derived.Shelf.Strconv.ErrVarAll
import Derived.Test.YtkokfdmggdhfmaaGreatDoorProg
import Derived.Lib.AtoiErrMem
set_option linter.unusedVariables false
set_option linter.unusedSimpArgs false
set_option maxRecDepth 100000
set_option maxHeartbeats 4000000
set_option linter.unnecessarySimpa false
namespace Go.Proofs.YtkokfdmggdhfmaaGreatDoor
open Go Go.Shelf
def Tryz.laysC172_ren:Go.Shelf.Ren:=⟨fun | 172=>93 | 244=>136 | 245=>137 | 247=>178 | 279=>179 | 280=>180 | 281=>181 | 282=>182 | 287=>201 | 316=>202 | 171=>100 | 205=>203 | 321=>218 | 322=>219 | 243=>144 | 246=>184 | 283=>205 | 284=>206 | 285=>207 | 286=>208 | 129=>221 | 317=>220 | 318=>222 | 319=>223 | 320=>224 | 337=>230 | 338=>231 | n=>n,fun | 9=>9 | 3=>3 | 75=>91 | 76=>92 | 4=>4 | 5=>5 | 167=>217 | 37=>46 | 0=>0 | 85=>218 | 2=>2 | 168=>220 | 53=>238 | 175=>239 | 46=>205 | 210=>243 | 127=>144 | 145=>256 | 143=>254 | 21=>21 | 171=>245 | 173=>248 | 212=>258 | 51=>176 | 20=>20 | 213=>259 | 232=>269 | 233=>270 | 80=>95 | n=>n,fun | 15=>3 | 16=>4 | 17=>5 | 18=>6 | 19=>7 | n=>n⟩
theorem Tryz.laysC172:Go.Proofs.LaysC.n172 Tryz.prog Tryz.laysC172_ren:={
 mixed:=by kernel_rfl
 f129:=Tryz.func221.trans (congrArg some tz0)
 f171:=Tryz.func100.trans (congrArg some tz0)
 f172:=Tryz.func93.trans (congrArg some tz0)
 f205:=Tryz.func203.trans (congrArg some tz0)
 f243:=Tryz.func144.trans (congrArg some tz0)
 f244:=Tryz.func136.trans (congrArg some tz0)
 f245:=Tryz.func137.trans (congrArg some tz0)
 f246:=Tryz.func184.trans (congrArg some tz0)
 f247:=Tryz.func178.trans (congrArg some tz0)
 f279:=Tryz.func179.trans (congrArg some tz0)
 f280:=Tryz.func180.trans (congrArg some tz0)
 f281:=Tryz.func181.trans (congrArg some tz0)
 f282:=Tryz.func182.trans (congrArg some tz0)
 f283:=Tryz.func205.trans (congrArg some tz0)
 f284:=Tryz.func206.trans (congrArg some tz0)
 f285:=Tryz.func207.trans (congrArg some tz0)
 f286:=Tryz.func208.trans (congrArg some tz0)
 f287:=Tryz.func201.trans (congrArg some tz0)
 f316:=Tryz.func202.trans (congrArg some tz0)
 f317:=Tryz.func220.trans (congrArg some tz0)
 f318:=Tryz.func222.trans (congrArg some tz0)
 f319:=Tryz.func223.trans (congrArg some tz0)
 f320:=Tryz.func224.trans (congrArg some tz0)
 f321:=Tryz.func218.trans (congrArg some tz0)
 f322:=Tryz.func219.trans (congrArg some tz0)
 f337:=Tryz.func230.trans (congrArg some tz0)
 f338:=Tryz.func231.trans (congrArg some tz0)
 t0:=Tryz.underlying0
 a0:=Tryz.isAgg0
 z0:=Tryz.sizeOf0
 v0:=Tryz.zeroValue0
 t2:=Tryz.underlying2
 a2:=Tryz.isAgg2
 z2:=Tryz.sizeOf2
 v2:=Tryz.zeroValue2
 t3:=Tryz.underlying3
 a3:=Tryz.isAgg3
 z3:=Tryz.sizeOf3
 v3:=Tryz.zeroValue3
 t4:=Tryz.underlying4
 a4:=Tryz.isAgg4
 z4:=Tryz.sizeOf4
 v4:=Tryz.zeroValue4
 t5:=Tryz.underlying5
 a5:=Tryz.isAgg5
 z5:=Tryz.sizeOf5
 v5:=Tryz.zeroValue5
 t9:=Tryz.underlying9
 a9:=Tryz.isAgg9
 z9:=Tryz.sizeOf9
 v9:=Tryz.zeroValue9
 t20:=Tryz.underlying20
 a20:=Tryz.isAgg20
 z20:=Tryz.sizeOf20
 v20:=Tryz.zeroValue20
 t21:=Tryz.underlying21
 a21:=Tryz.isAgg21
 z21:=Tryz.sizeOf21
 v21:=Tryz.zeroValue21
 t37:=Tryz.underlying46
 a37:=Tryz.isAgg46
 z37:=Tryz.sizeOf46
 v37:=Tryz.zeroValue46
 t46:=Tryz.underlying205
 a46:=Tryz.isAgg205
 z46:=Tryz.sizeOf205
 v46:=Tryz.zeroValue205
 t51:=Tryz.underlying176
 a51:=Tryz.isAgg176
 z51:=Tryz.sizeOf176
 v51:=Tryz.zeroValue176
 t53:=Tryz.underlying238
 a53:=Tryz.isAgg238
 z53:=Tryz.sizeOf238
 v53:=Tryz.zeroValue238
 t75:=Tryz.underlying91
 a75:=Tryz.isAgg91
 z75:=Tryz.sizeOf91
 v75:=Tryz.zeroValue91
 t76:=Tryz.underlying92
 a76:=Tryz.isAgg92
 z76:=Tryz.sizeOf92
 v76:=Tryz.zeroValue92
 t85:=Tryz.underlying218
 a85:=Tryz.isAgg218
 z85:=Tryz.sizeOf218
 v85:=Tryz.zeroValue218
 t127:=Tryz.underlying144
 a127:=Tryz.isAgg144
 z127:=Tryz.sizeOf144
 v127:=Tryz.zeroValue144
 t143:=Tryz.underlying254
 a143:=Tryz.isAgg254
 z143:=Tryz.sizeOf254
 v143:=Tryz.zeroValue254
 t145:=Tryz.underlying256
 a145:=Tryz.isAgg256
 z145:=Tryz.sizeOf256
 v145:=Tryz.zeroValue256
 t167:=Tryz.underlying217
 a167:=Tryz.isAgg217
 z167:=Tryz.sizeOf217
 v167:=Tryz.zeroValue217
 t168:=Tryz.underlying220
 a168:=Tryz.isAgg220
 z168:=Tryz.sizeOf220
 v168:=Tryz.zeroValue220
 t171:=Tryz.underlying245
 a171:=Tryz.isAgg245
 z171:=Tryz.sizeOf245
 v171:=Tryz.zeroValue245
 t173:=Tryz.underlying248
 a173:=Tryz.isAgg248
 z173:=Tryz.sizeOf248
 v173:=Tryz.zeroValue248
 t175:=Tryz.underlying239
 a175:=Tryz.isAgg239
 z175:=Tryz.sizeOf239
 v175:=Tryz.zeroValue239
 t210:=Tryz.underlying243
 a210:=Tryz.isAgg243
 z210:=Tryz.sizeOf243
 v210:=Tryz.zeroValue243
 t212:=Tryz.underlying258
 a212:=Tryz.isAgg258
 z212:=Tryz.sizeOf258
 v212:=Tryz.zeroValue258
 t213:=Tryz.underlying259
 a213:=Tryz.isAgg259
 z213:=Tryz.sizeOf259
 t232:=Tryz.underlying269
 a232:=Tryz.isAgg269
 z232:=Tryz.sizeOf269
 v232:=Tryz.zeroValue269
 t233:=Tryz.underlying270
 a233:=Tryz.isAgg270
 z233:=Tryz.sizeOf270
 v233:=Tryz.zeroValue270
 g15:=by kernel_rfl
 g16:=by kernel_rfl
 g17:=by kernel_rfl
 g18:=by kernel_rfl
 g19:=by kernel_rfl
 t80:=Tryz.underlying95
 a80:=Tryz.isAgg95
 z80:=Tryz.sizeOf95
 v80:=Tryz.zeroValue95
 i0:=by kernel_rfl
 i2:=by kernel_rfl
 i3:=by kernel_rfl
 i4:=by kernel_rfl
 i5:=by kernel_rfl
 i9:=by kernel_rfl
 i20:=by kernel_rfl
 i21:=by kernel_rfl
 i37:=by kernel_rfl
 i46:=by kernel_rfl
 i51:=by kernel_rfl
 i53:=by kernel_rfl
 i75:=by kernel_rfl
 i76:=by kernel_rfl
 i80:=by kernel_rfl
 i85:=by kernel_rfl
 i127:=by kernel_rfl
 i143:=by kernel_rfl
 i145:=by kernel_rfl
 i167:=by kernel_rfl
 i168:=by kernel_rfl
 i171:=by kernel_rfl
 i173:=by kernel_rfl
 i175:=by kernel_rfl
 i210:=by kernel_rfl
 i212:=by kernel_rfl
 i232:=by kernel_rfl
 i233:=by kernel_rfl
 m15:=by kernel_rfl
 m16:=by kernel_rfl
 m17:=by kernel_rfl
 m18:=by kernel_rfl
 m19:=by kernel_rfl
 c0:=by kernel_rfl
 c2:=by kernel_rfl
 c3:=by kernel_rfl
 c4:=by kernel_rfl
 c5:=by kernel_rfl
 c9:=by kernel_rfl
 c20:=by kernel_rfl
 c21:=by kernel_rfl
 c37:=by kernel_rfl
 c46:=by kernel_rfl
 c51:=by kernel_rfl
 c53:=by kernel_rfl
 c75:=by kernel_rfl
 c76:=by kernel_rfl
 c80:=by kernel_rfl
 c85:=by kernel_rfl
 c127:=by kernel_rfl
 c143:=by kernel_rfl
 c145:=by kernel_rfl
 c167:=by kernel_rfl
 c168:=by kernel_rfl
 c171:=by kernel_rfl
 c173:=by kernel_rfl
 c175:=by kernel_rfl
 c210:=by kernel_rfl
 c212:=by kernel_rfl
 c213:=by kernel_rfl
 c232:=by kernel_rfl
 c233:=by kernel_rfl}
open Go.RowKit in
theorem Tryz.strconv_Atoi_ok (s:ByteArray) (hmax:s.size<=9223372036854775806) (v:Int) (h:Lib.atoiAll s.data.toList=.ok v) (w:World) :
  Calls Tryz.prog 93 #[.string s] w fun e w'=>e=.returned (.tuple #[.int .i64 v,.nilIface])/\(w'=w\/∃t,w'=Lib.bytesWorld w 5 t):=Any.strconv_Atoi_ok Tryz.laysC172 s hmax v h w
end Go.Proofs.YtkokfdmggdhfmaaGreatDoor
namespace Go.Proofs.YtkokfdmggdhfmaaGreatDoor
open Go Go.RowKit
attribute [local irreducible] aops zX
theorem zeV (s:ByteArray) (hs:s.size<=1048576) (v:Int) (h:Lib.atoiAll (bl s)=.ok v):APure Tryz.prog 93 [.v (.string s)] (.tup [.v (.int .i64 v),.v .nilIface]):=by
 refine APure.ofCalls ⟨_,Tryz.func93,by kernel_rfl,by kernel_rfl⟩ (.cons (.v _) .nil) (.tup (.cons (.v _) (.cons (.v _) .nil))) fun E A w vs hgl hA hr=>?_;obtain ⟨u,rfl,h1⟩:=hr.one;(cases h1);refine (Tryz.strconv_Atoi_ok s tz1 v h w).mono ?_;rintro e w' ⟨rfl,hw⟩;refine ⟨_,rfl,?_,.tup rfl fun i c u hc hu=>?_⟩
 ·rcases hw with rfl | ⟨t,rfl⟩
  (·exact Below.refl _ _);exact Lib.bytesWorld_below w _ _
 match i,hc,hu with
 | 0,hc,hu=>cases hc;cases hu;exact .v _
 | 1,hc,hu=>cases hc;cases hu;exact .v _
theorem kind_g (l:List Tok) (m:Int) (i:Nat) (k:Int) (hl:l.length<=1048576):∃(j:Nat) (w:Tok) (b:Bool),QCalls 164 [.ptr 0 0,.v (.int .i64 k)] l m i 0 (.tup [.agg w.cells,.v (.bool b)]) j 0/\(kdT l i k=true/\b=true/\w=tk l i/\j=i+1\/kdT l i k=false/\b=false/\i=j):=by
 cases h:kdT l i k with
 | true=>exact ⟨_,_,_,zgf l m i 0 k hl h,.inl ⟨rfl,rfl,rfl,rfl⟩⟩
 | false=>exact ⟨_,_,_,kind_no l m i 0 k hl h,.inr ⟨rfl,rfl,rfl⟩⟩
def atP (k:Int) (s:ByteArray) (n:Int) (p:Int×Int):Pt:=(tm k s n [] p,p)
theorem zeB (k:Int) (s:ByteArray) (n a b:Int):Le (.agg [.v (.int .i64 k),.v (.string s),.v (.int .i64 n),.v (.int .i64 0),.v (.int .i64 0),.v (.slice none 0 0),.v (.slice none 0 0),.v (.int .i64 a),.v (.int .i64 b),.v (.int .i64 a),.v (.int .i64 b)]) (.agg (zr (atP k s n (a,b)))) :=
 Le.agg ⟨.refl _,.refl _,.refl _,.refl _,.refl _,Le.slNil 3,Le.slNil 9,.refl _,.refl _,.refl _,.refl _,trivial⟩
def zd6 (l:List Tok):Prop:=∀i,kdT l i 2=true->numS (tk l i).s
theorem atom_q (l:List Tok) (m:Int) (f i:Nat) (n:Int) (hl:l.length<=100000) (hG:zd6 l) (hP:PxOk l m f) (hR:ROk l m f) (hb:beg l i=true) (hf:l.length-i<=f) (h3:-1000000<=n) (h4:n+(l.length-i:Nat)<=700000):QEx 217 [.ptr 0 0,.v (.int .i64 n)] l m (i) (0) (atR (rx l m f) l m i n):=by
  (generalize hr:atR (rx l m f) l m i n=r);(have hl':l.length<=1048576:=by omega);(have hw:IntKind.i64.wrap (n+1)=n+1:=by (rw[zI tz1 tz1]));have hi:=beg_lt hb;obtain ⟨j1,w1,b1,hK1,hk1⟩:=kind_g l m i 1 hl';obtain ⟨j2,w2,b2,hK2,hk2⟩:=kind_g l m i 2 hl';refine ACalls.clean (C:=EXC l m r) ?_;refine aIn Tryz.func217 fun hm=>?_;simp only[Tryz.ntmps217,Tryz.results217,go_sem,seval];refine sqR fun _ u=>?_;simp only[↓bO,go_sem,seval,Tok.cells,qC,zr,List.take,List.drop,zx,hw];apply u;refine sqR fun _ u=>?_;(iterate 3 (refine chS 1 ?_ (by intro _ q;simp only[↓bO,go_sem,seval,Tok.cells,qC,zr,List.take,List.drop,zx,hw];exact q)));refine zq 1 fun _ y=>?_;simp only[↓bO,go_sem,seval,Tok.cells,qC,zr,List.take,List.drop,zx,hw];refine QCalls.at (k:=0) (zf3 l m i 0 hl') ?_ (.agg (.cons (.v _) (.cons (.v _) .nil))) rfl tz2 ?_;(· exact ⟨.ptr rfl,trivial⟩);simp only[zQ,Nat.reduceEqDiff,↓reduceIte];apply y;clear y;refine chS 1 ?_ (by intro _ q;simp only[↓bO,go_sem,seval,Tok.cells,qC,zr,List.take,List.drop,zx,hw];exact q);simp only[↓bO,go_sem,seval,Tok.cells,qC,zr,List.take,List.drop,zx,hw];apply u;refine sqR fun _ u=>?_;(iterate 3 (refine chS 1 ?_ (by intro _ q;simp only[↓bO,go_sem,seval,Tok.cells,qC,zr,List.take,List.drop,zx,hw];exact q)));simp only[↓bO,go_sem,seval,Tok.cells,qC,zr,List.take,List.drop,zx,hw];apply u;refine zu fun _ u=>?_;refine sqR fun _ w=>?_;(iterate 3 (refine chS 1 ?_ (by intro _ q;simp only[↓bO,go_sem,seval,Tok.cells,qC,zr,List.take,List.drop,zx,hw];exact q)));simp only[↓bO,go_sem,seval,Tok.cells,qC,zr,List.take,List.drop,zx,hw];refine QCalls.at (k:=0) (zbh l m i 0 4 bOpen hl') ?_ (.v _) rfl tz2 ?_;(· exact ⟨.ptr rfl,.v _,.v _,trivial⟩);simp only[zQ,Nat.reduceEqDiff,↓reduceIte];apply w;apply zt rfl <;> intro hb20
  ·
   have a0:isT l (i:Int) 4 bOpen=true:=hb20;simp only[a0,if_true];rw[at_open a0] at hr;subst hr;refine sqR fun _ w=>?_;(iterate 4 (refine chS 1 ?_ (by intro _ q;simp only[↓bO,go_sem,seval,Tok.cells,qC,zr,List.take,List.drop,zx,hw];exact q)));refine zq 1 fun _ y=>?_;simp only[↓bO,go_sem,seval,Tok.cells,qC,zr,List.take,List.drop,zx,hw];refine QEx.at (k:=0) (inner_q l m f i n hl hP hR hi hf h3 h4) ?_ rfl tz2 ?_;(· exact ⟨.ptr rfl,.v _,.data (.agg (.cons (.v _) (.cons (.v _) .nil))),trivial⟩);intro q hq;simp only[zr,zQ,Nat.reduceEqDiff,↓reduceIte];apply y;clear y;simp only[↓bO,go_sem,seval,Tok.cells,qC,zr,List.take,List.drop,zx,hw];apply w;apply zw;(try simp only[zD,zB,zz,zW,zU,zL,bS,bA,zK,zJ,zS,bL,Nat.reduceAdd,Nat.reduceLeDiff,Nat.reduceEqDiff,↓reduceIte,zae,tyX,Tok.cells,zd,qC,zr,List.take,List.drop,zx,hw]);refine ⟨_,_,⟨q,?_,rfl,rfl⟩,.data (.agg (zH _)),zap tz1 _ _ _ _,?_,?_,by omega⟩;(· exact hq);(· exact Le.refl _);first | exact ⟨0,rfl,rfl⟩ | exact ⟨1,rfl,rfl⟩ | exact ⟨2,rfl,rfl⟩ | exact ⟨3,rfl,rfl⟩ | exact ⟨4,rfl,rfl⟩ | exact ⟨5,rfl,rfl⟩ | exact ⟨6,rfl,rfl⟩ | exact ⟨7,rfl,rfl⟩ | exact ⟨8,rfl,rfl⟩ | exact ⟨9,rfl,rfl⟩
  have a0:isT l (i:Int) 4 bOpen=false:=hb20;simp only[a0,zf,if_false];apply zy;apply u;refine zu fun _ u=>?_;refine sqR fun _ w=>?_;(iterate 3 (refine chS 1 ?_ (by intro _ q;simp only[↓bO,go_sem,seval,Tok.cells,qC,zr,List.take,List.drop,zx,hw];exact q)));refine zq 1 fun _ y=>?_;simp only[↓bO,go_sem,seval,Tok.cells,qC,zr,List.take,List.drop,zx,hw];refine QCalls.at (k:=0) hK1 ?_ (.tup (.cons (zbt _) (.cons (.v _) .nil))) rfl tz2 ?_;(· exact ⟨.ptr rfl,.v _,trivial⟩);simp only[zQ,Nat.reduceEqDiff,↓reduceIte];(iterate 5 (apply y;clear y;refine zq 1 fun _ y=>?_;simp only[↓bO,go_sem,seval,Tok.cells,qC,zr,List.take,List.drop,zx,hw]));apply y;clear y;simp only[↓bO,go_sem,seval,Tok.cells,qC,zr,List.take,List.drop,zx,hw];apply w;refine sqR fun _ w=>?_;simp only[↓bO,go_sem,seval,Tok.cells,qC,zr,List.take,List.drop,zx,hw];apply w;apply zt rfl <;> intro hb33
  ·
   (obtain ⟨a1,rfl,rfl,rfl⟩:=hk1.resolve_right fun h=>by simp[h.2.1] at hb33);refine zu fun _ w=>?_;refine z6 [] 6 rfl mixed (trivial) rfl ?_;dsimp only;refine tkK 0 rfl fun _ y=>?_;simp only[↓bO,go_sem,seval,Tok.cells,qC,zr,List.take,List.drop,zx,hw];apply y;clear y;refine tkK 2 rfl fun _ y=>?_;simp only[↓bO,go_sem,seval,Tok.cells,qC,zr,List.take,List.drop,zx,hw];apply y;clear y;refine al2 (i:=1) (j:=3) ?_ ?_
   ·
    refine opT fun _ y=>?_;simp only[↓bO,go_sem,seval,Tok.cells,qC,zr,List.take,List.drop,zx,hw];refine y _ ⟨trivial,?_⟩;clear y;refine al1 (i:=3) ?_;refine opT fun _ y=>?_;simp only[↓bO,go_sem,seval,Tok.cells,qC,zr,List.take,List.drop,zx,hw];refine y _ ⟨trivial,?_⟩;clear y;refine tkK 4 rfl fun _ y=>?_;simp only[↓bO,go_sem,seval,Tok.cells,qC,zr,List.take,List.drop,zx,hw];apply y;clear y;refine al1 (i:=5) ?_;refine opT fun _ y=>?_;simp only[↓bO,go_sem,seval,Tok.cells,qC,zr,List.take,List.drop,zx,hw];refine y _ ⟨trivial,?_⟩;clear y;refine dnA ?_;apply w;refine sqR fun _ w=>?_;(iterate 3 (refine chS 1 ?_ (by intro _ q;simp only[↓bO,go_sem,seval,Tok.cells,qC,zr,List.take,List.drop,zx,hw];exact q)));simp only[↓bO,go_sem,seval,Tok.cells,qC,zr,List.take,List.drop,zx,hw];apply w;apply zw;(try simp only[zD,zB,zz,zW,zU,zL,bS,bA,zK,zJ,zS,bL,Nat.reduceAdd,Nat.reduceLeDiff,Nat.reduceEqDiff,↓reduceIte,zae,tyX,Tok.cells,zd,qC,zr,List.take,List.drop,zx,hw]);rw[at_name a1] at hr;subst hr;refine ⟨_,_,⟨atP 1 (tk l i).s 0 (sp l i),?_,rfl,rfl⟩,.data (.agg (zH _)),zap tz1 _ _ _ _,?_,?_,by omega⟩;(· exact fun _=>rfl);(· exact zeB _ _ _ _ _);first | exact ⟨0,rfl,rfl⟩ | exact ⟨1,rfl,rfl⟩ | exact ⟨2,rfl,rfl⟩ | exact ⟨3,rfl,rfl⟩ | exact ⟨4,rfl,rfl⟩ | exact ⟨5,rfl,rfl⟩ | exact ⟨6,rfl,rfl⟩ | exact ⟨7,rfl,rfl⟩ | exact ⟨8,rfl,rfl⟩ | exact ⟨9,rfl,rfl⟩
   refine opT fun _ y=>?_;simp only[↓bO,go_sem,seval,Tok.cells,qC,zr,List.take,List.drop,zx,hw];refine y _ ⟨trivial,?_⟩;clear y;refine al1 (i:=1) ?_;refine opT fun _ y=>?_;simp only[↓bO,go_sem,seval,Tok.cells,qC,zr,List.take,List.drop,zx,hw];refine y _ ⟨trivial,?_⟩;clear y;refine tkK 4 rfl fun _ y=>?_;simp only[↓bO,go_sem,seval,Tok.cells,qC,zr,List.take,List.drop,zx,hw];apply y;clear y;refine al1 (i:=5) ?_;refine opT fun _ y=>?_;simp only[↓bO,go_sem,seval,Tok.cells,qC,zr,List.take,List.drop,zx,hw];refine y _ ⟨trivial,?_⟩;clear y;refine dnA ?_;apply w;refine sqR fun _ w=>?_;(iterate 3 (refine chS 1 ?_ (by intro _ q;simp only[↓bO,go_sem,seval,Tok.cells,qC,zr,List.take,List.drop,zx,hw];exact q)));simp only[↓bO,go_sem,seval,Tok.cells,qC,zr,List.take,List.drop,zx,hw];apply w;apply zw;(try simp only[zD,zB,zz,zW,zU,zL,bS,bA,zK,zJ,zS,bL,Nat.reduceAdd,Nat.reduceLeDiff,Nat.reduceEqDiff,↓reduceIte,zae,tyX,Tok.cells,zd,qC,zr,List.take,List.drop,zx,hw]);rw[at_name a1] at hr;subst hr;refine ⟨_,_,⟨atP 1 (tk l i).s 0 (sp l i),?_,rfl,rfl⟩,.data (.agg (zH _)),zap tz1 _ _ _ _,?_,?_,by omega⟩;(· exact fun _=>rfl);(· exact zeB _ _ _ _ _);first | exact ⟨0,rfl,rfl⟩ | exact ⟨1,rfl,rfl⟩ | exact ⟨2,rfl,rfl⟩ | exact ⟨3,rfl,rfl⟩ | exact ⟨4,rfl,rfl⟩ | exact ⟨5,rfl,rfl⟩ | exact ⟨6,rfl,rfl⟩ | exact ⟨7,rfl,rfl⟩ | exact ⟨8,rfl,rfl⟩ | exact ⟨9,rfl,rfl⟩
  (obtain ⟨a1,rfl,rfl⟩:=hk1.resolve_left fun h=>by simp[h.2.1] at hb33);apply zy;apply u;refine zu fun _ u=>?_;refine sqR fun _ w=>?_;(iterate 3 (refine chS 1 ?_ (by intro _ q;simp only[↓bO,go_sem,seval,Tok.cells,qC,zr,List.take,List.drop,zx,hw];exact q)));refine zq 1 fun _ y=>?_;simp only[↓bO,go_sem,seval,Tok.cells,qC,zr,List.take,List.drop,zx,hw];refine QCalls.at (k:=0) hK2 ?_ (.tup (.cons (zbt _) (.cons (.v _) .nil))) rfl tz2 ?_;(· exact ⟨.ptr rfl,.v _,trivial⟩);simp only[zQ,Nat.reduceEqDiff,↓reduceIte];(iterate 5 (apply y;clear y;refine zq 1 fun _ y=>?_;simp only[↓bO,go_sem,seval,Tok.cells,qC,zr,List.take,List.drop,zx,hw]));apply y;clear y;simp only[↓bO,go_sem,seval,Tok.cells,qC,zr,List.take,List.drop,zx,hw];apply w;refine sqR fun _ w=>?_;simp only[↓bO,go_sem,seval,Tok.cells,qC,zr,List.take,List.drop,zx,hw];apply w;apply zt rfl <;> intro hb48
  ·
   (obtain ⟨a2,rfl,rfl,rfl⟩:=hk2.resolve_right fun h=>by simp[h.2.1] at hb48);refine sqR fun _ w=>?_;refine chS 1 ?_ (by intro _ q;simp only[↓bO,go_sem,seval,Tok.cells,qC,zr,List.take,List.drop,zx,hw];exact q);simp only[↓bO,go_sem,seval,Tok.cells,qC,zr,List.take,List.drop,zx,hw];apply w;refine sqR fun _ w=>?_;(iterate 2 (refine chS 1 ?_ (by intro _ q;simp only[↓bO,go_sem,seval,Tok.cells,qC,zr,List.take,List.drop,zx,hw];exact q)));refine zq 1 fun _ y=>?_;simp only[↓bO,go_sem,seval,Tok.cells,qC,zr,List.take,List.drop,zx,hw];refine APure.call (zeV (tk l i).s (by have:=(hG i a2).2.1;unfold bl at this;simp only[Array.length_toList] at this;show (tk l i).s.data.size<=1048576;omega) (nmV (tk l i).s) (num_atoi (hG i a2)).1) ?_;(iterate 4 (apply y;clear y;refine zq 1 fun _ y=>?_;simp only[↓bO,go_sem,seval,Tok.cells,qC,zr,List.take,List.drop,zx,hw]));apply y;clear y;simp only[↓bO,go_sem,seval,Tok.cells,qC,zr,List.take,List.drop,zx,hw];apply w;refine sqR fun _ w=>?_;(iterate 3 (refine chS 1 ?_ (by intro _ q;simp only[↓bO,go_sem,seval,Tok.cells,qC,zr,List.take,List.drop,zx,hw];exact q)));simp only[↓bO,go_sem,seval,Tok.cells,qC,zr,List.take,List.drop,zx,hw];apply w;apply zw;(try simp only[zD,zB,zz,zW,zU,zL,bS,bA,zK,zJ,zS,bL,Nat.reduceAdd,Nat.reduceLeDiff,Nat.reduceEqDiff,↓reduceIte,zae,tyX,Tok.cells,zd,qC,zr,List.take,List.drop,zx,hw]);rw[at_num a2] at hr;subst hr;refine ⟨_,_,⟨atP 2 ByteArray.empty (nmV (tk l i).s) (sp l i),?_,rfl,rfl⟩,.data (.agg (zH _)),zap tz1 _ _ _ _,?_,?_,by omega⟩;(· exact fun _=>rfl);(· exact zeB _ _ _ _ _);first | exact ⟨0,rfl,rfl⟩ | exact ⟨1,rfl,rfl⟩ | exact ⟨2,rfl,rfl⟩ | exact ⟨3,rfl,rfl⟩ | exact ⟨4,rfl,rfl⟩ | exact ⟨5,rfl,rfl⟩ | exact ⟨6,rfl,rfl⟩ | exact ⟨7,rfl,rfl⟩ | exact ⟨8,rfl,rfl⟩ | exact ⟨9,rfl,rfl⟩
  (obtain ⟨a2,rfl,rfl⟩:=hk2.resolve_left fun h=>by simp[h.2.1] at hb48);apply zy;apply u;refine sqR fun _ u=>?_;refine chS 1 ?_ (by intro _ q;simp only[↓bO,go_sem,seval,Tok.cells,qC,zr,List.take,List.drop,zx,hw];exact q);simp only[↓bO,go_sem,seval,Tok.cells,qC,zr,List.take,List.drop,zx,hw];apply u;refine zu fun _ u=>?_;refine sqR fun _ w=>?_;(iterate 3 (refine chS 1 ?_ (by intro _ q;simp only[↓bO,go_sem,seval,Tok.cells,qC,zr,List.take,List.drop,zx,hw];exact q)));simp only[↓bO,go_sem,seval,Tok.cells,qC,zr,List.take,List.drop,zx,hw];refine QCalls.at (k:=0) (zbh l m i 0 3 zeI hl') ?_ (.v _) rfl tz2 ?_;(· exact ⟨.ptr rfl,.v _,.v _,trivial⟩);simp only[zQ,Nat.reduceEqDiff,↓reduceIte];apply w;apply zt rfl <;> intro hb64
  ·
   have a3:isT l (i:Int) 3 zeI=true:=hb64;simp only[a3,if_true];apply zA;refine chS 1 ?_ (by intro _ q;simp only[↓bO,go_sem,seval,Tok.cells,qC,zr,List.take,List.drop,zx,hw];exact q);simp only[↓bO,go_sem,seval,Tok.cells,qC,zr,List.take,List.drop,zx,hw];apply u;refine sqR fun _ u=>?_;(iterate 3 (refine chS 1 ?_ (by intro _ q;simp only[↓bO,go_sem,seval,Tok.cells,qC,zr,List.take,List.drop,zx,hw];exact q)));simp only[↓bO,go_sem,seval,Tok.cells,qC,zr,List.take,List.drop,zx,hw];apply u;apply zw;(try simp only[zD,zB,zz,zW,zU,zL,bS,bA,zK,zJ,zS,bL,Nat.reduceAdd,Nat.reduceLeDiff,Nat.reduceEqDiff,↓reduceIte,zae,tyX,Tok.cells,zd,qC,zr,List.take,List.drop,zx,hw]);rw[at_true a3] at hr;subst hr;refine ⟨_,_,⟨atP 3 ByteArray.empty 1 (sp l i),?_,rfl,rfl⟩,.data (.agg (zH _)),zap tz1 _ _ _ _,?_,?_,by omega⟩;(· exact fun _=>rfl);(· exact zeB _ _ _ _ _);first | exact ⟨0,rfl,rfl⟩ | exact ⟨1,rfl,rfl⟩ | exact ⟨2,rfl,rfl⟩ | exact ⟨3,rfl,rfl⟩ | exact ⟨4,rfl,rfl⟩ | exact ⟨5,rfl,rfl⟩ | exact ⟨6,rfl,rfl⟩ | exact ⟨7,rfl,rfl⟩ | exact ⟨8,rfl,rfl⟩ | exact ⟨9,rfl,rfl⟩
  have a3:isT l (i:Int) 3 zeI=false:=hb64;simp only[a3,zf,if_false];have a4:=beg_last hb a1 a2 a3 a0;apply zA;refine chS 1 ?_ (by intro _ q;simp only[↓bO,go_sem,seval,Tok.cells,qC,zr,List.take,List.drop,zx,hw];exact q);simp only[↓bO,go_sem,seval,Tok.cells,qC,zr,List.take,List.drop,zx,hw];obtain ⟨j5,d5,hW,hw5⟩:=zbZ l m i 0 3 bFalse hl'
  obtain ⟨rfl,rfl⟩:j5=i+1/\d5=0:=by
   (rcases hw5 with ⟨_,a,b,c⟩ | ⟨_,a,_⟩ | ⟨a,_⟩);(· exact ⟨b,c⟩);(· rw[a4] at a;exact absurd a tz4);exact absurd rfl a
  refine QCalls.at (k:=0) hW ?_ (.tup .nil) rfl tz2 ?_;(· exact ⟨.ptr rfl,.v _,.v _,trivial⟩);simp only[zQ,Nat.reduceEqDiff,↓reduceIte];apply u;refine sqR fun _ u=>?_;(iterate 3 (refine chS 1 ?_ (by intro _ q;simp only[↓bO,go_sem,seval,Tok.cells,qC,zr,List.take,List.drop,zx,hw];exact q)));simp only[↓bO,go_sem,seval,Tok.cells,qC,zr,List.take,List.drop,zx,hw];apply u;apply zw;(try simp only[zD,zB,zz,zW,zU,zL,bS,bA,zK,zJ,zS,bL,Nat.reduceAdd,Nat.reduceLeDiff,Nat.reduceEqDiff,↓reduceIte,zae,tyX,Tok.cells,zd,qC,zr,List.take,List.drop,zx,hw]);rw[at_false a4] at hr;subst hr;refine ⟨_,_,⟨atP 3 ByteArray.empty 0 (sp l i),?_,rfl,rfl⟩,.data (.agg (zH _)),zap tz1 _ _ _ _,?_,?_,by omega⟩;(· exact fun _=>rfl);(· exact zeB _ _ _ _ _);first | exact ⟨0,rfl,rfl⟩ | exact ⟨1,rfl,rfl⟩ | exact ⟨2,rfl,rfl⟩ | exact ⟨3,rfl,rfl⟩ | exact ⟨4,rfl,rfl⟩ | exact ⟨5,rfl,rfl⟩ | exact ⟨6,rfl,rfl⟩ | exact ⟨7,rfl,rfl⟩ | exact ⟨8,rfl,rfl⟩ | exact ⟨9,rfl,rfl⟩
theorem px_bad (l:List Tok) (m:Int) (i:Nat) (n e:Int) (he:¬e=0):QEx 163 [.ptr 0 0,.v (.int .i64 n)] l m (i) (e) (wr i e):=by
  refine ACalls.clean (C:=EXC l m (wr i e)) ?_;refine aIn Tryz.func163 fun hm=>?_;simp only[Tryz.ntmps163,Tryz.results163,go_sem,seval];refine sqR fun _ y=>?_;simp only[↓bO,go_sem,seval,Tok.cells,qC,zr,List.take,List.drop,zx];apply y;refine zu fun _ y=>?_;refine sqR fun _ u=>?_;(iterate 4 (refine chS 1 ?_ (by intro _ q;simp only[↓bO,go_sem,seval,Tok.cells,qC,zr,List.take,List.drop,zx];exact q)));simp only[↓bO,go_sem,seval,Tok.cells,qC,zr,List.take,List.drop,zx];apply u;apply zt rfl <;> intro hb9
  ·
   refine sqR fun _ u=>?_;refine chS 1 ?_ (by intro _ q;simp only[↓bO,go_sem,seval,Tok.cells,qC,zr,List.take,List.drop,zx];exact q);simp only[↓bO,go_sem,seval,Tok.cells,qC,zr,List.take,List.drop,zx];apply u;apply zw;(try simp only[zD,zB,zz,zW,zU,zL,bS,bA,zK,zJ,zS,bL,Nat.reduceAdd,Nat.reduceLeDiff,Nat.reduceEqDiff,↓reduceIte,zae,tyX,Tok.cells,zd,qC,zr,List.take,List.drop,zx]);refine ⟨_,_,⟨zPt,?_,rfl,rfl⟩,.data (.agg (zH _)),zap tz1 _ _ _ _,?_,?_,by omega⟩;(· exact fun h=>absurd h he);(· exact zeF);first | exact ⟨0,rfl,rfl⟩ | exact ⟨1,rfl,rfl⟩ | exact ⟨2,rfl,rfl⟩ | exact ⟨3,rfl,rfl⟩ | exact ⟨4,rfl,rfl⟩ | exact ⟨5,rfl,rfl⟩ | exact ⟨6,rfl,rfl⟩ | exact ⟨7,rfl,rfl⟩ | exact ⟨8,rfl,rfl⟩ | exact ⟨9,rfl,rfl⟩
  exact absurd hb9 (by simp[he])
theorem px_all {l:List Tok} (m:Int) (hl:l.length<=100000) (hG:zd6 l):∀f,PxOk l m f
 | 0=>fun i n e h1 h2 h3 h4=>by
  by_cases he:e=0
  (·exact absurd (h1 he) tz1);rw[show exS (rx l m 0) i n e=wr i e from if_neg he]
  exact px_bad l m i n e he
 | f+1=>px_step tz1 (px_all m hl hG f) fun i n hb h1 h2 h3=>atom_q l m f i n hl hG (px_all m hl hG f) (zfJ l m f) hb h1 h2 h3
section
variable {l:List Tok} {m:Int}
abbrev rxX (l:List Tok) (m:Int):Rdx:=rx l m (l.length+1) 0 1
theorem zcp (h:¬(rxX l m).e=0):rxW l m=(zTm,(rxX l m).i,(rxX l m).e):=if_neg h
theorem zbF (h:(rxX l m).e=0) (h2:kdT l (rxX l m).i 0=false):rxW l m=(zTm,(rxX l m).i,3):=by
 unfold rxW;rw[if_pos h,if_neg (by rw[h2];simp)]
theorem zcz (h:(rxX l m).e=0) (h2:kdT l (rxX l m).i 0=true):rxW l m=((rxX l m).t,(rxX l m).i+1,0):=by
 unfold rxW;rw[if_pos h,if_pos h2]
theorem rxW_zero (h:(rxW l m).2.2=0):(rxX l m).e=0/\(rxW l m).1=(rxX l m).t:=by
 by_cases he:(rxX l m).e=0
 ·cases h2:kdT l (rxX l m).i 0 with
  | true=>rw[zcz he h2];exact ⟨he,rfl⟩
  | false=>rw[zbF he h2] at h;exact absurd (show (3:Int)=0 from h) tz3
 rw[zcp he] at h;exact absurd h he
theorem rxW_none (h:¬(rxW l m).2.2=0):(rxW l m).1=zTm:=by
 by_cases he:(rxX l m).e=0
 ·cases h2:kdT l (rxX l m).i 0 with
  | true=>rw[zcz he h2] at h;exact absurd rfl h
  | false=>rw[zbF he h2]
 rw[zcp he]
def rwA (l:List Tok) (m:Int):AV:=.tup [.agg (rxW l m).1.cells,.v (.int .i64 ((rxW l m).2.1:Nat)),.v (.int .i64 (rxW l m).2.2)]
theorem zdZ (l:List Tok) (m:Int):Data (rwA l m):=.tup (.cons (Tm.dataAgg _) (.cons (.v _) (.cons (.v _) .nil)))
end
theorem whole_q (l:List Tok) (m:Int) (hl:l.length<=100000) (hG:zd6 l):QCalls 111 [.ptr 0 0] l m (0) (0) (rwA l m) ((rxW l m).2.1) ((rxW l m).2.2):=by
  refine ACalls.clean (C:=fun r os'=>r=_/\os'=_) ?_;refine aIn Tryz.func111 fun hm=>?_;simp only[Tryz.ntmps111,Tryz.results111,go_sem,seval];(have hl':l.length<=1048576:=by omega);have hok:=zfJ l m (l.length+1) 0 1 (Nat.zero_le _);refine sqR fun _ u=>?_;(iterate 2 (refine chS 1 ?_ (by intro _ q;simp only[↓bO,go_sem,seval,Tok.cells,qC,zr,List.take,List.drop,zx];exact q)));simp only[↓bO,go_sem,seval,Tok.cells,qC,zr,List.take,List.drop,zx];apply u;refine sqR fun _ u=>?_;refine chS 1 ?_ (by intro _ q;simp only[↓bO,go_sem,seval,Tok.cells,qC,zr,List.take,List.drop,zx];exact q);refine zq 1 fun _ y=>?_;simp only[↓bO,go_sem,seval,Tok.cells,qC,zr,List.take,List.drop,zx];refine QEx.at (k:=0) ((px_all m hl hG (l.length+1)).zero (i:=0) (n:=1) tz1 tz1 tz1 tz1) ?_ rfl tz2 ?_;(· exact ⟨.ptr rfl,.v _,trivial⟩);intro p hp;simp only[zr,zQ,Nat.reduceEqDiff,↓reduceIte];apply y;clear y;refine chS 1 ?_ (by intro _ q;simp only[↓bO,go_sem,seval,Tok.cells,qC,zr,List.take,List.drop,zx];exact q);simp only[↓bO,go_sem,seval,Tok.cells,qC,zr,List.take,List.drop,zx];apply u;refine AWp_joinZ (mB 48 37) ([]) [(2,.cells 197 (zr p)),(1,.cells 58 [.v (.int .i64 0),.v (.string ByteArray.empty),.v (.int .i64 0),.v (.int .i64 0),.v (.int .i64 0),.v (.slice none 0 0),.v (.slice none 0 0),.v (.int .i64 0),.v (.int .i64 0)]),(0,.cells 159 (qC l (rxW l m).2.1 m (rxW l m).2.2))] 3 (True) ?_ (fun hC=>?_)
  ·
   refine sqR fun _ u=>?_;(iterate 4 (refine chS 1 ?_ (by intro _ q;simp only[↓bO,go_sem,seval,Tok.cells,qC,zr,List.take,List.drop,zx];exact q)));simp only[↓bO,go_sem,seval,Tok.cells,qC,zr,List.take,List.drop,zx];apply u;apply zt rfl <;> intro hb14
   ·
    (have he:(rxX l m).e=0:=by simpa using hb14);obtain ⟨j1,w1,b1,hK1,hk1⟩:=kind_g l m (rxX l m).i 0 hl';refine sqR fun _ u=>?_;(iterate 3 (refine chS 1 ?_ (by intro _ q;simp only[↓bO,go_sem,seval,Tok.cells,qC,zr,List.take,List.drop,zx];exact q)));refine zq 1 fun _ y=>?_;simp only[↓bO,go_sem,seval,Tok.cells,qC,zr,List.take,List.drop,zx];refine QCalls.at (k:=0) (show QCalls 164 [.ptr 0 0,.v (.int .i64 0)] l m (rxX l m).i (rxX l m).e (.tup [.agg w1.cells,.v (.bool b1)]) j1 0 from by rw[he];exact hK1) ?_ (.tup (.cons (zbt _) (.cons (.v _) .nil))) rfl tz2 ?_;(· exact ⟨.ptr rfl,.v _,trivial⟩);simp only[zQ,Nat.reduceEqDiff,↓reduceIte];(iterate 5 (apply y;clear y;refine zq 1 fun _ y=>?_;simp only[↓bO,go_sem,seval,Tok.cells,qC,zr,List.take,List.drop,zx]));apply y;clear y;simp only[↓bO,go_sem,seval,Tok.cells,qC,zr,List.take,List.drop,zx];apply u;refine sqR fun _ u=>?_;refine chS 1 ?_ (by intro _ q;simp only[↓bO,go_sem,seval,Tok.cells,qC,zr,List.take,List.drop,zx];exact q);simp only[↓bO,go_sem,seval,Tok.cells,qC,zr,List.take,List.drop,zx];apply u;apply zt rfl <;> intro hb23
    ·
     (obtain ⟨a1,rfl,rfl⟩:=hk1.resolve_left fun h=>by simp[h.2.1] at hb23);apply zA;refine chS 1 ?_ (by intro _ q;simp only[↓bO,go_sem,seval,Tok.cells,qC,zr,List.take,List.drop,zx];exact q);simp only[↓bO,go_sem,seval,Tok.cells,qC,zr,List.take,List.drop,zx];refine QCalls.at (k:=0) (zbM l m (rxX l m).i 0 3) ?_ (.tup .nil) rfl tz2 ?_;(· exact ⟨.ptr rfl,.v _,trivial⟩);simp only[zQ,Nat.reduceEqDiff,↓reduceIte];(try simp only[go_sem]);(try simp only[go_sem,seval]);(first | refine ⟨trivial,?_⟩ | skip);(first | rw[zcp he] | rw[zbF he a1] | rw[zcz he a1]);(first | (refine Weak.drops 3 3 rfl rfl tz5 tz5 ?_ ?_ ?_) | (refine Weak.drops 2 3 rfl rfl tz5 tz5 ?_ ?_ ?_) | (refine Weak.drops 1 3 rfl rfl tz5 tz5 ?_ ?_ ?_) | (refine Weak.drops 0 3 rfl rfl tz5 tz5 ?_ ?_ ?_));(· simp only[go_sem,Le.refl,Le.any]);(· exact clz5);exact clz6
    (obtain ⟨a1,rfl,rfl,rfl⟩:=hk1.resolve_right fun h=>by simp[h.2.1] at hb23);apply zy;(try simp only[go_sem]);(try simp only[go_sem,seval]);(first | refine ⟨trivial,?_⟩ | skip);(first | rw[zcp he] | rw[zbF he a1] | rw[zcz he a1]);(first | (refine Weak.drops 3 3 rfl rfl tz5 tz5 ?_ ?_ ?_) | (refine Weak.drops 2 3 rfl rfl tz5 tz5 ?_ ?_ ?_) | (refine Weak.drops 1 3 rfl rfl tz5 tz5 ?_ ?_ ?_) | (refine Weak.drops 0 3 rfl rfl tz5 tz5 ?_ ?_ ?_));(· simp only[go_sem,Le.refl,Le.any]);(· exact clz5);exact clz6
   (have he:¬(rxX l m).e=0:=by simpa using hb14);apply zy;(try simp only[go_sem]);(try simp only[go_sem,seval]);(first | refine ⟨trivial,?_⟩ | skip);(first | rw[zcp he] | rw[zbF he a1] | rw[zcz he a1]);(first | (refine Weak.drops 3 3 rfl rfl tz5 tz5 ?_ ?_ ?_) | (refine Weak.drops 2 3 rfl rfl tz5 tz5 ?_ ?_ ?_) | (refine Weak.drops 1 3 rfl rfl tz5 tz5 ?_ ?_ ?_) | (refine Weak.drops 0 3 rfl rfl tz5 tz5 ?_ ?_ ?_));(· simp only[go_sem,Le.refl,Le.any]);(· exact clz5);exact clz6
  simp only[go_sem,seval];refine zu fun _ u=>?_;refine sqR fun _ w=>?_;(iterate 4 (refine chS 1 ?_ (by intro _ q;simp only[↓bO,go_sem,seval,Tok.cells,qC,zr,List.take,List.drop,zx];exact q)));simp only[↓bO,go_sem,seval,Tok.cells,qC,zr,List.take,List.drop,zx];apply w;apply zt rfl <;> intro hb30
  ·
   (have he2:¬(rxW l m).2.2=0:=by simpa using hb30);refine zu fun _ w=>?_;refine z6 [(0,1,[.v (.int .i64 ((rxW l m).2.1:Nat))]),(0,3,[.v (.int .i64 (rxW l m).2.2)])] 13 rfl mixed (tz8) rfl ?_;dsimp only;refine tkK 1 rfl fun _ y=>?_;simp only[↓bO,go_sem,seval,Tok.cells,qC,zr,List.take,List.drop,zx];apply y;clear y;refine tkK 2 rfl fun _ y=>?_;simp only[↓bO,go_sem,seval,Tok.cells,qC,zr,List.take,List.drop,zx];apply y;clear y;refine tkK 3 rfl fun _ y=>?_;simp only[↓bO,go_sem,seval,Tok.cells,qC,zr,List.take,List.drop,zx];apply y;clear y;refine tkK 4 rfl fun _ y=>?_;simp only[↓bO,go_sem,seval,Tok.cells,qC,zr,List.take,List.drop,zx];apply y;clear y;refine tkL 5 0 rfl rfl fun _ y=>?_;simp only[↓bO,go_sem,seval,Tok.cells,qC,zr,List.take,List.drop,zx];apply y;clear y;refine tkK 6 rfl fun _ y=>?_;simp only[↓bO,go_sem,seval,Tok.cells,qC,zr,List.take,List.drop,zx];apply y;clear y;refine tkK 7 rfl fun _ y=>?_;simp only[↓bO,go_sem,seval,Tok.cells,qC,zr,List.take,List.drop,zx];apply y;clear y;refine tkK 8 rfl fun _ y=>?_;simp only[↓bO,go_sem,seval,Tok.cells,qC,zr,List.take,List.drop,zx];apply y;clear y;refine tkL 9 1 rfl rfl fun _ y=>?_;simp only[↓bO,go_sem,seval,Tok.cells,qC,zr,List.take,List.drop,zx];apply y;clear y;refine al1 (i:=0) ?_;refine opT fun _ y=>?_;simp only[↓bO,go_sem,seval,Tok.cells,qC,zr,List.take,List.drop,zx];refine y _ ⟨tz8,?_⟩;clear y;refine al1 (i:=10) ?_;refine opT fun _ y=>?_;simp only[↓bO,go_sem,seval,Tok.cells,qC,zr,List.take,List.drop,zx];refine y _ ⟨tz8,?_⟩;clear y;refine tkK 11 rfl fun _ y=>?_;simp only[↓bO,go_sem,seval,Tok.cells,qC,zr,List.take,List.drop,zx];apply y;clear y;refine tkK 12 rfl fun _ y=>?_;simp only[↓bO,go_sem,seval,Tok.cells,qC,zr,List.take,List.drop,zx];apply y;clear y;refine dnA ?_;apply w;apply zw;(try simp only[zD,zB,zz,zW,zU,zL,bS,bA,zK,zJ,zS,bL,Nat.reduceAdd,Nat.reduceLeDiff,Nat.reduceEqDiff,↓reduceIte,zcF,tyX,Tok.cells,zd,qC,zr,List.take,List.drop,zx]);have hres:=rxW_none he2;unfold rwA;rw[hres];refine ⟨_,_,⟨rfl,rfl⟩,.data (.tup (.cons (Tm.dataAgg _) (.cons (.v _) (.cons (.v _) .nil)))),zap tz1 _ _ _ _,?_,?_,by omega⟩;(· first | exact Le.tup ⟨zbg,.refl _,.refl _,trivial⟩ | (rw[Tm.cells_eq,he2];exact Le.refl _));first | exact ⟨0,rfl,rfl⟩ | exact ⟨1,rfl,rfl⟩ | exact ⟨2,rfl,rfl⟩ | exact ⟨3,rfl,rfl⟩
  (have he2:(rxW l m).2.2=0:=by simpa using hb30);apply zy;apply u;refine zu fun _ u=>?_;refine z6 [(0,1,[.v (.int .i64 ((rxW l m).2.1:Nat))])] 10 rfl mixed (tz9) rfl ?_;dsimp only;refine tkK 0 rfl fun _ y=>?_;simp only[↓bO,go_sem,seval,Tok.cells,qC,zr,List.take,List.drop,zx];apply y;clear y;refine tkK 2 rfl fun _ y=>?_;simp only[↓bO,go_sem,seval,Tok.cells,qC,zr,List.take,List.drop,zx];apply y;clear y;refine tkK 3 rfl fun _ y=>?_;simp only[↓bO,go_sem,seval,Tok.cells,qC,zr,List.take,List.drop,zx];apply y;clear y;refine tkK 4 rfl fun _ y=>?_;simp only[↓bO,go_sem,seval,Tok.cells,qC,zr,List.take,List.drop,zx];apply y;clear y;refine tkK 5 rfl fun _ y=>?_;simp only[↓bO,go_sem,seval,Tok.cells,qC,zr,List.take,List.drop,zx];apply y;clear y;refine tkL 6 0 rfl rfl fun _ y=>?_;simp only[↓bO,go_sem,seval,Tok.cells,qC,zr,List.take,List.drop,zx];apply y;clear y;refine al1 (i:=1) ?_;refine opT fun _ y=>?_;simp only[↓bO,go_sem,seval,Tok.cells,qC,zr,List.take,List.drop,zx];refine y _ ⟨tz9,?_⟩;clear y;refine al1 (i:=7) ?_;refine opT fun _ y=>?_;simp only[↓bO,go_sem,seval,Tok.cells,qC,zr,List.take,List.drop,zx];refine y _ ⟨tz9,?_⟩;clear y;refine tkK 8 rfl fun _ y=>?_;simp only[↓bO,go_sem,seval,Tok.cells,qC,zr,List.take,List.drop,zx];apply y;clear y;refine tkK 9 rfl fun _ y=>?_;simp only[↓bO,go_sem,seval,Tok.cells,qC,zr,List.take,List.drop,zx];apply y;clear y;refine dnA ?_;apply u;apply zw;(try simp only[zD,zB,zz,zW,zU,zL,bS,bA,zK,zJ,zS,bL,Nat.reduceAdd,Nat.reduceLeDiff,Nat.reduceEqDiff,↓reduceIte,zcF,tyX,Tok.cells,zd,qC,zr,List.take,List.drop,zx]);obtain ⟨he,hres⟩:=rxW_zero he2;unfold rwA;rw[hres,hp he];refine ⟨_,_,⟨rfl,rfl⟩,.data (.tup (.cons (Tm.dataAgg _) (.cons (.v _) (.cons (.v _) .nil)))),zap tz1 _ _ _ _,?_,?_,by omega⟩;(· first | exact Le.tup ⟨zbg,.refl _,.refl _,trivial⟩ | (rw[Tm.cells_eq,he2];exact Le.refl _));first | exact ⟨0,rfl,rfl⟩ | exact ⟨1,rfl,rfl⟩ | exact ⟨2,rfl,rfl⟩ | exact ⟨3,rfl,rfl⟩
theorem zeG (l:List Tok) (m:Int) (hl:l.length<=100000) (hG:zd6 l):APure Tryz.prog 74 [.sl 4 (l.map Tok.cells),.v (.int .i64 m)] (rwA l m):=by
 refine APure.mkL (.cons (Tok.dataSl l) (.cons (.v _) .nil)) (zdZ l m) ?_;refine aIn Tryz.func74 fun hm=>?_;simp only[Tryz.ntmps74,Tryz.results74,go_sem,seval];refine sqR fun _ u=>?_;(iterate 2 (refine chS 1 ?_ (by intro _ q;simp only[↓bO,go_sem,seval,Tok.cells,qC];exact q)));simp only[↓bO,go_sem,seval,Tok.cells,qC];apply u;refine sqR fun _ u=>?_;(iterate 5 (refine chS 1 ?_ (by intro _ q;simp only[↓bO,go_sem,seval,Tok.cells,qC];exact q)));simp only[↓bO,go_sem,seval,Tok.cells,qC];apply u;refine sqR fun _ u=>?_;refine chS 1 ?_ (by intro _ q;simp only[↓bO,go_sem,seval,Tok.cells,qC];exact q);refine zq 1 fun _ y=>?_;simp only[↓bO,go_sem,seval,Tok.cells,qC];refine QCalls.at (k:=1) (whole_q l m hl hG) ?_ (zdZ l m) rfl tz2 ?_;(·exact ⟨.ptr rfl,trivial⟩);simp only[rwA,Tm.cells_eq (rxW l m).1,zQ,Nat.reduceEqDiff,↓reduceIte];(iterate 5 (apply y;clear y;refine zq 1 fun _ y=>?_;simp only[↓bO,go_sem,seval,Tok.cells,qC]));apply y;clear y;simp only[↓bO,go_sem,seval,Tok.cells,qC];apply u;apply zw;(try simp only[zD,zB,zz,zW,zU,zL,bS,bA,zK,zJ,zS,bL,Nat.reduceAdd,Nat.reduceLeDiff,Nat.reduceEqDiff,↓reduceIte,zcF,tyX,Tok.cells,zd,qC]);first | exact Le.refl _ | (unfold rwA;rw[Tm.cells_eq];exact Le.refl _)
end Go.Proofs.YtkokfdmggdhfmaaGreatDoor
namespace Go.Proofs.YtkokfdmggdhfmaaGreatDoor
open Go Go.RowKit
theorem run_all {s:ByteArray} {i:Nat} {p:Int->Bool}:∀c∈bl (s.extract i (i+zax s i p)),p c.toNat=true:=by
 intro c hc
 have h1:bl (s.extract i (i+zax s i p))=((bl s).drop i).takeWhile fun b=>p b.toNat:=by
  have h2:=List.prefix_iff_eq_take.1 (List.takeWhile_prefix (l:=(bl s).drop i) (fun b=>p b.toNat));rw[h2];simp only[bl,ByteArray.data_extract,Array.toList_extract,List.extract_eq_take_drop];(congr 1);unfold zax;omega
 rw[h1] at hc;have h3:=List.all_takeWhile (l:=(bl s).drop i) (p:=fun b=>p b.toNat);exact List.all_eq_true.1 h3 c hc
def TkGd (t:Tok):Prop:=t.k=2->numS t.s
theorem tkOf_gd {s:ByteArray} {i:Nat} (hi:i<s.size) (h:(nxF s i).2.2=0):TkGd (tkOf s i):=by
 intro hk;have hk2:(nxF s i).1=2:=hk
 by_cases h1:smI (bt s i)=true
 ·rw[zan h1 rfl] at hk2
  (split at hk2);(·exact absurd (show (3:Int)=2 from hk2) tz3);(split at hk2);(·exact absurd (show (0:Int)=2 from hk2) tz3);exact absurd (show (1:Int)=2 from hk2) tz3
 by_cases h2:dgI (bt s i)=true
 ·have hx:=zaY (by simpa using h1) h2 (rfl:zax s i dgI=zax s i dgI)
  have hp:=zaK hi h2;have hl:=zaN s i dgI tz1
  by_cases h3:(1<zax s i dgI/\bt s i=48)\/(i+zax s i dgI<s.size/\inI (bt s (i+zax s i dgI))=true)
  ·rw[if_pos h3] at hx
   rw[hx] at h;exact absurd (show (3:Int)=0 from h) tz3
  rw[if_neg h3] at hx
  by_cases h4:9<zax s i dgI
  ·rw[if_pos h4] at hx
   rw[hx] at h;exact absurd (show (2:Int)=0 from h) tz3
  rw[if_neg h4] at hx;(have hs:(tkOf s i).s=s.extract i (i+zax s i dgI):=by unfold tkOf;rw[hx]);rw[hs];(have hsz:(bl (s.extract i (i+zax s i dgI))).length=zax s i dgI:=by rw[zfT,ex_size s tz1 hl];omega);refine ⟨fun e=>?_,by omega,fun c hc=>?_⟩
  ·rw[e] at hsz
   (simp at hsz);omega
  have h9:=run_all c hc;unfold dgI at h9;(simp at h9);omega
 unfold nxF at hk2;rw[if_neg h1,if_neg h2] at hk2;(split at hk2);(·exact absurd hk2 tz3);split at hk2 <;> exact absurd hk2 tz3
theorem zdk (s:ByteArray):∀(f i:Nat) (out:List Tok),i<=s.size->out.length<=i->(∀t∈out,TkGd t)->(∀t∈(wdF s f i out).1,TkGd t)/\(wdF s f i out).1.length<=s.size+1
 | 0,i,out,hi,ho,hg=>⟨fun t ht=>absurd ht (by simp[wdF]),by simp[wdF]⟩
 | f+1,i,out,hi,ho,hg=>by
  unfold wdF
  by_cases h1:i<s.size
  ·rw[if_pos h1]
   by_cases h2:blI (bt s i)=true
   ·rw[if_pos h2]
    exact zdk s f (i+1) out tz1 tz1 hg
   rw[if_neg h2]
   by_cases h3:bt s i=35
   ·rw[if_pos h3]
    exact zdk s f _ out (zaN s i _ tz1) tz1 hg
   rw[if_neg h3]
   by_cases h4:(nxF s i).2.2=0
   ·rw[if_pos h4]
    have h5:=zeA h1 h4;refine zdk s f _ _ h5.2 (by rw[za];show out.length+1<=_;omega) fun t ht=>?_;(rcases List.mem_append.1 ht with h6 | h6);(·exact hg t h6);rw[List.mem_singleton.1 h6];exact tkOf_gd h1 h4
   rw[if_neg h4];exact ⟨fun t ht=>absurd ht tz4,by simp⟩
  rw[if_neg h1];refine ⟨fun t ht=>?_,by simp;omega⟩;(rcases List.mem_append.1 ht with h6 | h6);(·exact hg t h6);rw[List.mem_singleton.1 h6];exact fun h=>absurd (show (0:Int)=2 from h) tz3
theorem wd_len (s:ByteArray):(wdA s).1.length<=s.size+1:=(zdk s (s.size+1) 0 [] (Nat.zero_le _) (zh _) tz4).2
theorem wd_gd (s:ByteArray):zd6 (wdA s).1:=fun i h=>by
 have h1:=zbj h;obtain ⟨t,ht⟩:∃t,(wdA s).1[i]?=some t:=⟨_,zc h1⟩;have h2:=ze4 h;rw[zaG ht] at h2 ⊢;exact (zdk s (s.size+1) 0 [] (Nat.zero_le _) (zh _) tz4).1 t (zm ht) h2
theorem wd_at (s:ByteArray):∀(f i:Nat) (out:List Tok),i<=s.size->0<=(wdF s f i out).2.1/\(wdF s f i out).2.1<=s.size/\((wdF s f i out).2.2=0->1<=(wdF s f i out).1.length)
 | 0,i,out,hi=>⟨by show (0:Int)<=i;omega,by show (i:Int)<=s.size;omega,fun h=>absurd (show (3:Int)=0 from h) tz3⟩
 | f+1,i,out,hi=>by
  unfold wdF
  by_cases h1:i<s.size
  ·rw[if_pos h1]
   by_cases h2:blI (bt s i)=true
   ·rw[if_pos h2]
    exact wd_at s f (i+1) out tz1
   rw[if_neg h2]
   by_cases h3:bt s i=35
   ·rw[if_pos h3]
    exact wd_at s f _ out (zaN s i _ tz1)
   rw[if_neg h3]
   by_cases h4:(nxF s i).2.2=0
   ·rw[if_pos h4]
    exact wd_at s f _ _ (zeA h1 h4).2
   rw[if_neg h4];exact ⟨by show (0:Int)<=i;omega,by show (i:Int)<=s.size;omega,fun h=>absurd h h4⟩
  rw[if_neg h1];exact ⟨Int.le_refl 0,by show (0:Int)<=s.size;omega,fun _=>by simp⟩
end Go.Proofs.YtkokfdmggdhfmaaGreatDoor
namespace Go.Proofs.YtkokfdmggdhfmaaGreatDoor
open Go Go.RowKit
attribute [local irreducible] aops zX
def txR (s:ByteArray) (m:Int):Tm×(Int×Int)×Int :=
 if (wdA s).2.2=0 then if (rxW (wdA s).1 m).2.2=0 then ((rxW (wdA s).1 m).1,(0,0),0) else (zTm,sp (wdA s).1 (min (rxW (wdA s).1 m).2.1 ((wdA s).1.length-1)),(rxW (wdA s).1 m).2.2)
 else (zTm,((wdA s).2.1,(wdA s).2.1+1),(wdA s).2.2)
def txA (s:ByteArray) (m:Int):AV:=.tup [.agg (txR s m).1.cells,.agg [.v (.int .i64 (txR s m).2.1.1),.v (.int .i64 (txR s m).2.1.2)],.v (.int .i64 (txR s m).2.2)]
theorem zf6 (s:ByteArray) (m:Int):Data (txA s m):=.tup (.cons (Tm.dataAgg _) (.cons (.agg (.cons (.v _) (.cons (.v _) .nil))) (.cons (.v _) .nil)))
section
variable {s:ByteArray} {m:Int}
theorem txR_lex (h:¬(wdA s).2.2=0):txR s m=(zTm,((wdA s).2.1,(wdA s).2.1+1),(wdA s).2.2):=if_neg h
theorem zbQ (h:(wdA s).2.2=0) (h2:¬(rxW (wdA s).1 m).2.2=0):txR s m=(zTm,sp (wdA s).1 (min (rxW (wdA s).1 m).2.1 ((wdA s).1.length-1)),(rxW (wdA s).1 m).2.2):=by
 unfold txR;rw[if_pos h,if_neg h2]
theorem txR_ok (h:(wdA s).2.2=0) (h2:(rxW (wdA s).1 m).2.2=0):txR s m=((rxW (wdA s).1 m).1,(0,0),0):=by
 unfold txR;rw[if_pos h,if_pos h2]
end
theorem tz11 {p:Prop} (h:p:=by exact ⟨rfl,rfl,rfl,rfl,rfl,rfl,trivial⟩):p:=h
theorem zdQ (s:ByteArray) (m:Int) (hs:s.size<=90000):APure Tryz.prog 27 [.v (.string s),.v (.int .i64 m)] (txA s m):=by
  refine APure.mkL (.cons (.v _) (.cons (.v _) .nil)) (zf6 s m) ?_;refine aIn Tryz.func27 fun hm=>?_;simp only[Tryz.ntmps27,Tryz.results27,go_sem,seval];have hat:=wd_at s (s.size+1) 0 [] (Nat.zero_le _);have hln:=wd_len s;change 0<=(wdA s).2.1/\(wdA s).2.1<=s.size/\((wdA s).2.2=0->1<=(wdA s).1.length) at hat;(have hw:IntKind.i64.wrap ((wdA s).2.1+1)=(wdA s).2.1+1:=by (rw[zI tz1 tz1]));(have hw2:IntKind.i64.wrap (((wdA s).1.length:Int)-1)=((wdA s).1.length:Int)-1:=by (rw[zI tz1 tz1]));refine sqR fun _ u=>?_;(iterate 2 (refine chS 1 ?_ (by intro _ q;simp only[↓bO,go_sem,seval,Tok.cells,qC,rwA,hw,hw2,Tm.cells_eq (rxW (wdA s).1 m).1];exact q)));simp only[↓bO,go_sem,seval,Tok.cells,qC,rwA,hw,hw2,Tm.cells_eq (rxW (wdA s).1 m).1];apply u;refine sqR fun _ u=>?_;refine chS 1 ?_ (by intro _ q;simp only[↓bO,go_sem,seval,Tok.cells,qC,rwA,hw,hw2,Tm.cells_eq (rxW (wdA s).1 m).1];exact q);refine zq 1 fun _ y=>?_;simp only[↓bO,go_sem,seval,Tok.cells,qC,rwA,hw,hw2,Tm.cells_eq (rxW (wdA s).1 m).1];refine APure.call (zfF s tz1) ?_;(iterate 6 (apply y;clear y;refine zq 1 fun _ y=>?_;simp only[↓bO,go_sem,seval,Tok.cells,qC,rwA,hw,hw2,Tm.cells_eq (rxW (wdA s).1 m).1]));apply y;clear y;simp only[↓bO,go_sem,seval,Tok.cells,qC,rwA,hw,hw2,Tm.cells_eq (rxW (wdA s).1 m).1];apply u;refine zu fun _ u=>?_;refine sqR fun _ w=>?_;refine chS 1 ?_ (by intro _ q;simp only[↓bO,go_sem,seval,Tok.cells,qC,rwA,hw,hw2,Tm.cells_eq (rxW (wdA s).1 m).1];exact q);simp only[↓bO,go_sem,seval,Tok.cells,qC,rwA,hw,hw2,Tm.cells_eq (rxW (wdA s).1 m).1];apply w;apply zt rfl <;> intro hb19
  ·
   (have he:¬(wdA s).2.2=0:=by simpa using hb19);refine sqR fun _ w=>?_;(iterate 8 (refine chS 1 ?_ (by intro _ q;simp only[↓bO,go_sem,seval,Tok.cells,qC,rwA,hw,hw2,Tm.cells_eq (rxW (wdA s).1 m).1];exact q)));simp only[↓bO,go_sem,seval,Tok.cells,qC,rwA,hw,hw2,Tm.cells_eq (rxW (wdA s).1 m).1];apply w;apply zw;(try simp only[zD,zB,zz,zW,zU,zL,bS,bA,zK,zJ,zS,bL,Nat.reduceAdd,Nat.reduceLeDiff,Nat.reduceEqDiff,↓reduceIte,zcF,zcl,tyX,Tok.cells,zd,qC,rwA,hw,hw2,Tm.cells_eq (rxW (wdA s).1 m).1]);unfold txA;rw[txR_lex he];exact Le.tup ⟨zbg,.refl _,.refl _,trivial⟩
  (have he:(wdA s).2.2=0:=by simpa using hb19);have hl1:=hat.2.2 he;apply zy;apply u;refine sqR fun _ u=>?_;(iterate 2 (refine chS 1 ?_ (by intro _ q;simp only[↓bO,go_sem,seval,Tok.cells,qC,rwA,hw,hw2,Tm.cells_eq (rxW (wdA s).1 m).1];exact q)));refine zq 1 fun _ y=>?_;simp only[↓bO,go_sem,seval,Tok.cells,qC,rwA,hw,hw2,Tm.cells_eq (rxW (wdA s).1 m).1];refine APure.call (zeG (wdA s).1 m tz1 (wd_gd s)) ?_;(iterate 7 (apply y;clear y;refine zq 1 fun _ y=>?_;simp only[↓bO,go_sem,seval,Tok.cells,qC,rwA,hw,hw2,Tm.cells_eq (rxW (wdA s).1 m).1]));apply y;clear y;simp only[↓bO,go_sem,seval,Tok.cells,qC,rwA,hw,hw2,Tm.cells_eq (rxW (wdA s).1 m).1];apply u;refine zu fun _ u=>?_;refine sqR fun _ w=>?_;refine chS 1 ?_ (by intro _ q;simp only[↓bO,go_sem,seval,Tok.cells,qC,rwA,hw,hw2,Tm.cells_eq (rxW (wdA s).1 m).1];exact q);simp only[↓bO,go_sem,seval,Tok.cells,qC,rwA,hw,hw2,Tm.cells_eq (rxW (wdA s).1 m).1];apply w;apply zt rfl <;> intro hb34
  ·
   (have he2:¬(rxW (wdA s).1 m).2.2=0:=by simpa using hb34);(have hmn:min (((rxW (wdA s).1 m).2.1:Nat):Int) (((wdA s).1.length:Int)-1)=((min (rxW (wdA s).1 m).2.1 ((wdA s).1.length-1):Nat):Int):=by omega);(have hml:min (rxW (wdA s).1 m).2.1 ((wdA s).1.length-1)<(wdA s).1.length:=by omega);obtain ⟨t,ht⟩:∃t,(wdA s).1[min (rxW (wdA s).1 m).2.1 ((wdA s).1.length-1)]?=some t:=⟨_,zc hml⟩;refine zu fun _ w=>?_;refine zdz 14 [7] rfl mixed ?_;dsimp only;refine zM 1 rfl tz0 tz0 tz0 (fun _ _ h=>h) tz0 (fun d h=>by cases h;rfl) tz0 (G':=[36,7]) tz0 fun _ y=>?_;simp only[↓bO,go_sem,seval,zau,isE,zbi,isV,Tok.cells,qC,rwA,hw,hw2,Tm.cells_eq (rxW (wdA s).1 m).1,hmn,hml,gM ht];apply y;clear y;refine zM 2 rfl tz0 tz0 tz0 (fun _ _ h=>h) tz0 (fun d h=>by cases h;rfl) tz0 (G':=[36,7]) tz0 fun _ y=>?_;simp only[↓bO,go_sem,seval,zau,isE,zbi,isV,Tok.cells,qC,rwA,hw,hw2,Tm.cells_eq (rxW (wdA s).1 m).1,hmn,hml,gM ht];apply y;clear y;refine zM 3 rfl tz0 tz0 tz0 (fun _ _ h=>h) tz0 (fun d h=>by cases h;rfl) tz0 (G':=[38,36,7]) tz0 fun _ y=>?_;simp only[↓bO,go_sem,seval,zau,isE,zbi,isV,Tok.cells,qC,rwA,hw,hw2,Tm.cells_eq (rxW (wdA s).1 m).1,hmn,hml,gM ht];apply y;clear y;refine zM 10 rfl tz0 tz0 tz0 (fun _ _ h=>h) tz0 (fun d h=>by cases h;rfl) tz0 (G':=[38,36,7]) tz0 fun _ y=>?_;simp only[↓bO,go_sem,seval,zau,isE,zbi,isV,Tok.cells,qC,rwA,hw,hw2,Tm.cells_eq (rxW (wdA s).1 m).1,hmn,hml,gM ht];apply y;clear y;refine zaz 4 rfl tz0 tz0 tz0 (fun _ _ h=>h) (fun d h=>by cases h;rfl) fun _ y=>?_;simp only[↓bO,go_sem,seval,Tok.cells,qC,rwA,hw,hw2,Tm.cells_eq (rxW (wdA s).1 m).1,hmn,hml,gM ht];apply y;clear y;refine zbw (i:=0) (j:=5) tz0 rfl rfl (fun d h=>by cases h;rfl) (fun d h=>by cases h;rfl) ?_ ?_
   ·
    refine opT fun _ y=>?_;simp only[↓bO,go_sem,seval,Tok.cells,qC,rwA,hw,hw2,Tm.cells_eq (rxW (wdA s).1 m).1,hmn,hml,gM ht];refine y _ ⟨zfh,?_⟩;clear y;refine zbw (i:=5) (j:=11) tz0 rfl rfl (fun d h=>by cases h;rfl) (fun d h=>by cases h) ?_ ?_
    ·
     refine opT fun _ y=>?_;simp only[↓bO,go_sem,seval,Tok.cells,qC,rwA,hw,hw2,Tm.cells_eq (rxW (wdA s).1 m).1,hmn,hml,gM ht];refine y _ ⟨zfh,?_⟩;clear y;refine zbw (i:=6) (j:=11) tz0 rfl rfl (fun d h=>by cases h;rfl) (fun d h=>by cases h) ?_ ?_
     ·
      refine opT fun _ y=>?_;simp only[↓bO,go_sem,seval,Tok.cells,qC,rwA,hw,hw2,Tm.cells_eq (rxW (wdA s).1 m).1,hmn,hml,gM ht];refine y _ ⟨zfh,?_⟩;clear y;refine zM 7 rfl tz0 tz0 tz0 (fun _ _ h=>h) tz0 (fun d h=>by cases h;rfl) tz0 (G':=[42,38,36,7]) tz0 fun _ y=>?_;simp only[↓bO,go_sem,seval,zau,isE,zbi,isV,Tok.cells,qC,rwA,hw,hw2,Tm.cells_eq (rxW (wdA s).1 m).1,hmn,hml,gM ht];apply y;clear y;refine zM 8 rfl tz0 tz0 tz0 (fun _ _ h=>h) tz0 (fun d h=>by cases h;rfl) tz0 (G':=[43,42,38,36,7]) tz0 fun _ y=>?_;simp only[↓bO,go_sem,seval,zau,isE,zbi,isV,Tok.cells,qC,rwA,hw,hw2,Tm.cells_eq (rxW (wdA s).1 m).1,hmn,hml,gM ht];apply y;clear y;refine zM 9 rfl tz0 tz0 tz0 (fun _ _ h=>h) tz0 (fun d h=>by cases h;rfl) tz0 (G':=[44,43,42,38,36,7]) tz0 fun _ y=>?_;simp only[↓bO,go_sem,seval,zau,isE,zbi,isV,Tok.cells,qC,rwA,hw,hw2,Tm.cells_eq (rxW (wdA s).1 m).1,hmn,hml,gM ht];apply y;clear y;refine zY (i:=11) tz0 rfl (fun d h=>by cases h) ?_;refine opT fun _ y=>?_;simp only[↓bO,go_sem,seval,Tok.cells,qC,rwA,hw,hw2,Tm.cells_eq (rxW (wdA s).1 m).1,hmn,hml,gM ht];refine y _ ⟨tz11,?_⟩;clear y;refine zY (i:=12) tz0 rfl (fun d h=>by cases h) ?_;refine opT fun _ y=>?_;simp only[↓bO,go_sem,seval,Tok.cells,qC,rwA,hw,hw2,Tm.cells_eq (rxW (wdA s).1 m).1,hmn,hml,gM ht];refine y _ ⟨tz11,?_⟩;clear y;refine zaz 13 rfl tz0 tz0 tz0 (fun _ _ h=>h) (fun d h=>by cases h;rfl) fun _ y=>?_;simp only[↓bO,go_sem,seval,Tok.cells,qC,rwA,hw,hw2,Tm.cells_eq (rxW (wdA s).1 m).1,hmn,hml,gM ht];apply y;clear y;refine zaQ tz0 ?_;simp only[go_sem];apply w;apply zw;(try simp only[zD,zB,zz,zW,zU,zL,bS,bA,zK,zJ,zS,bL,Nat.reduceAdd,Nat.reduceLeDiff,Nat.reduceEqDiff,↓reduceIte,zcF,zcl,tyX,Tok.cells,zd,qC,rwA,hw,hw2,Tm.cells_eq (rxW (wdA s).1 m).1,hmn,hml,gM ht]);unfold txA;rw[zbQ he he2];unfold sp;rw[zaG ht];exact Le.tup ⟨zbg,.refl _,.refl _,trivial⟩
     refine opT fun _ y=>?_;simp only[↓bO,go_sem,seval,Tok.cells,qC,rwA,hw,hw2,Tm.cells_eq (rxW (wdA s).1 m).1,hmn,hml,gM ht];refine y _ ⟨zfh,?_⟩;clear y;refine zY (i:=6) tz0 rfl (fun d h=>by cases h;rfl) ?_;refine opT fun _ y=>?_;simp only[↓bO,go_sem,seval,Tok.cells,qC,rwA,hw,hw2,Tm.cells_eq (rxW (wdA s).1 m).1,hmn,hml,gM ht];refine y _ ⟨zfh,?_⟩;clear y;refine zM 7 rfl tz0 tz0 tz0 (fun _ _ h=>h) tz0 (fun d h=>by cases h;rfl) tz0 (G':=[42,38,36,7]) tz0 fun _ y=>?_;simp only[↓bO,go_sem,seval,zau,isE,zbi,isV,Tok.cells,qC,rwA,hw,hw2,Tm.cells_eq (rxW (wdA s).1 m).1,hmn,hml,gM ht];apply y;clear y;refine zM 8 rfl tz0 tz0 tz0 (fun _ _ h=>h) tz0 (fun d h=>by cases h;rfl) tz0 (G':=[43,42,38,36,7]) tz0 fun _ y=>?_;simp only[↓bO,go_sem,seval,zau,isE,zbi,isV,Tok.cells,qC,rwA,hw,hw2,Tm.cells_eq (rxW (wdA s).1 m).1,hmn,hml,gM ht];apply y;clear y;refine zM 9 rfl tz0 tz0 tz0 (fun _ _ h=>h) tz0 (fun d h=>by cases h;rfl) tz0 (G':=[44,43,42,38,36,7]) tz0 fun _ y=>?_;simp only[↓bO,go_sem,seval,zau,isE,zbi,isV,Tok.cells,qC,rwA,hw,hw2,Tm.cells_eq (rxW (wdA s).1 m).1,hmn,hml,gM ht];apply y;clear y;refine zY (i:=12) tz0 rfl (fun d h=>by cases h) ?_;refine opT fun _ y=>?_;simp only[↓bO,go_sem,seval,Tok.cells,qC,rwA,hw,hw2,Tm.cells_eq (rxW (wdA s).1 m).1,hmn,hml,gM ht];refine y _ ⟨tz11,?_⟩;clear y;refine zaz 13 rfl tz0 tz0 tz0 (fun _ _ h=>h) (fun d h=>by cases h;rfl) fun _ y=>?_;simp only[↓bO,go_sem,seval,Tok.cells,qC,rwA,hw,hw2,Tm.cells_eq (rxW (wdA s).1 m).1,hmn,hml,gM ht];apply y;clear y;refine zaQ tz0 ?_;simp only[go_sem];apply w;apply zw;(try simp only[zD,zB,zz,zW,zU,zL,bS,bA,zK,zJ,zS,bL,Nat.reduceAdd,Nat.reduceLeDiff,Nat.reduceEqDiff,↓reduceIte,zcF,zcl,tyX,Tok.cells,zd,qC,rwA,hw,hw2,Tm.cells_eq (rxW (wdA s).1 m).1,hmn,hml,gM ht]);unfold txA;rw[zbQ he he2];unfold sp;rw[zaG ht];exact Le.tup ⟨zbg,.refl _,.refl _,trivial⟩
    refine opT fun _ y=>?_;simp only[↓bO,go_sem,seval,Tok.cells,qC,rwA,hw,hw2,Tm.cells_eq (rxW (wdA s).1 m).1,hmn,hml,gM ht];refine y _ ⟨zfh,?_⟩;clear y;refine zY (i:=5) tz0 rfl (fun d h=>by cases h;rfl) ?_;refine opT fun _ y=>?_;simp only[↓bO,go_sem,seval,Tok.cells,qC,rwA,hw,hw2,Tm.cells_eq (rxW (wdA s).1 m).1,hmn,hml,gM ht];refine y _ ⟨zfh,?_⟩;clear y;refine zY (i:=6) tz0 rfl (fun d h=>by cases h;rfl) ?_;refine opT fun _ y=>?_;simp only[↓bO,go_sem,seval,Tok.cells,qC,rwA,hw,hw2,Tm.cells_eq (rxW (wdA s).1 m).1,hmn,hml,gM ht];refine y _ ⟨zfh,?_⟩;clear y;refine zM 7 rfl tz0 tz0 tz0 (fun _ _ h=>h) tz0 (fun d h=>by cases h;rfl) tz0 (G':=[42,38,36,7]) tz0 fun _ y=>?_;simp only[↓bO,go_sem,seval,zau,isE,zbi,isV,Tok.cells,qC,rwA,hw,hw2,Tm.cells_eq (rxW (wdA s).1 m).1,hmn,hml,gM ht];apply y;clear y;refine zM 8 rfl tz0 tz0 tz0 (fun _ _ h=>h) tz0 (fun d h=>by cases h;rfl) tz0 (G':=[43,42,38,36,7]) tz0 fun _ y=>?_;simp only[↓bO,go_sem,seval,zau,isE,zbi,isV,Tok.cells,qC,rwA,hw,hw2,Tm.cells_eq (rxW (wdA s).1 m).1,hmn,hml,gM ht];apply y;clear y;refine zM 9 rfl tz0 tz0 tz0 (fun _ _ h=>h) tz0 (fun d h=>by cases h;rfl) tz0 (G':=[44,43,42,38,36,7]) tz0 fun _ y=>?_;simp only[↓bO,go_sem,seval,zau,isE,zbi,isV,Tok.cells,qC,rwA,hw,hw2,Tm.cells_eq (rxW (wdA s).1 m).1,hmn,hml,gM ht];apply y;clear y;refine zY (i:=12) tz0 rfl (fun d h=>by cases h) ?_;refine opT fun _ y=>?_;simp only[↓bO,go_sem,seval,Tok.cells,qC,rwA,hw,hw2,Tm.cells_eq (rxW (wdA s).1 m).1,hmn,hml,gM ht];refine y _ ⟨tz11,?_⟩;clear y;refine zaz 13 rfl tz0 tz0 tz0 (fun _ _ h=>h) (fun d h=>by cases h;rfl) fun _ y=>?_;simp only[↓bO,go_sem,seval,Tok.cells,qC,rwA,hw,hw2,Tm.cells_eq (rxW (wdA s).1 m).1,hmn,hml,gM ht];apply y;clear y;refine zaQ tz0 ?_;simp only[go_sem];apply w;apply zw;(try simp only[zD,zB,zz,zW,zU,zL,bS,bA,zK,zJ,zS,bL,Nat.reduceAdd,Nat.reduceLeDiff,Nat.reduceEqDiff,↓reduceIte,zcF,zcl,tyX,Tok.cells,zd,qC,rwA,hw,hw2,Tm.cells_eq (rxW (wdA s).1 m).1,hmn,hml,gM ht]);unfold txA;rw[zbQ he he2];unfold sp;rw[zaG ht];exact Le.tup ⟨zbg,.refl _,.refl _,trivial⟩
   refine opT fun _ y=>?_;simp only[↓bO,go_sem,seval,Tok.cells,qC,rwA,hw,hw2,Tm.cells_eq (rxW (wdA s).1 m).1,hmn,hml,gM ht];refine y _ ⟨zfh,?_⟩;clear y;refine zbw (i:=0) (j:=6) tz0 rfl rfl (fun d h=>by cases h;rfl) (fun d h=>by cases h;rfl) ?_ ?_
   ·
    refine opT fun _ y=>?_;simp only[↓bO,go_sem,seval,Tok.cells,qC,rwA,hw,hw2,Tm.cells_eq (rxW (wdA s).1 m).1,hmn,hml,gM ht];refine y _ ⟨zfh,?_⟩;clear y;refine zbw (i:=6) (j:=11) tz0 rfl rfl (fun d h=>by cases h;rfl) (fun d h=>by cases h) ?_ ?_
    ·
     refine opT fun _ y=>?_;simp only[↓bO,go_sem,seval,Tok.cells,qC,rwA,hw,hw2,Tm.cells_eq (rxW (wdA s).1 m).1,hmn,hml,gM ht];refine y _ ⟨zfh,?_⟩;clear y;refine zM 7 rfl tz0 tz0 tz0 (fun _ _ h=>h) tz0 (fun d h=>by cases h;rfl) tz0 (G':=[42,38,36,7]) tz0 fun _ y=>?_;simp only[↓bO,go_sem,seval,zau,isE,zbi,isV,Tok.cells,qC,rwA,hw,hw2,Tm.cells_eq (rxW (wdA s).1 m).1,hmn,hml,gM ht];apply y;clear y;refine zM 8 rfl tz0 tz0 tz0 (fun _ _ h=>h) tz0 (fun d h=>by cases h;rfl) tz0 (G':=[43,42,38,36,7]) tz0 fun _ y=>?_;simp only[↓bO,go_sem,seval,zau,isE,zbi,isV,Tok.cells,qC,rwA,hw,hw2,Tm.cells_eq (rxW (wdA s).1 m).1,hmn,hml,gM ht];apply y;clear y;refine zM 9 rfl tz0 tz0 tz0 (fun _ _ h=>h) tz0 (fun d h=>by cases h;rfl) tz0 (G':=[44,43,42,38,36,7]) tz0 fun _ y=>?_;simp only[↓bO,go_sem,seval,zau,isE,zbi,isV,Tok.cells,qC,rwA,hw,hw2,Tm.cells_eq (rxW (wdA s).1 m).1,hmn,hml,gM ht];apply y;clear y;refine zY (i:=11) tz0 rfl (fun d h=>by cases h) ?_;refine opT fun _ y=>?_;simp only[↓bO,go_sem,seval,Tok.cells,qC,rwA,hw,hw2,Tm.cells_eq (rxW (wdA s).1 m).1,hmn,hml,gM ht];refine y _ ⟨tz11,?_⟩;clear y;refine zY (i:=12) tz0 rfl (fun d h=>by cases h) ?_;refine opT fun _ y=>?_;simp only[↓bO,go_sem,seval,Tok.cells,qC,rwA,hw,hw2,Tm.cells_eq (rxW (wdA s).1 m).1,hmn,hml,gM ht];refine y _ ⟨tz11,?_⟩;clear y;refine zaz 13 rfl tz0 tz0 tz0 (fun _ _ h=>h) (fun d h=>by cases h;rfl) fun _ y=>?_;simp only[↓bO,go_sem,seval,Tok.cells,qC,rwA,hw,hw2,Tm.cells_eq (rxW (wdA s).1 m).1,hmn,hml,gM ht];apply y;clear y;refine zaQ tz0 ?_;simp only[go_sem];apply w;apply zw;(try simp only[zD,zB,zz,zW,zU,zL,bS,bA,zK,zJ,zS,bL,Nat.reduceAdd,Nat.reduceLeDiff,Nat.reduceEqDiff,↓reduceIte,zcF,zcl,tyX,Tok.cells,zd,qC,rwA,hw,hw2,Tm.cells_eq (rxW (wdA s).1 m).1,hmn,hml,gM ht]);unfold txA;rw[zbQ he he2];unfold sp;rw[zaG ht];exact Le.tup ⟨zbg,.refl _,.refl _,trivial⟩
    refine opT fun _ y=>?_;simp only[↓bO,go_sem,seval,Tok.cells,qC,rwA,hw,hw2,Tm.cells_eq (rxW (wdA s).1 m).1,hmn,hml,gM ht];refine y _ ⟨zfh,?_⟩;clear y;refine zY (i:=6) tz0 rfl (fun d h=>by cases h;rfl) ?_;refine opT fun _ y=>?_;simp only[↓bO,go_sem,seval,Tok.cells,qC,rwA,hw,hw2,Tm.cells_eq (rxW (wdA s).1 m).1,hmn,hml,gM ht];refine y _ ⟨zfh,?_⟩;clear y;refine zM 7 rfl tz0 tz0 tz0 (fun _ _ h=>h) tz0 (fun d h=>by cases h;rfl) tz0 (G':=[42,38,36,7]) tz0 fun _ y=>?_;simp only[↓bO,go_sem,seval,zau,isE,zbi,isV,Tok.cells,qC,rwA,hw,hw2,Tm.cells_eq (rxW (wdA s).1 m).1,hmn,hml,gM ht];apply y;clear y;refine zM 8 rfl tz0 tz0 tz0 (fun _ _ h=>h) tz0 (fun d h=>by cases h;rfl) tz0 (G':=[43,42,38,36,7]) tz0 fun _ y=>?_;simp only[↓bO,go_sem,seval,zau,isE,zbi,isV,Tok.cells,qC,rwA,hw,hw2,Tm.cells_eq (rxW (wdA s).1 m).1,hmn,hml,gM ht];apply y;clear y;refine zM 9 rfl tz0 tz0 tz0 (fun _ _ h=>h) tz0 (fun d h=>by cases h;rfl) tz0 (G':=[44,43,42,38,36,7]) tz0 fun _ y=>?_;simp only[↓bO,go_sem,seval,zau,isE,zbi,isV,Tok.cells,qC,rwA,hw,hw2,Tm.cells_eq (rxW (wdA s).1 m).1,hmn,hml,gM ht];apply y;clear y;refine zY (i:=12) tz0 rfl (fun d h=>by cases h) ?_;refine opT fun _ y=>?_;simp only[↓bO,go_sem,seval,Tok.cells,qC,rwA,hw,hw2,Tm.cells_eq (rxW (wdA s).1 m).1,hmn,hml,gM ht];refine y _ ⟨tz11,?_⟩;clear y;refine zaz 13 rfl tz0 tz0 tz0 (fun _ _ h=>h) (fun d h=>by cases h;rfl) fun _ y=>?_;simp only[↓bO,go_sem,seval,Tok.cells,qC,rwA,hw,hw2,Tm.cells_eq (rxW (wdA s).1 m).1,hmn,hml,gM ht];apply y;clear y;refine zaQ tz0 ?_;simp only[go_sem];apply w;apply zw;(try simp only[zD,zB,zz,zW,zU,zL,bS,bA,zK,zJ,zS,bL,Nat.reduceAdd,Nat.reduceLeDiff,Nat.reduceEqDiff,↓reduceIte,zcF,zcl,tyX,Tok.cells,zd,qC,rwA,hw,hw2,Tm.cells_eq (rxW (wdA s).1 m).1,hmn,hml,gM ht]);unfold txA;rw[zbQ he he2];unfold sp;rw[zaG ht];exact Le.tup ⟨zbg,.refl _,.refl _,trivial⟩
   refine opT fun _ y=>?_;simp only[↓bO,go_sem,seval,Tok.cells,qC,rwA,hw,hw2,Tm.cells_eq (rxW (wdA s).1 m).1,hmn,hml,gM ht];refine y _ ⟨zfh,?_⟩;clear y;refine zM 7 rfl tz0 tz0 tz0 (fun _ _ h=>h) tz0 (fun d h=>by cases h;rfl) tz0 (G':=[42,38,36,7]) tz0 fun _ y=>?_;simp only[↓bO,go_sem,seval,zau,isE,zbi,isV,Tok.cells,qC,rwA,hw,hw2,Tm.cells_eq (rxW (wdA s).1 m).1,hmn,hml,gM ht];apply y;clear y;refine zM 8 rfl tz0 tz0 tz0 (fun _ _ h=>h) tz0 (fun d h=>by cases h;rfl) tz0 (G':=[43,42,38,36,7]) tz0 fun _ y=>?_;simp only[↓bO,go_sem,seval,zau,isE,zbi,isV,Tok.cells,qC,rwA,hw,hw2,Tm.cells_eq (rxW (wdA s).1 m).1,hmn,hml,gM ht];apply y;clear y;refine zM 9 rfl tz0 tz0 tz0 (fun _ _ h=>h) tz0 (fun d h=>by cases h;rfl) tz0 (G':=[44,43,42,38,36,7]) tz0 fun _ y=>?_;simp only[↓bO,go_sem,seval,zau,isE,zbi,isV,Tok.cells,qC,rwA,hw,hw2,Tm.cells_eq (rxW (wdA s).1 m).1,hmn,hml,gM ht];apply y;clear y;refine zY (i:=0) tz0 rfl (fun d h=>by cases h;rfl) ?_;refine opT fun _ y=>?_;simp only[↓bO,go_sem,seval,Tok.cells,qC,rwA,hw,hw2,Tm.cells_eq (rxW (wdA s).1 m).1,hmn,hml,gM ht];refine y _ ⟨tz11,?_⟩;clear y;refine zY (i:=11) tz0 rfl (fun d h=>by cases h) ?_;refine opT fun _ y=>?_;simp only[↓bO,go_sem,seval,Tok.cells,qC,rwA,hw,hw2,Tm.cells_eq (rxW (wdA s).1 m).1,hmn,hml,gM ht];refine y _ ⟨tz11,?_⟩;clear y;refine zY (i:=12) tz0 rfl (fun d h=>by cases h) ?_;refine opT fun _ y=>?_;simp only[↓bO,go_sem,seval,Tok.cells,qC,rwA,hw,hw2,Tm.cells_eq (rxW (wdA s).1 m).1,hmn,hml,gM ht];refine y _ ⟨tz11,?_⟩;clear y;refine zaz 13 rfl tz0 tz0 tz0 (fun _ _ h=>h) (fun d h=>by cases h;rfl) fun _ y=>?_;simp only[↓bO,go_sem,seval,Tok.cells,qC,rwA,hw,hw2,Tm.cells_eq (rxW (wdA s).1 m).1,hmn,hml,gM ht];apply y;clear y;refine zaQ tz0 ?_;simp only[go_sem];apply w;apply zw;(try simp only[zD,zB,zz,zW,zU,zL,bS,bA,zK,zJ,zS,bL,Nat.reduceAdd,Nat.reduceLeDiff,Nat.reduceEqDiff,↓reduceIte,zcF,zcl,tyX,Tok.cells,zd,qC,rwA,hw,hw2,Tm.cells_eq (rxW (wdA s).1 m).1,hmn,hml,gM ht]);unfold txA;rw[zbQ he he2];unfold sp;rw[zaG ht];exact Le.tup ⟨zbg,.refl _,.refl _,trivial⟩
  (have he2:(rxW (wdA s).1 m).2.2=0:=by simpa using hb34);apply zy;apply u;refine sqR fun _ u=>?_;(iterate 4 (refine chS 1 ?_ (by intro _ q;simp only[↓bO,go_sem,seval,Tok.cells,qC,rwA,hw,hw2,Tm.cells_eq (rxW (wdA s).1 m).1];exact q)));simp only[↓bO,go_sem,seval,Tok.cells,qC,rwA,hw,hw2,Tm.cells_eq (rxW (wdA s).1 m).1];apply u;apply zw;(try simp only[zD,zB,zz,zW,zU,zL,bS,bA,zK,zJ,zS,bL,Nat.reduceAdd,Nat.reduceLeDiff,Nat.reduceEqDiff,↓reduceIte,zcF,zcl,tyX,Tok.cells,zd,qC,rwA,hw,hw2,Tm.cells_eq (rxW (wdA s).1 m).1]);unfold txA;rw[txR_ok he he2,Tm.cells_eq];exact Le.refl _
theorem zaf (l:List Tok) (i:Nat) (s:ByteArray):APure Tryz.prog 166 [.sl 4 (l.map Tok.cells),.v (.int .i64 (i:Int)),.v (.string s)] (.v (.bool (isT l (i:Int) 3 s))):=by
 refine APure.mkL (.cons (Tok.dataSl l) (.cons (.v _) (.cons (.v _) .nil))) (.v _) ?_;refine aIn Tryz.func166 fun hm=>?_;simp only[Tryz.ntmps166,Tryz.results166,go_sem,seval];refine sqD ?_;refine sqR fun _ y=>?_;(iterate 3 (refine chS 1 ?_));refine zq 1 fun _ q=>?_;simp only[↓bO,go_sem,seval];refine APure.call (zby l (i:Int) 3 s) ?_;apply q;clear q;simp only[↓bO,go_sem,seval];apply y;apply zw;exact Le.refl _
theorem zaC (l:List Tok) (i:Nat) (s:ByteArray):APure Tryz.prog 115 [.sl 4 (l.map Tok.cells),.v (.int .i64 (i:Int)),.v (.string s)] (.v (.bool (isT l (i:Int) 4 s))):=by
 refine APure.mkL (.cons (Tok.dataSl l) (.cons (.v _) (.cons (.v _) .nil))) (.v _) ?_;refine aIn Tryz.func115 fun hm=>?_;simp only[Tryz.ntmps115,Tryz.results115,go_sem,seval];refine sqD ?_;refine sqR fun _ y=>?_;(iterate 3 (refine chS 1 ?_));refine zq 1 fun _ q=>?_;simp only[↓bO,go_sem,seval];refine APure.call (zby l (i:Int) 4 s) ?_;apply q;clear q;simp only[↓bO,go_sem,seval];apply y;apply zw;exact Le.refl _
theorem zdR (l:List Tok) (i:Nat):APure Tryz.prog 168 [.sl 4 (l.map Tok.cells),.v (.int .i64 (i:Int))] (.v (.bool (kdT l i 1))):=by
  refine APure.mkL (.cons (Tok.dataSl l) (.cons (.v _) .nil)) (.v _) ?_;refine aIn Tryz.func168 fun hm=>?_;simp only[Tryz.ntmps168,Tryz.results168,go_sem,seval];refine sqR fun _ y=>?_;simp only[↓bO,go_sem,seval,Tok.cells,qC];apply y;refine sqR fun _ y=>?_;(iterate 5 (refine chS 1 ?_ (by intro _ q;simp only[↓bO,go_sem,seval,Tok.cells,qC];exact q)));refine zC 9 rfl (fun hc9=>?_) (fun hc9=>?_)
  ·
   simp only[go_sem];(have hlt:i<l.length:=by (have h9:=hc9;simp at h9;omega));obtain ⟨t,ht⟩:∃t,l[i]?=some t:=⟨_,zc hlt⟩;(iterate 7 (refine chS 1 ?_ (by intro _ q;simp only[↓bO,go_sem,seval,Tok.cells,qC,hlt,gM ht];exact q)));simp only[↓bO,go_sem,seval,Tok.cells,qC,hlt,gM ht];apply y;apply zw;(try simp only[go_sem]);rw[zag ht];exact Le.of_eq (congrArg (fun b=>AV.v (.bool b)) (by rw[Bool.eq_iff_iff];simp))
  simp only[go_sem];(have hge:¬i<l.length:=by (have h9:=hc9;simp at h9;omega));(iterate 7 (refine chS 1 ?_ (by intro _ q;simp only[↓bO,go_sem,seval,Tok.cells,qC];exact q)));simp only[↓bO,go_sem,seval,Tok.cells,qC];apply y;apply zw;(try simp only[go_sem]);rw[zd5 hge];exact Le.refl _
theorem zcZ (l:List Tok) (i:Nat):APure Tryz.prog 167 [.sl 4 (l.map Tok.cells),.v (.int .i64 (i:Int))] (.v (.bool (beg l i))):=by
  refine APure.mkL (.cons (Tok.dataSl l) (.cons (.v _) .nil)) (.v _) ?_;refine aIn Tryz.func167 fun hm=>?_;simp only[Tryz.ntmps167,Tryz.results167,go_sem,seval];refine sqR fun _ u=>?_;simp only[↓bO,go_sem,seval,Tok.cells,qC];apply u;refine sqR fun _ u=>?_;(iterate 5 (refine chS 1 ?_ (by intro _ q;simp only[↓bO,go_sem,seval,Tok.cells,qC];exact q)));refine zC 9 rfl (fun hc9=>?_) (fun hc9=>?_)
  ·
   simp only[go_sem];(have hlt:i<l.length:=by (have h9:=hc9;simp at h9;omega));obtain ⟨t,ht⟩:∃t,l[i]?=some t:=⟨_,zc hlt⟩;(iterate 7 (refine chS 1 ?_ (by intro _ q;simp only[↓bO,go_sem,seval,Tok.cells,qC,hlt,gM ht];exact q)));refine zC 16 rfl (fun hc16=>?_) (fun hc16=>?_)
   ·
    (iterate 23 (refine chS 1 ?_ (by intro _ q;simp only[↓bO,go_sem,seval,Tok.cells,qC,hlt,gM ht];exact q)));simp only[↓bO,go_sem,seval,Tok.cells,qC,hlt,gM ht];apply u;apply zw;(try simp only[go_sem]);(have hb:beg l i=true:=by (unfold beg;rw[zag ht,zag ht];have g:=hc16;(try simp at g);simp[g]));rw[hb];exact Le.refl _
   (iterate 8 (refine chS 1 ?_ (by intro _ q;simp only[↓bO,go_sem,seval,Tok.cells,qC,hlt,gM ht];exact q)));refine zC 24 rfl (fun hc24=>?_) (fun hc24=>?_)
   ·
    (iterate 15 (refine chS 1 ?_ (by intro _ q;simp only[↓bO,go_sem,seval,Tok.cells,qC,hlt,gM ht];exact q)));simp only[↓bO,go_sem,seval,Tok.cells,qC,hlt,gM ht];apply u;apply zw;(try simp only[go_sem]);(have hb:beg l i=true:=by (unfold beg;rw[zag ht,zag ht];have g:=hc24;(try simp at g);simp[g]));rw[hb];exact Le.refl _
   (iterate 2 (refine chS 1 ?_ (by intro _ q;simp only[↓bO,go_sem,seval,Tok.cells,qC,hlt,gM ht];exact q)));refine zq 1 fun _ y=>?_;simp only[↓bO,go_sem,seval,Tok.cells,qC,hlt,gM ht];refine APure.call (zaf l i _) ?_;(iterate 2 (apply y;clear y;refine zq 1 fun _ y=>?_;simp only[↓bO,go_sem,seval,Tok.cells,qC,hlt,gM ht]));apply y;clear y;refine zC 29 rfl (fun hc29=>?_) (fun hc29=>?_)
   ·
    (iterate 10 (refine chS 1 ?_ (by intro _ q;simp only[↓bO,go_sem,seval,Tok.cells,qC,hlt,gM ht];exact q)));simp only[↓bO,go_sem,seval,Tok.cells,qC,hlt,gM ht];apply u;apply zw;(try simp only[go_sem]);(have hb:beg l i=true:=by (unfold beg;rw[zag ht,zag ht];have g:=hc29;(try simp at g);simp[g]));rw[hb];exact Le.refl _
   (iterate 2 (refine chS 1 ?_ (by intro _ q;simp only[↓bO,go_sem,seval,Tok.cells,qC,hlt,gM ht];exact q)));refine zq 1 fun _ y=>?_;simp only[↓bO,go_sem,seval,Tok.cells,qC,hlt,gM ht];refine APure.call (zaf l i _) ?_;(iterate 2 (apply y;clear y;refine zq 1 fun _ y=>?_;simp only[↓bO,go_sem,seval,Tok.cells,qC,hlt,gM ht]));apply y;clear y;refine zC 34 rfl (fun hc34=>?_) (fun hc34=>?_)
   ·
    (iterate 5 (refine chS 1 ?_ (by intro _ q;simp only[↓bO,go_sem,seval,Tok.cells,qC,hlt,gM ht];exact q)));simp only[↓bO,go_sem,seval,Tok.cells,qC,hlt,gM ht];apply u;apply zw;(try simp only[go_sem]);(have hb:beg l i=true:=by (unfold beg;rw[zag ht,zag ht];have g:=hc34;(try simp at g);simp[g]));rw[hb];exact Le.refl _
   (iterate 2 (refine chS 1 ?_ (by intro _ q;simp only[↓bO,go_sem,seval,Tok.cells,qC,hlt,gM ht];exact q)));refine zq 1 fun _ y=>?_;simp only[↓bO,go_sem,seval,Tok.cells,qC,hlt,gM ht];refine APure.call (zaC l i _) ?_;(iterate 2 (apply y;clear y;refine zq 1 fun _ y=>?_;simp only[↓bO,go_sem,seval,Tok.cells,qC,hlt,gM ht]));apply y;clear y;simp only[↓bO,go_sem,seval,Tok.cells,qC,hlt,gM ht];apply u;apply zw;(try simp only[go_sem]);(have hb:beg l i=isT l (i:Int) 4 bOpen:=by (unfold beg;rw[zag ht,zag ht];have g1:=hc16;have g2:=hc24;have g3:=hc29;have g4:=hc34;simp at g1 g2 g3 g4;simp[g1,g2,g3,g4]));rw[hb];exact Le.refl _
  simp only[go_sem];(have hge:¬i<l.length:=by (have h9:=hc9;simp at h9;omega));(iterate 30 (refine chS 1 ?_ (by intro _ q;simp only[↓bO,go_sem,seval,Tok.cells,qC];exact q)));simp only[↓bO,go_sem,seval,Tok.cells,qC];apply u;apply zw;(try simp only[go_sem]);rw[zfn hge];exact Le.refl _
def rdC (r:Rdx):List AV:=[.v (.int .i64 r.t.k),.v (.string r.t.s),.v (.int .i64 r.t.n),.v (.int .i64 r.t.t.k),.v (.int .i64 r.t.t.n),.sl 3 (r.t.t.ps.map Ty.cells),.sl 9 (r.t.ps.map Tm.cells),.v (.int .i64 r.t.a),.v (.int .i64 r.t.b),.v (.int .i64 r.a),.v (.int .i64 r.b),.v (.int .i64 (r.i:Int)),.v (.int .i64 r.e)]
theorem zbI (r:Rdx):DataL (rdC r):=.cons (.v _) (.cons (.v _) (.cons (.v _) (.cons (.v _) (.cons (.v _) (.cons (Ty.dataSl _) (.cons (Tm.dataSl _) (.cons (.v _) (.cons (.v _) (.cons (.v _) (.cons (.v _) (.cons (.v _) (.cons (.v _) .nil))))))))))))
theorem z7 (i:Nat) (e:Int):APure Tryz.prog 152 [.v (.int .i64 (i:Int)),.v (.int .i64 e)] (.agg (rdC (wr i e))):=by
 refine APure.mkL (.cons (.v _) (.cons (.v _) .nil)) (.agg (zbI _)) ?_;refine aIn Tryz.func152 fun hm=>?_;simp only[Tryz.ntmps152,Tryz.results152,go_sem,seval];refine sqD ?_;refine sqR fun _ q=>?_;(iterate 3 (refine chS 1 ?_));simp only[↓bO,go_sem,seval];apply q;apply zw;(try simp only[zD,zB,zz,zW,zU,zL,bS,bA,zK,zJ,zS,bL,Nat.reduceAdd,Nat.reduceLeDiff,Nat.reduceEqDiff,↓reduceIte,zaj,tyX]);exact Le.agg ⟨.refl _,.refl _,.refl _,.refl _,.refl _,Le.slNil 3,Le.slNil 9,.refl _,.refl _,.refl _,.refl _,.refl _,.refl _,trivial⟩
def DxOk (l:List Tok) (m:Int) (f:Nat):Prop:=∀(i:Nat) (n:Int),l.length-i<f->i<=l.length->-1000000<=n->n+(l.length-i:Nat)<=700000->APure Tryz.prog 151 [.sl 4 (l.map Tok.cells),.v (.int .i64 (i:Int)),.v (.int .i64 n),.v (.int .i64 m)] (.agg (rdC (rx l m f i n)))
theorem brR_bad {E:Nat->Int->Rdx} {l:List Tok} {m n:Int} {i:Nat} (h:¬(E (i+1) (n+1)).e=0):brR E l m i n=E (i+1) (n+1):=if_neg h
theorem zgj (x y:Int×Int):APure Tryz.prog 189 [.agg [.v (.int .i64 x.1),.v (.int .i64 x.2)],.agg [.v (.int .i64 y.1),.v (.int .i64 y.2)]] (.agg [.v (.int .i64 (spJ x y).1),.v (.int .i64 (spJ x y).2)]):=by
  refine APure.mkL (.cons (.agg (.cons (.v _) (.cons (.v _) .nil))) (.cons (.agg (.cons (.v _) (.cons (.v _) .nil))) .nil)) ((.agg (.cons (.v _) (.cons (.v _) .nil)))) ?_;refine aIn Tryz.func189 fun hm=>?_;simp only[Tryz.ntmps189,Tryz.results189,go_sem,seval];refine sqR fun _ q=>?_;(iterate 2 (refine chS 1 ?_));simp only[↓bO,go_sem,seval];apply q;refine zu fun _ q=>?_;refine sqR fun _ u=>?_;(iterate 6 (refine chS 1 ?_));refine zC 10 rfl (fun hc10=>?_) (fun hc10=>?_)
  ·
   simp only[go_sem];(have ha:x.1>=x.2:=by (have h9:=hc10;simp at h9;omega));(iterate 5 (refine chS 1 ?_));simp only[↓bO,go_sem,seval];apply u;apply zt rfl <;> intro hb16
   ·
    (have hb:x.1>=x.2/\y.1>=y.2:=by (have h9:=hb16;simp at h9;omega));refine sqR fun _ u=>?_;refine chS 1 ?_;simp only[↓bO,go_sem,seval];apply u;apply zw;(try simp only[zD,zB,zz,zW,zU,zL,bS,bA,zK,zJ,zS,bL,Nat.reduceAdd,Nat.reduceLeDiff,Nat.reduceEqDiff,↓reduceIte,zcl,tyX]);rw[show spJ x y=(0,0) from if_pos ⟨by omega,by omega⟩];exact Le.refl _
   (have hb:¬(x.1>=x.2/\y.1>=y.2):=by first | exact fun h=>ha h.1 | (have h9:=hb16;simp at h9;omega));apply zy;apply q;refine zu fun _ q=>?_;refine sqR fun _ u=>?_;(iterate 4 (refine chS 1 ?_));simp only[↓bO,go_sem,seval];apply u;apply zt rfl <;> intro hb22
   ·
    (have hc:x.1>=x.2:=by (have h9:=hb22;simp at h9;omega));refine sqR fun _ u=>?_;refine chS 1 ?_;simp only[↓bO,go_sem,seval];apply u;apply zw;(try simp only[zD,zB,zz,zW,zU,zL,bS,bA,zK,zJ,zS,bL,Nat.reduceAdd,Nat.reduceLeDiff,Nat.reduceEqDiff,↓reduceIte,zcl,tyX]);rw[show spJ x y=y from by unfold spJ;rw[if_neg tz1,if_pos tz1]];exact Le.refl _
   (have hc:¬x.1>=x.2:=by (have h9:=hb22;simp at h9;omega));apply zy;apply q;refine zu fun _ q=>?_;refine sqR fun _ u=>?_;(iterate 4 (refine chS 1 ?_));simp only[↓bO,go_sem,seval];apply u;apply zt rfl <;> intro hb28
   ·
    (have hd:y.1>=y.2:=by (have h9:=hb28;simp at h9;omega));refine sqR fun _ u=>?_;refine chS 1 ?_;simp only[↓bO,go_sem,seval];apply u;apply zw;(try simp only[zD,zB,zz,zW,zU,zL,bS,bA,zK,zJ,zS,bL,Nat.reduceAdd,Nat.reduceLeDiff,Nat.reduceEqDiff,↓reduceIte,zcl,tyX]);rw[show spJ x y=x from by unfold spJ;rw[if_neg tz1,if_neg tz1,if_pos tz1]];exact Le.refl _
   (have hd:¬y.1>=y.2:=by (have h9:=hb28;simp at h9;omega));apply zy;apply q;refine sqR fun _ q=>?_;(iterate 11 (refine chS 1 ?_));simp only[↓bO,go_sem,seval];apply q;apply zw;(try simp only[zD,zB,zz,zW,zU,zL,bS,bA,zK,zJ,zS,bL,Nat.reduceAdd,Nat.reduceLeDiff,Nat.reduceEqDiff,↓reduceIte,zcl,tyX]);rw[show spJ x y=(min x.1 y.1,max x.2 y.2) from by unfold spJ;rw[if_neg tz1,if_neg tz1,if_neg tz1]];exact Le.refl _
  simp only[go_sem];(have ha:¬x.1>=x.2:=by (have h9:=hc10;simp at h9;omega));(iterate 5 (refine chS 1 ?_));simp only[↓bO,go_sem,seval];apply u;refine zt (b:=false) (by first | exact rfl | exact congrArg (fun b=>AV.v (.bool b)) hb16) (fun h=>(by cases h)) (fun _=>?_);apply zy;apply q;refine zu fun _ q=>?_;refine sqR fun _ u=>?_;(iterate 4 (refine chS 1 ?_));simp only[↓bO,go_sem,seval];apply u;apply zt rfl <;> intro hb22
  ·
   (have hc:x.1>=x.2:=by (have h9:=hb22;simp at h9;omega));refine sqR fun _ u=>?_;refine chS 1 ?_;simp only[↓bO,go_sem,seval];apply u;apply zw;(try simp only[zD,zB,zz,zW,zU,zL,bS,bA,zK,zJ,zS,bL,Nat.reduceAdd,Nat.reduceLeDiff,Nat.reduceEqDiff,↓reduceIte,zcl,tyX]);rw[show spJ x y=y from by unfold spJ;rw[if_neg tz1,if_pos tz1]];exact Le.refl _
  (have hc:¬x.1>=x.2:=by (have h9:=hb22;simp at h9;omega));apply zy;apply q;refine zu fun _ q=>?_;refine sqR fun _ u=>?_;(iterate 4 (refine chS 1 ?_));simp only[↓bO,go_sem,seval];apply u;apply zt rfl <;> intro hb28
  ·
   (have hd:y.1>=y.2:=by (have h9:=hb28;simp at h9;omega));refine sqR fun _ u=>?_;refine chS 1 ?_;simp only[↓bO,go_sem,seval];apply u;apply zw;(try simp only[zD,zB,zz,zW,zU,zL,bS,bA,zK,zJ,zS,bL,Nat.reduceAdd,Nat.reduceLeDiff,Nat.reduceEqDiff,↓reduceIte,zcl,tyX]);rw[show spJ x y=x from by unfold spJ;rw[if_neg tz1,if_neg tz1,if_pos tz1]];exact Le.refl _
  (have hd:¬y.1>=y.2:=by (have h9:=hb28;simp at h9;omega));apply zy;apply q;refine sqR fun _ q=>?_;(iterate 11 (refine chS 1 ?_));simp only[↓bO,go_sem,seval];apply q;apply zw;(try simp only[zD,zB,zz,zW,zU,zL,bS,bA,zK,zJ,zS,bL,Nat.reduceAdd,Nat.reduceLeDiff,Nat.reduceEqDiff,↓reduceIte,zcl,tyX]);rw[show spJ x y=(min x.1 y.1,max x.2 y.2) from by unfold spJ;rw[if_neg tz1,if_neg tz1,if_neg tz1]];exact Le.refl _
theorem zdE (a b c d:Int):APure Tryz.prog 189 [.agg [.v (.int .i64 a),.v (.int .i64 b)],.agg [.v (.int .i64 c),.v (.int .i64 d)]] (.agg [.v (.int .i64 (spJ (a,b) (c,d)).1),.v (.int .i64 (spJ (a,b) (c,d)).2)]):=zgj (a,b) (c,d)
theorem rdT (t:Tm) (a b:Int) (i:Nat) (e:Int):rdC ⟨t,a,b,i,e⟩=t.cells++[.v (.int .i64 a),.v (.int .i64 b),.v (.int .i64 (i:Int)),.v (.int .i64 e)]:=by
 rw[t.cells_eq];rfl
theorem RRead4 {l:List Tok} {m:Int} {i:Nat} {lv:Int} {T:Ty} {k:Nat} {e:Int} (h:rdF l m (i:Int) lv=(T,(k:Int),e)) (hl:l.length<=100000) (h1:-1000000<=lv) (h2:lv<=800000):APure Tryz.prog 226 [.sl 4 (l.map Tok.cells),.v (.int .i64 (i:Int)),.v (.int .i64 lv),.v (.int .i64 m)] (.tup [.agg T.cells,.v (.int .i64 (k:Int)),.v (.int .i64 e)]):=by
 have h9:=zgx l m (i:Int) lv hl h1 h2
 rwa [h] at h9
theorem brk_t (l:List Tok) (m:Int) (f i:Nat) (n:Int) (hl:l.length<=100000) (hD:DxOk l m f) (hR:ROk l m f) (hi:i<l.length) (hf:l.length-i<=f) (h3:-1000000<=n) (h4:n+(l.length-i:Nat)<=700000) (hc:(rx l m f (i+1) (n+1)).e=0->isT l ((rx l m f (i+1) (n+1)).i:Int) 4 zeC=true):APure Tryz.prog 210 [.sl 4 (l.map Tok.cells),.v (.int .i64 (i:Int)),.v (.int .i64 n),.v (.int .i64 m)] (.agg (rdC (brR (rx l m f) l m i n))):=by
  refine APure.mkL (.cons (Tok.dataSl l) (.cons (.v _) (.cons (.v _) (.cons (.v _) .nil)))) (.agg (zbI _)) ?_;refine aIn Tryz.func210 fun hm=>?_;simp only[Tryz.ntmps210,Tryz.results210,go_sem,seval];have hx0:=hR (i+1) (n+1) tz1;have hx1:=hx0.1;have hx2:=hx0.2.1;(have hw1:IntKind.i64.wrap ((i:Int)+1)=((i+1:Nat):Int):=by (rw[zI tz1 tz1];omega));(have hw2:IntKind.i64.wrap (n+1)=n+1:=by (rw[zI tz1 tz1]));(have hw3:IntKind.i64.wrap (n+2)=n+2:=by (rw[zI tz1 tz1]));(have hw4:IntKind.i64.wrap (((rx l m f (i+1) (n+1)).i:Int)+1)=(((rx l m f (i+1) (n+1)).i+1:Nat):Int):=by (rw[zI tz1 tz1];omega));obtain ⟨t0,ht0⟩:∃t,l[i]?=some t:=⟨_,zc hi⟩;have htk0:=zaG ht0;refine sqR fun _ u=>?_;simp only[↓bO,go_sem,seval,Tok.cells,qC,rdC,hw1,hw2,hw3,hw4,hi,List.take,List.drop,gM ht0];apply u;refine sqR fun _ u=>?_;(iterate 6 (refine chS 1 ?_ (by intro _ q;simp only[↓bO,go_sem,seval,Tok.cells,qC,rdC,hw1,hw2,hw3,hw4,hi,List.take,List.drop,gM ht0];exact q)));refine zq 1 fun _ y=>?_;simp only[↓bO,go_sem,seval,Tok.cells,qC,rdC,hw1,hw2,hw3,hw4,hi,List.take,List.drop,gM ht0];refine APure.call (hD (i+1) (n+1) tz1 tz1 tz1 tz1) ?_;apply y;clear y;refine chS 1 ?_ (by intro _ q;simp only[↓bO,go_sem,seval,Tok.cells,qC,rdC,hw1,hw2,hw3,hw4,hi,List.take,List.drop,gM ht0];exact q);simp only[↓bO,go_sem,seval,Tok.cells,qC,rdC,hw1,hw2,hw3,hw4,hi,List.take,List.drop,gM ht0];apply u;refine zu fun _ u=>?_;refine sqR fun _ w=>?_;(iterate 2 (refine chS 1 ?_ (by intro _ q;simp only[↓bO,go_sem,seval,Tok.cells,qC,rdC,hw1,hw2,hw3,hw4,hi,List.take,List.drop,gM ht0];exact q)));simp only[↓bO,go_sem,seval,Tok.cells,qC,rdC,hw1,hw2,hw3,hw4,hi,List.take,List.drop,gM ht0];apply w;apply zt rfl <;> intro hb25
  ·
   (have he:¬(rx l m f (i+1) (n+1)).e=0:=by simpa using hb25);refine sqR fun _ w=>?_;refine chS 1 ?_ (by intro _ q;simp only[↓bO,go_sem,seval,Tok.cells,qC,rdC,hw1,hw2,hw3,hw4,hi,List.take,List.drop,gM ht0];exact q);simp only[↓bO,go_sem,seval,Tok.cells,qC,rdC,hw1,hw2,hw3,hw4,hi,List.take,List.drop,gM ht0];apply w;apply zw;(try simp only[zD,zB,zz,zW,zU,zL,bS,bA,zK,zJ,zS,bL,Nat.reduceAdd,Nat.reduceLeDiff,Nat.reduceEqDiff,↓reduceIte,zaj,tyX,Tok.cells,zd,qC,rdC,hw1,hw2,hw3,hw4,hi,List.take,List.drop,gM ht0]);rw[brR_bad he];exact Le.refl _
  (have he:(rx l m f (i+1) (n+1)).e=0:=by simpa using hb25);have hcol:=hc he;obtain ⟨T,k,e,hP,k1,k2⟩:=an_g l m (rx l m f (i+1) (n+1)).i n (zN hcol);apply zy;apply u;refine sqR fun _ u=>?_;(iterate 2 (refine chS 1 ?_ (by intro _ q;simp only[↓bO,go_sem,seval,Tok.cells,qC,rdC,hw1,hw2,hw3,hw4,hi,List.take,List.drop,gM ht0,Ty.cells_eq T];exact q)));refine zq 1 fun _ y=>?_;simp only[↓bO,go_sem,seval,↓zb0,↓zb4,↓zbY,↓zb1,↓zcg,↓zbV,↓zb9,↓zb2,↓zce,↓zaX,↓zaZ,↓za0,Tok.cells,qC,rdC,hw1,hw2,hw3,hw4,hi,List.take,List.drop,gM ht0,Ty.cells_eq T];(iterate 2 (apply y;clear y;refine zq 1 fun _ y=>?_;simp only[↓bO,go_sem,seval,Tok.cells,qC,rdC,hw1,hw2,hw3,hw4,hi,List.take,List.drop,gM ht0,Ty.cells_eq T]));apply y;clear y;simp only[↓bO,go_sem,seval,Tok.cells,qC,rdC,hw1,hw2,hw3,hw4,hi,List.take,List.drop,gM ht0,Ty.cells_eq T];apply u;refine sqR fun _ u=>?_;(iterate 2 (refine chS 1 ?_ (by intro _ q;simp only[↓bO,go_sem,seval,Tok.cells,qC,rdC,hw1,hw2,hw3,hw4,hi,List.take,List.drop,gM ht0,Ty.cells_eq T];exact q)));simp only[↓bO,go_sem,seval,Tok.cells,qC,rdC,hw1,hw2,hw3,hw4,hi,List.take,List.drop,gM ht0,Ty.cells_eq T];apply u;refine zu fun _ u=>?_;refine sqR fun _ w=>?_;(iterate 2 (refine chS 1 ?_ (by intro _ q;simp only[↓bO,go_sem,seval,Tok.cells,qC,rdC,hw1,hw2,hw3,hw4,hi,List.take,List.drop,gM ht0,Ty.cells_eq T];exact q)));simp only[↓bO,go_sem,seval,Tok.cells,qC,rdC,hw1,hw2,hw3,hw4,hi,List.take,List.drop,gM ht0,Ty.cells_eq T];refine APure.call (zaC l (rx l m f (i+1) (n+1)).i zeC) ?_;apply w;apply zt rfl <;> intro hb35
  ·
   refine sqR fun _ w=>?_;(iterate 6 (refine chS 1 ?_ (by intro _ q;simp only[↓bO,go_sem,seval,Tok.cells,qC,rdC,hw1,hw2,hw3,hw4,hi,List.take,List.drop,gM ht0,Ty.cells_eq T];exact q)));refine zq 1 fun _ y=>?_;simp only[↓bO,go_sem,seval,Tok.cells,qC,rdC,hw1,hw2,hw3,hw4,hi,List.take,List.drop,gM ht0,Ty.cells_eq T];refine APure.call (RRead4 hP hl tz1 tz1) ?_;(iterate 7 (apply y;clear y;refine zq 1 fun _ y=>?_;simp only[↓bO,go_sem,seval,Tok.cells,qC,rdC,hw1,hw2,hw3,hw4,hi,List.take,List.drop,gM ht0,Ty.cells_eq T]));apply y;clear y;simp only[↓bO,go_sem,seval,Tok.cells,qC,rdC,hw1,hw2,hw3,hw4,hi,List.take,List.drop,gM ht0,Ty.cells_eq T];apply w;refine zu fun _ w=>?_;refine sqR fun _ z=>?_;refine chS 1 ?_ (by intro _ q;simp only[↓bO,go_sem,seval,Tok.cells,qC,rdC,hw1,hw2,hw3,hw4,hi,List.take,List.drop,gM ht0,Ty.cells_eq T];exact q);simp only[↓bO,go_sem,seval,Tok.cells,qC,rdC,hw1,hw2,hw3,hw4,hi,List.take,List.drop,gM ht0,Ty.cells_eq T];apply z;apply zt rfl <;> intro hb48
   ·
    (have he2:¬e=0:=by simpa using hb48);refine sqR fun _ z=>?_;(iterate 2 (refine chS 1 ?_ (by intro _ q;simp only[↓bO,go_sem,seval,Tok.cells,qC,rdC,hw1,hw2,hw3,hw4,hi,List.take,List.drop,gM ht0,Ty.cells_eq T];exact q)));refine zq 1 fun _ y=>?_;simp only[↓bO,go_sem,seval,Tok.cells,qC,rdC,hw1,hw2,hw3,hw4,hi,List.take,List.drop,gM ht0,Ty.cells_eq T];refine APure.call (z7 k e) ?_;apply y;clear y;simp only[↓bO,go_sem,seval,Tok.cells,qC,rdC,hw1,hw2,hw3,hw4,hi,List.take,List.drop,gM ht0,Ty.cells_eq T];apply z;apply zw;(try simp only[zD,zB,zz,zW,zU,zL,bS,bA,zK,zJ,zS,bL,Nat.reduceAdd,Nat.reduceLeDiff,Nat.reduceEqDiff,↓reduceIte,zaj,tyX,Tok.cells,zd,qC,rdC,hw1,hw2,hw3,hw4,hi,List.take,List.drop,gM ht0,Ty.cells_eq T]);rw[zbG he hcol,zdN hP];rw[if_neg he2];exact Le.refl _
   (have he2:e=0:=by simpa using hb48);apply zy;apply w;refine zu fun _ w=>?_;refine z6 [] 5 rfl mixed (trivial) rfl ?_;dsimp only;refine tkK 1 rfl fun _ y=>?_;simp only[↓bO,go_sem,seval,Tok.cells,qC,rdC,hw1,hw2,hw3,hw4,hi,List.take,List.drop,gM ht0,Ty.cells_eq T];apply y;clear y;refine al2 (i:=0) (j:=2) ?_ ?_
   ·
    refine opT fun _ y=>?_;simp only[↓bO,go_sem,seval,Tok.cells,qC,rdC,hw1,hw2,hw3,hw4,hi,List.take,List.drop,gM ht0,Ty.cells_eq T];refine y _ ⟨trivial,?_⟩;clear y;refine al1 (i:=2) ?_;refine opT fun _ y=>?_;simp only[↓bO,go_sem,seval,Tok.cells,qC,rdC,hw1,hw2,hw3,hw4,hi,List.take,List.drop,gM ht0,Ty.cells_eq T];refine y _ ⟨trivial,?_⟩;clear y;refine tkK 3 rfl fun _ y=>?_;simp only[↓bO,go_sem,seval,Tok.cells,qC,rdC,hw1,hw2,hw3,hw4,hi,List.take,List.drop,gM ht0,Ty.cells_eq T];apply y;clear y;refine al1 (i:=4) ?_;refine opT fun _ y=>?_;simp only[↓bO,go_sem,seval,Tok.cells,qC,rdC,hw1,hw2,hw3,hw4,hi,List.take,List.drop,gM ht0,Ty.cells_eq T];refine y _ ⟨trivial,?_⟩;clear y;refine dnA ?_;apply w;apply zA;refine chS 1 ?_ (by intro _ q;simp only[↓bO,go_sem,seval,Tok.cells,qC,rdC,hw1,hw2,hw3,hw4,hi,List.take,List.drop,gM ht0,Ty.cells_eq T];exact q);simp only[↓bO,go_sem,seval,Tok.cells,qC,rdC,hw1,hw2,hw3,hw4,hi,List.take,List.drop,gM ht0,Ty.cells_eq T];apply u;refine zu fun _ u=>?_;refine sqR fun _ w=>?_;(iterate 2 (refine chS 1 ?_ (by intro _ q;simp only[↓bO,go_sem,seval,Tok.cells,qC,rdC,hw1,hw2,hw3,hw4,hi,List.take,List.drop,gM ht0,Ty.cells_eq T];exact q)));refine zq 1 fun _ y=>?_;simp only[↓bO,go_sem,seval,Tok.cells,qC,rdC,hw1,hw2,hw3,hw4,hi,List.take,List.drop,gM ht0,Ty.cells_eq T];refine APure.call (zaC l k zcq) ?_;apply y;clear y;simp only[↓bO,go_sem,seval,Tok.cells,qC,rdC,hw1,hw2,hw3,hw4,hi,List.take,List.drop,gM ht0,Ty.cells_eq T];apply w;apply zt rfl <;> intro hb88
    ·
     (have h6:isT l (k:Int) 4 zcq=false:=by simpa using hb88);refine sqR fun _ w=>?_;refine chS 1 ?_ (by intro _ q;simp only[↓bO,go_sem,seval,Tok.cells,qC,rdC,hw1,hw2,hw3,hw4,hi,List.take,List.drop,gM ht0,Ty.cells_eq T];exact q);refine zq 1 fun _ y=>?_;simp only[↓bO,go_sem,seval,Tok.cells,qC,rdC,hw1,hw2,hw3,hw4,hi,List.take,List.drop,gM ht0,Ty.cells_eq T];refine APure.call (z7 k 3) ?_;apply y;clear y;simp only[↓bO,go_sem,seval,Tok.cells,qC,rdC,hw1,hw2,hw3,hw4,hi,List.take,List.drop,gM ht0,Ty.cells_eq T];apply w;apply zw;(try simp only[zD,zB,zz,zW,zU,zL,bS,bA,zK,zJ,zS,bL,Nat.reduceAdd,Nat.reduceLeDiff,Nat.reduceEqDiff,↓reduceIte,zaj,tyX,Tok.cells,zd,qC,rdC,hw1,hw2,hw3,hw4,hi,List.take,List.drop,gM ht0,Ty.cells_eq T]);rw[zbG he hcol,zdN hP,if_pos he2];rw[if_neg (by rw[h6];simp)];exact Le.refl _
    (have h6:isT l (k:Int) 4 zcq=true:=by simpa using hb88);have hlk:k<l.length:=zN h6;obtain ⟨t1,ht1⟩:∃t,l[k]?=some t:=⟨_,zc hlk⟩;have htk1:=zaG ht1;(have hw5:IntKind.i64.wrap ((k:Int)+1)=((k+1:Nat):Int):=by (rw[zI tz1 tz1];omega));apply zy;apply u;refine zu fun _ u=>?_;refine zT 12 mixed tz0 fun J0 j0=>?_;(iterate 10 (simp only[go_sem];refine zE 1 fun _ y=>?_;simp only[↓zX,↓dOp,↓bO,go_sem,seval,Tok.cells,qC,rdC,hw1,hw2,hw3,hw4,hi,List.take,List.drop,gM ht0,Ty.cells_eq T,hw5,hlk,gM ht1];apply y;clear y));simp only[go_sem];refine zE 1 fun _ y=>?_;simp only[↓zX,↓dOp,↓bO,go_sem,seval,Tok.cells,qC,rdC,hw1,hw2,hw3,hw4,hi,List.take,List.drop,gM ht0,Ty.cells_eq T,hw5,hlk,gM ht1];refine ⟨_,zdE _ _ _ _,?_⟩;apply y;clear y;simp only[↓zX,↓dOp,↓bO,go_sem,seval,Tok.cells,qC,rdC,hw1,hw2,hw3,hw4,hi,List.take,List.drop,gM ht0,Ty.cells_eq T,hw5,hlk,gM ht1];refine j0 _ ?_;clear j0 J0;simp only[go_sem];simp only[↓bO,go_sem,seval,Tok.cells,qC,rdC,hw1,hw2,hw3,hw4,hi,List.take,List.drop,gM ht0,Ty.cells_eq T,hw5,hlk,gM ht1];apply u;refine zu fun _ u=>?_;refine sqR fun _ w=>?_;(iterate 4 (refine chS 1 ?_ (by intro _ q;simp only[↓bO,go_sem,seval,Tok.cells,qC,rdC,hw1,hw2,hw3,hw4,hi,List.take,List.drop,gM ht0,Ty.cells_eq T,hw5,hlk,gM ht1];exact q)));refine zC 106 rfl (fun hc106=>?_) (fun hc106=>?_)
    ·
     simp only[go_sem];exact absurd hc106 tz3
    (iterate 4 (refine chS 1 ?_ (by intro _ q;simp only[↓bO,go_sem,seval,Tok.cells,qC,rdC,hw1,hw2,hw3,hw4,hi,List.take,List.drop,gM ht0,Ty.cells_eq T,hw5,hlk,gM ht1];exact q)));simp only[↓bO,go_sem,seval,Tok.cells,qC,rdC,hw1,hw2,hw3,hw4,hi,List.take,List.drop,gM ht0,Ty.cells_eq T,hw5,hlk,gM ht1];apply w;refine zt (b:=false) (by first | exact rfl | exact congrArg (fun b=>AV.v (.bool b)) hb111) (fun h=>(by cases h)) (fun _=>?_);apply zy;apply u;refine sqR fun _ u=>?_;(iterate 6 (refine chS 1 ?_ (by intro _ q;simp only[↓bO,go_sem,seval,Tok.cells,qC,rdC,hw1,hw2,hw3,hw4,hi,List.take,List.drop,gM ht0,Ty.cells_eq T,hw5,hlk,gM ht1];exact q)));simp only[↓bO,go_sem,seval,Tok.cells,qC,rdC,hw1,hw2,hw3,hw4,hi,List.take,List.drop,gM ht0,Ty.cells_eq T,hw5,hlk,gM ht1];apply u;apply zw;(try simp only[zD,zB,zz,zW,zU,zL,bS,bA,zK,zJ,zS,bL,Nat.reduceAdd,Nat.reduceLeDiff,Nat.reduceEqDiff,↓reduceIte,zaj,tyX,Tok.cells,zd,qC,rdC,hw1,hw2,hw3,hw4,hi,List.take,List.drop,gM ht0,Ty.cells_eq T,hw5,hlk,gM ht1]);rw[zbG he hcol,zdN hP,if_pos he2];rw[if_pos h6];unfold sp;simp only[Tm.k,Tm.s,Tm.n,Tm.t,Tm.ps,Tm.a,Tm.b,zk,zi,Tm.cells_eq (rx l m f (i+1) (n+1)).t,htk0,htk1];exact Le.refl _
   refine opT fun _ y=>?_;simp only[↓bO,go_sem,seval,Tok.cells,qC,rdC,hw1,hw2,hw3,hw4,hi,List.take,List.drop,gM ht0,Ty.cells_eq T];refine y _ ⟨trivial,?_⟩;clear y;refine al1 (i:=0) ?_;refine opT fun _ y=>?_;simp only[↓bO,go_sem,seval,Tok.cells,qC,rdC,hw1,hw2,hw3,hw4,hi,List.take,List.drop,gM ht0,Ty.cells_eq T];refine y _ ⟨trivial,?_⟩;clear y;refine tkK 3 rfl fun _ y=>?_;simp only[↓bO,go_sem,seval,Tok.cells,qC,rdC,hw1,hw2,hw3,hw4,hi,List.take,List.drop,gM ht0,Ty.cells_eq T];apply y;clear y;refine al1 (i:=4) ?_;refine opT fun _ y=>?_;simp only[↓bO,go_sem,seval,Tok.cells,qC,rdC,hw1,hw2,hw3,hw4,hi,List.take,List.drop,gM ht0,Ty.cells_eq T];refine y _ ⟨trivial,?_⟩;clear y;refine dnA ?_;apply w;apply zA;refine chS 1 ?_ (by intro _ q;simp only[↓bO,go_sem,seval,Tok.cells,qC,rdC,hw1,hw2,hw3,hw4,hi,List.take,List.drop,gM ht0,Ty.cells_eq T];exact q);simp only[↓bO,go_sem,seval,Tok.cells,qC,rdC,hw1,hw2,hw3,hw4,hi,List.take,List.drop,gM ht0,Ty.cells_eq T];apply u;refine zu fun _ u=>?_;refine sqR fun _ w=>?_;(iterate 2 (refine chS 1 ?_ (by intro _ q;simp only[↓bO,go_sem,seval,Tok.cells,qC,rdC,hw1,hw2,hw3,hw4,hi,List.take,List.drop,gM ht0,Ty.cells_eq T];exact q)));refine zq 1 fun _ y=>?_;simp only[↓bO,go_sem,seval,Tok.cells,qC,rdC,hw1,hw2,hw3,hw4,hi,List.take,List.drop,gM ht0,Ty.cells_eq T];refine APure.call (zaC l k zcq) ?_;apply y;clear y;simp only[↓bO,go_sem,seval,Tok.cells,qC,rdC,hw1,hw2,hw3,hw4,hi,List.take,List.drop,gM ht0,Ty.cells_eq T];apply w;apply zt rfl <;> intro hb88
   ·
    (have h6:isT l (k:Int) 4 zcq=false:=by simpa using hb88);refine sqR fun _ w=>?_;refine chS 1 ?_ (by intro _ q;simp only[↓bO,go_sem,seval,Tok.cells,qC,rdC,hw1,hw2,hw3,hw4,hi,List.take,List.drop,gM ht0,Ty.cells_eq T];exact q);refine zq 1 fun _ y=>?_;simp only[↓bO,go_sem,seval,Tok.cells,qC,rdC,hw1,hw2,hw3,hw4,hi,List.take,List.drop,gM ht0,Ty.cells_eq T];refine APure.call (z7 k 3) ?_;apply y;clear y;simp only[↓bO,go_sem,seval,Tok.cells,qC,rdC,hw1,hw2,hw3,hw4,hi,List.take,List.drop,gM ht0,Ty.cells_eq T];apply w;apply zw;(try simp only[zD,zB,zz,zW,zU,zL,bS,bA,zK,zJ,zS,bL,Nat.reduceAdd,Nat.reduceLeDiff,Nat.reduceEqDiff,↓reduceIte,zaj,tyX,Tok.cells,zd,qC,rdC,hw1,hw2,hw3,hw4,hi,List.take,List.drop,gM ht0,Ty.cells_eq T]);rw[zbG he hcol,zdN hP,if_pos he2];rw[if_neg (by rw[h6];simp)];exact Le.refl _
   (have h6:isT l (k:Int) 4 zcq=true:=by simpa using hb88);have hlk:k<l.length:=zN h6;obtain ⟨t1,ht1⟩:∃t,l[k]?=some t:=⟨_,zc hlk⟩;have htk1:=zaG ht1;(have hw5:IntKind.i64.wrap ((k:Int)+1)=((k+1:Nat):Int):=by (rw[zI tz1 tz1];omega));apply zy;apply u;refine zu fun _ u=>?_;refine zT 12 mixed tz0 fun J0 j0=>?_;(iterate 10 (simp only[go_sem];refine zE 1 fun _ y=>?_;simp only[↓zX,↓dOp,↓bO,go_sem,seval,Tok.cells,qC,rdC,hw1,hw2,hw3,hw4,hi,List.take,List.drop,gM ht0,Ty.cells_eq T,hw5,hlk,gM ht1];apply y;clear y));simp only[go_sem];refine zE 1 fun _ y=>?_;simp only[↓zX,↓dOp,↓bO,go_sem,seval,Tok.cells,qC,rdC,hw1,hw2,hw3,hw4,hi,List.take,List.drop,gM ht0,Ty.cells_eq T,hw5,hlk,gM ht1];refine ⟨_,zdE _ _ _ _,?_⟩;apply y;clear y;simp only[↓zX,↓dOp,↓bO,go_sem,seval,Tok.cells,qC,rdC,hw1,hw2,hw3,hw4,hi,List.take,List.drop,gM ht0,Ty.cells_eq T,hw5,hlk,gM ht1];refine j0 _ ?_;clear j0 J0;simp only[go_sem];simp only[↓bO,go_sem,seval,Tok.cells,qC,rdC,hw1,hw2,hw3,hw4,hi,List.take,List.drop,gM ht0,Ty.cells_eq T,hw5,hlk,gM ht1];apply u;refine zu fun _ u=>?_;refine sqR fun _ w=>?_;(iterate 4 (refine chS 1 ?_ (by intro _ q;simp only[↓bO,go_sem,seval,Tok.cells,qC,rdC,hw1,hw2,hw3,hw4,hi,List.take,List.drop,gM ht0,Ty.cells_eq T,hw5,hlk,gM ht1];exact q)));refine zC 106 rfl (fun hc106=>?_) (fun hc106=>?_)
   ·
    simp only[go_sem];exact absurd hc106 tz3
   (iterate 4 (refine chS 1 ?_ (by intro _ q;simp only[↓bO,go_sem,seval,Tok.cells,qC,rdC,hw1,hw2,hw3,hw4,hi,List.take,List.drop,gM ht0,Ty.cells_eq T,hw5,hlk,gM ht1];exact q)));simp only[↓bO,go_sem,seval,Tok.cells,qC,rdC,hw1,hw2,hw3,hw4,hi,List.take,List.drop,gM ht0,Ty.cells_eq T,hw5,hlk,gM ht1];apply w;refine zt (b:=false) (by first | exact rfl | exact congrArg (fun b=>AV.v (.bool b)) hb111) (fun h=>(by cases h)) (fun _=>?_);apply zy;apply u;refine sqR fun _ u=>?_;(iterate 6 (refine chS 1 ?_ (by intro _ q;simp only[↓bO,go_sem,seval,Tok.cells,qC,rdC,hw1,hw2,hw3,hw4,hi,List.take,List.drop,gM ht0,Ty.cells_eq T,hw5,hlk,gM ht1];exact q)));simp only[↓bO,go_sem,seval,Tok.cells,qC,rdC,hw1,hw2,hw3,hw4,hi,List.take,List.drop,gM ht0,Ty.cells_eq T,hw5,hlk,gM ht1];apply u;apply zw;(try simp only[zD,zB,zz,zW,zU,zL,bS,bA,zK,zJ,zS,bL,Nat.reduceAdd,Nat.reduceLeDiff,Nat.reduceEqDiff,↓reduceIte,zaj,tyX,Tok.cells,zd,qC,rdC,hw1,hw2,hw3,hw4,hi,List.take,List.drop,gM ht0,Ty.cells_eq T,hw5,hlk,gM ht1]);rw[zbG he hcol,zdN hP,if_pos he2];rw[if_pos h6];unfold sp;simp only[Tm.k,Tm.s,Tm.n,Tm.t,Tm.ps,Tm.a,Tm.b,zk,zi,Tm.cells_eq (rx l m f (i+1) (n+1)).t,htk0,htk1];exact Le.refl _
  exact absurd (show isT l ((rx l m f (i+1) (n+1)).i:Int) 4 zeC=true from hcol) (by (have h9:=hb35;first | (rw[show isT l ((rx l m f (i+1) (n+1)).i:Int) 4 zeC=false from h9];simp)))
section
variable {E:Nat->Int->Rdx} {l:List Tok} {n:Int} {i0:Nat} {r:Rdx} {s:TS}
theorem TpI.rmany (h:TpI E l n i0 r s) (he:s.e=0) (h2:isT l (s.i:Int) 4 zen=true) (h3:8<=s.ps.length):r=wr s.i 6:=by
 obtain ⟨G,hG,_⟩:=h.fuel he;rw[hG];unfold tpR;rw[if_pos h2,if_pos h3]
theorem TpI.rbad (h:TpI E l n i0 r s) (he:s.e=0) (h2:isT l (s.i:Int) 4 zen=true) (h3:¬8<=s.ps.length) (h4:¬(E (s.i+1) (n+1)).e=0):r=E (s.i+1) (n+1):=by
 obtain ⟨G,hG,_⟩:=h.fuel he;rw[hG];unfold tpR;rw[if_pos h2,if_neg h3,if_neg h4]
theorem TpI.rend (h:TpI E l n i0 r s) (he:s.e=0) (h2:isT l (s.i:Int) 4 zen=false) (h1:isT l (s.i:Int) 4 zcq=false):r=wr s.i 3:=by
 obtain ⟨G,hG,_⟩:=h.fuel he;rw[hG];unfold tpR;rw[if_neg (by rw[h2];simp),if_neg (by rw[h1];simp)]
theorem TpI.fin (h:TpI E l n i0 r s) (he:s.e=0) (h1:isT l (s.i:Int) 4 zcq=true):r=⟨(tpP s.ps (spJ (sp l i0) (sp l s.i))).1,(tpP s.ps (spJ (sp l i0) (sp l s.i))).2.1,(tpP s.ps (spJ (sp l i0) (sp l s.i))).2.2,s.i+1,0⟩:=by
 obtain ⟨a,b,c⟩:=h.close he h1;rw[c,<- a,<- b]
end
theorem brk_u (l:List Tok) (m:Int) (f i:Nat) (n:Int) (hl:l.length<=100000) (hD:DxOk l m f) (hR:ROk l m f) (hi:i<l.length) (hf:l.length-i<=f) (h3:-1000000<=n) (h4:n+(l.length-i:Nat)<=700000) (hc:(rx l m f (i+1) (n+1)).e=0->isT l ((rx l m f (i+1) (n+1)).i:Int) 4 zeC=false):APure Tryz.prog 210 [.sl 4 (l.map Tok.cells),.v (.int .i64 (i:Int)),.v (.int .i64 n),.v (.int .i64 m)] (.agg (rdC (brR (rx l m f) l m i n))):=by
  (generalize hbr:brR (rx l m f) l m i n=r);refine APure.mkL (.cons (Tok.dataSl l) (.cons (.v _) (.cons (.v _) (.cons (.v _) .nil)))) (.agg (zbI _)) ?_;refine aIn Tryz.func210 fun hm=>?_;simp only[Tryz.ntmps210,Tryz.results210,go_sem,seval];have hx0:=hR (i+1) (n+1) tz1;have hx1:=hx0.1;have hx2:=hx0.2.1;(have hw1:IntKind.i64.wrap ((i:Int)+1)=((i+1:Nat):Int):=by (rw[zI tz1 tz1];omega));(have hw2:IntKind.i64.wrap (n+1)=n+1:=by (rw[zI tz1 tz1]));(have hw3:IntKind.i64.wrap (n+2)=n+2:=by (rw[zI tz1 tz1]));(have hw4:IntKind.i64.wrap (((rx l m f (i+1) (n+1)).i:Int)+1)=(((rx l m f (i+1) (n+1)).i+1:Nat):Int):=by (rw[zI tz1 tz1];omega));obtain ⟨t0,ht0⟩:∃t,l[i]?=some t:=⟨_,zc hi⟩;have htk0:=zaG ht0;refine sqR fun _ u=>?_;simp only[↓bO,go_sem,seval,Tok.cells,qC,rdC,hw1,hw2,hw3,hw4,hi,List.take,List.drop,gM ht0];apply u;refine sqR fun _ u=>?_;(iterate 6 (refine chS 1 ?_ (by intro _ q;simp only[↓bO,go_sem,seval,Tok.cells,qC,rdC,hw1,hw2,hw3,hw4,hi,List.take,List.drop,gM ht0];exact q)));refine zq 1 fun _ y=>?_;simp only[↓bO,go_sem,seval,Tok.cells,qC,rdC,hw1,hw2,hw3,hw4,hi,List.take,List.drop,gM ht0];refine APure.call (hD (i+1) (n+1) tz1 tz1 tz1 tz1) ?_;apply y;clear y;refine chS 1 ?_ (by intro _ q;simp only[↓bO,go_sem,seval,Tok.cells,qC,rdC,hw1,hw2,hw3,hw4,hi,List.take,List.drop,gM ht0];exact q);simp only[↓bO,go_sem,seval,Tok.cells,qC,rdC,hw1,hw2,hw3,hw4,hi,List.take,List.drop,gM ht0];apply u;refine zu fun _ u=>?_;refine sqR fun _ w=>?_;(iterate 2 (refine chS 1 ?_ (by intro _ q;simp only[↓bO,go_sem,seval,Tok.cells,qC,rdC,hw1,hw2,hw3,hw4,hi,List.take,List.drop,gM ht0];exact q)));simp only[↓bO,go_sem,seval,Tok.cells,qC,rdC,hw1,hw2,hw3,hw4,hi,List.take,List.drop,gM ht0];apply w;apply zt rfl <;> intro hb25
  ·
   (have he:¬(rx l m f (i+1) (n+1)).e=0:=by simpa using hb25);refine sqR fun _ w=>?_;refine chS 1 ?_ (by intro _ q;simp only[↓bO,go_sem,seval,Tok.cells,qC,rdC,hw1,hw2,hw3,hw4,hi,List.take,List.drop,gM ht0];exact q);simp only[↓bO,go_sem,seval,Tok.cells,qC,rdC,hw1,hw2,hw3,hw4,hi,List.take,List.drop,gM ht0];apply w;apply zw;(try simp only[zD,zB,zz,zW,zU,zL,bS,bA,zK,zJ,zS,bL,Nat.reduceAdd,Nat.reduceLeDiff,Nat.reduceEqDiff,↓reduceIte,zaj,tyX,Tok.cells,zd,qC,rdC,hw1,hw2,hw3,hw4,hi,List.take,List.drop,gM ht0]);rw[<- hbr,brR_bad he];exact Le.refl _
  (have he:(rx l m f (i+1) (n+1)).e=0:=by simpa using hb25);have hcol:=hc he;apply zy;apply u;refine zu fun _ u=>?_;refine zb8 2 [_] [_,_,_] rfl fun _ y=>?_;refine chS 1 ?_ (by intro _ q;simp only[↓bO,go_sem,seval,Tok.cells,qC,rdC,hw1,hw2,hw3,hw4,hi,List.take,List.drop,gM ht0];exact q);simp only[↓bO,go_sem,seval,Tok.cells,qC,rdC,hw1,hw2,hw3,hw4,hi,List.take,List.drop,gM ht0];apply y;clear y;refine zbB ei54 tz3 rfl tz3 (by intro p hp;simp at hp;subst hp;exact ⟨rfl,rfl⟩) ?_;simp only[zQ,bS,bA,tyX,Tok.cells,zd,qC,rdC,hw1,hw2,hw3,hw4,hi,List.take,List.drop,gM ht0];(iterate 2 (refine chS 1 ?_ (by intro _ q;simp only[↓bO,go_sem,seval,Tok.cells,qC,rdC,hw1,hw2,hw3,hw4,hi,List.take,List.drop,gM ht0];exact q)));simp only[↓bO,go_sem,seval,Tok.cells,qC,rdC,hw1,hw2,hw3,hw4,hi,List.take,List.drop,gM ht0];apply u;refine sqR fun _ u=>?_;(iterate 2 (refine chS 1 ?_ (by intro _ q;simp only[↓bO,go_sem,seval,Tok.cells,qC,rdC,hw1,hw2,hw3,hw4,hi,List.take,List.drop,gM ht0];exact q)));simp only[↓bO,go_sem,seval,Tok.cells,qC,rdC,hw1,hw2,hw3,hw4,hi,List.take,List.drop,gM ht0];apply u;refine zu fun _ u=>?_;refine sqR fun _ w=>?_;(iterate 2 (refine chS 1 ?_ (by intro _ q;simp only[↓bO,go_sem,seval,Tok.cells,qC,rdC,hw1,hw2,hw3,hw4,hi,List.take,List.drop,gM ht0];exact q)));simp only[↓bO,go_sem,seval,Tok.cells,qC,rdC,hw1,hw2,hw3,hw4,hi,List.take,List.drop,gM ht0];refine APure.call (zaC l (rx l m f (i+1) (n+1)).i zeC) ?_;apply w;apply zt rfl <;> intro hb35
  ·
   exact absurd (show isT l ((rx l m f (i+1) (n+1)).i:Int) 4 zeC=false from hcol) (by (have h9:=hb35;rw[show isT l ((rx l m f (i+1) (n+1)).i:Int) 4 zeC=true from h9];simp))
  apply zF;refine zV (σ:=TS) (mB 125 3855) (fun s=>TpI (rx l m f) l n i r s/\s.e=0/\∃rest,s.ps=(rx l m f (i+1) (n+1)).t::rest) (fun s=>[(11,.v (.int .i64 (s.i:Int)))]) (fun s=>[(3,.cells 58 [.v (.int .i64 9),.v (.string ByteArray.empty),.v (.int .i64 0),.v (.int .i64 0),.v (.int .i64 0),.v (.slice none 0 0),.osl 2 9 (s.ps.map Tm.cells),.v (.int .i64 0),.v (.int .i64 0)]),(2,.tok 58 9 s.ps.length)]) (fun s=>l.length-s.i) ⟨[(rx l m f (i+1) (n+1)).t],(rx l m f (i+1) (n+1)).i,(rx l m f (i+1) (n+1)).e,0,0⟩ (⟨hbr▸TpI.start (p:=((rx l m f (i+1) (n+1)).t,(rx l m f (i+1) (n+1)).a,(rx l m f (i+1) (n+1)).b)) (fun j k hj=>hR j k hj) hi (fun _=>rfl) hc _,he,⟨[],rfl⟩⟩) ?_ (fun s hs=>?_)
  ·
   (try simp only[go_sem,seval,bL,Tm.cells_eq (rx l m f (i+1) (n+1)).t]);exact zaH
  simp only[go_sem,seval];refine zu fun _ w=>?_;refine sqR fun _ z=>?_;(iterate 2 (refine chS 1 ?_ (by intro _ q;simp only[↓bO,go_sem,seval,Tok.cells,qC,rdC,hw1,hw2,hw3,hw4,hi,List.take,List.drop,gM ht0,zb,za];exact q)));simp only[↓bO,go_sem,seval,Tok.cells,qC,rdC,hw1,hw2,hw3,hw4,hi,List.take,List.drop,gM ht0,zb,za];refine APure.call (zaC l s.i zen) ?_;apply z;apply zt rfl <;> intro hb58
  ·
   have h5:isT l (s.i:Int) 4 zen=true:=hb58;have h5l:=zN h5;have hs1:=hs.1.2.2.1;have hs2:=hs.1.2.2.2.1;have hs8:=hs.1.2.1;(have hw6:IntKind.i64.wrap ((s.i:Int)+1)=((s.i+1:Nat):Int):=by (rw[zI tz1 tz1];omega));apply zy;apply w;apply zF;refine zu fun _ w=>?_;refine sqR fun _ z=>?_;(iterate 3 (refine chS 1 ?_ (by intro _ q;simp only[↓bO,go_sem,seval,Tok.cells,qC,rdC,hw1,hw2,hw3,hw4,hi,List.take,List.drop,gM ht0,zb,za,hw6];exact q)));simp only[↓bO,go_sem,seval,Tok.cells,qC,rdC,hw1,hw2,hw3,hw4,hi,List.take,List.drop,gM ht0,zb,za,hw6];apply z;apply zt rfl <;> intro hb62
   ·
    (have h7:8<=s.ps.length:=by (have h9:=hb62;simp at h9;omega));refine sqR fun _ z=>?_;refine chS 1 ?_ (by intro _ q;simp only[↓bO,go_sem,seval,Tok.cells,qC,rdC,hw1,hw2,hw3,hw4,hi,List.take,List.drop,gM ht0,zb,za,hw6];exact q);refine zq 1 fun _ y=>?_;simp only[↓bO,go_sem,seval,Tok.cells,qC,rdC,hw1,hw2,hw3,hw4,hi,List.take,List.drop,gM ht0,zb,za,hw6];refine APure.call (z7 s.i 6) ?_;apply y;clear y;simp only[↓bO,go_sem,seval,Tok.cells,qC,rdC,hw1,hw2,hw3,hw4,hi,List.take,List.drop,gM ht0,zb,za,hw6];apply z;apply zw;(try simp only[zD,zB,zz,zW,zU,zL,bS,bA,zK,zJ,zS,bL,Nat.reduceAdd,Nat.reduceLeDiff,Nat.reduceEqDiff,↓reduceIte,zaj,tyX,Tok.cells,zd,qC,rdC,hw1,hw2,hw3,hw4,hi,List.take,List.drop,gM ht0,zb,za,hw6]);rw[hs.1.rmany hs.2.1 h5 h7];exact Le.refl _
   (have h7:¬8<=s.ps.length:=by (have h9:=hb62;simp at h9;omega));(have hb1:(s.ps.length+1) * 112<=140737488355328:=by omega);(have hb2:s.ps.length+1<=maxLen:=by (simp only[maxLen];omega));apply zy;apply w;refine sqR fun _ w=>?_;(iterate 6 (refine chS 1 ?_ (by intro _ q;simp only[↓bO,go_sem,seval,Tok.cells,qC,rdC,hw1,hw2,hw3,hw4,hi,List.take,List.drop,gM ht0,zb,za,hw6,hb1,hb2];exact q)));refine zq 1 fun _ y=>?_;simp only[↓bO,go_sem,seval,Tok.cells,qC,rdC,hw1,hw2,hw3,hw4,hi,List.take,List.drop,gM ht0,zb,za,hw6,hb1,hb2];refine APure.call (hD (s.i+1) (n+1) tz1 tz1 tz1 tz1) ?_;apply y;clear y;refine chS 1 ?_ (by intro _ q;simp only[↓bO,go_sem,seval,Tok.cells,qC,rdC,hw1,hw2,hw3,hw4,hi,List.take,List.drop,gM ht0,zb,za,hw6,hb1,hb2];exact q);simp only[↓bO,go_sem,seval,Tok.cells,qC,rdC,hw1,hw2,hw3,hw4,hi,List.take,List.drop,gM ht0,zb,za,hw6,hb1,hb2];apply w;refine zu fun _ w=>?_;refine sqR fun _ z=>?_;(iterate 2 (refine chS 1 ?_ (by intro _ q;simp only[↓bO,go_sem,seval,Tok.cells,qC,rdC,hw1,hw2,hw3,hw4,hi,List.take,List.drop,gM ht0,zb,za,hw6,hb1,hb2];exact q)));simp only[↓bO,go_sem,seval,Tok.cells,qC,rdC,hw1,hw2,hw3,hw4,hi,List.take,List.drop,gM ht0,zb,za,hw6,hb1,hb2];apply z;apply zt rfl <;> intro hb74
   ·
    (have h8:¬(rx l m f (s.i+1) (n+1)).e=0:=by simpa using hb74);refine sqR fun _ z=>?_;refine chS 1 ?_ (by intro _ q;simp only[↓bO,go_sem,seval,Tok.cells,qC,rdC,hw1,hw2,hw3,hw4,hi,List.take,List.drop,gM ht0,zb,za,hw6,hb1,hb2];exact q);simp only[↓bO,go_sem,seval,Tok.cells,qC,rdC,hw1,hw2,hw3,hw4,hi,List.take,List.drop,gM ht0,zb,za,hw6,hb1,hb2];apply z;apply zw;(try simp only[zD,zB,zz,zW,zU,zL,bS,bA,zK,zJ,zS,bL,Nat.reduceAdd,Nat.reduceLeDiff,Nat.reduceEqDiff,↓reduceIte,zaj,tyX,Tok.cells,zd,qC,rdC,hw1,hw2,hw3,hw4,hi,List.take,List.drop,gM ht0,zb,za,hw6,hb1,hb2]);rw[hs.1.rbad hs.2.1 h5 h7 h8];exact Le.refl _
   (have h8:(rx l m f (s.i+1) (n+1)).e=0:=by simpa using hb74);apply zy;apply w;refine sqR fun _ w=>?_;(iterate 4 (refine chS 1 ?_ (by intro _ q;simp only[↓bO,go_sem,seval,Tok.cells,qC,rdC,hw1,hw2,hw3,hw4,hi,List.take,List.drop,gM ht0,zb,za,hw6,hb1,hb2,Tm.cells_eq (rx l m f (s.i+1) (n+1)).t];exact q)));refine zq 1 fun _ y=>?_;simp only[↓bO,go_sem,seval,↓zb0,↓zb4,↓zbY,↓zb1,↓zcg,↓zbV,↓zb9,↓zb2,↓zce,↓zaX,↓zaZ,↓za0,Tok.cells,qC,rdC,hw1,hw2,hw3,hw4,hi,List.take,List.drop,gM ht0,zb,za,hw6,hb1,hb2,Tm.cells_eq (rx l m f (s.i+1) (n+1)).t];(iterate 2 (apply y;clear y;refine zq 1 fun _ y=>?_;simp only[↓bO,go_sem,seval,Tok.cells,qC,rdC,hw1,hw2,hw3,hw4,hi,List.take,List.drop,gM ht0,zb,za,hw6,hb1,hb2,Tm.cells_eq (rx l m f (s.i+1) (n+1)).t]));apply y;clear y;simp only[↓bO,go_sem,seval,Tok.cells,qC,rdC,hw1,hw2,hw3,hw4,hi,List.take,List.drop,gM ht0,zb,za,hw6,hb1,hb2,Tm.cells_eq (rx l m f (s.i+1) (n+1)).t];apply w;apply zA;(iterate 2 (refine chS 1 ?_ (by intro _ q;simp only[↓bO,go_sem,seval,Tok.cells,qC,rdC,hw1,hw2,hw3,hw4,hi,List.take,List.drop,gM ht0,zb,za,hw6,hb1,hb2,Tm.cells_eq (rx l m f (s.i+1) (n+1)).t];exact q)));simp only[↓bO,go_sem,seval,Tok.cells,qC,rdC,hw1,hw2,hw3,hw4,hi,List.take,List.drop,gM ht0,zb,za,hw6,hb1,hb2,Tm.cells_eq (rx l m f (s.i+1) (n+1)).t];refine ⟨⟨s.ps++[(rx l m f (s.i+1) (n+1)).t],(rx l m f (s.i+1) (n+1)).i,(rx l m f (s.i+1) (n+1)).e,0,0⟩,⟨hs.1.next (q:=((rx l m f (s.i+1) (n+1)).t,(rx l m f (s.i+1) (n+1)).a,(rx l m f (s.i+1) (n+1)).b)) (fun j k hj=>hR j k hj) hs.2.1 h5 tz1 (fun _=>rfl) _,h8,(by obtain ⟨rest,hrest⟩:=hs.2.2;exact ⟨rest++[(rx l m f (s.i+1) (n+1)).t],by (show s.ps++_=_;rw[hrest];rfl)⟩)⟩,by (have:=(hR (s.i+1) (n+1) tz1).1;have:=(hR (s.i+1) (n+1) tz1).2.1;show l.length-(rx l m f (s.i+1) (n+1)).i<l.length-s.i;omega),?_⟩;simp only[go_sem,seval];refine Weak.drops 1 4 (by simp only[List.drop_succ_cons,List.drop_zero,zb,zk,zi,za,List.length_cons,List.length_nil,Tm.cells_eq (rx l m f (s.i+1) (n+1)).t]) rfl tz5 tz5 ?_ ?_ ?_;(· simp only[go_sem,Le.refl,Le.any]);(· repeat' first | exact trivial | exact .any _ | exact .ptr tz1 | exact .v _ _ | exact .data (Tok.dataSl _) | (refine ⟨?_,?_⟩));repeat' first | exact trivial | exact .v _ _ | exact .osl tz1 .tms | exact .data (Tok.dataSl _) | exact .data (Tm.dataSl _) | exact .data (Ty.dataSl _) | (refine ⟨?_,?_⟩) | omega
  (have h5:isT l (s.i:Int) 4 zen=false:=by simpa using hb58);have hs1:=hs.1.2.2.1;have hs8:=hs.1.2.1;apply zO;simp only[zD,zB,zz,bA,Nat.reduceEqDiff,↓reduceIte];apply u;refine zu fun _ u=>?_;refine sqR fun _ w=>?_;(iterate 2 (refine chS 1 ?_ (by intro _ q;simp only[↓bO,go_sem,seval,Tok.cells,qC,rdC,hw1,hw2,hw3,hw4,hi,List.take,List.drop,gM ht0];exact q)));refine zq 1 fun _ y=>?_;simp only[↓bO,go_sem,seval,Tok.cells,qC,rdC,hw1,hw2,hw3,hw4,hi,List.take,List.drop,gM ht0];refine APure.call (zaC l s.i zcq) ?_;apply y;clear y;simp only[↓bO,go_sem,seval,Tok.cells,qC,rdC,hw1,hw2,hw3,hw4,hi,List.take,List.drop,gM ht0];apply w;apply zt rfl <;> intro hb88
  ·
   (have h6:isT l (s.i:Int) 4 zcq=false:=by simpa using hb88);refine sqR fun _ w=>?_;refine chS 1 ?_ (by intro _ q;simp only[↓bO,go_sem,seval,Tok.cells,qC,rdC,hw1,hw2,hw3,hw4,hi,List.take,List.drop,gM ht0];exact q);refine zq 1 fun _ y=>?_;simp only[↓bO,go_sem,seval,Tok.cells,qC,rdC,hw1,hw2,hw3,hw4,hi,List.take,List.drop,gM ht0];refine APure.call (z7 s.i 3) ?_;apply y;clear y;simp only[↓bO,go_sem,seval,Tok.cells,qC,rdC,hw1,hw2,hw3,hw4,hi,List.take,List.drop,gM ht0];apply w;apply zw;(try simp only[zD,zB,zz,zW,zU,zL,bS,bA,zK,zJ,zS,bL,Nat.reduceAdd,Nat.reduceLeDiff,Nat.reduceEqDiff,↓reduceIte,zaj,tyX,Tok.cells,zd,qC,rdC,hw1,hw2,hw3,hw4,hi,List.take,List.drop,gM ht0]);rw[hs.1.rend hs.2.1 h5 h6];exact Le.refl _
  (have h6:isT l (s.i:Int) 4 zcq=true:=by simpa using hb88);have hlk:s.i<l.length:=zN h6;obtain ⟨t1,ht1⟩:∃t,l[s.i]?=some t:=⟨_,zc hlk⟩;have htk1:=zaG ht1;(have hw5:IntKind.i64.wrap ((s.i:Int)+1)=((s.i+1:Nat):Int):=by (rw[zI tz1 tz1];omega));apply zy;apply u;refine zu fun _ u=>?_;refine zT 12 mixed tz0 fun J0 j0=>?_;(iterate 10 (simp only[go_sem];refine zE 1 fun _ y=>?_;simp only[↓zX,↓dOp,↓bO,go_sem,seval,Tok.cells,qC,rdC,hw1,hw2,hw3,hw4,hi,List.take,List.drop,gM ht0,hw5,hlk,gM ht1];apply y;clear y));simp only[go_sem];refine zE 1 fun _ y=>?_;simp only[↓zX,↓dOp,↓bO,go_sem,seval,Tok.cells,qC,rdC,hw1,hw2,hw3,hw4,hi,List.take,List.drop,gM ht0,hw5,hlk,gM ht1];refine ⟨_,zdE _ _ _ _,?_⟩;apply y;clear y;simp only[↓zX,↓dOp,↓bO,go_sem,seval,Tok.cells,qC,rdC,hw1,hw2,hw3,hw4,hi,List.take,List.drop,gM ht0,hw5,hlk,gM ht1];refine j0 _ ?_;clear j0 J0;simp only[go_sem];simp only[↓bO,go_sem,seval,Tok.cells,qC,rdC,hw1,hw2,hw3,hw4,hi,List.take,List.drop,gM ht0,hw5,hlk,gM ht1];apply u;refine zu fun _ u=>?_;refine sqR fun _ w=>?_;(iterate 4 (refine chS 1 ?_ (by intro _ q;simp only[↓bO,go_sem,seval,Tok.cells,qC,rdC,hw1,hw2,hw3,hw4,hi,List.take,List.drop,gM ht0,hw5,hlk,gM ht1];exact q)));refine zC 106 rfl (fun hc106=>?_) (fun hc106=>?_)
  ·
   (iterate 4 (refine chS 1 ?_ (by intro _ q;simp only[↓bO,go_sem,seval,Tok.cells,qC,rdC,hw1,hw2,hw3,hw4,hi,List.take,List.drop,gM ht0,hw5,hlk,gM ht1];exact q)));simp only[↓bO,go_sem,seval,Tok.cells,qC,rdC,hw1,hw2,hw3,hw4,hi,List.take,List.drop,gM ht0,hw5,hlk,gM ht1];apply w;apply zt rfl <;> intro hb111
   ·
    obtain ⟨rest,hrest⟩:=hs.2.2;(have hps:s.ps=[(rx l m f (i+1) (n+1)).t]:=by (obtain ⟨t9,ht9⟩:=zcj (ps:=s.ps) (by (have h9:=hb111;simp at h9;omega));rw[ht9] at hrest ⊢;cases hrest;rfl));refine sqR fun _ w=>?_;(iterate 7 (refine chS 1 ?_ (by intro _ q;simp only[↓bO,go_sem,seval,Tok.cells,qC,rdC,hw1,hw2,hw3,hw4,hi,List.take,List.drop,gM ht0,hw5,hlk,gM ht1];exact q)));simp only[↓bO,go_sem,seval,Tok.cells,qC,rdC,hw1,hw2,hw3,hw4,hi,List.take,List.drop,gM ht0,hw5,hlk,gM ht1];apply w;apply zw;(try simp only[zD,zB,zz,zW,zU,zL,bS,bA,zK,zJ,zS,bL,Nat.reduceAdd,Nat.reduceLeDiff,Nat.reduceEqDiff,↓reduceIte,zaj,tyX,Tok.cells,zd,qC,rdC,hw1,hw2,hw3,hw4,hi,List.take,List.drop,gM ht0,hw5,hlk,gM ht1]);rw[hs.1.fin hs.2.1 h6,hps];unfold sp tpP;simp only[htk0,htk1];exact Le.refl _
   (have hln:¬s.ps.length=1:=by (have h9:=hb111;simp at h9;omega));apply zy;apply u;refine sqR fun _ u=>?_;(iterate 6 (refine chS 1 ?_ (by intro _ q;simp only[↓bO,go_sem,seval,Tok.cells,qC,rdC,hw1,hw2,hw3,hw4,hi,List.take,List.drop,gM ht0,hw5,hlk,gM ht1];exact q)));simp only[↓bO,go_sem,seval,Tok.cells,qC,rdC,hw1,hw2,hw3,hw4,hi,List.take,List.drop,gM ht0,hw5,hlk,gM ht1];apply u;apply zw;(try simp only[zD,zB,zz,zW,zU,zL,bS,bA,zK,zJ,zS,bL,Nat.reduceAdd,Nat.reduceLeDiff,Nat.reduceEqDiff,↓reduceIte,zaj,tyX,Tok.cells,zd,qC,rdC,hw1,hw2,hw3,hw4,hi,List.take,List.drop,gM ht0,hw5,hlk,gM ht1]);rw[hs.1.fin hs.2.1 h6,zed hln];unfold sp tm;simp only[Tm.k,Tm.s,Tm.n,Tm.t,Tm.ps,Tm.a,Tm.b,Ty.k,Ty.n,Ty.ps,zi,htk0,htk1];exact Le.agg ⟨.refl _,.refl _,.refl _,.refl _,.refl _,Le.slNil 3,Le.osl _ _ _,.refl _,.refl _,.refl _,.refl _,.refl _,.refl _,trivial⟩
  simp only[go_sem];exact absurd hc106 tz3
theorem brk_c (l:List Tok) (m:Int) (f i:Nat) (n:Int) (hl:l.length<=100000) (hD:DxOk l m f) (hR:ROk l m f) (hi:i<l.length) (hf:l.length-i<=f) (h3:-1000000<=n) (h4:n+(l.length-i:Nat)<=700000):APure Tryz.prog 210 [.sl 4 (l.map Tok.cells),.v (.int .i64 (i:Int)),.v (.int .i64 n),.v (.int .i64 m)] (.agg (rdC (brR (rx l m f) l m i n))):=by
 cases h:isT l ((rx l m f (i+1) (n+1)).i:Int) 4 zeC with
 | true=>exact brk_t l m f i n hl hD hR hi hf h3 h4 fun _=>h
 | false=>exact brk_u l m f i n hl hD hR hi hf h3 h4 fun _=>h
def nmK (s:ByteArray) (k:Nat):Int:=((bl s).take k).foldl (fun n c=>10 * n+((c.toNat:Int)-48)) 0
theorem nmK_all (s:ByteArray):nmK s s.size=nmV s:=by
 unfold nmK nmV;rw[List.take_of_length_le (by rw[zfT];omega)]
theorem zf5 {s:ByteArray} {k:Nat} (h:k<s.size):nmK s (k+1)=10 * nmK s k+bt s k-48:=by
 have h1:(bl s)[k]?=some ((s[k]?).getD 0):=za9 h;unfold nmK;rw[List.take_add_one,h1,Option.toList_some,List.foldl_append];(show 10 * _+(_-48)=_);unfold bt;omega
theorem nmK_bnd {s:ByteArray} (h:numS s):∀k,k<=s.size->0<=nmK s k/\nmK s k+1<=10 ^ k
 | 0,_=>⟨Int.le_refl 0,Int.le_refl 1⟩
 | k+1,hk=>by
  obtain ⟨h1,h2⟩:=nmK_bnd h k tz1;have h3:(bl s)[k]?=some ((s[k]?).getD 0):=za9 tz1;have h4:=h.2.2 _ (zm h3);have h5:bt s k=(((s[k]?).getD 0).toNat:Int):=rfl;rw[zf5 tz1,Int.pow_succ];omega
theorem nmK_small {s:ByteArray} (h:numS s) {k:Nat} (hk:k<=s.size):0<=nmK s k/\nmK s k<1000000000/\(k<s.size->48<=bt s k/\bt s k<=57):=by
 obtain ⟨h1,h2⟩:=nmK_bnd h k hk;have hs:s.size<=9:=by have:=h.2.1;rwa [zfT] at this
 have h3:(10:Int) ^ k<=10 ^ 9:=by
  have:=Nat.pow_le_pow_right (n:=10) tz3 (show k<=9 by omega)
  exact_mod_cast this
 refine ⟨h1,by omega,fun hlt=>?_⟩;have h4:=h.2.2 _ (zm (show (bl s)[k]?=some ((s[k]?).getD 0) from za9 hlt));unfold bt;omega
theorem at_none {E:Nat->Int->Rdx} {l:List Tok} {m n:Int} {i:Nat} (h:beg l i=false):atR E l m i n=wr i 3:=if_neg (by rw[h];simp)
theorem datom_c (l:List Tok) (m:Int) (f i:Nat) (n:Int) (hl:l.length<=100000) (hD:DxOk l m f) (hR:ROk l m f) (hG:zd6 l) (hi:i<=l.length) (hf:l.length-i<=f) (h3:-1000000<=n) (h4:n+(l.length-i:Nat)<=700000):APure Tryz.prog 188 [.sl 4 (l.map Tok.cells),.v (.int .i64 (i:Int)),.v (.int .i64 n),.v (.int .i64 m)] (.agg (rdC (atR (rx l m f) l m i n))):=by
  refine APure.mkL (.cons (Tok.dataSl l) (.cons (.v _) (.cons (.v _) (.cons (.v _) .nil)))) (.agg (zbI _)) ?_;refine aIn Tryz.func188 fun hm=>?_;simp only[Tryz.ntmps188,Tryz.results188,go_sem,seval];(have hw1:IntKind.i64.wrap ((i:Int)+1)=((i+1:Nat):Int):=by (rw[zI tz1 tz1];omega));refine sqR fun _ u=>?_;simp only[↓bO,go_sem,seval,Tok.cells,qC,rdC,hw1,List.take,List.drop];apply u;refine zu fun _ u=>?_;refine sqR fun _ w=>?_;(iterate 2 (refine chS 1 ?_ (by intro _ q;simp only[↓bO,go_sem,seval,Tok.cells,qC,rdC,hw1,List.take,List.drop];exact q)));refine zq 1 fun _ y=>?_;simp only[↓bO,go_sem,seval,Tok.cells,qC,rdC,hw1,List.take,List.drop];refine APure.call (zcZ l i) ?_;apply y;clear y;simp only[↓bO,go_sem,seval,Tok.cells,qC,rdC,hw1,List.take,List.drop];apply w;apply zt rfl <;> intro hb15
  ·
   (have hb:beg l i=false:=by simpa using hb15);refine sqR fun _ w=>?_;refine chS 1 ?_ (by intro _ q;simp only[↓bO,go_sem,seval,Tok.cells,qC,rdC,hw1,List.take,List.drop];exact q);refine zq 1 fun _ y=>?_;simp only[↓bO,go_sem,seval,Tok.cells,qC,rdC,hw1,List.take,List.drop];refine APure.call (z7 i 3) ?_;apply y;clear y;simp only[↓bO,go_sem,seval,Tok.cells,qC,rdC,hw1,List.take,List.drop];apply w;apply zw;(try simp only[zD,zB,zz,zW,zU,zL,bS,bA,zK,zJ,zS,bL,Nat.reduceAdd,Nat.reduceLeDiff,Nat.reduceEqDiff,↓reduceIte,zaj,tyX,Tok.cells,zd,qC,rdC,hw1,List.take,List.drop]);rw[at_none hb];exact Le.refl _
  (have hb:beg l i=true:=by simpa using hb15);have hil:=beg_lt hb;obtain ⟨t0,ht0⟩:∃t,l[i]?=some t:=⟨_,zc hil⟩;have htk0:=zaG ht0;apply zy;apply u;refine sqR fun _ u=>?_;(iterate 5 (refine chS 1 ?_ (by intro _ q;simp only[↓bO,go_sem,seval,Tok.cells,qC,rdC,hw1,List.take,List.drop,hil,gM ht0];exact q)));simp only[↓bO,go_sem,seval,Tok.cells,qC,rdC,hw1,List.take,List.drop,hil,gM ht0];apply u;refine sqR fun _ u=>?_;(iterate 4 (refine chS 1 ?_ (by intro _ q;simp only[↓bO,go_sem,seval,Tok.cells,qC,rdC,hw1,List.take,List.drop,hil,gM ht0];exact q)));simp only[↓bO,go_sem,seval,Tok.cells,qC,rdC,hw1,List.take,List.drop,hil,gM ht0];apply u;refine zu fun _ u=>?_;apply zF;refine sqR fun _ w=>?_;(iterate 3 (refine chS 1 ?_ (by intro _ q;simp only[↓bO,go_sem,seval,Tok.cells,qC,rdC,hw1,List.take,List.drop,hil,gM ht0];exact q)));simp only[↓bO,go_sem,seval,Tok.cells,qC,rdC,hw1,List.take,List.drop,hil,gM ht0];apply w;apply zt rfl <;> intro hb25
  ·
   (have k1:t0.k=1:=by simpa using hb25);refine z6 [] 6 rfl mixed (trivial) rfl ?_;dsimp only;refine tkK 0 rfl fun _ y=>?_;simp only[↓bO,go_sem,seval,Tok.cells,qC,rdC,hw1,List.take,List.drop,hil,gM ht0];apply y;clear y;refine tkK 2 rfl fun _ y=>?_;simp only[↓bO,go_sem,seval,Tok.cells,qC,rdC,hw1,List.take,List.drop,hil,gM ht0];apply y;clear y;refine al2 (i:=1) (j:=3) ?_ ?_
   ·
    refine opT fun _ y=>?_;simp only[↓bO,go_sem,seval,Tok.cells,qC,rdC,hw1,List.take,List.drop,hil,gM ht0];refine y _ ⟨trivial,?_⟩;clear y;refine al1 (i:=3) ?_;refine opT fun _ y=>?_;simp only[↓bO,go_sem,seval,Tok.cells,qC,rdC,hw1,List.take,List.drop,hil,gM ht0];refine y _ ⟨trivial,?_⟩;clear y;refine tkK 4 rfl fun _ y=>?_;simp only[↓bO,go_sem,seval,Tok.cells,qC,rdC,hw1,List.take,List.drop,hil,gM ht0];apply y;clear y;refine al1 (i:=5) ?_;refine opT fun _ y=>?_;simp only[↓bO,go_sem,seval,Tok.cells,qC,rdC,hw1,List.take,List.drop,hil,gM ht0];refine y _ ⟨trivial,?_⟩;clear y;refine dnA ?_;apply u;refine sqR fun _ u=>?_;(iterate 6 (refine chS 1 ?_ (by intro _ q;simp only[↓bO,go_sem,seval,Tok.cells,qC,rdC,hw1,List.take,List.drop,hil,gM ht0];exact q)));simp only[↓bO,go_sem,seval,Tok.cells,qC,rdC,hw1,List.take,List.drop,hil,gM ht0];apply u;apply zw;(try simp only[zD,zB,zz,zW,zU,zL,bS,bA,zK,zJ,zS,bL,Nat.reduceAdd,Nat.reduceLeDiff,Nat.reduceEqDiff,↓reduceIte,zaj,tyX,Tok.cells,zd,qC,rdC,hw1,List.take,List.drop,hil,gM ht0]);unfold atR;rw[if_pos hb,htk0,if_pos k1];unfold sp tm;simp only[Tm.k,Tm.s,Tm.n,Tm.t,Tm.ps,Tm.a,Tm.b,Ty.k,Ty.n,Ty.ps,zi,htk0];exact Le.agg ⟨.refl _,.refl _,.refl _,.refl _,.refl _,Le.slNil 3,Le.slNil 9,.refl _,.refl _,.refl _,.refl _,.refl _,.refl _,trivial⟩
   refine opT fun _ y=>?_;simp only[↓bO,go_sem,seval,Tok.cells,qC,rdC,hw1,List.take,List.drop,hil,gM ht0];refine y _ ⟨trivial,?_⟩;clear y;refine al1 (i:=1) ?_;refine opT fun _ y=>?_;simp only[↓bO,go_sem,seval,Tok.cells,qC,rdC,hw1,List.take,List.drop,hil,gM ht0];refine y _ ⟨trivial,?_⟩;clear y;refine tkK 4 rfl fun _ y=>?_;simp only[↓bO,go_sem,seval,Tok.cells,qC,rdC,hw1,List.take,List.drop,hil,gM ht0];apply y;clear y;refine al1 (i:=5) ?_;refine opT fun _ y=>?_;simp only[↓bO,go_sem,seval,Tok.cells,qC,rdC,hw1,List.take,List.drop,hil,gM ht0];refine y _ ⟨trivial,?_⟩;clear y;refine dnA ?_;apply u;refine sqR fun _ u=>?_;(iterate 6 (refine chS 1 ?_ (by intro _ q;simp only[↓bO,go_sem,seval,Tok.cells,qC,rdC,hw1,List.take,List.drop,hil,gM ht0];exact q)));simp only[↓bO,go_sem,seval,Tok.cells,qC,rdC,hw1,List.take,List.drop,hil,gM ht0];apply u;apply zw;(try simp only[zD,zB,zz,zW,zU,zL,bS,bA,zK,zJ,zS,bL,Nat.reduceAdd,Nat.reduceLeDiff,Nat.reduceEqDiff,↓reduceIte,zaj,tyX,Tok.cells,zd,qC,rdC,hw1,List.take,List.drop,hil,gM ht0]);unfold atR;rw[if_pos hb,htk0,if_pos k1];unfold sp tm;simp only[Tm.k,Tm.s,Tm.n,Tm.t,Tm.ps,Tm.a,Tm.b,Ty.k,Ty.n,Ty.ps,zi,htk0];exact Le.agg ⟨.refl _,.refl _,.refl _,.refl _,.refl _,Le.slNil 3,Le.slNil 9,.refl _,.refl _,.refl _,.refl _,.refl _,.refl _,trivial⟩
  (have k1:¬t0.k=1:=by simpa using hb25);refine sqR fun _ w=>?_;(iterate 3 (refine chS 1 ?_ (by intro _ q;simp only[↓bO,go_sem,seval,Tok.cells,qC,rdC,hw1,List.take,List.drop,hil,gM ht0];exact q)));simp only[↓bO,go_sem,seval,Tok.cells,qC,rdC,hw1,List.take,List.drop,hil,gM ht0];apply w;apply zt rfl <;> intro hb33
  ·
   (have k2:t0.k=2:=by simpa using hb33);(have hns:numS t0.s:=by (have h9:=hG i (by rw[zag ht0,k2];rfl);rwa [htk0] at h9));(have hz9:t0.s.size<=9:=by (have:=hns.2.1;rwa [zfT] at this));refine sqR fun _ w=>?_;refine chS 1 ?_ (by intro _ q;simp only[↓bO,go_sem,seval,Tok.cells,qC,rdC,hw1,List.take,List.drop,hil,gM ht0];exact q);simp only[↓bO,go_sem,seval,Tok.cells,qC,rdC,hw1,List.take,List.drop,hil,gM ht0];apply w;refine sqR fun _ w=>?_;simp only[↓bO,go_sem,seval,Tok.cells,qC,rdC,hw1,List.take,List.drop,hil,gM ht0];apply w;apply zF;refine zV (σ:=Nat) (mB 76 3842) (fun k=>k<=t0.s.size) (fun k=>[(11,.v (.int .i64 (k:Int)))]) (fun k=>[(2,.cells 58 [.v (.int .i64 2),.v (.string ByteArray.empty),.v (.int .i64 (nmK t0.s k)),.v (.int .i64 0),.v (.int .i64 0),.v (.slice none 0 0),.v (.slice none 0 0),.v (.int .i64 t0.a),.v (.int .i64 t0.b)])]) (fun k=>t0.s.size-k) 0 (Nat.zero_le _) ?_ (fun k hk=>?_)
   ·
    (try simp only[go_sem,seval,show nmK t0.s 0=0 from rfl,zj,Int.ofNat_zero,Int.cast_ofNat_Int]);exact zaH
   simp only[go_sem,seval];refine zu fun _ w=>?_;refine sqR fun _ z=>?_;(iterate 4 (refine chS 1 ?_ (by intro _ q;simp only[↓bO,go_sem,seval,Tok.cells,qC,rdC,hw1,List.take,List.drop,hil,gM ht0];exact q)));simp only[↓bO,go_sem,seval,Tok.cells,qC,rdC,hw1,List.take,List.drop,hil,gM ht0];apply z;apply zt rfl <;> intro hb42
   ·
    (have hlt:k<t0.s.size:=by (have h9:=hb42;simp at h9;omega));obtain ⟨n1,n2,n3⟩:=nmK_small hns hk;have n4:=n3 hlt;have n5:=zf5 hlt;have hck:((((t0.s[k]?).getD 0).toNat:Nat):Int)=bt t0.s k:=rfl;(have wv:IntKind.i64.wrap (bt t0.s k)=bt t0.s k:=by (rw[zI tz1 tz1]));(have wa:IntKind.i64.wrap (10 * nmK t0.s k)=10 * nmK t0.s k:=by (rw[zI tz1 tz1]));(have wb:IntKind.i64.wrap (10 * nmK t0.s k+bt t0.s k)=10 * nmK t0.s k+bt t0.s k:=by (rw[zI tz1 tz1]));(have wc:IntKind.i64.wrap (10 * nmK t0.s k+bt t0.s k-48)=nmK t0.s (k+1):=by (rw[zI tz1 tz1];omega));(have wd:IntKind.i64.wrap ((k:Int)+1)=(k:Int)+1:=by (rw[zI tz1 tz1]));apply zy;apply w;refine zu fun _ w=>?_;apply zF;refine zT 11 mixed tz0 fun J0 j0=>?_;(iterate 10 (simp only[go_sem];refine zE 1 fun _ y=>?_;simp only[↓zX,↓dOp,↓bO,go_sem,seval,Tok.cells,qC,rdC,hw1,List.take,List.drop,hil,gM ht0,hlt,hck,wv,wa,wb,wc,wd];apply y;clear y));simp only[go_sem];simp only[↓zX,↓dOp,↓bO,go_sem,seval,Tok.cells,qC,rdC,hw1,List.take,List.drop,hil,gM ht0,hlt,hck,wv,wa,wb,wc,wd];refine j0 _ ?_;clear j0 J0;simp only[go_sem];simp only[↓bO,go_sem,seval,Tok.cells,qC,rdC,hw1,List.take,List.drop,hil,gM ht0,hlt,hck,wv,wa,wb,wc,wd];apply w;apply zA;(iterate 2 (refine chS 1 ?_ (by intro _ q;simp only[↓bO,go_sem,seval,Tok.cells,qC,rdC,hw1,List.take,List.drop,hil,gM ht0,hlt,hck,wv,wa,wb,wc,wd];exact q)));simp only[↓bO,go_sem,seval,Tok.cells,qC,rdC,hw1,List.take,List.drop,hil,gM ht0,hlt,hck,wv,wa,wb,wc,wd];refine ⟨(k+1),by omega,by omega,?_⟩;(try simp only[go_sem,seval,hil,gM ht0,hlt,hck,wv,wa,wb,wc,wd]);exact zaH
   (have hke:k=t0.s.size:=by (have h9:=hb42;simp at h9;omega));subst hke;apply zO;simp only[zD,zB,zz,bA,Nat.reduceEqDiff,↓reduceIte];apply u;refine sqR fun _ u=>?_;(iterate 6 (refine chS 1 ?_ (by intro _ q;simp only[↓bO,go_sem,seval,Tok.cells,qC,rdC,hw1,List.take,List.drop,hil,gM ht0];exact q)));simp only[↓bO,go_sem,seval,Tok.cells,qC,rdC,hw1,List.take,List.drop,hil,gM ht0];apply u;apply zw;(try simp only[zD,zB,zz,zW,zU,zL,bS,bA,zK,zJ,zS,bL,Nat.reduceAdd,Nat.reduceLeDiff,Nat.reduceEqDiff,↓reduceIte,zaj,tyX,Tok.cells,zd,qC,rdC,hw1,List.take,List.drop,hil,gM ht0]);unfold atR;rw[if_pos hb,htk0,if_neg k1,if_pos k2];rw[<- nmK_all];unfold sp tm;simp only[Tm.k,Tm.s,Tm.n,Tm.t,Tm.ps,Tm.a,Tm.b,Ty.k,Ty.n,Ty.ps,zi,htk0];exact Le.agg ⟨.refl _,.refl _,.refl _,.refl _,.refl _,Le.slNil 3,Le.slNil 9,.refl _,.refl _,.refl _,.refl _,.refl _,.refl _,trivial⟩
  (have k2:¬t0.k=2:=by simpa using hb33);refine sqR fun _ w=>?_;(iterate 3 (refine chS 1 ?_ (by intro _ q;simp only[↓bO,go_sem,seval,Tok.cells,qC,rdC,hw1,List.take,List.drop,hil,gM ht0];exact q)));simp only[↓bO,go_sem,seval,Tok.cells,qC,rdC,hw1,List.take,List.drop,hil,gM ht0];apply w;apply zt rfl <;> intro hb56
  ·
   have k3:t0.s=zeI:=zac.1 hb56;apply zA;refine chS 1 ?_ (by intro _ q;simp only[↓bO,go_sem,seval,Tok.cells,qC,rdC,hw1,List.take,List.drop,hil,gM ht0];exact q);simp only[↓bO,go_sem,seval,Tok.cells,qC,rdC,hw1,List.take,List.drop,hil,gM ht0];apply u;refine sqR fun _ u=>?_;(iterate 6 (refine chS 1 ?_ (by intro _ q;simp only[↓bO,go_sem,seval,Tok.cells,qC,rdC,hw1,List.take,List.drop,hil,gM ht0];exact q)));simp only[↓bO,go_sem,seval,Tok.cells,qC,rdC,hw1,List.take,List.drop,hil,gM ht0];apply u;apply zw;(try simp only[zD,zB,zz,zW,zU,zL,bS,bA,zK,zJ,zS,bL,Nat.reduceAdd,Nat.reduceLeDiff,Nat.reduceEqDiff,↓reduceIte,zaj,tyX,Tok.cells,zd,qC,rdC,hw1,List.take,List.drop,hil,gM ht0]);unfold atR;rw[if_pos hb,htk0,if_neg k1,if_neg k2,if_pos k3];unfold sp tm;simp only[Tm.k,Tm.s,Tm.n,Tm.t,Tm.ps,Tm.a,Tm.b,Ty.k,Ty.n,Ty.ps,zi,htk0];exact Le.agg ⟨.refl _,.refl _,.refl _,.refl _,.refl _,Le.slNil 3,Le.slNil 9,.refl _,.refl _,.refl _,.refl _,.refl _,.refl _,trivial⟩
  (have k3:¬t0.s=zeI:=fun h=>Bool.false_ne_true (hb56.symm.trans (zac.2 h)));refine sqR fun _ w=>?_;(iterate 3 (refine chS 1 ?_ (by intro _ q;simp only[↓bO,go_sem,seval,Tok.cells,qC,rdC,hw1,List.take,List.drop,hil,gM ht0];exact q)));simp only[↓bO,go_sem,seval,Tok.cells,qC,rdC,hw1,List.take,List.drop,hil,gM ht0];apply w;apply zt rfl <;> intro hb61
  ·
   have k4:t0.s=bOpen:=zac.1 hb61;refine sqR fun _ w=>?_;(iterate 4 (refine chS 1 ?_ (by intro _ q;simp only[↓bO,go_sem,seval,Tok.cells,qC,rdC,hw1,List.take,List.drop,hil,gM ht0];exact q)));refine zq 1 fun _ y=>?_;simp only[↓bO,go_sem,seval,Tok.cells,qC,rdC,hw1,List.take,List.drop,hil,gM ht0];refine APure.call (brk_c l m f i n hl hD hR hil hf h3 h4) ?_;apply y;clear y;simp only[↓bO,go_sem,seval,Tok.cells,qC,rdC,hw1,List.take,List.drop,hil,gM ht0];apply w;apply zw;(try simp only[zD,zB,zz,zW,zU,zL,bS,bA,zK,zJ,zS,bL,Nat.reduceAdd,Nat.reduceLeDiff,Nat.reduceEqDiff,↓reduceIte,zaj,tyX,Tok.cells,zd,qC,rdC,hw1,List.take,List.drop,hil,gM ht0]);unfold atR;rw[if_pos hb,htk0,if_neg k1,if_neg k2,if_neg k3,if_pos k4];exact Le.refl _
  (have k4:¬t0.s=bOpen:=fun h=>Bool.false_ne_true (hb61.symm.trans (zac.2 h)));apply zy;apply u;refine sqR fun _ u=>?_;(iterate 6 (refine chS 1 ?_ (by intro _ q;simp only[↓bO,go_sem,seval,Tok.cells,qC,rdC,hw1,List.take,List.drop,hil,gM ht0];exact q)));simp only[↓bO,go_sem,seval,Tok.cells,qC,rdC,hw1,List.take,List.drop,hil,gM ht0];apply u;apply zw;(try simp only[zD,zB,zz,zW,zU,zL,bS,bA,zK,zJ,zS,bL,Nat.reduceAdd,Nat.reduceLeDiff,Nat.reduceEqDiff,↓reduceIte,zaj,tyX,Tok.cells,zd,qC,rdC,hw1,List.take,List.drop,hil,gM ht0]);unfold atR;rw[if_pos hb,htk0,if_neg k1,if_neg k2,if_neg k3,if_neg k4];unfold sp tm;simp only[Tm.k,Tm.s,Tm.n,Tm.t,Tm.ps,Tm.a,Tm.b,Ty.k,Ty.n,Ty.ps,zi,htk0];exact Le.agg ⟨.refl _,.refl _,.refl _,.refl _,.refl _,Le.slNil 3,Le.slNil 9,.refl _,.refl _,.refl _,.refl _,.refl _,.refl _,trivial⟩
def foR (E:Nat->Int->Rdx) (l:List Tok) (i:Nat) (n:Int):Rdx :=
 if isT l (i:Int) 3 zel=true then zeh E l i n
 else if isT l (i:Int) 3 zdn=true then (if isT l ((i+1:Nat):Int) 3 zfa=true then zds E l 7 i (i+2) n else zds E l 6 i (i+1) n)
 else ifR E l i n
def FoOk (l:List Tok) (m:Int) (f:Nat):Prop:=∀(i:Nat) (n:Int),(isT l (i:Int) 3 zel=true\/isT l (i:Int) 3 zdn=true\/isT l (i:Int) 3 bIf=true)->l.length-i<=f->-1000000<=n->n+(l.length-i:Nat)<=700000->APure Tryz.prog 187 [.sl 4 (l.map Tok.cells),.v (.int .i64 (i:Int)),.v (.int .i64 n),.v (.int .i64 m)] (.agg (rdC (foR (rx l m f) l i n)))
theorem zfd {E:Nat->Int->Rdx} {l:List Tok} {m n:Int} {i:Nat} (h:¬m<n) (h2:isT l (i:Int) 3 zel=true\/isT l (i:Int) 3 zdn=true\/isT l (i:Int) 3 bIf=true):exR E l m i n=foR E l i n:=by
 unfold exR foR;rw[if_neg h]
 by_cases a:isT l (i:Int) 3 zel=true
 (·rw[if_pos a,if_pos a]);rw[if_neg a,if_neg a]
 by_cases b:isT l (i:Int) 3 zdn=true
 (·rw[if_pos b,if_pos b]);rw[if_neg b,if_neg b,if_pos (h2.resolve_left a |>.resolve_left b)]
theorem ApI.rbad {E:Nat->Int->Rdx} {l:List Tok} {m n:Int} {r:Rdx} {i0:Nat} {s:Rdx×Pt} (h:ApI E l m n r i0 s) (he:s.1.e=0) (hb:beg l s.1.i=true) (hY:¬(atR E l m s.1.i n).e=0):r=atR E l m s.1.i n:=by
 obtain ⟨_,_,F,h3,h4⟩:=h;have hf:=h3 he;obtain ⟨G,rfl⟩:∃G,F=G+1:=⟨F-1,by omega⟩;rw[h4];unfold apR;rw[if_pos ⟨he,hb⟩,if_neg hY]
theorem apS_cells {r Y:Rdx} (h:Y.e=0):rdC (apS r Y)=[.v (.int .i64 5),.v (.string ByteArray.empty),.v (.int .i64 0),.v (.int .i64 0),.v (.int .i64 0),.sl 3 [],.sl 9 [[.v (.int .i64 r.t.k),.v (.string r.t.s),.v (.int .i64 r.t.n),.v (.int .i64 r.t.t.k),.v (.int .i64 r.t.t.n),.sl 3 (r.t.t.ps.map Ty.cells),.sl 9 (r.t.ps.map Tm.cells),.v (.int .i64 r.t.a),.v (.int .i64 r.t.b)],[.v (.int .i64 Y.t.k),.v (.string Y.t.s),.v (.int .i64 Y.t.n),.v (.int .i64 Y.t.t.k),.v (.int .i64 Y.t.t.n),.sl 3 (Y.t.t.ps.map Ty.cells),.sl 9 (Y.t.ps.map Tm.cells),.v (.int .i64 Y.t.a),.v (.int .i64 Y.t.b)]],.v (.int .i64 (spJ (r.a,r.b) (Y.a,Y.b)).1),.v (.int .i64 (spJ (r.a,r.b) (Y.a,Y.b)).2),.v (.int .i64 (spJ (r.a,r.b) (Y.a,Y.b)).1),.v (.int .i64 (spJ (r.a,r.b) (Y.a,Y.b)).2),.v (.int .i64 (Y.i:Int)),.v (.int .i64 0)]:=by
 unfold apS;rw[if_pos h,<- r.t.cells_eq,<- Y.t.cells_eq];rfl
theorem dexpr_c (l:List Tok) (m:Int) (f i:Nat) (n:Int) (hl:l.length<=100000) (hG:zd6 l) (hD:DxOk l m f) (hF:FoOk l m f) (hR:ROk l m f) (hi:i<=l.length) (hf:l.length-i<=f) (h3:-1000000<=n) (h4:n+(l.length-i:Nat)<=700000):APure Tryz.prog 151 [.sl 4 (l.map Tok.cells),.v (.int .i64 (i:Int)),.v (.int .i64 n),.v (.int .i64 m)] (.agg (rdC (exR (rx l m f) l m i n))):=by
  (generalize hbr:exR (rx l m f) l m i n=r);refine APure.mkL (.cons (Tok.dataSl l) (.cons (.v _) (.cons (.v _) (.cons (.v _) .nil)))) (.agg (zbI _)) ?_;refine aIn Tryz.func151 fun hm=>?_;simp only[Tryz.ntmps151,Tryz.results151,go_sem,seval];refine sqR fun _ u=>?_;simp only[↓bO,go_sem,seval,Tok.cells,qC,rdC,List.take,List.drop];apply u;refine zu fun _ u=>?_;refine sqR fun _ w=>?_;(iterate 2 (refine chS 1 ?_ (by intro _ q;simp only[↓bO,go_sem,seval,Tok.cells,qC,rdC,List.take,List.drop];exact q)));simp only[↓bO,go_sem,seval,Tok.cells,qC,rdC,List.take,List.drop];apply w;apply zt rfl <;> intro hb14
  ·
   (have hd:m<n:=by simpa using hb14);refine sqR fun _ w=>?_;refine chS 1 ?_ (by intro _ q;simp only[↓bO,go_sem,seval,Tok.cells,qC,rdC,List.take,List.drop];exact q);refine zq 1 fun _ y=>?_;simp only[↓bO,go_sem,seval,Tok.cells,qC,rdC,List.take,List.drop];refine APure.call (z7 i 4) ?_;apply y;clear y;simp only[↓bO,go_sem,seval,Tok.cells,qC,rdC,List.take,List.drop];apply w;apply zw;(try simp only[zD,zB,zz,zW,zU,zL,bS,bA,zK,zJ,zS,bL,Nat.reduceAdd,Nat.reduceLeDiff,Nat.reduceEqDiff,↓reduceIte,zaj,tyX,Tok.cells,zd,qC,rdC,List.take,List.drop]);rw[<- hbr,ex_deep hd];exact Le.refl _
  (have hd:¬m<n:=by simpa using hb14);apply zy;apply u;refine zu fun _ u=>?_;refine sqR fun _ w=>?_;(iterate 2 (refine chS 1 ?_ (by intro _ q;simp only[↓bO,go_sem,seval,Tok.cells,qC,rdC,List.take,List.drop];exact q)));refine zq 1 fun _ y=>?_;simp only[↓bO,go_sem,seval,Tok.cells,qC,rdC,List.take,List.drop];refine APure.call (zaf l i _) ?_;apply y;clear y;refine chS 1 ?_ (by intro _ q;simp only[↓bO,go_sem,seval,Tok.cells,qC,rdC,List.take,List.drop];exact q);simp only[go_sem];refine zC 20 rfl (fun hc20=>?_) (fun hc20=>?_)
  ·
   simp only[go_sem];have k1:isT l (i:Int) 3 zel=true:=hc20;(iterate 8 (refine chS 1 ?_ (by intro _ q;simp only[↓bO,go_sem,seval,Tok.cells,qC,rdC,List.take,List.drop];exact q)));simp only[↓bO,go_sem,seval,Tok.cells,qC,rdC,List.take,List.drop];apply w;refine zt (b:=true) (by first | exact rfl | exact congrArg (fun b=>AV.v (.bool b)) hb29) (fun _=>?_) (fun h=>(by cases h));refine sqR fun _ w=>?_;(iterate 4 (refine chS 1 ?_ (by intro _ q;simp only[↓bO,go_sem,seval,Tok.cells,qC,rdC,List.take,List.drop];exact q)));refine zq 1 fun _ y=>?_;simp only[↓bO,go_sem,seval,Tok.cells,qC,rdC,List.take,List.drop];refine APure.call (hF i n (by first | exact .inl k1 | exact .inr (.inl k2) | exact .inr (.inr k3)) hf h3 h4) ?_;apply y;clear y;simp only[↓bO,go_sem,seval,Tok.cells,qC,rdC,List.take,List.drop];apply w;apply zw;(try simp only[zD,zB,zz,zW,zU,zL,bS,bA,zK,zJ,zS,bL,Nat.reduceAdd,Nat.reduceLeDiff,Nat.reduceEqDiff,↓reduceIte,zaj,tyX,Tok.cells,zd,qC,rdC,List.take,List.drop]);rw[<- hbr,zfd hd (.inl k1)];exact Le.refl _
  simp only[go_sem];have k1:isT l (i:Int) 3 zel=false:=hc20;(iterate 2 (refine chS 1 ?_ (by intro _ q;simp only[↓bO,go_sem,seval,Tok.cells,qC,rdC,List.take,List.drop];exact q)));refine zq 1 fun _ y=>?_;simp only[↓bO,go_sem,seval,Tok.cells,qC,rdC,List.take,List.drop];refine APure.call (zaf l i _) ?_;(iterate 2 (apply y;clear y;refine zq 1 fun _ y=>?_;simp only[↓bO,go_sem,seval,Tok.cells,qC,rdC,List.take,List.drop]));apply y;clear y;refine zC 25 rfl (fun hc25=>?_) (fun hc25=>?_)
  ·
   simp only[go_sem];have k2:isT l (i:Int) 3 zdn=true:=hc25;(iterate 3 (refine chS 1 ?_ (by intro _ q;simp only[↓bO,go_sem,seval,Tok.cells,qC,rdC,List.take,List.drop];exact q)));simp only[↓bO,go_sem,seval,Tok.cells,qC,rdC,List.take,List.drop];apply w;refine zt (b:=true) (by first | exact rfl | exact congrArg (fun b=>AV.v (.bool b)) hb29) (fun _=>?_) (fun h=>(by cases h));refine sqR fun _ w=>?_;(iterate 4 (refine chS 1 ?_ (by intro _ q;simp only[↓bO,go_sem,seval,Tok.cells,qC,rdC,List.take,List.drop];exact q)));refine zq 1 fun _ y=>?_;simp only[↓bO,go_sem,seval,Tok.cells,qC,rdC,List.take,List.drop];refine APure.call (hF i n (by first | exact .inl k1 | exact .inr (.inl k2) | exact .inr (.inr k3)) hf h3 h4) ?_;apply y;clear y;simp only[↓bO,go_sem,seval,Tok.cells,qC,rdC,List.take,List.drop];apply w;apply zw;(try simp only[zD,zB,zz,zW,zU,zL,bS,bA,zK,zJ,zS,bL,Nat.reduceAdd,Nat.reduceLeDiff,Nat.reduceEqDiff,↓reduceIte,zaj,tyX,Tok.cells,zd,qC,rdC,List.take,List.drop]);rw[<- hbr,zfd hd (.inr (.inl k2))];exact Le.refl _
  simp only[go_sem];have k2:isT l (i:Int) 3 zdn=false:=hc25;(iterate 2 (refine chS 1 ?_ (by intro _ q;simp only[↓bO,go_sem,seval,Tok.cells,qC,rdC,List.take,List.drop];exact q)));refine zq 1 fun _ y=>?_;simp only[↓bO,go_sem,seval,Tok.cells,qC,rdC,List.take,List.drop];refine APure.call (zaf l i _) ?_;apply y;clear y;simp only[↓bO,go_sem,seval,Tok.cells,qC,rdC,List.take,List.drop];apply w;apply zt rfl <;> intro hb29
  ·
   have k3:=hb29;refine sqR fun _ w=>?_;(iterate 4 (refine chS 1 ?_ (by intro _ q;simp only[↓bO,go_sem,seval,Tok.cells,qC,rdC,List.take,List.drop];exact q)));refine zq 1 fun _ y=>?_;simp only[↓bO,go_sem,seval,Tok.cells,qC,rdC,List.take,List.drop];refine APure.call (hF i n (by first | exact .inl k1 | exact .inr (.inl k2) | exact .inr (.inr k3)) hf h3 h4) ?_;apply y;clear y;simp only[↓bO,go_sem,seval,Tok.cells,qC,rdC,List.take,List.drop];apply w;apply zw;(try simp only[zD,zB,zz,zW,zU,zL,bS,bA,zK,zJ,zS,bL,Nat.reduceAdd,Nat.reduceLeDiff,Nat.reduceEqDiff,↓reduceIte,zaj,tyX,Tok.cells,zd,qC,rdC,List.take,List.drop]);rw[<- hbr,zfd hd (.inr (.inr k3))];exact Le.refl _
  have k3:isT l (i:Int) 3 bIf=false:=hb29;have hbr:apx (rx l m f) l m i n=r:=(ex_app hd k1 k2 k3).symm.trans hbr;apply zy;apply u;refine sqR fun _ u=>?_;(iterate 4 (refine chS 1 ?_ (by intro _ q;simp only[↓bO,go_sem,seval,Tok.cells,qC,rdC,List.take,List.drop];exact q)));refine zq 1 fun _ y=>?_;simp only[↓bO,go_sem,seval,Tok.cells,qC,rdC,List.take,List.drop];refine APure.call (datom_c l m f i n hl hD hR hG hi hf h3 h4) ?_;apply y;clear y;refine chS 1 ?_ (by intro _ q;simp only[↓bO,go_sem,seval,Tok.cells,qC,rdC,List.take,List.drop];exact q);simp only[↓bO,go_sem,seval,Tok.cells,qC,rdC,List.take,List.drop];apply u;refine zu fun _ u=>?_;apply zF;refine zV (σ:=Rdx) (mB 76 781) (fun s=>ApI (rx l m f) l m n r i (s,(s.t,s.a,s.b))) (fun s=>[]) (fun s=>[(1,.cells 191 (rdC s))]) (fun s=>(if s.e=0 then l.length-s.i+1 else 0)) (atR (rx l m f) l m i n) (hbr▸ze3 m n (fun j k hj=>hR j k hj) hi (fun _=>rfl)) ?_ (fun s hs=>?_)
  ·
   (try simp only[go_sem,seval]);exact zaH
  simp only[go_sem,seval];refine zu fun _ w=>?_;refine sqR fun _ z=>?_;(iterate 4 (refine chS 1 ?_ (by intro _ q;simp only[↓bO,go_sem,seval,Tok.cells,qC,rdC,List.take,List.drop];exact q)));refine zC 43 rfl (fun hc43=>?_) (fun hc43=>?_)
  ·
   simp only[go_sem];(have he:s.e=0:=by simpa using hc43);(iterate 3 (refine chS 1 ?_ (by intro _ q;simp only[↓bO,go_sem,seval,Tok.cells,qC,rdC,List.take,List.drop];exact q)));refine zq 1 fun _ y=>?_;simp only[↓bO,go_sem,seval,Tok.cells,qC,rdC,List.take,List.drop];refine APure.call (zcZ l s.i) ?_;apply y;clear y;simp only[↓bO,go_sem,seval,Tok.cells,qC,rdC,List.take,List.drop];apply z;apply zt rfl <;> intro hb48
   ·
    have hbg:beg l s.i=true:=hb48;have hib:i<=s.i:=hs.1.1;have hsl:s.i<=l.length:=hs.1.2.1;apply zy;apply w;apply zF;refine sqR fun _ w=>?_;(iterate 5 (refine chS 1 ?_ (by intro _ q;simp only[↓bO,go_sem,seval,Tok.cells,qC,rdC,List.take,List.drop];exact q)));refine zq 1 fun _ y=>?_;simp only[↓bO,go_sem,seval,Tok.cells,qC,rdC,List.take,List.drop];refine APure.call (datom_c l m f s.i n hl hD hR hG hsl tz1 h3 tz1) ?_;apply y;clear y;refine chS 1 ?_ (by intro _ q;simp only[↓bO,go_sem,seval,Tok.cells,qC,rdC,List.take,List.drop];exact q);simp only[↓bO,go_sem,seval,Tok.cells,qC,rdC,List.take,List.drop];apply w;refine zu fun _ w=>?_;refine sqR fun _ z=>?_;(iterate 2 (refine chS 1 ?_ (by intro _ q;simp only[↓bO,go_sem,seval,Tok.cells,qC,rdC,List.take,List.drop];exact q)));simp only[↓bO,go_sem,seval,Tok.cells,qC,rdC,List.take,List.drop];apply z;apply zt rfl <;> intro hb57
    ·
     (have h8:¬(atR (rx l m f) l m s.i n).e=0:=by simpa using hb57);refine sqR fun _ z=>?_;refine chS 1 ?_ (by intro _ q;simp only[↓bO,go_sem,seval,Tok.cells,qC,rdC,List.take,List.drop];exact q);simp only[↓bO,go_sem,seval,Tok.cells,qC,rdC,List.take,List.drop];apply z;apply zw;(try simp only[zD,zB,zz,zW,zU,zL,bS,bA,zK,zJ,zS,bL,Nat.reduceAdd,Nat.reduceLeDiff,Nat.reduceEqDiff,↓reduceIte,zaj,tyX,Tok.cells,zd,qC,rdC,List.take,List.drop]);rw[hs.rbad he hbg h8];exact Le.refl _
    (have h8:(atR (rx l m f) l m s.i n).e=0:=by simpa using hb57);apply zy;apply w;refine sqR fun _ w=>?_;(iterate 4 (refine chS 1 ?_ (by intro _ q;simp only[↓bO,go_sem,seval,Tok.cells,qC,rdC,List.take,List.drop];exact q)));refine zq 1 fun _ y=>?_;simp only[↓bO,go_sem,seval,Tok.cells,qC,rdC,List.take,List.drop];refine APure.call (zdE _ _ _ _) ?_;apply y;clear y;refine chS 1 ?_ (by intro _ q;simp only[↓bO,go_sem,seval,Tok.cells,qC,rdC,List.take,List.drop];exact q);simp only[↓bO,go_sem,seval,Tok.cells,qC,rdC,List.take,List.drop];apply w;apply zA;(iterate 4 (refine chS 1 ?_ (by intro _ q;simp only[↓bO,go_sem,seval,Tok.cells,qC,rdC,List.take,List.drop];exact q)));refine zq 1 fun _ y=>?_;simp only[↓bO,go_sem,seval,↓zfw,↓zfL,↓zfv,↓zfH,↓zfI,↓zfl,↓zfs,↓zfB,↓zfz,↓zcX,↓zdb,↓zcW,Tok.cells,qC,rdC,List.take,List.drop];(iterate 6 (apply y;clear y;refine zq 1 fun _ y=>?_;simp only[↓bO,go_sem,seval,Tok.cells,qC,rdC,List.take,List.drop]));apply y;clear y;simp only[↓bO,go_sem,seval,Tok.cells,qC,rdC,List.take,List.drop];refine ⟨(apS s (atR (rx l m f) l m s.i n)),(by have h9:=hs.next (q:=((atR (rx l m f) l m s.i n).t,(atR (rx l m f) l m s.i n).a,(atR (rx l m f) l m s.i n).b)) (fun j k hj=>hR j k hj) he hbg (fun _=>rfl);unfold ApI at h9 ⊢;exact ⟨h9.1,fun _=>rfl,h9.2.2⟩),hs.meas (fun j k hj=>hR j k hj) he,?_⟩;(try simp only[go_sem,seval]);refine Weak.trans (Weak.recell (id:=1) (t:=191) (rdC (apS s (atR (rx l m f) l m s.i n))) rfl ?_) ?_
    ·
     rw[apS_cells h8];exact ⟨.refl _,.refl _,.refl _,.refl _,.refl _,Le.slNil 3,.refl _,.refl _,.refl _,.refl _,.refl _,.refl _,.refl _,trivial⟩
    (try simp only[zQ,Nat.reduceEqDiff,↓reduceIte]);refine Weak.drops 2 2 rfl rfl tz5 tz5 ?_ ?_ ?_;(· (try simp only[go_sem,Le.refl,Le.any]));(· repeat' first | exact trivial | exact .any _ | exact .ptr tz1 | exact .v _ _ | exact .data (Tok.dataSl _) | (refine ⟨?_,?_⟩));exact clz6
   have hbn:=hb48;apply zO;simp only[zD,zB,zz,bA,Nat.reduceEqDiff,↓reduceIte];apply u;refine sqR fun _ u=>?_;refine chS 1 ?_ (by intro _ q;simp only[↓bO,go_sem,seval,Tok.cells,qC,rdC,List.take,List.drop];exact q);simp only[↓bO,go_sem,seval,Tok.cells,qC,rdC,List.take,List.drop];apply u;apply zw;(try simp only[zD,zB,zz,zW,zU,zL,bS,bA,zK,zJ,zS,bL,Nat.reduceAdd,Nat.reduceLeDiff,Nat.reduceEqDiff,↓reduceIte,zaj,tyX,Tok.cells,zd,qC,rdC,List.take,List.drop]);(have hst:¬(s.e=0/\beg l s.i=true):=fun h=>by simp[h.2] at hbn);rw[hs.stop hst];exact Le.refl _
  simp only[go_sem];(have he:¬s.e=0:=by simpa using hc43);(iterate 4 (refine chS 1 ?_ (by intro _ q;simp only[↓bO,go_sem,seval,Tok.cells,qC,rdC,List.take,List.drop];exact q)));simp only[↓bO,go_sem,seval,Tok.cells,qC,rdC,List.take,List.drop];apply z;refine zt (b:=false) (by first | exact rfl | exact congrArg (fun b=>AV.v (.bool b)) hb48) (fun h=>(by cases h)) (fun _=>?_);apply zO;simp only[zD,zB,zz,bA,Nat.reduceEqDiff,↓reduceIte];apply u;refine sqR fun _ u=>?_;refine chS 1 ?_ (by intro _ q;simp only[↓bO,go_sem,seval,Tok.cells,qC,rdC,List.take,List.drop];exact q);simp only[↓bO,go_sem,seval,Tok.cells,qC,rdC,List.take,List.drop];apply u;apply zw;(try simp only[zD,zB,zz,zW,zU,zL,bS,bA,zK,zJ,zS,bL,Nat.reduceAdd,Nat.reduceLeDiff,Nat.reduceEqDiff,↓reduceIte,zaj,tyX,Tok.cells,zd,qC,rdC,List.take,List.drop]);(have hst:¬(s.e=0/\beg l s.i=true):=fun h=>he h.1);rw[hs.stop hst];exact Le.refl _
end Go.Proofs.YtkokfdmggdhfmaaGreatDoor
namespace Go.Proofs.YtkokfdmggdhfmaaGreatDoor
open Go Go.RowKit
def bE:ByteArray:=⟨#[101]⟩
def bN:ByteArray:=⟨#[110]⟩
structure SS where
 nm:ByteArray
 ps:List Tm
 j:Nat
 last:Rdx
section
variable (E:Nat->Int->Rdx) (l:List Tok) (i0:Nat) (n k:Int)
def stR:List ByteArray->SS->Rdx
 | [],s=>zaS l k s.nm i0 s.ps ⟨s.last.t,s.last.a,s.last.b,s.j,0⟩
 | st::rest,s =>
  if st=bE then if (E s.j (n+1)).e=0 then stR rest ⟨s.nm,s.ps++[(E s.j (n+1)).t],(E s.j (n+1)).i,E s.j (n+1)⟩ else E s.j (n+1)
  else if st=bN then if kdT l s.j 1=true then stR rest ⟨(tk l s.j).s,s.ps,s.j+1,s.last⟩ else wr s.j 3
  else if isT l (s.j:Int) 3 st=true\/isT l (s.j:Int) 4 st=true then stR rest ⟨s.nm,s.ps,s.j+1,s.last⟩ else wr s.j 3
end
section
variable {E:Nat->Int->Rdx} {l:List Tok} {i0:Nat} {n k:Int} {rest:List ByteArray} {s:SS}
theorem zdq:stR E l i0 n k (bE::rest) s=if (E s.j (n+1)).e=0 then stR E l i0 n k rest ⟨s.nm,s.ps++[(E s.j (n+1)).t],(E s.j (n+1)).i,E s.j (n+1)⟩ else E s.j (n+1):=by
 conv=>lhs;unfold stR
 rw[if_pos rfl]
theorem zgB:stR E l i0 n k (bN::rest) s=if kdT l s.j 1=true then stR E l i0 n k rest ⟨(tk l s.j).s,s.ps,s.j+1,s.last⟩ else wr s.j 3:=by
 conv=>lhs;unfold stR
 rw[if_neg tz3,if_pos rfl]
theorem zeD {st:ByteArray} (h1:¬st=bE) (h2:¬st=bN):stR E l i0 n k (st::rest) s=if isT l (s.j:Int) 3 st=true\/isT l (s.j:Int) 4 st=true then stR E l i0 n k rest ⟨s.nm,s.ps,s.j+1,s.last⟩ else wr s.j 3:=by
 conv=>lhs;unfold stR
 rw[if_neg h1,if_neg h2]
def zcY (l:List Tok):Prop:=∀i:Nat,isT l (i:Int) 3 bArr=false/\isT l (i:Int) 3 bEq=false/\isT l (i:Int) 4 zfq=false/\isT l (i:Int) 4 zfM=false/\isT l (i:Int) 4 bIn=false
theorem zf2 {st:ByteArray} (h1:¬st=bE) (h2:¬st=bN) (h3:isT l (s.j:Int) 3 st=false):stR E l i0 n k (st::rest) s=wtR l s.j 4 st (stR E l i0 n k rest ⟨s.nm,s.ps,s.j+1,s.last⟩):=by
 rw[zeD h1 h2,h3];unfold wtR;simp only[zf,false_or]
theorem zd3 {st:ByteArray} (h1:¬st=bE) (h2:¬st=bN) (h3:isT l (s.j:Int) 4 st=false):stR E l i0 n k (st::rest) s=wtR l s.j 3 st (stR E l i0 n k rest ⟨s.nm,s.ps,s.j+1,s.last⟩):=by
 rw[zeD h1 h2,h3];unfold wtR;simp only[zf,or_false]
theorem stR_fun (hG:zcY l) (z:Rdx):stR E l i0 n 4 [bN,bArr,bE] ⟨ByteArray.empty,[],i0+1,z⟩=zeh E l i0 n:=by
 unfold zeh;rw[zgB,zf2 tz3 tz3 (hG _).1,zdq];rfl
theorem stR_let (hG:zcY l) (z:Rdx) (k:Int) (j:Nat):stR E l i0 n k [bN,bEq,bE,bIn,bE] ⟨ByteArray.empty,[],j,z⟩=zds E l k i0 j n:=by
 unfold zds;rw[zgB,zf2 tz3 tz3 (hG _).2.1,zdq,zd3 tz3 tz3 (hG _).2.2.2.2,zdq];rfl
theorem stR_if (hG:zcY l) (z:Rdx):stR E l i0 n 8 [bE,zfq,bE,zfM,bE] ⟨ByteArray.empty,[],i0+1,z⟩=ifR E l i0 n:=by
 unfold ifR;rw[zdq,zd3 tz3 tz3 (hG _).2.2.1,zdq,zd3 tz3 tz3 (hG _).2.2.2.1,zdq];rfl
end
end Go.Proofs.YtkokfdmggdhfmaaGreatDoor
