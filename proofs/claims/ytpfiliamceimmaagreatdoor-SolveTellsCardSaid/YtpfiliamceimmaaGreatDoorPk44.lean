/- Texts of the abstract walk, of the contracts and of the plain laws, packed (part 44 of 50): Ga1 Lay Sk Ga2 GaL UmL UoL UoL2 UcL PtL Um1 Uo1 Up Ur2 Ur3 Up2 UpL CyL CyL2 CyO CyH CyW. Conditions: none. -/
import Derived.Test.YtpfiliamceimmaaGreatDoorPk43
import Derived.Shelf.SlIterI.Nil
import Derived.Shelf.SortM.Plain
import Derived.Shelf.SortM.SortNone
import Derived.Ground.GgzProg
import Derived.Ground.SlgmProg
import Derived.Test.YtpfiliamceimmaaGreatDoorProg
set_option linter.unusedVariables false
set_option linter.unusedSimpArgs false
set_option maxRecDepth 100000
set_option maxHeartbeats 4000000
namespace Go.Proofs.YtpfiliamceimmaaGreatDoor
open Go Go.RowKit
attribute [local irreducible] aops za1
def insI (n:Int) (l:List Int):List Int:=l.takeWhile (fun x=>decide (x<n))++n::l.dropWhile (fun x=>decide (x<n))
def zib (l:List Int) (r:RNode):List Int:=if r.t.k=1 then insI r.t.n l else l
def zgB (g:List RNode):List Int:=g.foldl zib []
end Go.Proofs.YtpfiliamceimmaaGreatDoor
namespace Go.Proofs.YtpfiliamceimmaaGreatDoor
open Go Go.Shelf
def keysA_ren:Go.Shelf.Ren:=⟨fun | 7=>126 | 10=>152 | n=>n,fun | 23=>130 | 26=>3 | 3=>3 | 28=>165 | 0=>0 | 27=>164 | 33=>85 | 4=>4 | n=>n,fun | n=>n⟩
theorem keysA:Go.Proofs.SlLaysZI.n7 Tryz.prog keysA_ren:={
  mixed:=by kernel_rfl
  f7:=⟨Tryz.f126.name,by decide,Tryz.func126.trans (congrArg some (by kernel_rfl))⟩
  f10:=⟨Tryz.f152.name,by decide,Tryz.func152.trans (congrArg some (by kernel_rfl))⟩
  t0:=Tryz.underlying0
  a0:=Tryz.isAgg0
  z0:=Tryz.sizeOf0
  v0:=Tryz.zeroValue0
  t4:=Tryz.underlying4
  a4:=Tryz.isAgg4
  z4:=Tryz.sizeOf4
  v4:=Tryz.zeroValue4
  t23:=Tryz.underlying130
  a23:=Tryz.isAgg130
  z23:=Tryz.sizeOf130
  v23:=Tryz.zeroValue130
  t26:=Tryz.underlying3
  a26:=Tryz.isAgg3
  z26:=Tryz.sizeOf3
  v26:=Tryz.zeroValue3
  t27:=Tryz.underlying164
  a27:=Tryz.isAgg164
  z27:=Tryz.sizeOf164
  v27:=Tryz.zeroValue164
  t28:=Tryz.underlying165
  a28:=Tryz.isAgg165
  z28:=Tryz.sizeOf165
  v28:=Tryz.zeroValue165
  t33:=Tryz.underlying85
  a33:=Tryz.isAgg85
  z33:=Tryz.sizeOf85
  v33:=Tryz.zeroValue85}
def sortedA_ren:Go.Shelf.Ren:=⟨fun | 6=>125 | 8=>150 | 9=>151 | 11=>163 | 13=>165 | 12=>164 | 23=>179 | 24=>180 | 14=>170 | 15=>171 | 16=>172 | 17=>173 | 18=>174 | 19=>175 | 20=>176 | 21=>177 | 22=>178 | 25=>185 | 26=>186 | 27=>187 | 28=>188 | 29=>189 | 30=>190 | 31=>195 | n=>n,fun | 26=>3 | 28=>165 | 24=>54 | 0=>0 | 3=>3 | 37=>207 | 48=>221 | 50=>223 | 4=>4 | 40=>215 | 39=>214 | 45=>81 | 5=>5 | 9=>9 | 51=>228 | 55=>232 | 57=>237 | 58=>238 | 33=>85 | n=>n,fun | n=>n⟩
theorem sortedA:Go.Proofs.SlLaysZI.n6 Tryz.prog sortedA_ren:={
  mixed:=by kernel_rfl
  f6:=⟨Tryz.f125.name,by decide,Tryz.func125.trans (congrArg some (by kernel_rfl))⟩
  f8:=⟨Tryz.f150.name,by decide,Tryz.func150.trans (congrArg some (by kernel_rfl))⟩
  f11:=⟨Tryz.f163.name,by decide,Tryz.func163.trans (congrArg some (by kernel_rfl))⟩
  t0:=Tryz.underlying0
  a0:=Tryz.isAgg0
  z0:=Tryz.sizeOf0
  v0:=Tryz.zeroValue0
  t24:=Tryz.underlying54
  a24:=Tryz.isAgg54
  z24:=Tryz.sizeOf54
  v24:=Tryz.zeroValue54
  t26:=Tryz.underlying3
  a26:=Tryz.isAgg3
  z26:=Tryz.sizeOf3
  v26:=Tryz.zeroValue3
  t28:=Tryz.underlying165
  a28:=Tryz.isAgg165
  z28:=Tryz.sizeOf165
  v28:=Tryz.zeroValue165
  i26:=by kernel_rfl}
def sortA_ren:Go.Shelf.Ren:=⟨fun | 5=>151 | 8=>165 | 7=>164 | 19=>179 | 20=>180 | 10=>170 | 11=>171 | 12=>172 | 13=>173 | 14=>174 | 15=>175 | 16=>176 | 17=>177 | 18=>178 | 30=>185 | 31=>186 | 32=>187 | 33=>188 | 34=>189 | 35=>190 | 40=>195 | n=>n,fun | 23=>54 | 25=>3 | 3=>3 | 32=>207 | 22=>54 | 0=>0 | 44=>221 | 46=>223 | 4=>4 | 36=>215 | 35=>214 | 41=>81 | 5=>5 | 9=>9 | 53=>228 | 57=>232 | 63=>237 | 64=>238 | n=>n,fun | n=>n⟩
theorem sortA:Go.Proofs.SlLaysM.n5 Tryz.prog sortA_ren:={
  mixed:=by kernel_rfl
  f5:=⟨Tryz.f151.name,by decide,Tryz.func151.trans (congrArg some (by kernel_rfl))⟩
  f7:=⟨Tryz.f164.name,by decide,Tryz.func164.trans (congrArg some (by kernel_rfl))⟩
  f8:=Tryz.func165.trans (congrArg some (by kernel_rfl))
  f10:=⟨Tryz.f170.name,by decide,Tryz.func170.trans (congrArg some (by kernel_rfl))⟩
  f11:=⟨Tryz.f171.name,by decide,Tryz.func171.trans (congrArg some (by kernel_rfl))⟩
  f12:=⟨Tryz.f172.name,by decide,Tryz.func172.trans (congrArg some (by kernel_rfl))⟩
  f13:=⟨Tryz.f173.name,by decide,Tryz.func173.trans (congrArg some (by kernel_rfl))⟩
  f14:=⟨Tryz.f174.name,by decide,Tryz.func174.trans (congrArg some (by kernel_rfl))⟩
  f15:=⟨Tryz.f175.name,by decide,Tryz.func175.trans (congrArg some (by kernel_rfl))⟩
  f16:=⟨Tryz.f176.name,by decide,Tryz.func176.trans (congrArg some (by kernel_rfl))⟩
  f17:=⟨Tryz.f177.name,by decide,Tryz.func177.trans (congrArg some (by kernel_rfl))⟩
  f18:=⟨Tryz.f178.name,by decide,Tryz.func178.trans (congrArg some (by kernel_rfl))⟩
  f19:=Tryz.func179.trans (congrArg some (by kernel_rfl))
  f20:=Tryz.func180.trans (congrArg some (by kernel_rfl))
  f30:=⟨Tryz.f185.name,by decide,Tryz.func185.trans (congrArg some (by kernel_rfl))⟩
  f31:=Tryz.func186.trans (congrArg some (by kernel_rfl))
  f32:=Tryz.func187.trans (congrArg some (by kernel_rfl))
  f33:=⟨Tryz.f188.name,by decide,Tryz.func188.trans (congrArg some (by kernel_rfl))⟩
  f34:=⟨Tryz.f189.name,by decide,Tryz.func189.trans (congrArg some (by kernel_rfl))⟩
  f35:=⟨Tryz.f190.name,by decide,Tryz.func190.trans (congrArg some (by kernel_rfl))⟩
  f40:=⟨Tryz.f195.name,by decide,Tryz.func195.trans (congrArg some (by kernel_rfl))⟩
  t0:=Tryz.underlying0
  a0:=Tryz.isAgg0
  z0:=Tryz.sizeOf0
  v0:=Tryz.zeroValue0
  t3:=Tryz.underlying3
  a3:=Tryz.isAgg3
  z3:=Tryz.sizeOf3
  v3:=Tryz.zeroValue3
  t4:=Tryz.underlying4
  a4:=Tryz.isAgg4
  z4:=Tryz.sizeOf4
  v4:=Tryz.zeroValue4
  t5:=Tryz.underlying5
  a5:=Tryz.isAgg5
  z5:=Tryz.sizeOf5
  v5:=Tryz.zeroValue5
  t9:=Tryz.underlying9
  a9:=Tryz.isAgg9
  z9:=Tryz.sizeOf9
  v9:=Tryz.zeroValue9
  t22:=Tryz.underlying54
  a22:=Tryz.isAgg54
  z22:=Tryz.sizeOf54
  v22:=Tryz.zeroValue54
  t23:=Tryz.underlying54
  a23:=Tryz.isAgg54
  z23:=Tryz.sizeOf54
  v23:=Tryz.zeroValue54
  t25:=Tryz.underlying3
  a25:=Tryz.isAgg3
  z25:=Tryz.sizeOf3
  v25:=Tryz.zeroValue3
  t32:=Tryz.underlying207
  a32:=Tryz.isAgg207
  z32:=Tryz.sizeOf207
  v32:=Tryz.zeroValue207
  t35:=Tryz.underlying214
  a35:=Tryz.isAgg214
  z35:=Tryz.sizeOf214
  v35:=Tryz.zeroValue214
  t36:=Tryz.underlying215
  a36:=Tryz.isAgg215
  z36:=Tryz.sizeOf215
  v36:=Tryz.zeroValue215
  t41:=Tryz.underlying81
  a41:=Tryz.isAgg81
  z41:=Tryz.sizeOf81
  v41:=Tryz.zeroValue81
  t44:=Tryz.underlying221
  a44:=Tryz.isAgg221
  z44:=Tryz.sizeOf221
  v44:=Tryz.zeroValue221
  t46:=Tryz.underlying223
  a46:=Tryz.isAgg223
  z46:=Tryz.sizeOf223
  v46:=Tryz.zeroValue223
  t53:=Tryz.underlying228
  a53:=Tryz.isAgg228
  z53:=Tryz.sizeOf228
  v53:=Tryz.zeroValue228
  t57:=Tryz.underlying232
  a57:=Tryz.isAgg232
  z57:=Tryz.sizeOf232
  v57:=Tryz.zeroValue232
  t63:=Tryz.underlying237
  a63:=Tryz.isAgg237
  z63:=Tryz.sizeOf237
  v63:=Tryz.zeroValue237
  t64:=Tryz.underlying238
  a64:=Tryz.isAgg238
  z64:=Tryz.sizeOf238
  v64:=Tryz.zeroValue238}
end Go.Proofs.YtpfiliamceimmaaGreatDoor
namespace Go.Proofs.YtpfiliamceimmaaGreatDoor
open Go Go.RowKit Go.Maps Go.Sort Go.Shelf Go.WideElems Go.WideShapes
theorem sortsI (m:Nat):AnyZI.SortsIn Tryz.prog sortedA_ren Fence.wide m :=
  ⟨fun blk off cap ss W hH hblk hsz=>callsIn_wide.2 (AnyM.slices_Sort_int sortA blk off cap ss W hH hblk hsz),fun p cap W=>callsIn_wide.2 (AnyM.slices_Sort_int_none sortA p cap W)⟩
theorem zjI {H:Type} (p b nn:Nat) (D0:DataW H) (R:Value→Option (DataW H×List MemPlace)) (w:World) (hown:w.ownsMap Tryz.prog 3 R b nn D0) (hcell:w.cell? ⟨p,0,none⟩=some (.map (some b))) (hmax:Maps.size D0≤maxLen) (hbytes:Maps.size D0 * 8≤140737488355328) :
    Calls Tryz.prog 125 #[.func (.func 152) #[] #[.pointer (some ⟨p,0,none⟩)]] w fun e w'=>∃(v:Value) (ss:List Int),e=.returned v∧ss.Perm (intKeys D0) ∧
      w'.ownsRow w.heap.size 3 1 v ss.length ((ss.mergeSort (fun x y=>decide (x≤y))).map encZ)∧(v=.slice none 0 0↔ss=[])∧Below w.heap.size w w':=by
  refine (callsIn_wide (n:=5)).1 ?_
  have hseq:SeqGives Fence.wide 2 Tryz.prog 152 #[.pointer (some ⟨p,0,none⟩)] encZ (fun ss=>ss.Perm (intKeys D0)) (Maps.size D0) w :=
    AnyZI.keys_gives (ρ:=keysA_ren) {keysA with} Fence.wide _ trivial rfl (by omega) p b nn D0 w (World.block_lt_of_cell? w _ hcell) hcell hown
  exact AnyZI.sorted_in sortedA Fence.wide 5 trivial trivial trivial trivial rfl (by omega) (sortsI _) (enters_of Tryz.func151 (by kernel_rfl) rfl) 152 #[.pointer (some ⟨p,0,none⟩)] trivial (enters_of Tryz.func152 (by kernel_rfl) rfl) _ _ hmax hbytes _ hseq
def is64 (n:Int):Prop:=-9223372036854775808≤n∧n<9223372036854775808
theorem is64_wf {n:Int} (h:is64 n):(Lit.int .i64 n).wf=true:=by
  obtain ⟨h1,h2⟩:=h;(have e1:IntKind.i64.min=-9223372036854775808:=by decide);(have e2:IntKind.i64.max=9223372036854775807:=by decide);simp only[Lit.wf,e1,e2,zF,zA];omega
abbrev zbV (l:List Int):List Int:=l.mergeSort fun x y=>decide (x≤y)
theorem rpInts {E:Env} {A:Nat→Nat→Prop} {w:World} {base n:Nat} {v:Value} {l:List Int} (h:w.ownsRow base 3 1 v n (l.map encZ)) (hA:∀b o,A b o→b<base) (hcap:n≤maxLen):Rp E A w (.sl 1 (l.map intC)) v:=by
  obtain ⟨hl,h⟩:=h;(have hn:l.length=n:=by simpa using hl);rcases h with ⟨rfl,h0⟩ | ⟨g,cap,cur,rfl,hb,hh,h1,h2,h3,h4⟩
  · have:l=[]:=List.eq_nil_of_length_eq_zero (by omega)
    subst this;exact .sl0 (by simp[maxLen])
  · have hfl:∀l:List Int,(l.map intC).flatten=l.map fun x=>AV.v (.int .i64 x):=fun l=>by
      induction l with
      | nil=>rfl
      | cons x l ih=>simp[intC,ih]
    have hlen:(l.map intC).flatten.length=n:=by rw[hfl,zS,hn]
    have hcur:∀j x,l[j]?=some x→cur[j]?=some (encZ x):=fun j x hj=>by
      have hjl:=(ze.1 hj).1;(have h5:(l.map encZ)[j]?=some (encZ x):=by rw[zY,hj];rfl);rw[← h4,List.getElem?_take,if_pos (by omega)] at h5;rw[← zX];exact h5
    refine .sl (fun j=>cur.getD j undef) (by rw[zS,hn]) h1 h2 (fun x hx=>by obtain ⟨y,_,rfl⟩:=zC.1 hx;rfl) (fun j hj=>⟨?_,fun ha=>?_⟩) fun j c hj=>?_
    · rw[hlen] at hj
      (have hlt:j<cur.size:=by rw[h3];omega);rw[zR,cell_of_row w _ _ cur 3 (0,0) hh];simp[Array.getD,hlt]
    · have:=hA _ _ ha;omega
    · rw[hfl,zY] at hj
      cases hx:l[j]? with
      | none=>rw[hx] at hj;cases hj
      | some x =>
        rw[hx] at hj;(cases hj);have h5:=hcur j x hx;have hlt:j<cur.size:=(Array.getElem?_eq_some_iff.1 h5).1
        have h6:cur.getD j undef=encZ x:=by
          rw[zU hlt] at h5;simp[Array.getD,hlt,Option.some.inj h5]
        rw[h6];exact .v _
theorem zg1 {os:Os} {nx p m:Nat} {es:List (Int×AV)} {Q:AV→Os→Nat→Prop} (hp:zaJ os p=some (.cells 130 [.map m])) (hm:zaJ os m=some (.map es)) (hwf:∀q∈es,is64 q.1) (hlen:es.length≤1099511627776)
    (hq:Q (.sl 1 ((zbV (es.map Prod.fst)).map intC)) os nx):ACalls Tryz.prog 125 [.clo 152 [.ptr p 0]] os nx Q:=by
  refine ⟨⟨Tryz.f125,Tryz.func125,by kernel_rfl,rfl⟩,fun A0 E w vs hok hnx hr=>?_⟩;obtain ⟨hsz,hv⟩:=hr;have hsz:vs.size=1:=hsz;obtain ⟨hvp,cur,hh,hcs,hc⟩:=hok.ok p _ hp;obtain ⟨hvm,ents,clock,hme,hes,hent,hst⟩:=hok.ok m _ hm;have hcs:cur.size=1:=hcs;have hv0:=hv 0 (.clo 152 [.ptr p 0]) vs[0] rfl (zU (by omega))
  have hvs:vs=#[.func (.func 152) #[] #[.pointer (some ⟨E.blk p,0,none⟩)]]:=by
    have e0:vs[0]=.func (.func 152) #[] #[.pointer (some ⟨E.blk p,0,none⟩)]:=by
      generalize vs[0]=u at hv0
      cases hv0 with
      | @clo _ _ us hs hr =>
        have hs:us.size=1:=hs;have h1:=hr 0 (.ptr p 0) us[0] rfl (zU (by omega))
        have e1:us[0]=.pointer (some ⟨E.blk p,0,none⟩):=by
          (generalize us[0]=u at h1);cases h1;rfl
        (congr 1);(apply Array.ext (by simp[hs]));intro i h2 h3;(have:i=0:=by omega);subst this;simpa using e1
    (apply Array.ext (by simp[hsz]));intro i h2 h3;(have:i=0:=by omega);subst this;simpa using e0
  have hcell:w.cell? ⟨E.blk p,0,none⟩=some (.map (some (E.blk m))):=by
    have h1:cur[0]?=some cur[0]:=zU (by omega);have h2:=hc 0 (.map m) _ rfl h1
    have e2:cur[0]=.map (some (E.blk m)):=by
      (generalize cur[0]=u at h2);cases h2;rfl
    rw[cell_of_row w _ _ cur 130 (0,0) hh,h1,e2]
  have hkey:∀x∈ents.toList,∃q∈es,x.key=.int .i64 q.1:=fun x hx=>by
    obtain ⟨i,hi,rfl⟩:=zZ.1 hx;(have hie:i<es.length:=by rw[← hes];simpa using hi);exact ⟨_,List.getElem_mem hie,(hent i _ _ (zd hie) (by rw[← zX];exact zd hi)).1⟩
  have hk64:∀x∈ents.toList,∃n:Int,x.key=.int .i64 n∧keyOf Tryz.prog 3 x.key=some (.int .i64 n):=fun x hx=>by
    obtain ⟨q,hq,he⟩:=hkey x hx;refine ⟨q.1,he,?_⟩;rw[he];simp[keyOf,Tryz.underlying3,mapKey,is64_wf (hwf q hq)]
  let R:Value→Option (DataW Unit×List MemPlace):=fun _=>some (.nil,[])
  have hF:Fit Tryz.prog 3 R ents clock:=⟨by rw[hes];simp only[maxLen];omega,hst,fun x hx=>by
    obtain ⟨n,_,hk⟩:=hk64 x hx
    exact ⟨_,by simp only[Go.WideElems.rd,hk,R,Option.bind_some,z7];rfl⟩⟩
  have hown:=World.ownsMap_of_fit (R:=R) hme hF (fun x _ z hz=>hz)
  have hsize:Maps.size (DataW.map ((ents.toList.map (rg Tryz.prog 3 R)).foldr DataW.insert []))=es.length:=by
    simp[Maps.size,length_sorted,hes]
  have hperm:(intKeys (DataW.map ((ents.toList.map (rg Tryz.prog 3 R)).foldr DataW.insert []))).Perm (es.map Prod.fst):=by
    (show List.Perm (((ents.toList.map (rg Tryz.prog 3 R)).foldr DataW.insert []).map fun p=>Go.intOf p.1) _);refine ((sorted_perm _).map _).trans (List.Perm.of_eq ?_);(apply List.ext_getElem (by simp[hes]));intro i h1 h2;simp only[List.getElem_map];(have hi:i<ents.size:=by simpa using h1);(have hie:i<es.length:=by rw[← hes];exact hi);have he:=(hent i _ _ (zd hie) (zU hi)).1;have hx:=hwf _ (List.getElem_mem hie);simp[Go.WideElems.rg,Go.WideElems.rd,he,keyOf,Tryz.underlying3,mapKey,is64_wf hx,R,Go.intOf]
  rw[hvs];refine (zjI (E.blk p) (E.blk m) _ _ R w hown hcell (by rw[hsize];simp only[maxLen];omega) (by rw[hsize];omega)).mono ?_;rintro e w' ⟨v,ss,rfl,hS,hrow,_,hb⟩;have hsort:ss.mergeSort (fun x y=>decide (x≤y))=zbV (es.map Prod.fst):=mergeSort_of_perm_i (hS.trans hperm);rw[hsort] at hrow
  have hAv:∀b o,AvX A0 E os b o→b<w.heap.size:=by
    rintro b o (h | ⟨id,ob,hg,hbk,_⟩);(· exact hok.bnd b o h);· exact Ob.blk_lt (hok.ok id ob hg).2 hbk
  have hssl:ss.length≤maxLen:=by
    have:=(hS.trans hperm).length_eq;rw[zS] at this;simp only[maxLen];omega
  exact ⟨_,v,os,nx,E,rfl,hq,rpInts hrow hAv hssl,hok.keep hb,hnx,.refl E,.of_below hb,fun b o ha=>.inl ha⟩
end Go.Proofs.YtpfiliamceimmaaGreatDoor
namespace Go.Proofs.YtpfiliamceimmaaGreatDoor
open Go Go.RowKit
attribute [local irreducible] aops za1
theorem vC_fst (V:List (Int×Int)):(V.map vC).map Prod.fst=V.map Prod.fst:=by simp[vC,List.map_map,Function.comp_def]
theorem vC_64 {V:List (Int×Int)} (h:∀q∈V,is64 q.1):∀q∈V.map vC,is64 q.1:=fun q hq=>by
  obtain ⟨p,hp,rfl⟩:=zC.1 hq;exact h p hp
def kindG (G:GS) (i:Int):Int:=if 0≤i∧i<(G.N.length:Int) then ((G.N[i.toNat]?).map GNode.k).getD 0 else 0
def nameG (G:GS) (i:Int):Int×Bool:=if kindG G i=1 then (((G.N[i.toNat]?).map GNode.n).getD 0,true) else (0,false)
theorem ziT {G:GS} {i:Int} {x:GNode} (h:0≤i) (hx:G.N[i.toNat]?=some x):kindG G i=x.k:=by
  have:=(ze.1 hx).1;rw[kindG,if_pos ⟨h,by omega⟩,hx];rfl
theorem nameG_at {G:GS} {i:Int} {x:GNode} (h:0≤i) (hx:G.N[i.toNat]?=some x):nameG G i=if x.k=1 then (x.n,true) else (0,false):=by
  rw[nameG,ziT h hx,hx];rfl
theorem Keys_at {m:Nat} {os:Os} {nx:Nat} {Q:AV→Os→Nat→Prop} (hq:Q (.clo 152 [.ptr nx 0]) ((nx,.cells 130 [.map m])::os) (nx+1)):ACalls Tryz.prog 126 [.map m] os nx Q:=by
  refine zah Tryz.func126 (by kernel_rfl) rfl (by rw[Tryz.ntmps126];simp) (fun hm=>?_);simp only[Tryz.ntmps126,Tryz.results126,zi,zm,Nat.reduceAdd,Nat.reduceSub,zt,zq,zh,zj];refine zab fun Y0 y0=>?_;refine zaa ?_;refine z8 1 fun Q0 q0=>?_;simp only[↓bO,go_sem,seval];refine q0 _ ?_;clear q0 Q0;simp only[go_sem];simp only[↓bO,go_sem,seval];refine y0 _ ?_;(try clear y0 Y0);refine zab fun Y0 y0=>?_;refine zaa ?_;refine z8 1 fun Q0 q0=>?_;simp only[↓bO,go_sem,seval];refine q0 _ ?_;clear q0 Q0;simp only[go_sem];simp only[↓bO,go_sem,seval];refine y0 _ ?_;(try clear y0 Y0);refine zam ?_;(try simp only[zaf,zad,zac,zaZ,zaW,zaC,bS,bA]);exact hq
theorem zfB (G:GS) (hw:∀q∈G.V,is64 q.1) (hl:G.V.length≤1099511627776):GCalls 90 [.ptr 0 0] (G.N) (G.V) (.sl 1 ((zbV (G.V.map Prod.fst)).map intC)) (G.N) (G.V):=by
  refine ACalls.clean (C:=fun r os=>r=_∧os=_) ?_;refine zah Tryz.func90 (by kernel_rfl) rfl (by rw[Tryz.ntmps90];simp) (fun hm=>?_);simp only[Tryz.ntmps90,Tryz.results90,zi,zm,Nat.reduceAdd,Nat.reduceSub,zt,zq,zh,zj];simp only[zci,zai,Nat.reduceAdd];refine zab fun Y0 y0=>?_;refine zaa ?_;simp only[↓bO,go_sem,seval];refine y0 _ ?_;(try clear y0 Y0);refine zab fun Y0 y0=>?_;refine zab fun Y1 y1=>?_;refine zaa ?_;refine z8 1 fun Q0 q0=>?_;simp only[↓bO,go_sem,seval];refine q0 _ ?_;clear q0 Q0;simp only[go_sem];simp only[↓bO,go_sem,seval];refine y1 _ ?_;(try clear y1 Y1);refine zan rfl (fun hb4=>?_) (fun hb4=>?_)
  ·
   cases hb4
  ·
   refine zar ?_;(try simp only[zaf,zad,zac]);refine y0 _ ?_;(try clear y0 Y0);refine zab fun Y0 y0=>?_;refine zaa ?_;(iterate 4 (refine z8 1 fun Q0 q0=>?_;simp only[↓bO,go_sem,seval];refine q0 _ ?_;clear q0 Q0;simp only[go_sem]));refine z8 1 fun Q0 q0=>?_;simp only[↓bO,go_sem,seval];refine Keys_at ?_;(try simp only[bS,bA,zaf,zad,zac]);refine q0 _ ?_;clear q0 Q0;simp only[go_sem];refine z8 1 fun Q0 q0=>?_;simp only[↓bO,go_sem,seval];refine zg1 (p:=3) (m:=2) (es:=G.V.map vC) rfl rfl (vC_64 hw) (by rw[zS];exact hl) ?_;rw[vC_fst];(try simp only[bS,bA,zaf,zad,zac]);refine q0 _ ?_;clear q0 Q0;simp only[go_sem];simp only[↓bO,go_sem,seval];refine y0 _ ?_;(try clear y0 Y0);refine zam ?_;(try simp only[zaf,zad,zac,zaZ,zaW,zaC,bS,bA]);refine ⟨_,zai 0 (zci (G.N) (G.V)),⟨rfl,rfl⟩,Und.data (za6 _),zhS (by omega) _ _,?_,?_,by omega⟩
   ·
    refine Le.of_eq ?_;rfl
   · first | (refine ⟨1,?_,rfl⟩;first | rfl | (simp only[zci,zai,zk,zw,zz,zI,List.map_nil,zf,zi,zm,GNode.cells,z6,Nat.reduceAdd,zR];done))
end Go.Proofs.YtpfiliamceimmaaGreatDoor
namespace Go.Proofs.YtpfiliamceimmaaGreatDoor
open Go Go.RowKit
def vns (m:List RNode):List Int:=(m.filter fun r=>r.t.k==1).map fun r=>r.t.n
theorem vns_app (m:List RNode) (r:RNode):vns (m++[r])=if r.t.k=1 then vns m++[r.t.n] else vns m:=by
  unfold vns;rw[List.filter_append]
  by_cases h:r.t.k=1
  (· simp[h]);· simp[h]
theorem vset_none {V:List (Int×Int)} {k:Int} (x:Int) (h:zaM V k=none):zf3 V k x=V++[(k,x)]:=by
  induction V with
  | nil=>rfl
  | cons a V ih =>
    obtain ⟨a,b⟩:=a;simp only[zaM] at h;(split at h);· cases h
    · rename_i hne
      simp only[zf3,if_neg hne,ih h,zh]
theorem zg0:∀(ps:List Ty) (_:∀p∈ps,∀(G:GS) (m:List RNode),Rel G m→G.V.map Prod.fst=vns m→(p.gadd G).1.V.map Prod.fst=vns (p.radd m).1∧Rel (p.gadd G).1 (p.radd m).1) (G:GS) (m:List RNode) (l l':List Int),Rel G m→G.V.map Prod.fst=vns m →
    (Ty.gaddL ps G l).1.V.map Prod.fst=vns (Ty.raddL ps m l').1
  | [],_,G,m,l,l',_,h=>by simpa [Ty.gaddL,Ty.raddL] using h
  | p::ps,hp,G,m,l,l',hr,h=>by
    obtain ⟨h1,h2⟩:=hp p (by simp) G m hr h;simp only[Ty.gaddL,Ty.raddL];exact zg0 ps (fun q hq=>hp q (by simp[hq])) _ _ _ _ h2 h1
theorem zjm:∀(T:Ty),T.right=true→T.cnt≤400→∀(G:GS) (m:List RNode),Rel G m→G.V.map Prod.fst=vns m→(T.gadd G).1.V.map Prod.fst=vns (T.radd m).1:=by
  refine Ty.ind fun T ih=>?_;intro hr hc G m h hk;obtain ⟨hok,hps⟩:=T.right_ok hr
  by_cases h1:T.k=1
  · have hps0:T.ps=[]:=by rw[T.var_eq hr h1];rfl
    rcases h.vars T.n with ⟨hv,hi⟩ | ⟨k,hv,hi,h0⟩
    · have em:T.radd m=(m++[⟨T,[]⟩],(m.length:Int)):=by rw[Ty.radd_eq,if_neg (by omega),hps0];rfl
      rw[Ty.gadd_var h1,hv,em];(simp only);rw[vset_none _ hv,zz,hk,vns_app,if_pos h1];rfl
    · rw[Ty.gadd_var h1,hv,Ty.radd_eq,hi,if_pos ⟨h1,h0⟩]
      exact hk
  · rw[Ty.gadd_more h1,Ty.radd_eq,if_neg (by omega)]
    (simp only);rw[vns_app,if_neg h1];exact zg0 T.ps (fun p hp G m hr' hk'=>⟨ih p hp (hps p hp) (Nat.le_trans (Ty.cnt_le_mem hp) hc) G m hr' hk',(zbG p (hps p hp) (Nat.le_trans (Ty.cnt_le_mem hp) hc) G m hr').rel⟩) G m [] [] h hk
theorem insI_perm (n:Int) (l:List Int):(insI n l).Perm (n::l):=by
  unfold insI;refine List.perm_middle.trans ?_;rw[List.takeWhile_append_dropWhile]
theorem zcP {p:Int→Bool}:∀{l:List Int} {x:Int},x∈l.takeWhile p→x∈l∧p x=true
  | a::l,x,h=>by
    rw[List.takeWhile_cons] at h;split at h
    · rename_i ha
      (rcases zM.1 h with rfl | h);(· exact ⟨by simp,ha⟩);· exact ⟨by simp[(zcP h).1],(zcP h).2⟩
    · cases h
theorem zeD {n:Int}:∀{l:List Int},l.Pairwise (fun a b=>a≤b)→∀x∈l.dropWhile (fun y=>decide (y<n)),n≤x
  | [],_,x,h=>by simp at h
  | a::l,hs,x,h=>by
    rw[List.dropWhile_cons] at h;have hs':=List.pairwise_cons.1 hs;(split at h);· exact zeD hs'.2 x h
    · rename_i ha
      (have ha:n≤a:=by simpa using ha);(rcases zM.1 h with rfl | h);(· exact ha);· have:=hs'.1 x h;omega
theorem zh9 {n:Int} {l:List Int} (h:l.Pairwise (fun a b=>a≤b)):(insI n l).Pairwise (fun a b=>a≤b):=by
  (have hlt:∀x∈l.takeWhile (fun y=>decide (y<n)),x<n:=fun x hx=>by simpa using (zcP hx).2);have hge:=zeD (n:=n) h;(have hsp:(l.takeWhile (fun y=>decide (y<n))++l.dropWhile (fun y=>decide (y<n))).Pairwise (fun a b=>a≤b):=by rw[List.takeWhile_append_dropWhile];exact h);obtain ⟨h1,h2,h3⟩:=List.pairwise_append.1 hsp;unfold insI;refine List.pairwise_append.2 ⟨h1,List.pairwise_cons.2 ⟨hge,h2⟩,fun a ha b hb=>?_⟩;have:=hlt a ha;(rcases zM.1 hb with rfl | hb);(· omega);· have:=hge b hb;omega
theorem zgd:∀(m:List RNode) (l:List Int),l.Pairwise (fun a b=>a≤b)→(m.foldl zib l).Pairwise (fun a b=>a≤b)∧(m.foldl zib l).Perm (l++vns m)
  | [],l,h=>by simpa [vns] using h
  | r::m,l,h=>by
    have key:(zib l r).Pairwise (fun a b=>a≤b)∧(zib l r++vns m).Perm (l++vns (r::m)):=by
      unfold zib
      by_cases hk:r.t.k=1
      · rw[if_pos hk]
        refine ⟨zh9 h,?_⟩;(have e:vns (r::m)=r.t.n::vns m:=by simp[vns,hk]);rw[e];exact ((insI_perm _ _).append_right _).trans List.perm_middle.symm
      · rw[if_neg hk]
        (have e:vns (r::m)=vns m:=by simp[vns,hk]);rw[e];exact ⟨h,.refl _⟩
    obtain ⟨h1,h2⟩:=zgd m (zib l r) key.1;exact ⟨h1,h2.trans key.2⟩
theorem ziG (m:List RNode):zgB m=zbV (vns m):=by
  obtain ⟨h1,h2⟩:=zgd m [] .nil;(have tr:∀a b c:Int,decide (a≤b)=true→decide (b≤c)=true→decide (a≤c)=true:=fun a b c h1 h2=>by simp only[zA] at *;omega);(have to:∀a b:Int,(decide (a≤b)||decide (b≤a))=true:=fun a b=>by simp only[Bool.or_eq_true,zA];omega);have h3:=List.pairwise_mergeSort (le:=fun x y:Int=>decide (x≤y)) tr to (vns m);refine List.Perm.eq_of_pairwise (le:=fun a b:Int=>a≤b) (fun a b _ _ h1 h2=>by omega) h1 (h3.imp fun h=>by simpa using h) (h2.trans (List.mergeSort_perm _ _).symm)
theorem vns_64 {G:GS} {m:List RNode} (h:Rel G m):∀n∈vns m,is64 n:=fun n hn=>by
  unfold vns at hn;obtain ⟨r,hr,rfl⟩:=zC.1 hn;obtain ⟨hrm,hk⟩:=List.mem_filter.1 hr;obtain ⟨i,hi⟩:=List.mem_iff_getElem?.1 hrm;have hl:=(ze.1 hi).1;have hGi:G.N[i]?=some (G.N[i]'(by have:=h.len;omega)):=zd (by have:=h.len;omega);have hright:=(h.node i _ _ hGi hi).2.2.2.2.2.1;have hok:=(r.t.right_ok hright).1;(have hk1:r.t.k=1:=by simpa using hk);simp only[okN,zA] at hok;unfold is64;omega
theorem Rel.at {G:GS} {m:List RNode} (h:Rel G m) {i:Nat} {r:RNode} (hr:m[i]?=some r):∃x,G.N[i]?=some x∧kindG G (i:Int)=r.t.k∧G.parts (i:Int)=r.parts∧nameG G (i:Int)=if r.t.k=1 then (r.t.n,true) else (0,false):=by
  have hl:=(ze.1 hr).1;obtain ⟨x,hGi⟩:∃x,G.N[i]?=some x:=⟨_,zd (by have:=h.len;omega)⟩;obtain ⟨h1,h2,h3,_⟩:=h.node i _ _ hGi hr;refine ⟨_,hGi,?_,?_,?_⟩;(· rw[ziT (x:=x) (by omega) (by rw[zK];exact hGi),h1]);(· rw[GS.parts_in (x:=x) (by omega) (by rw[zK];exact hGi),h3]);· rw[nameG_at (x:=x) (by omega) (by rw[zK];exact hGi),h1,h2]
end Go.Proofs.YtpfiliamceimmaaGreatDoor
namespace Go.Proofs.YtpfiliamceimmaaGreatDoor
open Go Go.RowKit
def OkE (l:List (Ty×Ty)):Prop:=∀e∈l,e.1.right=true∧e.2.right=true∧e.1.cnt≤400∧e.2.cnt≤400
theorem zgR {l:List (Ty×Ty)} {e:Ty×Ty} (h:OkE (l++[e])):Pre (eqF l).1 (eqF (l++[e])).1:=by
  (obtain ⟨⟨G,hG⟩,_⟩:=zev l fun x hx=>h x (by simp[hx]));obtain ⟨h1,h2,h3,h4⟩:=h e (by simp);have s1:=zbG e.1 h1 h3 G _ hG;have s2:=zbG e.2 h2 h4 _ _ s1.rel;rw[zbB];exact s1.pre.trans s2.pre
theorem ziE (l:List (Ty×Ty)) (e:Ty×Ty):∀x∈zcV (eqF l).2,x∈zcV (eqF (l++[e])).2:=fun x hx=>by
  rw[zbB];simp only[zeE,zcV,zz,zG];exact .inl hx
theorem ziJ:∀(k l:List (Ty×Ty)),OkE (l++k)→Pre (eqF l).1 (eqF (l++k)).1∧∀x∈zcV (eqF l).2,x∈zcV (eqF (l++k)).2
  | [],l,_=>by simp only[List.append_nil];exact ⟨.refl _,fun _ h=>h⟩
  | e::k,l,h=>by
    (have e1:l++e::k=(l++[e])++k:=by simp);rw[e1] at h ⊢;obtain ⟨h1,h2⟩:=ziJ k (l++[e]) h;exact ⟨(zgR fun x hx=>h x (by simp only[zG] at hx ⊢;exact .inl hx)).trans h1,fun x hx=>h2 x (ziE l e x hx)⟩
theorem Clashes.more {l k:List (Ty×Ty)} (h:Clashes l) (hk:OkE (l++k)):Clashes (l++k):=by
  obtain ⟨h1,h2⟩:=ziJ k l hk;exact Clash.mono h1.sh h2 h
structure CSt (l:List (Ty×Ty)) (S:CS):Prop where
  st:(Holds l S∧S.G.V.map Prod.fst=vns (eqF l).1)∨(S.clash=true∧Clashes l)
  len:S.G.N.length≤zcl l
  ok:OkE l
theorem CSt.none:CSt [] CS0:=⟨.inl ⟨Holds.none,rfl⟩,by simp[CS0],fun e he=>by cases he⟩
theorem CSt.good {l:List (Ty×Ty)} {S:CS} (h:CSt l S) (hc:S.clash=false):Holds l S∧S.G.V.map Prod.fst=vns (eqF l).1:=by
  (rcases h.st with h | h);(· exact h);· rw[hc] at h;cases h.1
theorem CSt.bad {l:List (Ty×Ty)} {S:CS} (h:CSt l S) (hc:S.clash=true):Clashes l:=by
  (rcases h.st with h | h);(· rw[h.1.1] at hc;cases hc);· exact h.2
theorem CSt.step {l:List (Ty×Ty)} {S:CS} {e:Ty×Ty} {s:CS×Int} (h:CSt l S) (he:e.1.right=true∧e.2.right=true∧e.1.cnt≤400∧e.2.cnt≤400) (hs:EqR S (zcV (eqF l).2) (eqF l).1 e.1 e.2 s):CSt (l++[e]) s.1:=by
  have hok:OkE (l++[e]):=fun x hx=>by
    (rcases zG.1 hx with hx | hx);(· exact h.ok x hx);· simp at hx;subst hx;exact he
  have hsum:=zdW l e;have hlen:=h.len;rcases h.st with ⟨hH,hK⟩ | ⟨hc,hcl⟩
  · have hG:s.1.G=(e.2.gadd (e.1.gadd S.G).1).1:=by
      (rcases hs with ⟨h1,_⟩ | ⟨_,h1,_⟩ | ⟨_,_,_,h3,_⟩);(· rw[hH.1] at h1;cases h1);(· rw[he.1,he.2.1] at h1;cases h1);· exact h3
    have hle:s.1.G.N.length≤zcl (l++[e]):=by
      have g1:=e.1.gadd_inv S.G hH.2.w.c.g;have g2:=e.2.gadd_inv _ g1.1.inv;have:=g1.1.le;have:=g2.1.le;rw[hG];omega
    refine ⟨?_,hle,hok⟩;(rcases hH.step (e:=e) hs with ⟨h1,_⟩ | ⟨_,h1,h2⟩ | ⟨_,_,_,h3,_⟩);· rw[he.1,he.2.1] at h1;cases h1
    · refine .inr ⟨?_,h1⟩
      (rcases hs with ⟨h4,_⟩ | ⟨_,h4,_⟩ | ⟨_,_,_,_,⟨h4,_⟩ | ⟨_,h4,_⟩⟩);(· rw[hH.1] at h4;cases h4);(· rw[he.1,he.2.1] at h4;cases h4);(· rw[h4] at h2;cases h2);· exact h4
    · refine .inl ⟨h3,?_⟩
      have s1:=zbG e.1 he.1 he.2.2.1 S.G _ hH.2.rel;have k1:=zjm e.1 he.1 he.2.2.1 S.G _ hH.2.rel hK;have k2:=zjm e.2 he.2.1 he.2.2.2 _ _ s1.rel k1;rw[hG,k2,zbB];rfl
  · rcases hs with ⟨_,rfl⟩ | ⟨h1,_⟩ | ⟨h1,_⟩
    (· exact ⟨.inr ⟨hc,hcl.more hok⟩,by simp only;omega,hok⟩);(· rw[hc] at h1;cases h1);· rw[hc] at h1;cases h1
theorem CSt.fsame {l:List (Ty×Ty)} {S S1:CS} (h:CSt l S) (k:FSame S.F S1.F) (e:S1={S with F:=S1.F}):CSt l S1:=by
  have hst:=h.st;have hlen:=h.len;have hok:=h.ok;(have e1:S1.G=S.G:=by rw[e]);(have e2:S1.clash=S.clash:=by rw[e]);refine ⟨?_,by rw[e1];exact hlen,hok⟩;(rcases hst with ⟨h1,h2⟩ | ⟨h1,h2⟩);(· exact .inl ⟨h1.fsame k e,by rw[e1];exact h2⟩);· exact .inr ⟨by rw[e2];exact h1,h2⟩
def SameR (S:CS) (a b:Int) (r:Bool):Prop:=r=true↔S.clash=false∧∃i k,zaM S.G.V a=some i∧zaM S.G.V b=some k∧One S.F.up i.toNat k.toNat
end Go.Proofs.YtpfiliamceimmaaGreatDoor
namespace Go.Proofs.YtpfiliamceimmaaGreatDoor
open Go Go.RowKit
structure Hom (m:List RNode) (E:List (Nat×Nat)) (m':List RNode) (E':List (Nat×Nat)) (f:Nat→Nat):Prop where
  node:∀(i:Nat) (r:RNode),m[i]?=some r→∃r',m'[f i]?=some r'∧r'.t=r.t∧r'.parts.length=r.parts.length∧∀(j:Nat) (p p':Int),r.parts[j]?=some p→r'.parts[j]?=some p'→p'.toNat=f p.toNat
  eqs:∀e∈E,Cl (shR m') E' (f e.1) (f e.2)
theorem Hom.cl {m m':List RNode} {E E':List (Nat×Nat)} {f:Nat→Nat} (h:Hom m E m' E' f) {i k:Nat} (hc:Cl (shR m) E i k):Cl (shR m') E' (f i) (f k):=by
  refine Cl.least (R:=fun i k=>Cl (shR m') E' (f i) (f k)) ⟨h.eqs,fun _=>.refl _,fun _ _ h=>.symm h,fun _ _ _ h k=>.trans h k,?_⟩ hc;intro i k j c p q ps qs hik hi hk h1 hl hp hq;obtain ⟨x,hx,rfl,rfl⟩:=zcC hi;obtain ⟨y,hy,hyk,rfl⟩:=zcC hk;obtain ⟨x',hx',hxt,hxl,hxp⟩:=h.node i x hx;obtain ⟨y',hy',hyt,hyl,hyp⟩:=h.node k y hy;have hj:=(ze.1 hp).1;have hp':x'.parts[j]?=some (x'.parts[j]'(by omega)):=zd (by omega);have hq':y'.parts[j]?=some (y'.parts[j]'(by omega)):=zd (by omega);rw[← hxp j p _ hp hp',← hyp j q _ hq hq'];exact Cl.part hik (zdQ hx') (by rw[zdQ hy',hyt,hyk,← hxt]) (by rw[hxt];exact h1) (by omega) hp' hq'
theorem Hom.clash {m m':List RNode} {E E':List (Nat×Nat)} {f:Nat→Nat} (h:Hom m E m' E' f) (hc:Clash (shR m) E):Clash (shR m') E':=by
  obtain ⟨i,k,hik,c,d,ps,qs,hi,hk,h1,h2,h3⟩:=hc;obtain ⟨x,hx,rfl,rfl⟩:=zcC hi;obtain ⟨y,hy,rfl,rfl⟩:=zcC hk;obtain ⟨x',hx',hxt,hxl,_⟩:=h.node i x hx;obtain ⟨y',hy',hyt,hyl,_⟩:=h.node k y hy;refine ⟨f i,f k,h.cl hik,_,_,_,_,zdQ hx',zdQ hy',by rw[hxt];exact h1,by rw[hyt];exact h2,?_⟩;rw[hxt,hyt,hxl,hyl];exact h3
def HomN (m m':List RNode) (f:Nat→Nat):Prop :=
  ∀(i:Nat) (r:RNode),m[i]?=some r→∃r',m'[f i]?=some r'∧r'.t=r.t∧r'.parts.length=r.parts.length∧∀(j:Nat) (p p':Int),r.parts[j]?=some p→r'.parts[j]?=some p'→p'.toNat=f p.toNat
def VarU (m:List RNode):Prop:=∀(i j:Nat) (r s:RNode),m[i]?=some r→m[j]?=some s→r.t.k=1→s.t.k=1→r.t.n=s.t.n→i=j
theorem HomN.ext {G:GS} {m m':List RNode} {f g:Nat→Nat} (hR:Rel G m) (h:HomN m m' f) (e:∀i,i<m.length→g i=f i):HomN m m' g:=fun i r hr=>by
  have hil:=(ze.1 hr).1;obtain ⟨r',h1,h2,h3,h4⟩:=h i r hr;refine ⟨r',by rw[e i hil];exact h1,h2,h3,fun j p p' hp hp'=>?_⟩;have hm:=hR.mok r (zl hr) p (zl hp);rw[h4 j p p' hp hp',e _ (by omega)]
theorem HomN.snoc {G:GS} {m m':List RNode} {f:Nat→Nat} (hR:Rel G m) (h:HomN m m' f) {x:RNode} (hx:∀p∈x.parts,0≤p∧p<(m.length:Int)) {a:Nat} {y:RNode} (hy:m'[a]?=some y) (ht:y.t=x.t) (hl:y.parts.length=x.parts.length)
    (hp:∀(j:Nat) (p p':Int),x.parts[j]?=some p→y.parts[j]?=some p'→p'.toNat=f p.toNat):HomN (m++[x]) m' (fun i=>if i=m.length then a else f i):=by
  have h':=HomN.ext (g:=fun i=>if i=m.length then a else f i) hR h (fun i hi=>by rw[if_neg (by omega)]);intro i r hr;rcases zO i m.length with hi | hi
  · rw[zE hi] at hr
    exact h' i r hr
  · have hi2:i=m.length:=by
      have:=(ze.1 hr).1;simp only[zf,zi,zm] at this;omega
    subst hi2;rw[zJ (zW _),Nat.sub_self] at hr;simp only[List.getElem?_cons_zero,Option.some.injEq] at hr;subst hr;refine ⟨y,by simp only[if_true];exact hy,ht,hl,fun j p p' h1 h2=>?_⟩;have h5:=hx p (zl h1);(have h6:¬p.toNat=m.length:=by omega);simp only[if_neg h6];exact hp j p p' h1 h2
end Go.Proofs.YtpfiliamceimmaaGreatDoor
namespace Go.Proofs.YtpfiliamceimmaaGreatDoor
open Go Go.RowKit
theorem idxI_no {g:RNode→Bool} {m:List RNode} (h:zbK g m=-1) {i:Nat} {r:RNode} (hr:m[i]?=some r):g r=false:=by
  cases hg:g r with
  | false=>rfl
  | true =>
    have ha:m.any g=true:=List.any_eq_true.2 ⟨r,zl hr,hg⟩;unfold zbK at h;rw[if_pos ha] at h;omega
theorem idxI_neg (g:RNode→Bool) (m:List RNode) (h:zbK g m<0):zbK g m=-1:=by
  unfold zbK at h ⊢;(split at h);(· omega);· rename_i hn;rw[if_neg hn]
theorem VarU.empty:VarU []:=by intro i j r s h;simp at h
theorem snoc_at {m:List RNode} {x r:RNode} {i:Nat} (h:(m++[x])[i]?=some r):(i<m.length∧m[i]?=some r)∨(i=m.length∧r=x):=by
  rcases zO i m.length with hi | hi
  · rw[zE hi] at h
    exact .inl ⟨hi,h⟩
  · have hi2:i=m.length:=by
      have:=(ze.1 h).1;simp only[zf,zi,zm] at this;omega
    subst hi2;rw[zJ (zW _),Nat.sub_self] at h;simp only[List.getElem?_cons_zero,Option.some.injEq] at h;exact .inr ⟨rfl,h.symm⟩
theorem VarU.snoc {m:List RNode} (h:VarU m) {x:RNode} (hx:x.t.k=1→zbK (RNode.isVar x.t.n) m=-1):VarU (m++[x]):=by
  intro i j r s hr hs h1 h2 h3;(rcases snoc_at hr with ⟨_,hr2⟩ | ⟨hi,rfl⟩ <;> rcases snoc_at hs with ⟨_,hs2⟩ | ⟨hj,rfl⟩);· exact h i j r s hr2 hs2 h1 h2 h3
  · have:=idxI_no (hx h2) hr2
    simp[RNode.isVar,h1,h3] at this
  · have:=idxI_no (hx h1) hs2
    simp[RNode.isVar,h2,h3] at this
  · omega
theorem zhR:∀(ps:List Ty) (_:∀p∈ps,∀(m:List RNode),VarU m→VarU (p.radd m).1) (m:List RNode) (l:List Int),VarU m→VarU (Ty.raddL ps m l).1
  | [],_,m,l,h=>by simpa [Ty.raddL] using h
  | p::ps,hp,m,l,h=>by
    simp only[Ty.raddL];exact zhR ps (fun q hq=>hp q (by simp[hq])) _ _ (hp p (by simp) m h)
theorem zjk:∀(T:Ty),T.right=true→∀(m:List RNode),VarU m→VarU (T.radd m).1:=by
  refine Ty.ind fun T ih=>?_;intro hr m h;obtain ⟨hok,hps⟩:=T.right_ok hr;rw[Ty.radd_eq];split;· exact h
  · rename_i hn
    refine (zhR T.ps (fun p hp=>ih p hp (hps p hp)) m [] h).snoc fun h1=>?_;(simp only at h1);(have hps0:T.ps=[]:=by rw[T.var_eq hr h1];rfl);rw[hps0];simp only[Ty.raddL];exact idxI_neg _ _ (by omega)
theorem Rel.nodeT {G:GS} {m:List RNode} (h:Rel G m) {i:Nat} {r:RNode} (hr:m[i]?=some r):r.t.right=true∧r.parts.length=r.t.ps.length ∧
    ∀(j:Nat) (p:Int) (q:Ty),r.parts[j]?=some p→r.t.ps[j]?=some q→(m[p.toNat]?).map RNode.t=some q:=by
  have hl:=(ze.1 hr).1;have hGi:G.N[i]?=some (G.N[i]'(by have:=h.len;omega)):=zd (by have:=h.len;omega);obtain ⟨_,_,_,_,_,h6,h7,h8⟩:=h.node i _ _ hGi hr;exact ⟨h6,h7,fun j p q hp hq=>(h8 j p q hp hq).2.2⟩
theorem map_t {m:List RNode} {i:Nat} {T:Ty} (h:(m[i]?).map RNode.t=some T):∃r,m[i]?=some r∧r.t=T∧i<m.length:=by
  cases hm:m[i]? with
  | none=>rw[hm] at h;cases h
  | some r=>rw[hm] at h;exact ⟨r,rfl,Option.some.inj h,(ze.1 hm).1⟩
theorem ziI {m':List RNode}:∀(ps:List Ty) (_:∀p∈ps,∀(G:GS) (m:List RNode) (f:Nat→Nat) (a':Nat),Rel G m→HomN m m' f→(m'[a']?).map RNode.t=some p→RelStep p G m∧∃g,HomN (p.radd m).1 m' g∧g (p.radd m).2.toNat=a'∧∀i,i<m.length→g i=f i)
    (G:GS) (m:List RNode) (f:Nat→Nat) (l cs:List Int),Rel G m→HomN m m' f→cs.length=ps.length→(∀(j:Nat) (a:Int) (q:Ty),cs[j]?=some a→ps[j]?=some q→(m'[a.toNat]?).map RNode.t=some q) →
    ∃g l',HomN (Ty.raddL ps m l).1 m' g∧(Ty.raddL ps m l).2=l++l'∧(∀(j:Nat) (p a:Int),l'[j]?=some p→cs[j]?=some a→g p.toNat=a.toNat)∧∀i,i<m.length→g i=f i
  | [],_,G,m,f,l,cs,hR,h,hl,_=>⟨f,[],by simpa [Ty.raddL] using h,by simp[Ty.raddL],by simp,fun _ _=>rfl⟩
  | p::ps,hp,G,m,f,l,[],_,_,hl,_=>by simp at hl
  | p::ps,hp,G,m,f,l,a::cs,hR,h,hl,ha=>by
    obtain ⟨s,g1,h1,h2,h3⟩:=hp p (by simp) G m f a.toNat hR h (ha 0 a p rfl rfl);obtain ⟨g2,l',h4,h5,h6,h7⟩:=ziI ps (fun q hq=>hp q (by simp[hq])) (p.gadd G).1 (p.radd m).1 g1 (l++[(p.radd m).2]) cs s.rel h1 (by simpa using hl) (fun j a q h8 h9=>ha (j+1) a q (by simpa using h8) (by simpa using h9));have hlen:=s.pre.len;obtain ⟨_,_,_,h10⟩:=map_t s.at';simp only[Ty.raddL];refine ⟨g2,(p.radd m).2::l',h4,by rw[h5];simp,fun j b c hb hc=>?_,fun i hi=>by rw[h7 i (by omega),h3 i hi]⟩
    cases j with
    | zero=>simp at hb hc;subst hb;subst hc;rw[h7 _ h10,h2]
    | succ j=>exact h6 j b c (by simpa using hb) (by simpa using hc)
theorem hom_add {G':GS} {m':List RNode} (hR':Rel G' m') (hV:VarU m'):∀(T:Ty),T.right=true→T.cnt≤400→∀(G:GS) (m:List RNode) (f:Nat→Nat) (a':Nat),Rel G m→HomN m m' f→(m'[a']?).map RNode.t=some T →
    ∃g,HomN (T.radd m).1 m' g∧g (T.radd m).2.toNat=a'∧∀i,i<m.length→g i=f i:=by
  refine Ty.ind fun T ih=>?_;intro hr hc G m f a' h hf ha;obtain ⟨hok,hps⟩:=T.right_ok hr;obtain ⟨y,hy,hyt,_⟩:=map_t ha;obtain ⟨_,hyl,hyp⟩:=hR'.nodeT hy;rw[hyt] at hyl hyp
  by_cases hk:T.k=1
  · have hT:=T.var_eq hr hk
    (have hps0:T.ps=[]:=by rw[hT];rfl);rcases h.vars T.n with ⟨hv,hi⟩ | ⟨k,hv,hi,h0⟩
    · have em:T.radd m=(m++[⟨T,[]⟩],(m.length:Int)):=by rw[Ty.radd_eq,if_neg (by omega),hps0];rfl
      rw[em];refine ⟨_,HomN.snoc h hf (x:=⟨T,[]⟩) (by simp) hy hyt (by rw[hyl,hps0];rfl) (by simp),?_,fun i hi=>?_⟩;(· simp);· simp only[if_neg (show ¬i=m.length by omega)]
    · have em:T.radd m=(m,k):=by rw[Ty.radd_eq,hi,if_pos ⟨hk,h0⟩]
      rw[em];refine ⟨f,hf,?_,fun _ _=>rfl⟩;obtain ⟨r,hr1,hr2⟩:=zc7 (g:=RNode.isVar T.n) (l:=m) (by omega);rw[hi] at hr1;simp only[RNode.isVar,zF,beq_iff_eq] at hr2;obtain ⟨r',h1,h2,_⟩:=hf _ r hr1;exact hV _ _ r' y h1 hy (by rw[h2];exact hr2.1) (by rw[hyt];exact hk) (by rw[h2,hyt];exact hr2.2)
  · have ih':∀p∈T.ps,∀(G:GS) (m:List RNode) (f:Nat→Nat) (a':Nat),Rel G m→HomN m m' f→(m'[a']?).map RNode.t=some p→RelStep p G m∧∃g,HomN (p.radd m).1 m' g∧g (p.radd m).2.toNat=a'∧∀i,i<m.length→g i=f i:=fun p hp G m f a' hR hf ha =>
      ⟨zbG p (hps p hp) (Nat.le_trans (Ty.cnt_le_mem hp) hc) G m hR,ih p hp (hps p hp) (Nat.le_trans (Ty.cnt_le_mem hp) hc) G m f a' hR hf ha⟩
    obtain ⟨g,l',h1,h2,h3,h4⟩:=ziI T.ps ih' G m f [] y.parts h hf hyl hyp;obtain ⟨h5,h6,h7,l2,h8,h9,h10⟩:=zgG T.ps (fun p hp=>zbG p (hps p hp) (Nat.le_trans (Ty.cnt_le_mem hp) hc)) G m [] h;simp only[zj] at h2 h8;obtain rfl:l'=l2:=h2.symm.trans h8;(have em:T.radd m=((Ty.raddL T.ps m []).1++[⟨T,l'⟩],((Ty.raddL T.ps m []).1.length:Int)):=by rw[Ty.radd_eq,if_neg (by omega),h2]);rw[em];have hlen:=h7.len;refine ⟨_,HomN.snoc h5 h1 (x:=⟨T,l'⟩) (fun p hp=>?_) hy hyt (by rw[hyl,h9]) (fun j p p' hp hp'=>(h3 j p p' hp hp').symm),?_,fun i hi=>?_⟩
    · obtain ⟨j,hj⟩:=List.mem_iff_getElem?.1 hp
      have hjl:=(ze.1 hj).1;(simp only at hjl);obtain ⟨h11,h12⟩:=h10 j p _ hj (zd (by omega));obtain ⟨_,_,_,h13⟩:=map_t h12;omega
    · simp
    · simp only[if_neg (show ¬i=(Ty.raddL T.ps m []).1.length by omega)]
      exact h4 i hi
def Tgt (m':List RNode) (E':List (Nat×Nat)) (e:Ty×Ty):Prop:=∃a b,(m'[a]?).map RNode.t=some e.1∧(m'[b]?).map RNode.t=some e.2∧Cl (shR m') E' a b
theorem Tgt.swap {m':List RNode} {E':List (Nat×Nat)} {e:Ty×Ty} (h:Tgt m' E' e):Tgt m' E' (e.2,e.1):=by
  obtain ⟨a,b,h1,h2,h3⟩:=h;exact ⟨b,a,h2,h1,h3.symm⟩
theorem zfl {P:List (Ty×Ty)→Prop} (h0:P []) (h1:∀d e,OkE (d++[e])→OkE d→P d→P (d++[e])):∀l,OkE l→P l:=by
  suffices h:∀(n:Nat) (l:List (Ty×Ty)),l.length=n→OkE l→P l from fun l=>h l.length l rfl
  intro n
  induction n with
  | zero=>intro l hl _;rw[List.length_eq_zero_iff.1 hl];exact h0
  | succ n ih =>
    intro l hl hr;(have hne:l≠[]:=fun e=>by rw[e] at hl;simp at hl);obtain ⟨d,e,rfl⟩:∃d e,l=d++[e]:=⟨l.dropLast,l.getLast hne,(List.dropLast_concat_getLast hne).symm⟩;(have hd:OkE d:=fun x hx=>hr x (by simp[hx]));exact h1 d e hr hd (ih d (by simp at hl;omega) hd)
theorem zdm:∀l,OkE l→VarU (eqF l).1:=zfl (by simpa [eqF] using VarU.empty) fun d e h _ ih=>by
  obtain ⟨h1,h2,h3,h4⟩:=h e (by simp);rw[zbB];exact zjk e.2 h2 _ (zjk e.1 h1 _ ih)
theorem zgz:∀l,OkE l→∀e∈l,Tgt (eqF l).1 (zcV (eqF l).2) e:=zfl (fun e he=>by cases he) fun d e h hd ih x hx=>by
  rcases zG.1 hx with hx | hx
  · obtain ⟨a,b,h1,h2,h3⟩:=ih x hx
    have hp:=zgR h;exact ⟨a,b,hp.get h1,hp.get h2,h3.mono hp.sh (ziE d e)⟩
  · simp at hx;subst hx
    (obtain ⟨⟨G,hG⟩,_⟩:=zev d fun x hx=>hd x hx);obtain ⟨h1,h2,h3,h4⟩:=h x (by simp);have s1:=zbG x.1 h1 h3 G _ hG;have s2:=zbG x.2 h2 h4 _ _ s1.rel;refine ⟨(x.1.radd (eqF d).1).2.toNat,(x.2.radd (x.1.radd (eqF d).1).1).2.toNat,?_,?_,.base ?_⟩
    rotate_left 2
    · rw[zbB]
      simp only[zeE,zcV,zz,zG,zI,List.map_nil];exact .inr (List.mem_singleton.2 rfl)
    (· rw[zbB];exact s2.pre.get s1.at');· rw[zbB];exact s2.at'
theorem hom_eqF {G':GS} {m':List RNode} {E':List (Nat×Nat)} (hR':Rel G' m') (hV:VarU m'):∀l,OkE l→(∀e∈l,Tgt m' E' e)→∃f,Hom (eqF l).1 (zcV (eqF l).2) m' E' f:=by
  refine zfl (P:=fun l=>(∀e∈l,Tgt m' E' e)→∃f,Hom (eqF l).1 (zcV (eqF l).2) m' E' f) ?_ ?_
  · intro _
    exact ⟨fun i=>i,fun i r hr=>by simp[eqF] at hr,fun e he=>by simp[eqF,zcV] at he⟩
  · intro d e h hd ih ht
    (obtain ⟨f,hf⟩:=ih fun x hx=>ht x (by simp[hx]));(obtain ⟨⟨G,hG⟩,hok⟩:=zev d fun x hx=>hd x hx);obtain ⟨h1,h2,h3,h4⟩:=h e (by simp);have s1:=zbG e.1 h1 h3 G _ hG;have s2:=zbG e.2 h2 h4 _ _ s1.rel;obtain ⟨a,b,ha,hb,hab⟩:=ht e (by simp);obtain ⟨g1,k1,k2,k3⟩:=hom_add hR' hV e.1 h1 h3 G _ f a hG hf.node ha;obtain ⟨g2,k4,k5,k6⟩:=hom_add hR' hV e.2 h2 h4 _ _ g1 b s1.rel k1 hb;obtain ⟨_,_,_,l1⟩:=map_t s1.at';have l2:=s1.pre.len;rw[zbB];refine ⟨g2,k4,fun x hx=>?_⟩;simp only[zeE,zcV,zz,zG,zI,List.map_nil] at hx;rcases hx with hx | hx
    · obtain ⟨p,hp,rfl⟩:=zC.1 hx
      have hp2:=hok p hp;have hq:=hf.eqs _ (zC.2 ⟨p,hp,rfl⟩);(simp only at hq ⊢);rw[k6 _ (by omega),k6 _ (by omega),k3 _ (by omega),k3 _ (by omega)];exact hq
    · obtain rfl:=List.mem_singleton.1 hx
      (simp only);rw[k6 _ l1,k2,k5];exact hab
def SubE (l l':List (Ty×Ty)):Prop:=∀e∈l,e∈l'∨(e.2,e.1)∈l'
theorem SubE.hom {l l':List (Ty×Ty)} (h:SubE l l') (ho:OkE l) (ho':OkE l'):∃f,Hom (eqF l).1 (zcV (eqF l).2) (eqF l').1 (zcV (eqF l').2) f:=by
  (obtain ⟨⟨G',hG'⟩,_⟩:=zev l' fun x hx=>ho' x hx);refine hom_eqF hG' (zdm l' ho') l ho fun e he=>?_;(rcases h e he with h1 | h1);(· exact zgz l' ho' e h1);· exact (zgz l' ho' _ h1).swap
theorem SubE.clashes {l l':List (Ty×Ty)} (h:SubE l l') (ho:OkE l) (ho':OkE l') (hc:Clashes l):Clashes l':=by
  obtain ⟨f,hf⟩:=h.hom ho ho';exact hf.clash hc
theorem zet {m:List RNode} {n:Int}:n∈vns m↔∃(i:Nat) (r:RNode),m[i]?=some r∧r.t.k=1∧r.t.n=n:=by
  unfold vns;constructor
  · intro h
    obtain ⟨r,hr,rfl⟩:=zC.1 h;obtain ⟨hrm,hk⟩:=List.mem_filter.1 hr;obtain ⟨i,hi⟩:=List.mem_iff_getElem?.1 hrm;exact ⟨i,r,hi,by simpa using hk,rfl⟩
  · rintro ⟨i,r,hi,hk,rfl⟩
    exact zC.2 ⟨r,List.mem_filter.2 ⟨zl hi,by simpa using hk⟩,rfl⟩
theorem zc0:∀{m:List RNode},VarU m→(vns m).Nodup
  | [],_=>by simp[vns]
  | r::m,h=>by
    have hm:VarU m:=fun i j r s hr hs h1 h2 h3=>by
      have:=h (i+1) (j+1) r s (by simpa using hr) (by simpa using hs) h1 h2 h3;omega
    by_cases hk:r.t.k=1
    · have e:vns (r::m)=r.t.n::vns m:=by simp[vns,hk]
      rw[e,List.nodup_cons];refine ⟨fun hn=>?_,zc0 hm⟩;obtain ⟨i,s,hs,h1,h2⟩:=zet.1 hn;have:=h 0 (i+1) r s rfl (by simpa using hs) hk h1 h2.symm;omega
    · have e:vns (r::m)=vns m:=by simp[vns,hk]
      rw[e];exact zc0 hm
theorem Hom.vns {m m':List RNode} {E E':List (Nat×Nat)} {f:Nat→Nat} (h:Hom m E m' E' f) {n:Int} (hn:n∈vns m):n∈Go.Proofs.YtpfiliamceimmaaGreatDoor.vns m':=by
  obtain ⟨i,r,hr,h1,h2⟩:=zet.1 hn;obtain ⟨r',h3,h4,_⟩:=h.node i r hr;exact zet.2 ⟨_,r',h3,by rw[h4];exact h1,by rw[h4];exact h2⟩
theorem zjX {a b:List Int} (h:a.Perm b):zbV a=zbV b:=by
  (have tr:∀a b c:Int,decide (a≤b)=true→decide (b≤c)=true→decide (a≤c)=true:=fun a b c h1 h2=>by simp only[zA] at *;omega);(have to:∀a b:Int,(decide (a≤b)||decide (b≤a))=true:=fun a b=>by simp only[Bool.or_eq_true,zA];omega);have h1:=List.pairwise_mergeSort (le:=fun x y:Int=>decide (x≤y)) tr to a;have h2:=List.pairwise_mergeSort (le:=fun x y:Int=>decide (x≤y)) tr to b;exact List.Perm.eq_of_pairwise (le:=fun a b:Int=>a≤b) (fun a b _ _ h1 h2=>by omega) (h1.imp fun h=>by simpa using h) (h2.imp fun h=>by simpa using h) ((List.mergeSort_perm _ _).trans (h.trans (List.mergeSort_perm _ _).symm))
theorem SubE.vars {l l':List (Ty×Ty)} (h:SubE l l') (h':SubE l' l) (ho:OkE l) (ho':OkE l'):zbV (vns (eqF l).1)=zbV (vns (eqF l').1):=by
  obtain ⟨f,hf⟩:=h.hom ho ho';obtain ⟨f',hf'⟩:=h'.hom ho' ho;refine zjX (List.perm_iff_count.2 fun a=>?_);have n1:=zc0 (zdm l ho);have n2:=zc0 (zdm l' ho')
  by_cases ha:a∈Go.Proofs.YtpfiliamceimmaaGreatDoor.vns (eqF l).1
  (· rw[n1.count,n2.count,if_pos ha,if_pos (hf.vns ha)]);· rw[List.count_eq_zero_of_not_mem ha,List.count_eq_zero_of_not_mem fun hb=>ha (hf'.vns hb)]
theorem VarU.idx {m:List RNode} (h:VarU m) {i:Nat} {r:RNode} (hr:m[i]?=some r) (hk:r.t.k=1):zbK (RNode.isVar r.t.n) m=i:=by
  refine zcI (p:=r) hr (by simp[RNode.isVar,hk]) fun j q hj hq=>?_
  cases hg:RNode.isVar r.t.n q with
  | false=>rfl
  | true =>
    simp only[RNode.isVar,zF,beq_iff_eq] at hg;have:=h j i q r hq hr hg.1 hk hg.2;omega
theorem Holds.var_hom {l l':List (Ty×Ty)} {S T:CS} {f:Nat→Nat} (hS:Holds l S) (hT:Holds l' T) (ho':OkE l') (hf:Hom (eqF l).1 (zcV (eqF l).2) (eqF l').1 (zcV (eqF l').2) f) {n i:Int} (h:zaM S.G.V n=some i):zaM T.G.V n=some ((f i.toNat:Nat):Int)∧0≤i:=by
  (rcases hS.2.rel.vars n with ⟨h2,_⟩ | ⟨j,h2,h3,h4⟩);· rw[h2] at h;cases h
  · rw[h2] at h;cases h
    refine ⟨?_,h4⟩;obtain ⟨r,hr1,hr2⟩:=zc7 (g:=RNode.isVar n) (l:=(eqF l).1) (by omega);rw[h3] at hr1;simp only[RNode.isVar,zF,beq_iff_eq] at hr2;obtain ⟨r',h5,h6,_⟩:=hf.node _ r hr1;have h7:=(zdm l' ho').idx h5 (by rw[h6];exact hr2.1);rw[h6,hr2.2] at h7;exact hT.2.var h7 (by omega)
theorem Holds.one_hom {l l':List (Ty×Ty)} {S T:CS} {f:Nat→Nat} (hS:Holds l S) (hT:Holds l' T) (hf:Hom (eqF l).1 (zcV (eqF l).2) (eqF l').1 (zcV (eqF l').2) f) {i j:Nat} (h:One S.F.up i j):One T.F.up (f i) (f j):=by
  have h3:=(hS.2.w.iff i j).1 h;rw[hS.2.rel.sh] at h3;refine (hT.2.w.iff _ _).2 ?_;rw[hT.2.rel.sh];exact hf.cl h3
theorem SubE.same1 {l l':List (Ty×Ty)} {S T:CS} (h:SubE l l') (hS:Holds l S) (hT:Holds l' T) (ho:OkE l) (ho':OkE l') {a b:Int} {r t:Bool} (h1:SameR S a b r) (h2:SameR T a b t) (hr:r=true):t=true:=by
  obtain ⟨f,hf⟩:=h.hom ho ho';obtain ⟨_,i,j,h3,h4,h5⟩:=h1.1 hr;refine h2.2 ⟨hT.1,_,_,(hS.var_hom hT ho' hf h3).1,(hS.var_hom hT ho' hf h4).1,?_⟩;simp only[zK];exact hS.one_hom hT hf h5
theorem SubE.same {l l':List (Ty×Ty)} {S T:CS} (h:SubE l l') (h':SubE l' l) (hS:Holds l S) (hT:Holds l' T) (ho:OkE l) (ho':OkE l') {a b:Int} {r t:Bool} (h1:SameR S a b r) (h2:SameR T a b t):r=t:=by
  cases r with
  | true=>exact (h.same1 hS hT ho ho' h1 h2 rfl).symm
  | false =>
    cases t with
    | false=>rfl
    | true=>exact h'.same1 hT hS ho' ho h2 h1 rfl
open Classical in
noncomputable def sameS (S:CS) (a b:Int):Bool:=decide (S.clash=false∧∃i k,zaM S.G.V a=some i∧zaM S.G.V b=some k∧One S.F.up i.toNat k.toNat)
theorem zck (S:CS) (a b:Int):SameR S a b (sameS S a b):=by
  classical
  unfold SameR sameS;rw[zA]
theorem SameR.eq {S:CS} {a b:Int} {r:Bool} (h:SameR S a b r):r=sameS S a b:=by
  have h1:=h.trans (zck S a b).symm
  cases r with
  | true=>exact (h1.1 rfl).symm
  | false =>
    cases hs:sameS S a b with
    | false=>rfl
    | true=>exact h1.2 hs
theorem SameR.fsame {S S1:CS} {a b:Int} {r:Bool} (k:FSame S.F S1.F) (e:S1={S with F:=S1.F}) (h:SameR S1 a b r):SameR S a b r:=by
  (have e1:S1.G=S.G:=by rw[e]);(have e2:S1.clash=S.clash:=by rw[e]);unfold SameR at h ⊢;rw[e1,e2] at h;simp only[One.congr k.rt] at h;exact h
theorem zid {S S1:CS} (k:FSame S.F S1.F) (e:S1={S with F:=S1.F}) (a b:Int):sameS S1 a b=sameS S a b:=((zck S1 a b).fsame k e).eq
theorem SubE.sameS {l l':List (Ty×Ty)} {S T:CS} (h:SubE l l') (h':SubE l' l) (hS:Holds l S) (hT:Holds l' T) (ho:OkE l) (ho':OkE l') (a b:Int):Go.Proofs.YtpfiliamceimmaaGreatDoor.sameS S a b=Go.Proofs.YtpfiliamceimmaaGreatDoor.sameS T a b:=h.same h' hS hT ho ho' (zck S a b) (zck T a b)
theorem CSt.clash_iff {l:List (Ty×Ty)} {S:CS} (h:CSt l S):S.clash=true↔Clashes l:=by
  rcases h.st with ⟨h1,_⟩ | ⟨h1,h2⟩
  · rw[h1.1]
    exact ⟨fun h=>(by cases h),fun h=>absurd h h1.noClash⟩
  · exact ⟨fun _=>h2,fun _=>h1⟩
theorem SubE.clash {l l':List (Ty×Ty)} {S T:CS} (h:SubE l l') (h':SubE l' l) (hS:CSt l S) (hT:CSt l' T):T.clash=S.clash:=by
  have h1:=hS.clash_iff;have h2:=hT.clash_iff;rw[Bool.eq_iff_iff,h1,h2];exact ⟨h'.clashes hT.ok hS.ok,h.clashes hS.ok hT.ok⟩
theorem SubE.list {l l':List (Ty×Ty)} {S T:CS} (h:SubE l l') (h':SubE l' l) (hS:CSt l S) (hT:CSt l' T):(if T.clash=true then [] else zbV (T.G.V.map Prod.fst))=if S.clash=true then [] else zbV (S.G.V.map Prod.fst):=by
  rw[h.clash h' hS hT];split;· rfl
  · rename_i hc
    (have hc2:S.clash=false:=by simpa using hc);(have hc3:T.clash=false:=by rw[h.clash h' hS hT];exact hc2);rw[(hS.good hc2).2,(hT.good hc3).2,h.vars h' hS.ok hT.ok]
theorem SubE.nil (l:List (Ty×Ty)):SubE [] l:=fun _ h=>by cases h
theorem SubE.snoc {d l:List (Ty×Ty)} (h:SubE d l) {e:Ty×Ty} (he:e∈l∨(e.2,e.1)∈l):SubE (d++[e]) l:=fun x hx=>by
  (rcases zG.1 hx with hx | hx);· exact h x hx
  · obtain rfl:=List.mem_singleton.1 hx
    exact he
noncomputable def clsF (S:CS) (v:Int) (L:List Int):List Int:=L.filter (sameS S v)
theorem clsF_yes {S:CS} {v:Int} {L:List Int} {s:Nat} {w:Int} (h:L[s]?=some w) (hr:sameS S v w=true):clsF S v (L.take (s+1))=clsF S v (L.take s)++[w]:=by
  rw[List.take_add_one,h,clsF,List.filter_append];simp[clsF,hr]
theorem clsF_no {S:CS} {v:Int} {L:List Int} {s:Nat} {w:Int} (h:L[s]?=some w) (hr:sameS S v w=false):clsF S v (L.take (s+1))=clsF S v (L.take s):=by
  rw[List.take_add_one,h,clsF,List.filter_append];simp[clsF,hr]
theorem clsF_len (S:CS) (v:Int) (L:List Int):(clsF S v L).length≤L.length:=List.length_filter_le _ _
theorem SubE.clsF {l l':List (Ty×Ty)} {S T:CS} (h:SubE l l') (h':SubE l' l) (hS:Holds l S) (hT:Holds l' T) (ho:OkE l) (ho':OkE l') (v:Int) (L:List Int):Go.Proofs.YtpfiliamceimmaaGreatDoor.clsF S v L=Go.Proofs.YtpfiliamceimmaaGreatDoor.clsF T v L:=by
  unfold Go.Proofs.YtpfiliamceimmaaGreatDoor.clsF;(congr 1);(funext w);exact h.sameS h' hS hT ho ho' v w
end Go.Proofs.YtpfiliamceimmaaGreatDoor
namespace Go.Proofs.YtpfiliamceimmaaGreatDoor
open Go Go.RowKit
theorem ColF.iff {m:List RNode} {E:List (Nat×Nat)} {c:List Int} (h:ColF m E c) (hr:∀e∈E,e.1<m.length∧e.2<m.length) (hM:MOk m) {i k:Nat} (hi:i<m.length) (hk:k<m.length):c[i]?=c[k]?↔Cl (shR m) E i k :=
  h.col.iff h.held hr hM h.ok hi hk
structure ColE (l:List (Ty×Ty)) (c:List Int):Prop where
  ok:OkE l
  len:c.length=(eqF l).1.length
  iff:∀i k,i<(eqF l).1.length→k<(eqF l).1.length→(c[i]?=c[k]?↔Cl (shR (eqF l).1) (zcV (eqF l).2) i k)
def zcc (m:List RNode) (c:List Int) (i k:Nat):Bool:=decide (c[k]?=c[i]?)&&decide (((m[k]?).map fun x=>x.t.k)≠some 1)
def zbO (m:List RNode) (c:List Int) (i:Nat):Int:=zbK (zcc m c i) (List.range m.length)
theorem range_at {n j q:Nat} (h:(List.range n)[j]?=some q):q=j∧j<n:=by
  obtain ⟨h1,h2⟩:=ze.1 h;(simp at h1 h2);exact ⟨h2.symm,h1⟩
theorem zcO (m:List RNode) (c:List Int) (i:Nat):(zbO m c i=-1∧∀j,j<m.length→zcc m c i j=false)∨∃k:Nat,zbO m c i=(k:Int)∧k<m.length∧zcc m c i k=true:=by
  rcases Int.lt_or_le (zbO m c i) 0 with h | h
  · left
    unfold zbO at h ⊢
    have h1:zbK (zcc m c i) (List.range m.length)=-1:=by
      unfold zbK at h ⊢;(split at h);(· omega);· rename_i hn;rw[if_neg hn]
    refine ⟨h1,fun j hj=>?_⟩
    cases hg:zcc m c i j with
    | false=>rfl
    | true =>
      have ha:(List.range m.length).any (zcc m c i)=true:=List.any_eq_true.2 ⟨j,by simpa using hj,hg⟩;unfold zbK at h1;rw[if_pos ha] at h1;omega
  · right
    obtain ⟨r,h1,h2⟩:=zc7 (g:=zcc m c i) (l:=List.range m.length) h;obtain ⟨h3,h4⟩:=range_at h1;(have h5:zbO m c i=((zbO m c i).toNat:Int):=by omega);have h6:r=(zbO m c i).toNat:=h3;refine ⟨r,by rw[h6];exact h5,by rw[h6];exact h4,h2⟩
def zjJ (m:List RNode) (c:List Int) (i:Nat):Int:=if 0≤zbO m c i then ((m[(zbO m c i).toNat]?).map fun x=>x.t.k).getD 0 else 0
theorem zcL {m:List RNode} {c:List Int} {i k:Nat}:zcc m c i k=true↔c[k]?=c[i]?∧((m[k]?).map fun x=>x.t.k)≠some 1:=by
  unfold zcc;rw[zF,zA,zA]
theorem KindIs.eq {sh:Sh} {E:List (Nat×Nat)} {i:Nat} {a b:Int} (h:KindIs sh E i a) (k:KindIs sh E i b) (hn:¬Clash sh E):a=b:=by
  rcases h with ⟨rfl,h⟩ | ⟨ha,j,qs,hj,hs⟩
  · rcases k with ⟨rfl,_⟩ | ⟨hb,j,qs,hj,hs⟩
    (· rfl);· exact absurd (h j b qs hj hs) hb
  · exact (k.of_node hn hj hs ha).symm
theorem Holds.vf {l:List (Ty×Ty)} {S:CS} (h:Holds l S) (n:Int):(zaM S.G.V n=Option.none∧zbK (RNode.isVar n) (eqF l).1=-1)∨∃i:Nat,zaM S.G.V n=some (i:Int)∧zbK (RNode.isVar n) (eqF l).1=(i:Int)∧i<(eqF l).1.length:=by
  (rcases h.2.rel.vars n with h1 | ⟨k,h1,h2,h3⟩);· exact .inl h1
  · obtain ⟨i,rfl⟩:∃i:Nat,k=(i:Int):=⟨k.toNat,by omega⟩
    obtain ⟨r,h4,_⟩:=zc7 (g:=RNode.isVar n) (l:=(eqF l).1) (by omega);rw[h2,zK] at h4;exact .inr ⟨i,h1,h2,(ze.1 h4).1⟩
theorem Holds.same_eq {l:List (Ty×Ty)} {S:CS} (h:Holds l S) {c:List Int} (hc:ColE l c) {a b:Int} {i k:Nat} (hi:zbK (RNode.isVar a) (eqF l).1=(i:Int)) (hk:zbK (RNode.isVar b) (eqF l).1=(k:Int)):sameS S a b=decide (c[i]?=c[k]?):=by
  (rcases h.vf a with ⟨_,h2⟩ | ⟨j,h1,h2,h3⟩);· omega
  · obtain rfl:j=i:=by omega
    (rcases h.vf b with ⟨_,h5⟩ | ⟨q,h4,h5,h6⟩);· omega
    · obtain rfl:q=k:=by omega
      have h7:=zck S a b;unfold SameR at h7;rw[Bool.eq_iff_iff,h7,zA,hc.iff j q h3 h6];have h8:=h.2.w.iff j q;rw[h.2.rel.sh] at h8;rw[← h8];constructor
      · rintro ⟨_,i',k',e1,e2,e3⟩
        rw[h1] at e1;rw[h4] at e2;(cases e1;cases e2);simpa using e3
      · intro e
        exact ⟨h.1,_,_,h1,h4,by simpa using e⟩
theorem Holds.same_self {l:List (Ty×Ty)} {S:CS} (h:Holds l S) (a:Int):sameS S a a=decide (0≤zbK (RNode.isVar a) (eqF l).1):=by
  have h7:=zck S a a;unfold SameR at h7;rw[Bool.eq_iff_iff,h7,zA];rcases h.vf a with ⟨h1,h2⟩ | ⟨j,h1,h2,h3⟩
  · rw[h2]
    constructor
    · rintro ⟨_,i',k',e1,_⟩
      rw[h1] at e1;cases e1
    · intro e;omega
  · rw[h2]
    exact ⟨fun _=>by omega,fun _=>⟨h.1,_,_,h1,h1,.inl rfl⟩⟩
def clsN (m:List RNode) (c:List Int) (i:Nat) (L:List Int):List Int:=L.filter fun w=>decide (c[(zbK (RNode.isVar w) m).toNat]?=c[i]?)
theorem mem_varsI {m:List RNode} {n:Int}:n∈zgB m↔n∈vns m:=by
  rw[ziG];exact (List.mergeSort_perm _ _).mem_iff
theorem var_idx {m:List RNode} {n:Int} (h:n∈zgB m):∃i:Nat,zbK (RNode.isVar n) m=(i:Int)∧i<m.length:=by
  obtain ⟨i,r,hr,h1,h2⟩:=zet.1 (mem_varsI.1 h);have ha:m.any (RNode.isVar n)=true:=List.any_eq_true.2 ⟨r,zl hr,by simp[RNode.isVar,h1,h2]⟩;refine ⟨m.findIdx (RNode.isVar n),by unfold zbK;rw[if_pos ha],List.findIdx_lt_length.2 (by simpa using ha)⟩
end Go.Proofs.YtpfiliamceimmaaGreatDoor
namespace Go.Proofs.YtpfiliamceimmaaGreatDoor
open Go Go.RowKit
def zaw (c:Nat) (r:Nat):List AV:=[.ptr c 0,.v (.int .i64 (r:Int))]
theorem Rp.slMap {E E':Env} {A:Nat→Nat→Prop} {w:World} {sz:Nat} {xs ys:List (List AV)} {u:Value} (hl:ys.length=xs.length) (hsz:(∀x∈xs,x.length=sz)→∀y∈ys,y.length=sz)
    (hfl:ys.flatten.length=xs.flatten.length) (hr:∀(j:Nat) (c d:AV) (u:Value),xs.flatten[j]?=some c→ys.flatten[j]?=some d→Rp E A w c u→Rp E' A w d u) (h:Rp E A w (.sl sz xs) u):Rp E' A w (.sl sz ys) u:=by
  cases h with
  | sl0 hc =>
    have:ys=[]:=List.eq_nil_of_length_eq_zero (by simpa using hl)
    subst this;exact .sl0 hc
  | sl g hn hcap hc hs hcell h =>
    refine .sl g (hn.trans hl.symm) hcap hc (hsz hs) (fun j hj=>hcell j (by omega)) fun j d hd=>?_;(have hj:j<xs.flatten.length:=by have:=(ze.1 hd).1;omega);exact hr j _ d _ (zd hj) hd (h j _ (zd hj))
theorem Und.slR {n sz:Nat} {xs:List (List AV)} (h:∀x∈xs,UndL n x):Und n (.sl sz xs):=fun E A w u hr =>
  hr.slMap rfl id rfl fun j c d u hc hd hk=>by
    rw[hc] at hd;cases hd;obtain ⟨x,hx,hcx⟩:=List.mem_flatten.1 (zl hc);exact (h x hx).mem c hcx E A w u hk
theorem Und.parts {n c:Nat} (h:c<n) (rs:List Nat):Und n (.sl 2 (rs.map (zaw c))):=.slR fun x hx=>by
  obtain ⟨r,_,rfl⟩:=zC.1 hx;exact ⟨.ptr h,.v _ _,trivial⟩
theorem RenL.parts {ρ:Nat→Nat} {i j:Nat} (h:ρ i=j):∀rs:List Nat,RenL ρ ((rs.map (zaw i)).flatten) ((rs.map (zaw j)).flatten)
  | []=>trivial
  | r::rs=>⟨.ptr h,.v _,RenL.parts h rs⟩
theorem RenV.parts {ρ:Nat→Nat} {i j:Nat} (h:ρ i=j) (rs:List Nat):RenV ρ (.sl 2 (rs.map (zaw i))) (.sl 2 (rs.map (zaw j))):=fun E A w u=>by
  have hR:=RenL.parts h rs
  have hsz:∀c,∀x∈rs.map (zaw c),x.length=2:=fun c x hx=>by
    obtain ⟨r,_,rfl⟩:=zC.1 hx;rfl
  constructor
  · refine Rp.slMap (by simp) (fun _=>hsz j) hR.length.symm fun k c d u hc hd hk=>?_
    obtain ⟨y,hy,hv⟩:=hR.get k c hc;rw[hd] at hy;cases hy;exact (hv E A w u).1 hk
  · refine Rp.slMap (by simp) (fun _=>hsz i) hR.length fun k c d u hc hd hk=>?_
    obtain ⟨y,hy,hv⟩:=hR.get k d hd;rw[hc] at hy;cases hy;exact (hv E A w u).2 hk
theorem RenV.part {ρ:Nat→Nat} {i j:Nat} (h:ρ i=j) (r:Nat):RenV ρ (.agg (zaw i r)) (.agg (zaw j r)):=.agg ⟨.ptr h,.v _,trivial⟩
theorem CCalls.atP {σ:Type} {f:Nat} {args args':List AV} {S:CS} {C:CS×σ→Prop} {R R':σ→AV} (h:CCalls f args S C R) {i0 i1 i2 i3 i4 i5 i6 i7:Nat} {os':Os} {nx':Nat}
    (ha:RenL (zbs [i0,i1,i2,i3,i4,i5,i6,i7] nx') args args') (hR:∀s,RenV (zbs [i0,i1,i2,i3,i4,i5,i6,i7] nx') (R s) (R' s))
    (hnd:[i0,i1,i2,i3,i4,i5,i6,i7].Nodup) (hlt:∀x∈[i0,i1,i2,i3,i4,i5,i6,i7],x<nx') (hg:GetsO os' [i0,i1,i2,i3,i4,i5,i6,i7] (zaL i1 i2 i3 i4 i5 i6 i7 S)) {Q':AV→Os→Nat→Prop}
    (hq:∀(S1:CS) (s:σ),C (S1,s)→Q' (R' s) (zaq os' ([i0,i1,i2,i3,i4,i5,i6,i7].zip (zaL i1 i2 i3 i4 i5 i6 i7 S1))) nx'):ACalls Tryz.prog f args' os' nx' Q' :=
  ACalls.atE (σ:=CS×σ) (C:=C) (args:=args) (R:=fun s=>R s.2) (R':=fun s=>R' s.2) (obs:=zaF S) (obs1:=fun s=>zaF s.1) (obs':=zaL i1 i2 i3 i4 i5 i6 i7 S) (obs1':=fun s=>zaL i1 i2 i3 i4 i5 i6 i7 s.1) [i0,i1,i2,i3,i4,i5,i6,i7] h rfl (fun _=>rfl) hnd hlt ha (fun s=>hR s.2) (renC S i0 i1 i2 i3 i4 i5 i6 i7 nx') hg (fun s=>renC s.1 i0 i1 i2 i3 i4 i5 i6 i7 nx') (fun s hs=>hq s.1 s.2 hs)
open Classical in
noncomputable def rtB (S:CS) (r:Nat) (v:Int):Bool:=decide (∃i,zaM S.G.V v=some i∧Rt S.F.up i.toNat r)
theorem zcN {S:CS} {r:Nat} {v:Int}:rtB S r v=true↔∃i,zaM S.G.V v=some i∧Rt S.F.up i.toNat r:=by
  classical
  unfold rtB;rw[zA]
theorem zfw {S S1:CS} (k:FSame S.F S1.F) (e:S1={S with F:=S1.F}) (r:Nat) (v:Int):rtB S1 r v=rtB S r v:=by
  rw[Bool.eq_iff_iff,zcN,zcN,show S1.G=S.G from by rw[e]];exact ⟨fun ⟨i,h1,h2⟩=>⟨i,h1,(k.rt _ _).1 h2⟩,fun ⟨i,h1,h2⟩=>⟨i,h1,(k.rt _ _).2 h2⟩⟩
noncomputable def zbf (S:CS) (r:Nat) (L:List Int):Int:=(L.find? (rtB S r)).getD (-1)
theorem zbC {l:List (Ty×Ty)} {S:CS} (h:Holds l S) {i k r:Nat} (hr:Rt S.F.up i r):Rt S.F.up k r↔Cl (shR (eqF l).1) (zcV (eqF l).2) i k:=by
  have h8:=h.2.w.iff i k;rw[h.2.rel.sh] at h8;rw[← h8];exact ⟨fun hk=>.inr ⟨r,hr,hk⟩,fun ho=>ho.rt hr⟩
theorem Holds.rtB_eq {l:List (Ty×Ty)} {S:CS} (h:Holds l S) {c:List Int} (hc:ColE l c) {i r:Nat} (hi:i<(eqF l).1.length) (hr:Rt S.F.up i r) {v:Int} (hv:v∈zgB (eqF l).1) :
    rtB S r v=decide (c[(zbK (RNode.isVar v) (eqF l).1).toNat]?=c[i]?):=by
  obtain ⟨q,hq,hq2⟩:=var_idx hv;rw[Bool.eq_iff_iff,zcN,zA,hq,zK];(rcases h.vf v with ⟨_,h2⟩ | ⟨j,h1,h2,h3⟩);· omega
  · obtain rfl:j=q:=by omega
    rw[hc.iff j i h3 hi];constructor
    · rintro ⟨i',e1,e2⟩
      rw[h1] at e1;cases e1;rw[zK] at e2;exact .symm ((zbC h hr).1 e2)
    · exact fun e=>⟨_,h1,(zbC h hr).2 (.symm e)⟩
theorem zf8 {α:Type} {p q:α→Bool}:∀{l:List α},(∀x∈l,p x=q x)→l.find? p=l.find? q
  | [],_=>rfl
  | a::l,h=>by
    rw[List.find?_cons,List.find?_cons,h a (by simp),zf8 fun x hx=>h x (by simp[hx])]
theorem Holds.least_eq {l:List (Ty×Ty)} {S:CS} (h:Holds l S) {c:List Int} (hc:ColE l c) {i r:Nat} (hi:i<(eqF l).1.length) (hr:Rt S.F.up i r) :
    zbf S r (zgB (eqF l).1)=((clsN (eqF l).1 c i (zgB (eqF l).1)).head?).getD (-1):=by
  unfold zbf clsN;rw[List.head?_filter,zf8 fun v hv=>h.rtB_eq hc hi hr hv]
structure PartIs (l:List (Ty×Ty)) (c:List Int) (S:CS) (i:Nat) (x:Int):Prop where
  no:x<0→zbO (eqF l).1 c i=-1∧zjJ (eqF l).1 c i=0
  yes:0≤x→∃(k:Nat) (g:GNode) (y:RNode),zbO (eqF l).1 c i=(k:Int)∧S.G.N[x.toNat]?=some g∧(eqF l).1[k]?=some y∧zjJ (eqF l).1 c i=g.k∧1≤g.k∧g.parts.length=y.parts.length∧g.parts.length≤8∧(∀p∈g.parts,0≤p∧p<(S.F.up.length:Int)) ∧
    ∀(j:Nat) (p q:Int),g.parts[j]?=some p→y.parts[j]?=some q→0≤q∧q<((eqF l).1.length:Int)∧∀r',Rt S.F.up p.toNat r'→Rt S.F.up q.toNat r'
theorem zir {t:Ty} (h:t.right=true):1≤t.k:=by
  rw[Ty.right_eq,zF,okN,zA] at h;omega
theorem Holds.part {l:List (Ty×Ty)} {S:CS} (h:Holds l S) {c:List Int} (hc:ColE l c) {i r:Nat} {x:Int} (hi:i<(eqF l).1.length) (hr:Rt S.F.up i r) (hx:S.W[r]?=some x):PartIs l c S i x:=by
  have hrr:Rt S.F.up r r:=zcb.1 hr.root;have hW:=h.2.w;have hC:=hW.c;constructor
  · intro hneg
    have h0:zbO (eqF l).1 c i=-1:=by
      (rcases zcO (eqF l).1 c i with ⟨h1,_⟩ | ⟨k,h1,h2,h3⟩);· exact h1
      · exfalso
        obtain ⟨h4,h5⟩:=zcL.1 h3;have hy:(eqF l).1[k]?=some ((eqF l).1[k]'h2):=zd h2;have hk:=hW.neg r k x _ _ hx hneg ((zbC h hr).2 ((hc.iff i k hi h2).1 h4.symm)) (by rw[h.2.rel.sh];exact zdQ hy);rw[hy] at h5;exact h5 (by simpa using hk)
    exact ⟨h0,by rw[zjJ,h0,if_neg (by omega)]⟩
  · intro hpos
    obtain ⟨hxr,d,ps,hsx,hd,hall⟩:=hW.pos r x hrr hx hpos;obtain ⟨g,hg,hgk,hgp⟩:=shG_at hsx;have hxl:=(ze.1 hg).1;rcases zcO (eqF l).1 c i with ⟨_,h2⟩ | ⟨k,h1,h2,h3⟩
    · exfalso
      have hsx':=hsx;rw[h.2.rel.sh] at hsx';obtain ⟨z,hz,hzk,_⟩:=zcC hsx';have hzl:=(ze.1 hz).1;have h4:=h2 x.toNat hzl;rw[zcL.2 ⟨((hc.iff i x.toNat hi hzl).2 ((zbC h hr).1 hxr)).symm,by rw[hz];simpa using hzk.symm▸hd⟩] at h4;cases h4
    · obtain ⟨h4,h5⟩:=zcL.1 h3
      have hy:(eqF l).1[k]?=some ((eqF l).1[k]'h2):=zd h2;rw[hy] at h5;have hkr:=(zbC h hr).2 ((hc.iff i k hi h2).1 h4.symm);obtain ⟨e1,e2,e3⟩:=hall k _ _ hkr (by rw[h.2.rel.sh];exact zdQ hy) (by simpa using h5);(have hgl:k<S.G.N.length:=by rw[h.2.rel.len];exact h2);have hgk2:S.G.N[k]?=some (S.G.N[k]'hgl):=zd hgl;obtain ⟨f1,f2,f3,f4,f5,f6,f7,f8⟩:=h.2.rel.node k _ _ hgk2 hy;have hfl:=hC.fl;have hwl:=hC.wl;refine ⟨k,g,_,h1,hg,hy,?_,?_,?_,hC.pl g (zl hg),fun p hp=>?_,fun j p q hp hq=>?_⟩
      · rw[zjJ,h1,if_pos (by omega),zK,hy]
        simpa using e1.trans hgk.symm
      · have:=zir f6
        rw[hgk,← e1];exact this
      · rw[hgp,← e2]
      · have:=hC.pr g (zl hg) p hp
        omega
      · have h9:=hC.pr _ (zl hgk2) q (by rw[f3];exact zl hq)
        rw[h.2.rel.len] at h9;refine ⟨h9.1,h9.2,fun r' hp'=>?_⟩;exact ((e3 j p q (by rw[← hgp];exact hp) hq).nil.symm).rt hp'
theorem no_stepq {g:Int→Bool} {L:List Int} {s:Nat} {w:Int} (h:∀(j:Nat) (q:Int),j<s→L[j]?=some q→g q=false) (he:L[s]?=some w) (hw:g w=false):∀(j:Nat) (q:Int),j<s+1→L[j]?=some q→g q=false:=fun j q hj hq=>by
  (rcases zO j s with h1 | h1);· exact h j q h1 hq
  · obtain rfl:j=s:=by omega
    rw[he] at hq;cases hq;exact hw
theorem zjd {α:Type} {g:α→Bool}:∀{L:List α},L.find? g=L[L.findIdx g]?
  | []=>rfl
  | a::l=>by
    rw[List.find?_cons,List.findIdx_cons]
    cases hg:g a with
    | true=>rfl
    | false=>simpa using zjd
theorem least_neg {S:CS} {r:Nat} {L:List Int} (h:zbK (rtB S r) L<0):zbf S r L=-1:=by
  unfold zbK at h;(split at h);· omega
  · rename_i ha
    unfold zbf;rw[List.find?_eq_none.2 fun x hx hg=>ha (List.any_eq_true.2 ⟨x,hx,hg⟩)];rfl
theorem least_pos {S:CS} {r:Nat} {L:List Int} (h:0≤zbK (rtB S r) L):∃q,L[(zbK (rtB S r) L).toNat]?=some q∧zbf S r L=q:=by
  obtain ⟨q,h1,_⟩:=zc7 h;refine ⟨q,h1,?_⟩;unfold zbf
  have h2:zbK (rtB S r) L=(L.findIdx (rtB S r):Int):=by
    unfold zbK at h ⊢;(split at h);(· rename_i ha;rw[if_pos ha]);· omega
  rw[h2,zK] at h1;rw[zjd,h1];rfl
theorem zjq {up:List Nat} {ps:List Int} {rs:List Nat} {p r1:Nat} (h:∀(j:Nat) (p:Int) (q:Nat),ps[j]?=some p→rs[j]?=some q→Rt up p.toNat q) (he:ps[rs.length]?=some (p:Int)) (hr:Rt up p r1) :
    ∀(j:Nat) (p:Int) (q:Nat),ps[j]?=some p→(rs++[r1])[j]?=some q→Rt up p.toNat q:=fun j p' q hp hq=>by
  (rcases zO j rs.length with h1 | h1);· rw[zE h1] at hq;exact h j p' q hp hq
  · have hj:j<(rs++[r1]).length:=(ze.1 hq).1
    rw[zf,List.length_singleton] at hj;(obtain rfl:j=rs.length:=by omega);rw[zJ (zW _),Nat.sub_self] at hq;(cases hq);rw[he] at hp;cases hp;simpa using hr
theorem zhd {v:Int}:∀{V:List (Int×Int)},v∈V.map Prod.fst→∃i,zaM V v=some i
  | [],h=>by cases h
  | (a,b)::V,h=>by
    rw[zI,zM] at h;unfold zaM
    by_cases e:a=v
    · exact ⟨b,by rw[if_pos e]⟩
    · rw[if_neg e]
      (rcases h with h | h);(· exact absurd h.symm e);· exact zhd h
theorem zep {V:List (Int×Int)}:∀v∈zbV (V.map Prod.fst),∃i,zaM V v=some i:=fun _ hv=>zhd ((List.mergeSort_perm _ _).mem_iff.1 hv)
theorem rtB_at {S:CS} {r i r1:Nat} {v:Int} (hi:zaM S.G.V v=some (i:Int)) (hrt:Rt S.F.up i r1):rtB S r v=decide ((r1:Int)=(r:Int)):=by
  rw[Bool.eq_iff_iff,zcN,zA];constructor
  · rintro ⟨i9,h1,h2⟩
    rw[hi] at h1;cases h1;rw[zK] at h2;rw[Rt.det h2 hrt]
  · intro h9
    (have h8:r1=r:=by omega);exact ⟨_,hi,by rw[zK,← h8];exact hrt⟩
theorem pk_zero {S:CS} {x k:Int} (hk:(x<0∧k=0)∨(0≤x∧∃g,S.G.N[x.toNat]?=some g∧k=g.k)) (hg:0≤x→∃g,S.G.N[x.toNat]?=some g∧1≤g.k∧g.parts.length≤8∧∀p∈g.parts,0≤p∧p<(S.F.up.length:Int)):k=0↔x<0:=by
  (rcases hk with ⟨h1,h2⟩ | ⟨h1,g,hg1,h2⟩);· exact ⟨fun _=>h1,fun _=>h2⟩
  · obtain ⟨g',hg2,hk2,_⟩:=hg h1
    rw[hg1] at hg2;cases hg2;omega
end Go.Proofs.YtpfiliamceimmaaGreatDoor
namespace Go.Proofs.YtpfiliamceimmaaGreatDoor
open Go Go.RowKit
attribute [local irreducible] aops za1
def EqT.ok (e:EqT):Bool:=e.l.right&&e.r.right
def zbN (es:List EqT):List EqT:=es.filter EqT.ok
theorem zh7 {es:List EqT} {s:Nat} {e:EqT} (h:es[s]?=some e) (hr:e.ok=true):zbN (es.take (s+1))=zbN (es.take s)++[e]:=by
  rw[List.take_add_one,h,zbN,List.filter_append];simp[zbN,hr]
theorem zjp {es:List EqT} {s:Nat} {e:EqT} (h:es[s]?=some e) (hr:e.ok=false):zbN (es.take (s+1))=zbN (es.take s):=by
  rw[List.take_add_one,h,zbN,List.filter_append];simp[zbN,hr]
theorem EqT.one (l:List EqT):((l.map EqT.cells).all fun y=>y.all AV.one)=true:=by
  induction l with
  | nil=>rfl
  | cons e l ih=>rw[zI,List.all_cons,ih];rfl
end Go.Proofs.YtpfiliamceimmaaGreatDoor
namespace Go.Proofs.YtpfiliamceimmaaGreatDoor
open Go Go.RowKit
attribute [local irreducible] aops za1
theorem zeR (S:CS) (h64:S.clash=false→∀q∈S.G.V,is64 q.1) (hl:S.clash=false→S.G.V.length≤1099511627776):CCalls (σ:=Unit) 46 [.ptr 0 0] (S) (fun s=>s.1=S) (fun s=>.sl 1 ((if S.clash=true then [] else zbV (S.G.V.map Prod.fst)).map intC)):=by
  refine ACalls.clean (C:=fun r os=>∃s:CS×Unit,(s.1=S)∧r=(fun s:Unit=>.sl 1 ((if S.clash=true then [] else zbV (S.G.V.map Prod.fst)).map intC)) s.2∧os=zai 0 (zaF s.1)) ?_;refine zah Tryz.func46 (by kernel_rfl) rfl (by rw[Tryz.ntmps46];simp) (fun hm=>?_);simp only[Tryz.ntmps46,Tryz.results46,zi,zm,Nat.reduceAdd,Nat.reduceSub,zt,zq,zh,zj];simp only[zaF,zai,Nat.reduceAdd];refine zab fun Y0 y0=>?_;refine zaa ?_;simp only[↓bO,go_sem,seval];refine y0 _ ?_;(try clear y0 Y0);refine zab fun Y0 y0=>?_;refine zab fun Y1 y1=>?_;refine zaa ?_;refine z8 1 fun Q0 q0=>?_;simp only[↓bO,go_sem,seval];refine q0 _ ?_;clear q0 Q0;simp only[go_sem];refine z8 1 fun Q0 q0=>?_;simp only[↓bO,go_sem,seval];refine CCalls.at (Err_c S) (.nil) (fun _=>.v _) (i0:=0) (i1:=1) (i2:=2) (i3:=3) (i4:=4) (i5:=5) (i6:=6) (i7:=7) (by decide) (by simp) ⟨rfl,rfl,rfl,rfl,rfl,rfl,rfl,rfl,trivial⟩ (fun Z9 u9 hZ9=>?_);(try dsimp only at hZ9);simp only[zaL,zu,zy,zx,zaq,zaz,Nat.reduceEqDiff,↓reduceIte];obtain rfl:S=Z9:=hZ9.symm;(try simp only[bS,bA,zaf,zad,zac]);refine q0 _ ?_;clear q0 Q0;simp only[go_sem];simp only[↓bO,go_sem,seval];refine y1 _ ?_;(try clear y1 Y1);refine zan rfl (fun hb5=>?_) (fun hb5=>?_)
  ·
   (have hcs:S.clash=true:=by (have h9:=hb5;cases hc:S.clash <;> simp[hc] at h9 ⊢));refine zab fun Y1 y1=>?_;refine zaa ?_;simp only[↓bO,go_sem,seval];refine y1 _ ?_;(try clear y1 Y1);refine zam ?_;(try simp only[zaf,zad,zac,zaZ,zaW,zaC,bS,bA]);refine ⟨_,zai 0 (zaF (S)),⟨(S,()),?_,rfl,rfl⟩,Und.data (za6 _),zcp (by omega) _,?_,?_,by omega⟩;· exact rfl
   ·
    rw[if_pos hcs];exact Le.slNil 1
   · first | (refine ⟨0,rfl,rfl⟩) | (refine ⟨0,by simp only[zaF,zai,zw,zk,Nat.reduceAdd],rfl⟩)
  ·
   (have hcs:S.clash=false:=by (have h9:=hb5;cases hc:S.clash <;> simp[hc] at h9 ⊢));refine zar ?_;(try simp only[zaf,zad,zac]);refine y0 _ ?_;(try clear y0 Y0);refine zab fun Y0 y0=>?_;refine zaa ?_;(iterate 4 (refine z8 1 fun Q0 q0=>?_;simp only[↓bO,go_sem,seval];refine q0 _ ?_;clear q0 Q0;simp only[go_sem]));refine z8 1 fun Q0 q0=>?_;simp only[↓bO,go_sem,seval];refine GCalls.at (zfB S.G (h64 hcs) (hl hcs)) (.nil) (za6 _) (i:=1) (j:=2) (k:=3) rfl rfl rfl (by decide) (by decide) (by decide) (by first | omega | (simp only;omega)) (by first | omega | (simp only;omega)) (by first | omega | (simp only;omega)) ?_;simp only[zaz,Nat.reduceEqDiff,↓reduceIte];(try simp only[bS,bA,zaf,zad,zac]);refine q0 _ ?_;clear q0 Q0;simp only[go_sem];simp only[↓bO,go_sem,seval];refine y0 _ ?_;(try clear y0 Y0);refine zam ?_;(try simp only[zaf,zad,zac,zaZ,zaW,zaC,bS,bA]);refine ⟨_,zai 0 (zaF (S)),⟨(S,()),?_,rfl,rfl⟩,Und.data (za6 _),zcp (by omega) _,?_,?_,by omega⟩;· exact rfl
   ·
    rw[if_neg (by rw[hcs];decide)];exact Le.refl _
   · first | (refine ⟨0,rfl,rfl⟩) | (refine ⟨0,by simp only[zaF,zai,zw,zk,Nat.reduceAdd],rfl⟩)
theorem Class_c (S:CS) (hF:FInv S.F) (hc:S.clash=false) (hv:∀n k,zaM S.G.V n=some k→0≤k∧k<(S.F.up.length:Int)) (h64:∀q∈S.G.V,is64 q.1) (hl:S.G.V.length≤1048576) (v:Int):CCalls (σ:=Unit) 49 [.ptr 0 0,.v (.int .i64 v)] (S) (fun s=>FSame S.F s.1.F∧s.1={S with F:=s.1.F}) (fun s=>.sl 1 ((clsF S v (zbV (S.G.V.map Prod.fst))).map intC)):=by
  refine ACalls.clean (C:=fun r os=>∃s:CS×Unit,(FSame S.F s.1.F∧s.1={S with F:=s.1.F})∧r=(fun s:Unit=>.sl 1 ((clsF S v (zbV (S.G.V.map Prod.fst))).map intC)) s.2∧os=zai 0 (zaF s.1)) ?_;refine zah Tryz.func49 (by kernel_rfl) rfl (by rw[Tryz.ntmps49];simp) (fun hm=>?_);simp only[Tryz.ntmps49,Tryz.results49,zi,zm,Nat.reduceAdd,Nat.reduceSub,zt,zq,zh,zj];simp only[zaF,zai,Nat.reduceAdd];(iterate 2 (refine zab fun Y0 y0=>?_;refine zaa ?_;simp only[↓bO,go_sem,seval];refine y0 _ ?_;(try clear y0 Y0)));refine zab fun Y0 y0=>?_;refine zab fun Y1 y1=>?_;refine zaa ?_;refine z8 1 fun Q0 q0=>?_;simp only[↓bO,go_sem,seval];refine q0 _ ?_;clear q0 Q0;simp only[go_sem];refine z8 1 fun Q0 q0=>?_;simp only[↓bO,go_sem,seval];refine CCalls.at (zeR S (fun _=>h64) (fun _=>by omega)) (.nil) (fun _=>za6 _) (i0:=0) (i1:=1) (i2:=2) (i3:=3) (i4:=4) (i5:=5) (i6:=6) (i7:=7) (by decide) (by simp) ⟨rfl,rfl,rfl,rfl,rfl,rfl,rfl,rfl,trivial⟩ (fun Z9 u9 hZ9=>?_);(try dsimp only at hZ9);simp only[zaL,zu,zy,zx,zaq,zaz,Nat.reduceEqDiff,↓reduceIte];obtain rfl:S=Z9:=hZ9.symm;rw[if_neg (show ¬(S.clash=true) from by rw[hc];decide)];obtain ⟨L,hL⟩:∃L,L=zbV (S.G.V.map Prod.fst):=⟨_,rfl⟩;rw[← hL];(have hLl:L.length≤1048576:=by (rw[hL,List.length_mergeSort,zS];exact hl));(try simp only[bS,bA,zaf,zad,zac]);refine q0 _ ?_;clear q0 Q0;simp only[go_sem];refine z8 1 fun Q0 q0=>?_;simp only[↓bO,go_sem,seval];refine q0 _ ?_;clear q0 Q0;simp only[go_sem];simp only[↓bO,go_sem,seval];refine y1 _ ?_;(try clear y1 Y1);refine zav ?_;refine zbk (Weak.tokSlot 5 3 1 rfl) ?_;simp only[zc,zb];refine zaS (σ:=FS×Nat) (mB 25 3619) (fun s=>FSame S.F s.1∧s.2≤L.length) (fun s=>[(5,.osl 8 1 ((clsF S v (L.take s.2)).map intC)),(11,.v (.int .i64 (s.2:Int)))]) (fun s=>[(4,.cells 184 [.own 5 s.1.up.length,.own 6 s.1.rank.length,.v (.int .i64 s.1.sets),.v (.int .i64 s.1.steps)]),(5,.row 3 1 (s.1.up.map nC)),(6,.row 3 1 (s.1.rank.map intC)),(8,.tok 3 1 (clsF S v (L.take s.2)).length)]) (fun s=>L.length-s.2) (S.F,0) (⟨FSame.refl hF,Nat.zero_le _⟩) ?_ (fun s hs=>?_)
  ·
   simp only[zaA,zaB,zaq,zaz,mB,zc,zb,seval,bL,clsF,zD];exact zcm
  simp only[zaA,zaB,zaq,zaz,mB,zc,zb,seval];refine zab fun Y1 y1=>?_;refine zaa ?_;simp only[↓bO,go_sem,seval];refine y1 _ ?_;(try clear y1 Y1);refine zab fun Y1 y1=>?_;refine zan rfl (fun hb12=>?_) (fun hb12=>?_)
  ·
   (have hk:s.2<L.length:=by simpa using hb12);obtain ⟨w,he⟩:∃w,L[s.2]?=some w:=⟨_,zd hk⟩;have hw:IntKind.i64.wrap ((s.2:Int)+1)=(s.2:Int)+1:=zaT (by omega) (by omega);have hrl:=clsF_len S v (L.take s.2);(have hrt:(L.take s.2).length≤s.2:=by simp;omega);(have hb1:((clsF S v (L.take s.2)).length+1) * 8≤140737488355328:=by omega);(have hb2:(clsF S v (L.take s.2)).length+1≤maxLen:=by simp only[maxLen];omega);refine zar ?_;(try simp only[zaf,zad,zac]);refine y1 _ ?_;(try clear y1 Y1);refine zab fun Y1 y1=>?_;refine zav ?_;refine zab fun Y2 y2=>?_;refine zaa ?_;(iterate 2 (refine z8 1 fun Q0 q0=>?_;simp only[↓bO,go_sem,seval,hk,gM he,intC,hw,hb1,hb2,za];refine q0 _ ?_;clear q0 Q0;simp only[go_sem]));simp only[↓bO,go_sem,seval,hk,gM he,intC,hw,hb1,hb2,za];refine y2 _ ?_;(try clear y2 Y2);refine zab fun Y2 y2=>?_;refine zaa ?_;(iterate 3 (refine z8 1 fun Q0 q0=>?_;simp only[↓bO,go_sem,seval,hk,gM he,intC,hw,hb1,hb2,za];refine q0 _ ?_;clear q0 Q0;simp only[go_sem]));simp only[↓bO,go_sem,seval,hk,gM he,intC,hw,hb1,hb2,za];refine CCalls.at (CSame_c {S with F:=s.1} hs.1.inv (by dsimp only;rw[hs.1.len];exact hv) v w) (.cons (.v _) (.cons (.v _) .nil)) (fun _=>.v _) (i0:=0) (i1:=1) (i2:=2) (i3:=3) (i4:=4) (i5:=5) (i6:=6) (i7:=7) (by decide) (by simp) ⟨rfl,rfl,rfl,rfl,rfl,rfl,rfl,rfl,trivial⟩ (fun S1 r1 hX=>?_);(try dsimp only at hX);simp only[zaL,zu,zy,zx,zaq,zaz,Nat.reduceEqDiff,↓reduceIte];obtain ⟨F1,rfl⟩:∃F1,S1={S with F:=F1}:=⟨S1.F,hX.2.1⟩;dsimp only at hX;have hr0:SameR {S with F:=s.1} v w r1:=hX.2.2;have hr1:r1=sameS S v w:=(hr0.fsame (S:=S) hs.1 rfl).eq;have hF1:FSame S.F F1:=hs.1.trans hX.1;(try simp only[bS,bA,zaf,zad,zac]);refine y2 _ ?_;(try clear y2 Y2);refine zan rfl (fun hb18=>?_) (fun hb18=>?_)
   ·
    (have hyes:sameS S v w=true:=by rw[← hr1];exact hb18);have hst:=clsF_yes he hyes;refine zaa ?_;(iterate 2 (refine z8 1 fun Q0 q0=>?_;simp only[↓bO,go_sem,seval,hk,gM he,intC,hw,hb1,hb2,za,hst,zz,zf];refine q0 _ ?_;clear q0 Q0;simp only[go_sem]));refine z8 1 fun Q0 q0=>?_;simp only[↓bO,go_sem,seval,↓zbX,↓zbT,↓zbY,↓zbW,↓zb0,↓zbS,↓zbR,↓zbQ,↓zbZ,↓zbo,↓zbp,↓zbq,hk,gM he,intC,hw,hb1,hb2,za,hst,zz,zf];refine q0 _ ?_;clear q0 Q0;simp only[go_sem];refine z8 1 fun Q0 q0=>?_;simp only[↓bO,go_sem,seval,hk,gM he,intC,hw,hb1,hb2,za,hst,zz,zf];refine q0 _ ?_;clear q0 Q0;simp only[go_sem];simp only[↓bO,go_sem,seval,hk,gM he,intC,hw,hb1,hb2,za,hst,zz,zf];refine y1 _ ?_;(try clear y1 Y1);refine zaa ?_;refine z8 1 fun Q0 q0=>?_;simp only[↓bO,go_sem,seval,hk,gM he,intC,hw,hb1,hb2,za,hst,zz,zf];refine q0 _ ?_;clear q0 Q0;simp only[go_sem];simp only[↓bO,go_sem,seval,hk,gM he,intC,hw,hb1,hb2,za,hst,zz,zf];refine ⟨(F1,s.2+1),⟨hF1,by simp only;omega⟩,(by simp only;omega),?_⟩;simp only[zaA,zaB,zaq,zaz,mB,zc,zb,seval,hk,gM he,intC,hw,hb1,hb2,za,zL,zP,hst,zz,bL,zf];exact zcm
   ·
    (have hno:sameS S v w=false:=by rw[← hr1];simpa using hb18);have hst:=clsF_no he hno;refine zar ?_;(try simp only[zaf,zad,zac]);refine y1 _ ?_;(try clear y1 Y1);refine zaa ?_;refine z8 1 fun Q0 q0=>?_;simp only[↓bO,go_sem,seval,hk,gM he,intC,hw,hb1,hb2,za,hst];refine q0 _ ?_;clear q0 Q0;simp only[go_sem];simp only[↓bO,go_sem,seval,hk,gM he,intC,hw,hb1,hb2,za,hst];refine ⟨(F1,s.2+1),⟨hF1,by simp only;omega⟩,(by simp only;omega),?_⟩;simp only[zaA,zaB,zaq,zaz,mB,zc,zb,seval,hk,gM he,intC,hw,hb1,hb2,za,zL,zP,hst];exact zcm
  ·
   (have hk:s.2=L.length:=by (have h9:=hb12;simp at h9;have:=hs.2;omega));refine zaV ?_;simp only[zaf,zad,zac,bA,Nat.reduceEqDiff,↓reduceIte];refine y0 _ ?_;(try clear y0 Y0);refine zab fun Y0 y0=>?_;refine zaa ?_;refine z8 1 fun Q0 q0=>?_;simp only[↓bO,go_sem,seval];refine q0 _ ?_;clear q0 Q0;simp only[go_sem];simp only[↓bO,go_sem,seval];refine y0 _ ?_;(try clear y0 Y0);refine zam ?_;(try simp only[zaf,zad,zac,zaZ,zaW,zaC,bS,bA]);refine ⟨_,zai 0 (zaF ({S with F:=s.1})),⟨({S with F:=s.1},()),?_,rfl,rfl⟩,Und.data (za6 _),zcp (by omega) _,?_,?_,by omega⟩;· exact ⟨hs.1,rfl⟩
   ·
    rw[hk,z6,hL];exact Le.oslL
   · first | (refine ⟨1,rfl,rfl⟩) | (refine ⟨1,by simp only[zaF,zai,zw,zk,Nat.reduceAdd],rfl⟩)
end Go.Proofs.YtpfiliamceimmaaGreatDoor
namespace Go.Proofs.YtpfiliamceimmaaGreatDoor
open Go Go.RowKit
attribute [local irreducible] aops za1
theorem zc6 (S:CS) (r:Int):CCalls (σ:=Unit) 127 [.agg [.ptr 0 0,.v (.int .i64 r)]] (S) (fun s=>s.1=S) (fun s=>.v (.int .i64 r)):=by
  refine ACalls.clean (C:=fun zr zo=>∃s:CS×Unit,(s.1=S)∧zr=(fun s:Unit=>.v (.int .i64 r)) s.2∧zo=zai 0 (zaF s.1)) ?_;refine zah Tryz.func127 (by kernel_rfl) rfl (by rw[Tryz.ntmps127];simp) (fun hm=>?_);simp only[Tryz.ntmps127,Tryz.results127,zi,zm,Nat.reduceAdd,Nat.reduceSub,zt,zq,zh,zj];simp only[zaF,zai,Nat.reduceAdd];refine zab fun Y0 y0=>?_;refine zaa ?_;refine z8 1 fun Q0 q0=>?_;simp only[↓bO,go_sem,seval];refine q0 _ ?_;clear q0 Q0;simp only[go_sem];simp only[↓bO,go_sem,seval];refine y0 _ ?_;(try clear y0 Y0);refine zab fun Y0 y0=>?_;refine zab fun Y1 y1=>?_;refine zaa ?_;(iterate 2 (refine z8 1 fun Q0 q0=>?_;simp only[↓bO,go_sem,seval];refine q0 _ ?_;clear q0 Q0;simp only[go_sem]));simp only[↓bO,go_sem,seval];refine y1 _ ?_;(try clear y1 Y1);refine zan rfl (fun hb5=>?_) (fun hb5=>?_)
  ·
   cases hb5
  ·
   refine zar ?_;(try simp only[zaf,zad,zac]);refine y0 _ ?_;(try clear y0 Y0);refine zab fun Y0 y0=>?_;refine zaa ?_;(iterate 2 (refine z8 1 fun Q0 q0=>?_;simp only[↓bO,go_sem,seval];refine q0 _ ?_;clear q0 Q0;simp only[go_sem]));simp only[↓bO,go_sem,seval];refine y0 _ ?_;(try clear y0 Y0);refine zam ?_;(try simp only[zaf,zad,zac,zaZ,zaW,zaC,bS,bA]);refine ⟨_,zai 0 (zaF (S)),⟨(S,()),?_,rfl,rfl⟩,.v _ _,zcp (by omega) _,?_,?_,by omega⟩;· exact rfl
   ·
    exact Le.refl _
   · first | (refine ⟨1,rfl,rfl⟩) | (refine ⟨0,rfl,rfl⟩) | (refine ⟨1,by simp only[zaF,zai,zw,zk,Nat.reduceAdd],rfl⟩) | (refine ⟨0,by simp only[zaF,zai,zw,zk,Nat.reduceAdd],rfl⟩)
theorem zgE (S:CS) (hw:∀w∈S.W,w=-1∨(0≤w∧w<(S.G.N.length:Int))) (r:Nat) (x:Int) (hx:S.W[r]?=some x):CCalls (σ:=Int) 95 [.agg [.ptr 0 0,.v (.int .i64 (r:Int))]] S (fun s=>s.1=S∧((x<0∧s.2=0)∨(0≤x∧∃g,S.G.N[x.toNat]?=some g∧s.2=g.k))) (fun s=>.v (.int .i64 s)):=PKind_c S hw r x hx
def pOs (S:CS) (r:Nat):Os:=(8,.cells 138 [.ptr 0 0,.v (.int .i64 (r:Int))])::zai 0 (zaF S)
theorem pUnd {n:Nat} (h:9≤n) (S:CS) (r:Nat):UndOs n (pOs S r):=⟨by omega,⟨.ptr (by omega),.v _ _,trivial⟩,zcp (by omega) S⟩
def PCalls {σ:Type} (f:Nat) (args:List AV) (S:CS) (r:Nat) (C:FS×σ→Prop) (R:σ→AV):Prop :=
  ACalls Tryz.prog f args (pOs S r) 9 fun z os n=>(∃s:FS×σ,C s∧z=R s.2∧os=pOs {S with F:=s.1} r)∧n=9
theorem VarF_c (S:CS) (r:Nat) (hF:FInv S.F) (hv:∀n k,zaM S.G.V n=some k→0≤k∧k<(S.F.up.length:Int)) (v i0:Int) (hi:zaM S.G.V v=some i0):PCalls (σ:=Unit) 132 [.v (.int .i64 v),.ptr 8 0] S r (fun s=>FSame S.F s.1) (fun s=>.v (.bool (rtB S r v))):=by
  refine ACalls.clean (C:=fun z os=>∃s:FS×Unit,(FSame S.F s.1)∧z=(fun s:Unit=>.v (.bool (rtB S r v))) s.2∧os=pOs {S with F:=s.1} r) ?_;refine zah Tryz.func132 (by kernel_rfl) rfl (by rw[Tryz.ntmps132];simp) (fun hm=>?_);simp only[Tryz.ntmps132,Tryz.results132,zi,zm,Nat.reduceAdd,Nat.reduceSub,zt,zq,zh,zj];simp only[pOs,zaF,zai,Nat.reduceAdd];have hib:=hv _ _ hi;obtain ⟨i,rfl⟩:∃i:Nat,i0=(i:Int):=⟨i0.toNat,by omega⟩;refine zab fun Y0 y0=>?_;refine zaa ?_;simp only[↓bO,go_sem,seval,zp,Option.isSome_some];refine y0 _ ?_;(try clear y0 Y0);refine zab fun Y0 y0=>?_;refine zaa ?_;(iterate 6 (refine z8 1 fun Q0 q0=>?_;simp only[↓bO,go_sem,seval,zp,Option.isSome_some];refine q0 _ ?_;clear q0 Q0;simp only[go_sem]));refine z8 1 fun Q0 q0=>?_;simp only[↓bO,go_sem,seval,zp,Option.isSome_some];refine GCalls.at (zga S.G v) (.cons (.v _) .nil) (.tup (.cons (.v _) (.cons (.v _) .nil))) (i:=1) (j:=2) (k:=3) rfl rfl rfl (by decide) (by decide) (by decide) (by first | omega | (simp only;omega)) (by first | omega | (simp only;omega)) (by first | omega | (simp only;omega)) ?_;simp only[zaz,Nat.reduceEqDiff,↓reduceIte];rw[show zaM S.G.V v=some (i:Int) from hi];(try simp only[bS,bA,zaf,zad,zac]);(iterate 4 (refine q0 _ ?_;clear q0 Q0;simp only[go_sem];refine z8 1 fun Q0 q0=>?_;simp only[↓bO,go_sem,seval,zp,Option.isSome_some]));refine q0 _ ?_;clear q0 Q0;simp only[go_sem];simp only[↓bO,go_sem,seval,zp,Option.isSome_some];refine y0 _ ?_;(try clear y0 Y0);refine zab fun Y0 y0=>?_;refine zaP [(8,0,[.ptr 0 0]),(8,1,[.v (.int .i64 (r:Int))])] 8 rfl mixed (⟨⟨_,_,rfl,by simp,rfl,trivial,trivial⟩,⟨_,_,rfl,by simp,rfl,trivial,trivial⟩,trivial⟩) rfl ?_;dsimp only;refine zae 0 rfl (by kernel_rfl) (by kernel_rfl) (by kernel_rfl) (fun _ _ h=>h) fun Q0 q0=>?_;simp only[↓bO,go_sem,seval,zp,Option.isSome_some];refine q0 _ ?_;clear q0 Q0;refine zay 1 0 rfl rfl (by kernel_rfl) (by kernel_rfl) (by kernel_rfl) (fun _ _ h=>h) fun Q0 q0=>?_;simp only[↓bO,go_sem,seval,zp,Option.isSome_some];refine q0 _ ?_;clear q0 Q0;refine zae 2 rfl (by kernel_rfl) (by kernel_rfl) (by kernel_rfl) (fun _ _ h=>h) fun Q0 q0=>?_;simp only[↓bO,go_sem,seval,zp,Option.isSome_some];refine q0 _ ?_;clear q0 Q0;refine zae 4 rfl (by kernel_rfl) (by kernel_rfl) (by kernel_rfl) (fun _ _ h=>h) fun Q0 q0=>?_;simp only[↓bO,go_sem,seval,zp,Option.isSome_some];refine q0 _ ?_;clear q0 Q0;refine zay 5 1 rfl rfl (by kernel_rfl) (by kernel_rfl) (by kernel_rfl) (fun _ _ h=>h) fun Q0 q0=>?_;simp only[↓bO,go_sem,seval,zp,Option.isSome_some];refine q0 _ ?_;clear q0 Q0;refine zag (i:=3) (by kernel_rfl) ?_
  ·
   refine zal rfl rfl fun Q0 q0=>?_;simp only[↓bO,go_sem,seval,zp,Option.isSome_some];refine CCalls.at (zeu S hF i (by omega)) (.cons (.v _) .nil) (fun _=>.v _) (i0:=0) (i1:=1) (i2:=2) (i3:=3) (i4:=4) (i5:=5) (i6:=6) (i7:=7) (by decide) (by simp) ⟨rfl,rfl,rfl,rfl,rfl,rfl,rfl,rfl,trivial⟩ (fun S1 r1 hS1=>?_);(try dsimp only at hS1);simp only[zaL,zu,zy,zx,zaq,zaz,Nat.reduceEqDiff,↓reduceIte];obtain ⟨hfs,hrt,hS1e⟩:=hS1;obtain ⟨F1,rfl⟩:∃F1,S1={S with F:=F1}:=⟨S1.F,hS1e⟩;dsimp only at hfs hrt;have hres:=rtB_at (r:=r) hi hrt;(try simp only[bS,bA]);refine q0 _ ⟨⟨⟨_,_,rfl,by simp,rfl,trivial,trivial⟩,⟨_,_,rfl,by simp,rfl,trivial,trivial⟩,trivial⟩,?_⟩;clear q0 Q0;refine zag (i:=6) (by kernel_rfl) ?_
   ·
    refine zal rfl rfl fun Q0 q0=>?_;simp only[↓bO,go_sem,seval,zp,Option.isSome_some];refine q0 _ ⟨⟨⟨_,_,rfl,by simp,rfl,trivial,trivial⟩,⟨_,_,rfl,by simp,rfl,trivial,trivial⟩,trivial⟩,?_⟩;clear q0 Q0;refine zae 7 rfl (by kernel_rfl) (by kernel_rfl) (by kernel_rfl) (fun _ _ h=>h) fun Q0 q0=>?_;simp only[↓bO,go_sem,seval,zp,Option.isSome_some];refine q0 _ ?_;clear q0 Q0;refine zaG (by kernel_rfl) ?_;simp only[zaf,zad,zac];refine y0 _ ?_;(try clear y0 Y0);refine zam ?_;(try simp only[zaf,zad,zac,zaZ,zaW,zaC,bS,bA]);refine ⟨_,pOs {S with F:=F1} r,⟨(F1,()),?_,rfl,rfl⟩,.v _ _,pUnd (by omega) _ _,?_,?_,by omega⟩;· exact hfs
    ·
     rw[hres];exact Le.refl _
    · first | (refine ⟨0,rfl,rfl⟩)
theorem IdxV_c (S:CS) (r:Nat) (hF:FInv S.F) (hv:∀n k,zaM S.G.V n=some k→0≤k∧k<(S.F.up.length:Int)) (L:List Int) (hl:L.length≤1048576) (hL:∀v∈L,∃i,zaM S.G.V v=some i):PCalls (σ:=Unit) 104 [.sl 1 (L.map intC),.clo 132 [.ptr 8 0]] S r (fun s=>FSame S.F s.1) (fun s=>.v (.int .i64 (zbK (rtB S r) L))):=by
  refine ACalls.clean (C:=fun z os=>∃s:FS×Unit,(FSame S.F s.1)∧z=(fun s:Unit=>.v (.int .i64 (zbK (rtB S r) L))) s.2∧os=pOs {S with F:=s.1} r) ?_;refine zah Tryz.func104 (by kernel_rfl) rfl (by rw[Tryz.ntmps104];simp) (fun hm=>?_);simp only[Tryz.ntmps104,Tryz.results104,zi,zm,Nat.reduceAdd,Nat.reduceSub,zt,zq,zh,zj];simp only[pOs,zaF,zai,Nat.reduceAdd];refine zab fun Y0 y0=>?_;refine zaa ?_;simp only[↓bO,go_sem,seval];refine y0 _ ?_;(try clear y0 Y0);refine zab fun Y0 y0=>?_;refine zab fun Y1 y1=>?_;refine zaa ?_;(iterate 2 (refine z8 1 fun Q0 q0=>?_;simp only[↓bO,go_sem,seval];refine q0 _ ?_;clear q0 Q0;simp only[go_sem]));simp only[↓bO,go_sem,seval];refine y1 _ ?_;(try clear y1 Y1);refine zav ?_;refine zaS (σ:=FS×Nat) (mB 19 387) (fun s=>FSame S.F s.1∧s.2≤L.length∧∀j q,j<s.2→L[j]?=some q→rtB S r q=false) (fun s=>[(8,.v (.int .i64 (s.2:Int)))]) (fun s=>[(4,.cells 184 [.own 5 s.1.up.length,.own 6 s.1.rank.length,.v (.int .i64 s.1.sets),.v (.int .i64 s.1.steps)]),(5,.row 3 1 (s.1.up.map nC)),(6,.row 3 1 (s.1.rank.map intC))]) (fun s=>L.length-s.2) (S.F,0) (⟨FSame.refl hF,Nat.zero_le _,fun j q hj=>by omega⟩) ?_ (fun s hs=>?_)
  ·
   simp only[zaA,zaB,zaq,zaz,mB,zc,zb,seval];exact zcm
  simp only[zaA,zaB,zaq,zaz,mB,zc,zb,seval];refine zab fun Y1 y1=>?_;refine zaa ?_;simp only[↓bO,go_sem,seval];refine y1 _ ?_;(try clear y1 Y1);refine zab fun Y1 y1=>?_;refine zan rfl (fun hb9=>?_) (fun hb9=>?_)
  ·
   (have hk:s.2<L.length:=by simpa using hb9);obtain ⟨w,he⟩:∃w,L[s.2]?=some w:=⟨_,zd hk⟩;obtain ⟨i0,hi⟩:=hL w (zl he);have hw:IntKind.i64.wrap ((s.2:Int)+1)=(s.2:Int)+1:=zaT (by omega) (by omega);have hrb:=zfw (S:=S) (S1:={S with F:=s.1}) hs.1 rfl r w;refine zar ?_;(try simp only[zaf,zad,zac]);refine y1 _ ?_;(try clear y1 Y1);refine zab fun Y1 y1=>?_;refine zav ?_;refine zab fun Y2 y2=>?_;refine zaa ?_;refine z8 1 fun Q0 q0=>?_;simp only[↓bO,go_sem,seval,hk,gM he,intC,hw,za];refine q0 _ ?_;clear q0 Q0;simp only[go_sem];simp only[↓bO,go_sem,seval,hk,gM he,intC,hw,za];refine y2 _ ?_;(try clear y2 Y2);refine zab fun Y2 y2=>?_;refine zaa ?_;(iterate 5 (refine z8 1 fun Q0 q0=>?_;simp only[↓bO,go_sem,seval,hk,gM he,intC,hw,za];refine q0 _ ?_;clear q0 Q0;simp only[go_sem]));simp only[↓bO,go_sem,seval,hk,gM he,intC,hw,za];refine ACalls.mono (show ACalls Tryz.prog 132 _ (pOs {S with F:=s.1} r) 9 _ from VarF_c {S with F:=s.1} r hs.1.inv (by dsimp only;rw[hs.1.len];exact hv) w i0 hi) ?_;rintro z os' nx' ⟨⟨⟨F1,_⟩,hF0,rfl,rfl⟩,rfl⟩;dsimp only at hF0;have hF1:=hs.1.trans hF0;rw[hrb];simp only[pOs,zaF,zai,Nat.reduceAdd];(try simp only[bS,bA,zaf,zad,zac]);refine y2 _ ?_;(try clear y2 Y2);refine zan rfl (fun hb16=>?_) (fun hb16=>?_)
   ·
    (have hyes:rtB S r w=true:=by simpa using hb16);have hres:=zcI (g:=rtB S r) he hyes hs.2.2;refine zab fun Y2 y2=>?_;refine zaa ?_;refine z8 1 fun Q0 q0=>?_;simp only[↓bO,go_sem,seval,hk,gM he,intC,hw,za];refine q0 _ ?_;clear q0 Q0;simp only[go_sem];simp only[↓bO,go_sem,seval,hk,gM he,intC,hw,za];refine y2 _ ?_;(try clear y2 Y2);refine zam ?_;(try simp only[zaf,zad,zac,zaZ,zaW,zaC,bS,bA]);refine ⟨_,pOs {S with F:=F1} r,⟨(F1,()),?_,rfl,rfl⟩,.v _ _,pUnd (by omega) _ _,?_,?_,by omega⟩;· exact hF1
    ·
     rw[hres];exact Le.refl _
    · first | (refine ⟨0,rfl,rfl⟩)
   ·
    (have hno:rtB S r w=false:=by simpa using hb16);refine zar ?_;(try simp only[zaf,zad,zac]);refine y1 _ ?_;(try clear y1 Y1);refine zaa ?_;refine z8 1 fun Q0 q0=>?_;simp only[↓bO,go_sem,seval,hk,gM he,intC,hw,za];refine q0 _ ?_;clear q0 Q0;simp only[go_sem];simp only[↓bO,go_sem,seval,hk,gM he,intC,hw,za];refine ⟨(F1,s.2+1),⟨hF1,by simp only;omega,no_stepq hs.2.2 he hno⟩,(by simp only;omega),?_⟩;simp only[zaA,zaB,zaq,zaz,mB,zc,zb,seval,hk,gM he,intC,hw,za,zL,zP];exact zcm
  ·
   (have hk:s.2=L.length:=by (have h9:=hb9;simp at h9;have:=hs.2.1;omega));have hres:=zdX (g:=rtB S r) (l:=L) (fun j q hj hq=>hs.2.2 j q (by have:=(ze.1 hq).1;omega) hq);refine zaV ?_;simp only[zaf,zad,zac,bA,Nat.reduceEqDiff,↓reduceIte];refine y0 _ ?_;(try clear y0 Y0);refine zab fun Y0 y0=>?_;refine zaa ?_;simp only[↓bO,go_sem,seval];refine y0 _ ?_;(try clear y0 Y0);refine zam ?_;(try simp only[zaf,zad,zac,zaZ,zaW,zaC,bS,bA]);refine ⟨_,pOs {S with F:=s.1} r,⟨(s.1,()),?_,rfl,rfl⟩,.v _ _,pUnd (by omega) _ _,?_,?_,by omega⟩;· exact hs.1
   ·
    rw[hres];exact Le.refl _
   · first | (refine ⟨0,rfl,rfl⟩)
theorem PVar_c (S:CS) (r:Nat) (hF:FInv S.F) (hv:∀n k,zaM S.G.V n=some k→0≤k∧k<(S.F.up.length:Int)) (h64:∀q∈S.G.V,is64 q.1) (hl:S.G.V.length≤1048576):CCalls (σ:=Unit) 98 [.agg [.ptr 0 0,.v (.int .i64 (r:Int))]] (S) (fun s=>FSame S.F s.1.F∧s.1={S with F:=s.1.F}) (fun s=>.v (.int .i64 (zbf S r (zbV (S.G.V.map Prod.fst))))):=by
  refine ACalls.clean (C:=fun zr zo=>∃s:CS×Unit,(FSame S.F s.1.F∧s.1={S with F:=s.1.F})∧zr=(fun s:Unit=>.v (.int .i64 (zbf S r (zbV (S.G.V.map Prod.fst))))) s.2∧zo=zai 0 (zaF s.1)) ?_;refine zah Tryz.func98 (by kernel_rfl) rfl (by rw[Tryz.ntmps98];simp) (fun hm=>?_);simp only[Tryz.ntmps98,Tryz.results98,zi,zm,Nat.reduceAdd,Nat.reduceSub,zt,zq,zh,zj];simp only[zaF,zai,Nat.reduceAdd];obtain ⟨L,hL⟩:∃L,L=zbV (S.G.V.map Prod.fst):=⟨_,rfl⟩;rw[← hL];(have hLl:L.length≤1048576:=by (rw[hL,List.length_mergeSort,zS];exact hl));have hLv:=zep (V:=S.G.V);rw[← hL] at hLv;refine zab fun Y0 y0=>?_;refine zaa ?_;refine z8 1 fun Q0 q0=>?_;simp only[↓bO,go_sem,seval];refine q0 _ ?_;clear q0 Q0;simp only[go_sem];simp only[↓bO,go_sem,seval];refine y0 _ ?_;(try clear y0 Y0);refine zab fun Y0 y0=>?_;refine zab fun Y1 y1=>?_;refine zaa ?_;(iterate 2 (refine z8 1 fun Q0 q0=>?_;simp only[↓bO,go_sem,seval];refine q0 _ ?_;clear q0 Q0;simp only[go_sem]));simp only[↓bO,go_sem,seval];refine y1 _ ?_;(try clear y1 Y1);refine zan rfl (fun hb7=>?_) (fun hb7=>?_)
  ·
   cases hb7
  ·
   refine zar ?_;(try simp only[zaf,zad,zac]);refine y0 _ ?_;(try clear y0 Y0);refine zab fun Y0 y0=>?_;refine zaa ?_;(iterate 5 (refine z8 1 fun Q0 q0=>?_;simp only[↓bO,go_sem,seval];refine q0 _ ?_;clear q0 Q0;simp only[go_sem]));refine z8 1 fun Q0 q0=>?_;simp only[↓bO,go_sem,seval];refine GCalls.at (zfB S.G h64 (by omega)) (.nil) (za6 _) (i:=1) (j:=2) (k:=3) rfl rfl rfl (by decide) (by decide) (by decide) (by first | omega | (simp only;omega)) (by first | omega | (simp only;omega)) (by first | omega | (simp only;omega)) ?_;simp only[zaz,Nat.reduceEqDiff,↓reduceIte];rw[← hL];(try simp only[bS,bA,zaf,zad,zac]);refine q0 _ ?_;clear q0 Q0;simp only[go_sem];simp only[↓bO,go_sem,seval];refine y0 _ ?_;(try clear y0 Y0);refine zab fun Y0 y0=>?_;refine zaa ?_;(iterate 2 (refine z8 1 fun Q0 q0=>?_;simp only[↓bO,go_sem,seval];refine q0 _ ?_;clear q0 Q0;simp only[go_sem]));refine z8 1 fun Q0 q0=>?_;simp only[↓bO,go_sem,seval];refine ACalls.mono (show ACalls Tryz.prog 104 _ (pOs S r) 9 _ from IdxV_c S r hF hv L hLl hLv) ?_;rintro z os' nx' ⟨⟨⟨F1,_⟩,hF1,rfl,rfl⟩,rfl⟩;dsimp only at hF1;simp only[pOs,zaF,zai,Nat.reduceAdd];(try simp only[bS,bA,zaf,zad,zac]);refine q0 _ ?_;clear q0 Q0;simp only[go_sem];simp only[↓bO,go_sem,seval];refine y0 _ ?_;(try clear y0 Y0);refine zab fun Y0 y0=>?_;refine zab fun Y1 y1=>?_;refine zaa ?_;refine z8 1 fun Q0 q0=>?_;simp only[↓bO,go_sem,seval];refine q0 _ ?_;clear q0 Q0;simp only[go_sem];simp only[↓bO,go_sem,seval];refine y1 _ ?_;(try clear y1 Y1);refine zan rfl (fun hb18=>?_) (fun hb18=>?_)
   ·
    (have hneg:zbK (rtB S r) L<0:=by simpa using hb18);have hres:=least_neg hneg;refine zab fun Y1 y1=>?_;refine zaa ?_;simp only[↓bO,go_sem,seval];refine y1 _ ?_;(try clear y1 Y1);refine zam ?_;(try simp only[zaf,zad,zac,zaZ,zaW,zaC,bS,bA]);refine ⟨_,zai 0 (zaF ({S with F:=F1})),⟨({S with F:=F1},()),?_,rfl,rfl⟩,.v _ _,zcp (by omega) _,?_,?_,by omega⟩;· exact ⟨hF1,rfl⟩
    ·
     rw[hres];exact Le.refl _
    · first | (refine ⟨1,rfl,rfl⟩) | (refine ⟨1,by simp only[zaF,zai,zw,zk,Nat.reduceAdd],rfl⟩)
   ·
    (have hpos:0≤zbK (rtB S r) L:=by simpa using hb18);obtain ⟨q,hq,hres⟩:=least_pos (S:=S) (r:=r) (L:=L) hpos;have hql:=(ze.1 hq).1;(have hq2:zbK (rtB S r) L<(L.length:Int):=by omega);refine zar ?_;(try simp only[zaf,zad,zac]);refine y0 _ ?_;(try clear y0 Y0);refine zab fun Y0 y0=>?_;refine zaa ?_;(iterate 4 (refine z8 1 fun Q0 q0=>?_;simp only[↓bO,go_sem,seval,hpos,hq2,gM hq,intC];refine q0 _ ?_;clear q0 Q0;simp only[go_sem]));simp only[↓bO,go_sem,seval,hpos,hq2,gM hq,intC];refine y0 _ ?_;(try clear y0 Y0);refine zam ?_;(try simp only[zaf,zad,zac,zaZ,zaW,zaC,bS,bA]);refine ⟨_,zai 0 (zaF ({S with F:=F1})),⟨({S with F:=F1},()),?_,rfl,rfl⟩,.v _ _,zcp (by omega) _,?_,?_,by omega⟩;· exact ⟨hF1,rfl⟩
    ·
     rw[hres];exact Le.refl _
    · first | (refine ⟨1,rfl,rfl⟩) | (refine ⟨1,by simp only[zaF,zai,zw,zk,Nat.reduceAdd],rfl⟩)
theorem ziQ (S:CS) (hF:FInv S.F) (hpl:∀z∈S.G.N,z.parts.length≤8) (hw:∀w∈S.W,w=-1∨(0≤w∧w<(S.G.N.length:Int))) (r:Nat) (x:Int) (hx:S.W[r]?=some x) (hg0:0≤x→∃g,S.G.N[x.toNat]?=some g∧1≤g.k∧g.parts.length≤8∧∀p∈g.parts,0≤p∧p<(S.F.up.length:Int)):CCalls (σ:=List Nat) 135 [.agg [.ptr 0 0,.v (.int .i64 (r:Int))]] (S) (fun s=>FSame S.F s.1.F∧s.1={S with F:=s.1.F}∧((x<0∧s.2=[])∨(0≤x∧∃g,S.G.N[x.toNat]?=some g∧s.2.length=g.parts.length∧∀(j:Nat) (p:Int) (q:Nat),g.parts[j]?=some p→s.2[j]?=some q→Rt S.F.up p.toNat q))) (fun s=>.sl 2 (s.map (zaw 0))):=by
  refine ACalls.clean (C:=fun zr zo=>∃s:CS×List Nat,(FSame S.F s.1.F∧s.1={S with F:=s.1.F}∧((x<0∧s.2=[])∨(0≤x∧∃g,S.G.N[x.toNat]?=some g∧s.2.length=g.parts.length∧∀(j:Nat) (p:Int) (q:Nat),g.parts[j]?=some p→s.2[j]?=some q→Rt S.F.up p.toNat q)))∧zr=(fun s:List Nat=>.sl 2 (s.map (zaw 0))) s.2∧zo=zai 0 (zaF s.1)) ?_;refine zah Tryz.func135 (by kernel_rfl) rfl (by rw[Tryz.ntmps135];simp) (fun hm=>?_);simp only[Tryz.ntmps135,Tryz.results135,zi,zm,Nat.reduceAdd,Nat.reduceSub,zt,zq,zh,zj];simp only[zaF,zai,Nat.reduceAdd];have hrl:=(ze.1 hx).1;have hwx:=hw x (zl hx);refine zab fun Y0 y0=>?_;refine zaa ?_;refine z8 1 fun Q0 q0=>?_;simp only[↓bO,go_sem,seval];refine q0 _ ?_;clear q0 Q0;simp only[go_sem];simp only[↓bO,go_sem,seval];refine y0 _ ?_;(try clear y0 Y0);refine zab fun Y0 y0=>?_;refine zab fun Y1 y1=>?_;refine zaa ?_;refine z8 1 fun Q0 q0=>?_;simp only[↓bO,go_sem,seval];refine q0 _ ?_;clear q0 Q0;simp only[go_sem];refine z8 1 fun Q0 q0=>?_;simp only[↓bO,go_sem,seval];refine CCalls.atP (zgE S hw r x hx) (i0:=0) (i1:=1) (i2:=2) (i3:=3) (i4:=4) (i5:=5) (i6:=6) (i7:=7) (by exact ⟨.agg ⟨.ptr rfl,.v _,trivial⟩,trivial⟩) (fun _=>by exact .v _) (by decide) (by simp) ⟨rfl,rfl,rfl,rfl,rfl,rfl,rfl,rfl,trivial⟩ (fun Z1 k1 hZ1=>?_);(try dsimp only at hZ1);simp only[zaL,zu,zy,zx,zaq,zaz,Nat.reduceEqDiff,↓reduceIte];obtain ⟨hZ1,hk1⟩:=hZ1;obtain rfl:S=Z1:=hZ1.symm;(try simp only[bS,bA,zaf,zad,zac]);refine q0 _ ?_;clear q0 Q0;simp only[go_sem];simp only[↓bO,go_sem,seval];refine y1 _ ?_;(try clear y1 Y1);refine zan rfl (fun hb8=>?_) (fun hb8=>?_)
  ·
   have hneg:x<0:=(pk_zero hk1 hg0).1 (by simpa using hb8);refine zab fun Y1 y1=>?_;refine zaa ?_;simp only[↓bO,go_sem,seval];refine y1 _ ?_;(try clear y1 Y1);refine zam ?_;(try simp only[zaf,zad,zac,zaZ,zaW,zaC,bS,bA]);refine ⟨_,zai 0 (zaF (S)),⟨(S,([]:List Nat)),?_,rfl,rfl⟩,Und.parts (by omega) [],zcp (by omega) _,?_,?_,by omega⟩;· exact ⟨FSame.refl hF,rfl,.inl ⟨hneg,rfl⟩⟩
   ·
    exact Le.slNil 2
   · first | (refine ⟨1,rfl,rfl⟩) | (refine ⟨0,rfl,rfl⟩) | (refine ⟨1,by simp only[zaF,zai,zw,zk,Nat.reduceAdd],rfl⟩) | (refine ⟨0,by simp only[zaF,zai,zw,zk,Nat.reduceAdd],rfl⟩)
  ·
   (have hpos:0≤x:=Int.not_lt.1 fun h9=>absurd ((pk_zero hk1 hg0).2 h9) (by simpa using hb8));obtain ⟨g,hg,hgk,hgl,hgp⟩:=hg0 hpos;have hPx:=zdB S.G x (fun z hz=>by have:=hpl z hz;omega);rw[GS.parts_in hpos hg] at hPx;refine zar ?_;(try simp only[zaf,zad,zac]);refine y0 _ ?_;(try clear y0 Y0);refine zab fun Y0 y0=>?_;refine zaa ?_;simp only[↓bO,go_sem,seval,hrl,gM hx,intC];refine y0 _ ?_;(try clear y0 Y0);refine zab fun Y0 y0=>?_;refine zab fun Y1 y1=>?_;refine zaP [(8,0,[.ptr 0 0]),(8,1,[.v (.int .i64 (r:Int))]),(0,1,[.ptr 1 0]),(0,3,[.own 7 S.W.length])] 17 rfl mixed (⟨⟨_,_,rfl,by simp,rfl,trivial,trivial⟩,⟨_,_,rfl,by simp,rfl,trivial,trivial⟩,⟨_,_,rfl,by simp,rfl,trivial,trivial⟩,⟨_,_,rfl,by simp,rfl,by simp[CurL,CurOk,zaJ]⟩,trivial⟩) rfl ?_;dsimp only;refine zae 0 rfl (by kernel_rfl) (by kernel_rfl) (by kernel_rfl) (fun _ _ h=>h) fun Q0 q0=>?_;simp only[↓bO,go_sem,seval,hrl,gM hx,intC];refine q0 _ ?_;clear q0 Q0;refine zay 1 0 rfl rfl (by kernel_rfl) (by kernel_rfl) (by kernel_rfl) (fun _ _ h=>h) fun Q0 q0=>?_;simp only[↓bO,go_sem,seval,hrl,gM hx,intC];refine q0 _ ?_;clear q0 Q0;refine zae 2 rfl (by kernel_rfl) (by kernel_rfl) (by kernel_rfl) (fun _ _ h=>h) fun Q0 q0=>?_;simp only[↓bO,go_sem,seval,hrl,gM hx,intC];refine q0 _ ?_;clear q0 Q0;refine zae 3 rfl (by kernel_rfl) (by kernel_rfl) (by kernel_rfl) (fun _ _ h=>h) fun Q0 q0=>?_;simp only[↓bO,go_sem,seval,hrl,gM hx,intC];refine q0 _ ?_;clear q0 Q0;refine zay 4 2 rfl rfl (by kernel_rfl) (by kernel_rfl) (by kernel_rfl) (fun _ _ h=>h) fun Q0 q0=>?_;simp only[↓bO,go_sem,seval,hrl,gM hx,intC];refine q0 _ ?_;clear q0 Q0;refine zae 5 rfl (by kernel_rfl) (by kernel_rfl) (by kernel_rfl) (fun _ _ h=>h) fun Q0 q0=>?_;simp only[↓bO,go_sem,seval,hrl,gM hx,intC];refine q0 _ ?_;clear q0 Q0;refine zay 6 0 rfl rfl (by kernel_rfl) (by kernel_rfl) (by kernel_rfl) (fun _ _ h=>h) fun Q0 q0=>?_;simp only[↓bO,go_sem,seval,hrl,gM hx,intC];refine q0 _ ?_;clear q0 Q0;refine zae 7 rfl (by kernel_rfl) (by kernel_rfl) (by kernel_rfl) (fun _ _ h=>h) fun Q0 q0=>?_;simp only[↓bO,go_sem,seval,hrl,gM hx,intC];refine q0 _ ?_;clear q0 Q0;refine zae 8 rfl (by kernel_rfl) (by kernel_rfl) (by kernel_rfl) (fun _ _ h=>h) fun Q0 q0=>?_;simp only[↓bO,go_sem,seval,hrl,gM hx,intC];refine q0 _ ?_;clear q0 Q0;refine zay 9 3 rfl rfl (by kernel_rfl) (by kernel_rfl) (by kernel_rfl) (fun _ _ h=>h) fun Q0 q0=>?_;simp only[↓bO,go_sem,seval,hrl,gM hx,intC];refine q0 _ ?_;clear q0 Q0;refine zae 10 rfl (by kernel_rfl) (by kernel_rfl) (by kernel_rfl) (fun _ _ h=>h) fun Q0 q0=>?_;simp only[↓bO,go_sem,seval,hrl,gM hx,intC];refine q0 _ ?_;clear q0 Q0;refine zay 11 1 rfl rfl (by kernel_rfl) (by kernel_rfl) (by kernel_rfl) (fun _ _ h=>h) fun Q0 q0=>?_;simp only[↓bO,go_sem,seval,hrl,gM hx,intC];refine q0 _ ?_;clear q0 Q0;refine zae 16 rfl (by kernel_rfl) (by kernel_rfl) (by kernel_rfl) (fun _ _ h=>h) fun Q0 q0=>?_;simp only[↓bO,go_sem,seval,hrl,gM hx,intC];refine q0 _ ?_;clear q0 Q0;refine zag (i:=12) (by kernel_rfl) ?_
   ·
    refine zal rfl rfl fun Q0 q0=>?_;simp only[↓bO,go_sem,seval,hrl,gM hx,intC];refine q0 _ ⟨⟨⟨_,_,rfl,by simp,rfl,trivial,trivial⟩,⟨_,_,rfl,by simp,rfl,trivial,trivial⟩,⟨_,_,rfl,by simp,rfl,trivial,trivial⟩,⟨_,_,rfl,by simp,rfl,by simp[CurL,CurOk,zaJ]⟩,trivial⟩,?_⟩;clear q0 Q0;refine zag (i:=13) (by kernel_rfl) ?_
    ·
     refine zal rfl rfl fun Q0 q0=>?_;simp only[↓bO,go_sem,seval,hrl,gM hx,intC];refine q0 _ ⟨⟨⟨_,_,rfl,by simp,rfl,trivial,trivial⟩,⟨_,_,rfl,by simp,rfl,trivial,trivial⟩,⟨_,_,rfl,by simp,rfl,trivial,trivial⟩,⟨_,_,rfl,by simp,rfl,by simp[CurL,CurOk,zaJ]⟩,trivial⟩,?_⟩;clear q0 Q0;refine zag (i:=14) (by kernel_rfl) ?_
     ·
      refine zal rfl rfl fun Q0 q0=>?_;simp only[↓bO,go_sem,seval,hrl,gM hx,intC];refine GCalls.at (hPx) (.cons (.v _) .nil) (za6 _) (i:=1) (j:=2) (k:=3) rfl rfl rfl (by decide) (by decide) (by decide) (by first | omega | (simp only;omega)) (by first | omega | (simp only;omega)) (by first | omega | (simp only;omega)) ?_;simp only[zaz,Nat.reduceEqDiff,↓reduceIte];(try simp only[bS,bA]);refine q0 _ ⟨⟨⟨_,_,rfl,by simp,rfl,trivial,trivial⟩,⟨_,_,rfl,by simp,rfl,trivial,trivial⟩,⟨_,_,rfl,by simp,rfl,trivial,trivial⟩,⟨_,_,rfl,by simp,rfl,by simp[CurL,CurOk,zaJ]⟩,trivial⟩,?_⟩;clear q0 Q0;refine zae 15 rfl (by kernel_rfl) (by kernel_rfl) (by kernel_rfl) (fun _ _ h=>h) fun Q0 q0=>?_;simp only[↓bO,go_sem,seval,hrl,gM hx,intC];refine q0 _ ?_;clear q0 Q0;refine zaG (by kernel_rfl) ?_;simp only[zaf,zad,zac];refine y1 _ ?_;(try clear y1 Y1);refine zav ?_;refine zbk (Weak.tokSlot 3 138 2 rfl) ?_;simp only[zc,zb];refine zaS (σ:=FS×List Nat) (mB 41 58720266) (fun s=>FSame S.F s.1∧s.2.length≤g.parts.length∧∀(j:Nat) (p:Int) (q:Nat),g.parts[j]?=some p→s.2[j]?=some q→Rt S.F.up p.toNat q) (fun s=>[(3,.osl 9 2 (s.2.map (zaw 0))),(25,.v (.int .i64 (s.2.length:Int)))]) (fun s=>[(4,.cells 184 [.own 5 s.1.up.length,.own 6 s.1.rank.length,.v (.int .i64 s.1.sets),.v (.int .i64 s.1.steps)]),(5,.row 3 1 (s.1.up.map nC)),(6,.row 3 1 (s.1.rank.map intC)),(9,.tok 138 2 s.2.length)]) (fun s=>g.parts.length-s.2.length) (S.F,[]) (⟨FSame.refl hF,Nat.zero_le _,fun j p q _ h=>by simp at h⟩) ?_ (fun s hs=>?_)
      ·
       simp only[zaA,zaB,zaq,zaz,mB,zc,zb,seval,bL];exact zcm
      simp only[zaA,zaB,zaq,zaz,mB,zc,zb,seval];refine zab fun Y1 y1=>?_;refine zaa ?_;simp only[↓bO,go_sem,seval,hrl,gM hx,intC];refine y1 _ ?_;(try clear y1 Y1);refine zab fun Y1 y1=>?_;refine zan rfl (fun hb26=>?_) (fun hb26=>?_)
      ·
       (have hk:s.2.length<g.parts.length:=by simpa using hb26);obtain ⟨p0,he⟩:∃w,g.parts[s.2.length]?=some w:=⟨_,zd hk⟩;have hpb:=hgp p0 (zl he);obtain ⟨p,rfl⟩:∃p:Nat,p0=(p:Int):=⟨p0.toNat,by omega⟩;have hw1:IntKind.i64.wrap ((s.2.length:Int)+1)=(s.2.length:Int)+1:=zaT (by omega) (by omega);(have hb1:(s.2.length+1) * 16≤140737488355328:=by omega);(have hb2:s.2.length+1≤maxLen:=by simp only[maxLen];omega);refine zar ?_;(try simp only[zaf,zad,zac]);refine y1 _ ?_;(try clear y1 Y1);refine zab fun Y1 y1=>?_;refine zav ?_;refine zab fun Y2 y2=>?_;refine zaa ?_;(iterate 2 (refine z8 1 fun Q0 q0=>?_;simp only[↓bO,go_sem,seval,hk,gM he,intC,hw1,hb1,hb2,za,zf,hrl,gM hx];refine q0 _ ?_;clear q0 Q0;simp only[go_sem]));simp only[↓bO,go_sem,seval,hk,gM he,intC,hw1,hb1,hb2,za,zf,hrl,gM hx];refine y2 _ ?_;(try clear y2 Y2);refine zaP [(8,0,[.ptr 0 0])] 11 rfl mixed (⟨⟨_,_,rfl,by simp,rfl,trivial,trivial⟩,trivial⟩) rfl ?_;dsimp only;refine zae 0 rfl (by kernel_rfl) (by kernel_rfl) (by kernel_rfl) (fun _ _ h=>h) fun Q0 q0=>?_;simp only[↓bO,go_sem,seval,hk,gM he,intC,hw1,hb1,hb2,za,zf,hrl,gM hx];refine q0 _ ?_;clear q0 Q0;refine zae 1 rfl (by kernel_rfl) (by kernel_rfl) (by kernel_rfl) (fun _ _ h=>h) fun Q0 q0=>?_;simp only[↓bO,go_sem,seval,hk,gM he,intC,hw1,hb1,hb2,za,zf,hrl,gM hx];refine q0 _ ?_;clear q0 Q0;refine zay 2 0 rfl rfl (by kernel_rfl) (by kernel_rfl) (by kernel_rfl) (fun _ _ h=>h) fun Q0 q0=>?_;simp only[↓bO,go_sem,seval,hk,gM he,intC,hw1,hb1,hb2,za,zf,hrl,gM hx];refine q0 _ ?_;clear q0 Q0;refine zae 3 rfl (by kernel_rfl) (by kernel_rfl) (by kernel_rfl) (fun _ _ h=>h) fun Q0 q0=>?_;simp only[↓bO,go_sem,seval,hk,gM he,intC,hw1,hb1,hb2,za,zf,hrl,gM hx];refine q0 _ ?_;clear q0 Q0;refine zay 4 0 rfl rfl (by kernel_rfl) (by kernel_rfl) (by kernel_rfl) (fun _ _ h=>h) fun Q0 q0=>?_;simp only[↓bO,go_sem,seval,hk,gM he,intC,hw1,hb1,hb2,za,zf,hrl,gM hx];refine q0 _ ?_;clear q0 Q0;refine zae 5 rfl (by kernel_rfl) (by kernel_rfl) (by kernel_rfl) (fun _ _ h=>h) fun Q0 q0=>?_;simp only[↓bO,go_sem,seval,hk,gM he,intC,hw1,hb1,hb2,za,zf,hrl,gM hx];refine q0 _ ?_;clear q0 Q0;refine zag (i:=6) (by kernel_rfl) ?_
       ·
        refine zal rfl rfl fun Q0 q0=>?_;simp only[↓bO,go_sem,seval,hk,gM he,intC,hw1,hb1,hb2,za,zf,hrl,gM hx];refine CCalls.at (zeu {S with F:=s.1} hs.1.inv p (by dsimp only;rw[hs.1.len];omega)) (.cons (.v _) .nil) (fun _=>.v _) (i0:=0) (i1:=1) (i2:=2) (i3:=3) (i4:=4) (i5:=5) (i6:=6) (i7:=7) (by decide) (by simp) ⟨rfl,rfl,rfl,rfl,rfl,rfl,rfl,rfl,trivial⟩ (fun S1 r1 hS1=>?_);(try dsimp only at hS1);simp only[zaL,zu,zy,zx,zaq,zaz,Nat.reduceEqDiff,↓reduceIte];obtain ⟨F1,rfl⟩:∃F1,S1={S with F:=F1}:=⟨S1.F,hS1.2.2⟩;dsimp only at hS1;have hF1:=hs.1.trans hS1.1;have hrt:=(hs.1.rt _ _).1 hS1.2.1;(have hmap:s.2.map (zaw 0)++[[.ptr 0 0,.v (.int .i64 (r1:Int))]]=(s.2++[r1]).map (zaw 0):=by simp[zaw]);(try simp only[bS,bA]);refine q0 _ ⟨⟨⟨_,_,rfl,by simp,rfl,trivial,trivial⟩,trivial⟩,?_⟩;clear q0 Q0;refine zag (i:=7) (by kernel_rfl) ?_
        ·
         refine zal rfl rfl fun Q0 q0=>?_;simp only[↓bO,go_sem,seval,hk,gM he,intC,hw1,hb1,hb2,za,zf,hrl,gM hx,hmap];refine q0 _ ⟨⟨⟨_,_,rfl,by simp,rfl,trivial,trivial⟩,trivial⟩,?_⟩;clear q0 Q0;refine zag (i:=8) (by kernel_rfl) ?_
         ·
          refine zal rfl rfl fun Q0 q0=>?_;simp only[↓bO,go_sem,seval,↓zbX,↓zbT,↓zbY,↓zbW,↓zb0,↓zbS,↓zbR,↓zbQ,↓zbZ,↓zbo,↓zbp,↓zbq,hk,gM he,intC,hw1,hb1,hb2,za,zf,hrl,gM hx,hmap];refine q0 _ ⟨⟨⟨_,_,rfl,by simp,rfl,trivial,trivial⟩,trivial⟩,?_⟩;clear q0 Q0;refine zag (i:=9) (by kernel_rfl) ?_
          ·
           refine zal rfl rfl fun Q0 q0=>?_;simp only[↓bO,go_sem,seval,hk,gM he,intC,hw1,hb1,hb2,za,zf,hrl,gM hx,hmap];refine q0 _ ⟨⟨⟨_,_,rfl,by simp,rfl,trivial,trivial⟩,trivial⟩,?_⟩;clear q0 Q0;refine zae 10 rfl (by kernel_rfl) (by kernel_rfl) (by kernel_rfl) (fun _ _ h=>h) fun Q0 q0=>?_;simp only[↓bO,go_sem,seval,hk,gM he,intC,hw1,hb1,hb2,za,zf,hrl,gM hx,hmap];refine q0 _ ?_;clear q0 Q0;refine zaG (by kernel_rfl) ?_;simp only[zaf,zad,zac];refine y1 _ ?_;(try clear y1 Y1);refine zaa ?_;refine z8 1 fun Q0 q0=>?_;simp only[↓bO,go_sem,seval,hk,gM he,intC,hw1,hb1,hb2,za,zf,hrl,gM hx,hmap];refine q0 _ ?_;clear q0 Q0;simp only[go_sem];simp only[↓bO,go_sem,seval,hk,gM he,intC,hw1,hb1,hb2,za,zf,hrl,gM hx,hmap];refine ⟨(F1,s.2++[r1]),⟨hF1,by simp only[zf,zi,zm];omega,zjq hs.2.2 he hrt⟩,(by simp only[zf,zi,zm];omega),?_⟩;simp only[zaA,zaB,zaq,zaz,mB,zc,zb,seval,hk,gM he,intC,hw1,hb1,hb2,za,zL,zP,zf,hrl,gM hx,Int.ofNat_lt,hmap];exact zcm
      ·
       (have hk:s.2.length=g.parts.length:=by (have h9:=hb26;simp at h9;have:=hs.2.1;omega));refine zaV ?_;simp only[zaf,zad,zac,bA,Nat.reduceEqDiff,↓reduceIte];refine y0 _ ?_;(try clear y0 Y0);refine zab fun Y0 y0=>?_;refine zaa ?_;refine z8 1 fun Q0 q0=>?_;simp only[↓bO,go_sem,seval,hrl,gM hx,intC];refine q0 _ ?_;clear q0 Q0;simp only[go_sem];simp only[↓bO,go_sem,seval,hrl,gM hx,intC];refine y0 _ ?_;(try clear y0 Y0);refine zam ?_;(try simp only[zaf,zad,zac,zaZ,zaW,zaC,bS,bA]);refine ⟨_,zai 0 (zaF ({S with F:=s.1})),⟨({S with F:=s.1},s.2),?_,rfl,rfl⟩,Und.parts (by omega) _,zcp (by omega) _,?_,?_,by omega⟩;· exact ⟨hs.1,rfl,.inr ⟨hpos,g,hg,hk,hs.2.2⟩⟩
       ·
        exact Le.oslL
       · first | (refine ⟨2,rfl,rfl⟩) | (refine ⟨1,rfl,rfl⟩) | (refine ⟨2,by simp only[zaF,zai,zw,zk,Nat.reduceAdd],rfl⟩) | (refine ⟨1,by simp only[zaF,zai,zw,zk,Nat.reduceAdd],rfl⟩)
theorem zhU (S:CS) (hF:FInv S.F) (hv:∀n k,zaM S.G.V n=some k→0≤k∧k<(S.F.up.length:Int)) (hc:S.clash=false) (v i0:Int) (hi:zaM S.G.V v=some i0):CCalls (σ:=Nat) 97 [.ptr 0 0,.v (.int .i64 v)] (S) (fun s=>FSame S.F s.1.F∧s.1={S with F:=s.1.F}∧Rt S.F.up i0.toNat s.2) (fun s=>.tup [.agg (zaw 0 s),.v (.bool true)]):=by
  refine ACalls.clean (C:=fun zr zo=>∃s:CS×Nat,(FSame S.F s.1.F∧s.1={S with F:=s.1.F}∧Rt S.F.up i0.toNat s.2)∧zr=(fun s:Nat=>.tup [.agg (zaw 0 s),.v (.bool true)]) s.2∧zo=zai 0 (zaF s.1)) ?_;refine zah Tryz.func97 (by kernel_rfl) rfl (by rw[Tryz.ntmps97];simp) (fun hm=>?_);simp only[Tryz.ntmps97,Tryz.results97,zi,zm,Nat.reduceAdd,Nat.reduceSub,zt,zq,zh,zj];simp only[zaF,zai,Nat.reduceAdd];have hib:=hv _ _ hi;obtain ⟨i,rfl⟩:∃i:Nat,i0=(i:Int):=⟨i0.toNat,by omega⟩;refine zab fun Y0 y0=>?_;refine zaa ?_;refine z8 1 fun Q0 q0=>?_;simp only[↓bO,go_sem,seval];refine q0 _ ?_;clear q0 Q0;simp only[go_sem];simp only[↓bO,go_sem,seval];refine y0 _ ?_;(try clear y0 Y0);refine zab fun Y0 y0=>?_;refine zaa ?_;(iterate 2 (refine z8 1 fun Q0 q0=>?_;simp only[↓bO,go_sem,seval];refine q0 _ ?_;clear q0 Q0;simp only[go_sem]));refine z8 1 fun Q0 q0=>?_;simp only[↓bO,go_sem,seval];refine CCalls.at (zhG S v) (.cons (.v _) .nil) (fun _=>.tup (.cons (.v _) (.cons (.v _) .nil))) (i0:=0) (i1:=1) (i2:=2) (i3:=3) (i4:=4) (i5:=5) (i6:=6) (i7:=7) (by decide) (by simp) ⟨rfl,rfl,rfl,rfl,rfl,rfl,rfl,rfl,trivial⟩ (fun Z9 u9 hZ9=>?_);(try dsimp only at hZ9);simp only[zaL,zu,zy,zx,zaq,zaz,Nat.reduceEqDiff,↓reduceIte];obtain ⟨hZ,rfl⟩:=hZ9;obtain rfl:S=Z9:=hZ.symm;rw[nodeG_of hc hi];(try simp only[bS,bA,zaf,zad,zac]);(iterate 4 (refine q0 _ ?_;clear q0 Q0;simp only[go_sem];refine z8 1 fun Q0 q0=>?_;simp only[↓bO,go_sem,seval]));refine q0 _ ?_;clear q0 Q0;simp only[go_sem];simp only[↓bO,go_sem,seval];refine y0 _ ?_;(try clear y0 Y0);refine zab fun Y0 y0=>?_;refine zab fun Y1 y1=>?_;refine zaa ?_;refine z8 1 fun Q0 q0=>?_;simp only[↓bO,go_sem,seval];refine q0 _ ?_;clear q0 Q0;simp only[go_sem];simp only[↓bO,go_sem,seval];refine y1 _ ?_;(try clear y1 Y1);refine zan rfl (fun hb15=>?_) (fun hb15=>?_)
  ·
   exact absurd hb15 (by simp)
  ·
   refine zar ?_;(try simp only[zaf,zad,zac]);refine y0 _ ?_;(try clear y0 Y0);refine zab fun Y0 y0=>?_;refine zaa ?_;(iterate 3 (refine z8 1 fun Q0 q0=>?_;simp only[↓bO,go_sem,seval];refine q0 _ ?_;clear q0 Q0;simp only[go_sem]));refine z8 1 fun Q0 q0=>?_;simp only[↓bO,go_sem,seval];refine CCalls.at (zeu S hF i (by omega)) (.cons (.v _) .nil) (fun _=>.v _) (i0:=0) (i1:=1) (i2:=2) (i3:=3) (i4:=4) (i5:=5) (i6:=6) (i7:=7) (by decide) (by simp) ⟨rfl,rfl,rfl,rfl,rfl,rfl,rfl,rfl,trivial⟩ (fun S1 r1 hS1=>?_);(try dsimp only at hS1);simp only[zaL,zu,zy,zx,zaq,zaz,Nat.reduceEqDiff,↓reduceIte];obtain ⟨F1,rfl⟩:∃F,S1={S with F:=F}:=⟨S1.F,hS1.2.2⟩;dsimp only at hS1;(try simp only[bS,bA,zaf,zad,zac]);(iterate 2 (refine q0 _ ?_;clear q0 Q0;simp only[go_sem];refine z8 1 fun Q0 q0=>?_;simp only[↓bO,go_sem,seval]));refine q0 _ ?_;clear q0 Q0;simp only[go_sem];simp only[↓bO,go_sem,seval];refine y0 _ ?_;(try clear y0 Y0);refine zam ?_;(try simp only[zaf,zad,zac,zaZ,zaW,zaC,bS,bA,zbH,zaJ,zce,bL,Nat.reduceAdd,Nat.reduceLeDiff,Nat.reduceEqDiff,↓reduceIte,ti138,zS,zK,Int.natCast_nonneg]);refine ⟨_,zai 0 (zaF ({S with F:=F1})),⟨({S with F:=F1},r1),?_,rfl,rfl⟩,.tup ⟨.agg ⟨.ptr (by omega),.v _ _,trivial⟩,.v _ _,trivial⟩,zcp (by omega) _,?_,?_,by omega⟩;· exact ⟨hS1.1,rfl,hS1.2.1⟩
   ·
    exact Le.refl _
   · first | (refine ⟨1,rfl,rfl⟩) | (refine ⟨0,rfl,rfl⟩) | (refine ⟨1,by simp only[zaF,zai,zw,zk,Nat.reduceAdd],rfl⟩) | (refine ⟨0,by simp only[zaF,zai,zw,zk,Nat.reduceAdd],rfl⟩)
end Go.Proofs.YtpfiliamceimmaaGreatDoor
namespace Go.Proofs.YtpfiliamceimmaaGreatDoor
open Go Go.RowKit
attribute [local irreducible] aops za1
theorem HeldC.next {E:List (Nat×Nat)} {c:List Int} {s a b:Nat} (h:HeldC (E.take s) c) (he:E[s]?=some (a,b)) (ha:a<c.length) (hb:b<c.length):HeldC (E.take (s+1)) (zds c a b):=by
  rw[List.take_add_one,he];intro e hm;(rcases zG.1 hm with hm | hm);(· exact h.join a b e hm);· simp at hm;subst hm;exact zfQ ha hb
structure CLoop (M:List RNode) (E:List (Nat×Nat)) (c0:List Int) (p:List Int×Bool):Prop where
  col:Col M E p.1
  held:HeldC E p.1
  eq:p.2=false→p.1=c0
  lt:p.2=true→ndC p.1<ndC c0
theorem CLoop.le {M:List RNode} {E:List (Nat×Nat)} {c0:List Int} {p:List Int×Bool} (h:CLoop M E c0 p):ndC p.1≤ndC c0:=by
  cases hp:p.2 with
  | false=>rw[h.eq hp];exact zW _
  | true=>exact Nat.le_of_lt (h.lt hp)
theorem CLoop.join {M:List RNode} {E:List (Nat×Nat)} {c0:List Int} {p:List Int×Bool} (h:CLoop M E c0 p) {a b:Nat} (ha:a<M.length) (hb:b<M.length) (hc:Cl (shR M) E a b) (hne:¬p.1[a]?=p.1[b]?):CLoop M E c0 (zds p.1 a b,true):=by
  have hl:=h.col.len;refine ⟨h.col.join ha hb hc,h.held.join a b,fun e=>(by cases e),fun _=>?_⟩;exact Nat.lt_of_lt_of_le (ndC_join (by omega) (by omega) hne) h.le
end Go.Proofs.YtpfiliamceimmaaGreatDoor
namespace Go.Proofs.YtpfiliamceimmaaGreatDoor
open Go Go.RowKit
attribute [local irreducible] aops za1
theorem zgj:∀{l:List (Ty×Ty)} {e:Ty×Ty},e∈l→e.1.cnt+e.2.cnt≤zcl l
  | x::l,e,h=>by
    simp only[zcl];(rcases zM.1 h with rfl | h);(· omega);· have:=zgj h;omega
end Go.Proofs.YtpfiliamceimmaaGreatDoor
namespace Go.Proofs.YtpfiliamceimmaaGreatDoor
open Go Go.RowKit
attribute [local irreducible] aops za1
theorem Und.eptr {n:Nat} {cs:List AV} (h:UndL n cs):Und n (.eptr cs):=fun E A w u hr=>by
  cases hr with
  | eptr g hcell hh=>exact .eptr g hcell fun j c hc=>h.mem c (zl hc) E A w _ (hh j c hc)
structure PSt (l:List (Ty×Ty)) (M:List RNode) (c:List Int) (S:CS):Prop where
  h:Holds l S
  hc:ColE l c
  m:M=(eqF l).1
  len:M.length≤1048576
  keys:S.G.V.map Prod.fst=vns M
theorem PSt.fsame {l:List (Ty×Ty)} {M:List RNode} {c:List Int} {S:CS} {F1:FS} (h:PSt l M c S) (k:FSame S.F F1):PSt l M c {S with F:=F1}:=⟨h.h.fsame k rfl,h.hc,h.m,h.len,h.keys⟩
theorem PSt.h64 {l:List (Ty×Ty)} {M:List RNode} {c:List Int} {S:CS} (h:PSt l M c S):∀q∈S.G.V,is64 q.1:=fun q hq=>vns_64 h.h.2.rel q.1 (by rw[← h.m,← h.keys];exact zC.2 ⟨q,hq,rfl⟩)
theorem PSt.vl {l:List (Ty×Ty)} {M:List RNode} {c:List Int} {S:CS} (h:PSt l M c S):S.G.V.length≤1048576:=by
  have h1:=congrArg List.length h.keys;rw[zS] at h1;(have h2:(vns M).length≤M.length:=by unfold vns;rw[zS];exact List.length_filter_le _ _);have h3:=h.len;omega
theorem PSt.sort {l:List (Ty×Ty)} {M:List RNode} {c:List Int} {S:CS} (h:PSt l M c S):zbV (S.G.V.map Prod.fst)=zgB M:=by rw[h.keys,ziG]
theorem PSt.col {l:List (Ty×Ty)} {M:List RNode} {c:List Int} {S:CS} (h:PSt l M c S):c.length=M.length:=by rw[h.m];exact h.hc.len
theorem PSt.nl {l:List (Ty×Ty)} {M:List RNode} {c:List Int} {S:CS} (h:PSt l M c S):S.F.up.length=M.length:=by rw[h.h.2.w.c.fl,h.h.2.w.c.wl,h.m,h.h.2.rel.len]
theorem PSt.least {l:List (Ty×Ty)} {M:List RNode} {c:List Int} {S:CS} (h:PSt l M c S) {i r:Nat} (hi:i<M.length) (hr:Rt S.F.up i r):zbf S r (zbV (S.G.V.map Prod.fst))=((clsN M c i (zgB M)).head?).getD (-1):=by
  rw[h.sort];have hm:=h.m;subst hm;exact h.h.least_eq h.hc hi hr
structure PAt (M:List RNode) (c:List Int) (S:CS) (i:Nat) (x:Int):Prop where
  no:x<0→zbO M c i=-1∧zjJ M c i=0
  yes:0≤x→∃(k:Nat) (g:GNode) (y:RNode),zbO M c i=(k:Int)∧S.G.N[x.toNat]?=some g∧M[k]?=some y∧zjJ M c i=g.k∧1≤g.k∧g.parts.length=y.parts.length∧g.parts.length≤8∧(∀p∈g.parts,0≤p∧p<(S.F.up.length:Int)) ∧
    ∀(j:Nat) (p q:Int),g.parts[j]?=some p→y.parts[j]?=some q→0≤q∧q<(M.length:Int)∧∀r',Rt S.F.up p.toNat r'→Rt S.F.up q.toNat r'
theorem PSt.part {l:List (Ty×Ty)} {M:List RNode} {c:List Int} {S:CS} (h:PSt l M c S) {i r:Nat} {x:Int} (hi:i<M.length) (hr:Rt S.F.up i r) (hx:S.W[r]?=some x):PAt M c S i x:=by
  have hm:=h.m;subst hm;have h1:=h.h.part h.hc hi hr hx;exact ⟨h1.no,h1.yes⟩
theorem PAt.g0 {M:List RNode} {c:List Int} {S:CS} {i:Nat} {x:Int} (h:PAt M c S i x):0≤x→∃g,S.G.N[x.toNat]?=some g∧1≤g.k∧g.parts.length≤8∧∀p∈g.parts,0≤p∧p<(S.F.up.length:Int):=fun h1=>by
  obtain ⟨_,g,_,_,h2,_,_,h3,_,h4,h5,_⟩:=h.yes h1;exact ⟨g,h2,h3,h4,h5⟩
theorem PAt.neg {M:List RNode} {c:List Int} {S:CS} {i:Nat} {x:Int} (h:PAt M c S i x):x<0↔zbO M c i<0:=by
  constructor;· intro h1;have:=(h.no h1).1;omega
  · intro h1
    (rcases Int.lt_or_le x 0 with h2 | h2);· exact h2
    · obtain ⟨k,_,_,h3,_⟩:=h.yes h2
      omega
def Roots (S:CS) (x:Int) (rs:List Nat):Prop:=(x<0∧rs=[])∨(0≤x∧∃g,S.G.N[x.toNat]?=some g∧rs.length=g.parts.length∧∀(j:Nat) (p:Int) (q:Nat),g.parts[j]?=some p→rs[j]?=some q→Rt S.F.up p.toNat q)
end Go.Proofs.YtpfiliamceimmaaGreatDoor
namespace Go.Proofs.YtpfiliamceimmaaGreatDoor
open Go Go.RowKit
theorem var_at {l:List (Ty×Ty)} {M:List RNode} {c:List Int} {S:CS} (h:PSt l M c S) {a:Int} {q:Nat} (hq:zbK (RNode.isVar a) M=(q:Int)):zaM S.G.V a=some (q:Int):=by
  have hm:=h.m;subst hm;(rcases h.h.vf a with ⟨_,h2⟩ | ⟨j,h1,h2,h3⟩);· omega
  · obtain rfl:j=q:=by omega
    exact h1
theorem PSt.g0 {l:List (Ty×Ty)} {M:List RNode} {c:List Int} {S:CS} (h:PSt l M c S):∀(r:Nat) (x:Int),Rt S.F.up r r→S.W[r]?=some x→0≤x→∃g,S.G.N[x.toNat]?=some g∧1≤g.k∧g.parts.length≤8∧∀p∈g.parts,0≤p∧p<(S.F.up.length:Int):=fun r x hr hx h0 =>
  (h.part (by rw[← h.nl];exact hr.lt) hr hx).g0 h0
end Go.Proofs.YtpfiliamceimmaaGreatDoor
namespace Go.Proofs.YtpfiliamceimmaaGreatDoor
open Go Go.RowKit
def zcx {α:Type}:List (Int×α)→Int→Option α
  | [],_=>none
  | (k,x)::r,i=>if k=i then some x else zcx r i
def zfE {α:Type}:List (Int×α)→Int→α→List (Int×α)
  | [],k,x=>[(k,x)]
  | (k',y)::r,k,x=>if k'=k then (k,x)::r else (k',y)::zfE r k x
theorem zbw {α:Type} (k j:Int) (x:α):∀V:List (Int×α),zcx (zfE V k x) j=if j=k then some x else zcx V j
  | []=>by
    simp only[zfE,zcx]
    by_cases h:k=j
    · subst h;simp
    · rw[if_neg h,if_neg (fun e=>h e.symm)]
  | (k',y)::r=>by
    unfold zfE
    by_cases h:k'=k
    · subst h
      simp only[if_true,zcx]
      by_cases hj:j=k'
      (· subst hj;simp);· rw[if_neg (fun e=>hj e.symm),if_neg hj,if_neg (fun e=>hj e.symm)]
    · simp only[if_neg h,zcx,zbw k j x r]
      by_cases hj:k'=j
      (· subst hj;simp[h]);· simp[hj]
theorem zfx {α:Type} (c:α→AV) (k:Int):∀V:List (Int×α),zbU (V.map fun p=>(p.1,c p.2)) k=(zcx V k).map c
  | []=>rfl
  | (k',y)::r=>by
    simp only[zI,zbU,zcx];split;(· rfl);· exact zfx c k r
theorem zgN {α:Type} (c:α→AV) (k:Int) (x:α):∀V:List (Int×α),zdR (V.map fun p=>(p.1,c p.2)) k (c x)=(zfE V k x).map fun p=>(p.1,c p.2)
  | []=>rfl
  | (k',y)::r=>by
    simp only[zI,zdR,zfE];split;(· rfl);· rw[zgN c k x r];rfl
structure WS where
  st:List (Int×Int)
  cy:List (Int×Bool)
  de:List (Int×Int)
  sz:List (Int×Int)
  steps:Int
  bad:Bool
def WS0:WS:=⟨[],[],[],[],0,false⟩
def WS.sg (W:WS) (r:Nat):Int:=(zcx W.st r).getD 0
def WS.cg (W:WS) (r:Nat):Bool:=(zcx W.cy r).getD false
def WS.dg (W:WS) (r:Nat):Int:=(zcx W.de r).getD 0
def WS.zg (W:WS) (r:Nat):Int:=(zcx W.sz r).getD 0
def WS.tick (W:WS):WS:={W with steps:=W.steps+1}
def WS.begin (W:WS) (r:Nat):WS:={W with steps:=W.steps+1,st:=zfE W.st r 1}
def WS.mark (W:WS) (r:Nat):WS:={W with cy:=zfE W.cy r true}
def zbt (id:Nat):List Nat→WS→WS
  | [],W=>W
  | r::rest,W=>if r=id then W.mark r else zbt id rest (W.mark r)
abbrev most:Int:=1099511627776
def zaI (r:Nat) (s:(Int×Int)×WS) (p:Nat):(Int×Int)×WS:=((max s.1.1 (s.2.dg p),min most (s.1.2+s.2.zg p)),{s.2 with cy:=zfE s.2.cy r (s.2.cg r||s.2.cg p)})
def zaR (r:Nat) (ch:List Nat) (W:WS):(Int×Int)×WS:=ch.foldl (zaI r) ((0,1),{W with st:=zfE W.st r 2})
def WS.fin (W:WS) (r:Nat) (ch:List Nat):WS:={(zaR r ch W).2 with de:=zfE (zaR r ch W).2.de r (min most ((zaR r ch W).1.1+1)),sz:=zfE (zaR r ch W).2.sz r (zaR r ch W).1.2}
theorem ze8 {a b:Nat} (h:a≠b):¬((a:Int)=(b:Int)):=by omega
theorem WS.cg_mark (W:WS) (r x:Nat):(W.mark r).cg x=if x=r then true else W.cg x:=by
  unfold WS.cg WS.mark;rw[zbw]
  by_cases h:x=r
  (· subst h;simp);· rw[if_neg (ze8 h),if_neg h]
theorem WS.sg_begin (W:WS) (r x:Nat):(W.begin r).sg x=if x=r then 1 else W.sg x:=by
  unfold WS.sg WS.begin;rw[zbw]
  by_cases h:x=r
  (· subst h;simp);· rw[if_neg (ze8 h),if_neg h]
theorem zcS (id:Nat):∀(l:List Nat) (W:WS),(zbt id l W).st=W.st∧(zbt id l W).de=W.de∧(zbt id l W).sz=W.sz∧(zbt id l W).steps=W.steps∧(zbt id l W).bad=W.bad
  | [],_=>⟨rfl,rfl,rfl,rfl,rfl⟩
  | r::rest,W=>by
    unfold zbt;split;(· exact ⟨rfl,rfl,rfl,rfl,rfl⟩);· exact zcS id rest (W.mark r)
theorem zhs (id:Nat):∀(l:List Nat) (W:WS),(∀x,(zbt id l W).cg x=true→W.cg x=true∨x∈l)∧(∀x,W.cg x=true→(zbt id l W).cg x=true)∧(id∈l→(zbt id l W).cg id=true)
  | [],W=>⟨fun _ h=>.inl h,fun _ h=>h,fun h=>by cases h⟩
  | r::rest,W=>by
    unfold zbt;split
    · rename_i e
      subst e;refine ⟨fun x h=>?_,fun x h=>?_,fun _=>?_⟩
      · rw[WS.cg_mark] at h
        (split at h);(· rename_i e;subst e;exact .inr (by simp));· exact .inl h
      (· rw[WS.cg_mark];split <;> simp_all);· rw[WS.cg_mark,if_pos rfl]
    · rename_i hne
      obtain ⟨h1,h2,h3⟩:=zhs id rest (W.mark r);refine ⟨fun x h=>?_,fun x h=>h2 x ?_,fun h=>h3 ?_⟩
      · rcases h1 x h with h4 | h4
        · rw[WS.cg_mark] at h4
          (split at h4);(· rename_i e;subst e;exact .inr (by simp));· exact .inl h4
        · exact .inr (by simp[h4])
      · rw[WS.cg_mark];split <;> simp_all
      · rcases zM.1 h with e | h
        (· exact absurd e.symm hne);· exact h
theorem zb8 (r:Nat):∀(ch:List Nat) (s:(Int×Int)×WS),(ch.foldl (zaI r) s).2.st=s.2.st∧(ch.foldl (zaI r) s).2.de=s.2.de∧(ch.foldl (zaI r) s).2.sz=s.2.sz∧(ch.foldl (zaI r) s).2.steps=s.2.steps∧(ch.foldl (zaI r) s).2.bad=s.2.bad ∧
    (∀x,x≠r→(ch.foldl (zaI r) s).2.cg x=s.2.cg x)∧((ch.foldl (zaI r) s).2.cg r=true↔s.2.cg r=true∨∃p∈ch,s.2.cg p=true) ∧
    (ch.foldl (zaI r) s).1=ch.foldl (fun a p=>(max a.1 (s.2.dg p),min most (a.2+s.2.zg p))) s.1
  | [],s=>⟨rfl,rfl,rfl,rfl,rfl,fun _ _=>rfl,by simp,rfl⟩
  | p::ch,s=>by
    obtain ⟨h1,h2,h3,h4,h5,h6,h7,h8⟩:=zb8 r ch (zaI r s p)
    have hcg:∀x,(zaI r s p).2.cg x=if x=r then (s.2.cg r||s.2.cg p) else s.2.cg x:=fun x=>by
      unfold zaI WS.cg;(simp only);rw[zbw]
      by_cases h:x=r
      (· subst h;simp);· rw[if_neg (ze8 h),if_neg h]
    refine ⟨h1,h2,h3,h4,h5,fun x hx=>?_,?_,h8⟩;· rw[List.foldl_cons,h6 x hx,hcg x,if_neg hx]
    · rw[List.foldl_cons,h7,hcg r,if_pos rfl,Bool.or_eq_true]
      constructor
      · rintro ((h | h) | ⟨q,hq,h⟩)
        (· exact .inl h);· exact .inr ⟨p,by simp,h⟩
        · rw[hcg q] at h
          split at h
          · rcases Bool.or_eq_true _ _▸h with h | h
            (· exact .inl h);· exact .inr ⟨p,by simp,h⟩
          · exact .inr ⟨q,by simp[hq],h⟩
      · rintro (h | ⟨q,hq,h⟩)
        · exact .inl (.inl h)
        · rcases zM.1 hq with rfl | hq
          · exact .inl (.inr h)
          · refine .inr ⟨q,hq,?_⟩
            rw[hcg q];split;(· rename_i e;subst e;simp[h]);· exact h
def zhZ (f:Nat→Int×Int) (ch:List Nat):Int×Int :=
  ((ch.foldl (fun a p=>(max a.1 (f p).1,min most (a.2+(f p).2))) ((0,1):Int×Int)).1+1,(ch.foldl (fun a p=>(max a.1 (f p).1,min most (a.2+(f p).2))) ((0,1):Int×Int)).2)
theorem WS.fin_spec (W:WS) (r:Nat) (ch:List Nat):(∀x,(W.fin r ch).sg x=if x=r then 2 else W.sg x)∧(∀x,x≠r→(W.fin r ch).cg x=W.cg x)∧((W.fin r ch).cg r=true↔W.cg r=true∨∃p∈ch,W.cg p=true) ∧
    (∀x,(W.fin r ch).dg x=if x=r then min most (zhZ (fun p=>(W.dg p,W.zg p)) ch).1 else W.dg x)∧(∀x,(W.fin r ch).zg x=if x=r then (zhZ (fun p=>(W.dg p,W.zg p)) ch).2 else W.zg x)∧(W.fin r ch).steps=W.steps∧(W.fin r ch).bad=W.bad:=by
  obtain ⟨h1,h2,h3,h4,h5,h6,h7,h8⟩:=zb8 r ch ((0,1),{W with st:=zfE W.st r 2});refine ⟨fun x=>?_,h6,h7,fun x=>?_,fun x=>?_,h4,h5⟩
  · unfold WS.sg WS.fin zaR
    (simp only);rw[h1];(simp only);rw[zbw]
    by_cases h:x=r
    (· subst h;simp);· rw[if_neg (ze8 h),if_neg h]
  · unfold WS.dg WS.fin zaR
    (simp only);rw[h2,zbw,h8]
    by_cases h:x=r
    (· subst h;simp[zhZ,WS.dg,WS.zg]);· rw[if_neg (ze8 h),if_neg h]
  · unfold WS.zg WS.fin zaR
    (simp only);rw[h3,zbw,h8]
    by_cases h:x=r
    (· subst h;simp[zhZ,WS.dg,WS.zg]);· rw[if_neg (ze8 h),if_neg h]
inductive Rch (K:Nat→List Nat):Nat→Nat→Prop
  | refl (u:Nat):Rch K u u
  | step {u v w:Nat} (h:v∈K u) (k:Rch K v w):Rch K u w
theorem Rch.trans {K:Nat→List Nat} {u v w:Nat} (h:Rch K u v) (k:Rch K v w):Rch K u w:=by
  induction h with
  | refl _=>exact k
  | step h _ ih=>exact .step h (ih k)
def Pls (K:Nat→List Nat) (u w:Nat):Prop:=∃v∈K u,Rch K v w
theorem Pls.of_rch {K:Nat→List Nat} {u v w:Nat} (h:Rch K u v) (k:w∈K v):Pls K u w:=by
  induction h with
  | refl _=>exact ⟨w,k,.refl _⟩
  | step h _ ih =>
    obtain ⟨x,hx,hr⟩:=ih k;exact ⟨_,h,.step hx hr⟩
def Lp (K:Nat→List Nat) (r:Nat):Prop:=∃y,Rch K r y∧Pls K y y
theorem Lp.step {K:Nat→List Nat} {u v:Nat} (h:v∈K u) (k:Lp K v):Lp K u:=by
  obtain ⟨y,h1,h2⟩:=k;exact ⟨y,.step h h1,h2⟩
inductive Tl (K:Nat→List Nat):Nat→Int×Int→Prop
  | mk (u:Nat) (f:Nat→Int×Int) (h:∀v∈K u,Tl K v (f v)):Tl K u (zhZ f (K u))
def Frs (K:Nat→List Nat) (P:Nat→Prop):Option Nat→List (Nat×Nat)→Prop
  | _,[]=>True
  | a,(u,nx)::rest=>nx≤(K u).length∧(∀(j v:Nat),j<nx→(K u)[j]?=some v→P v∨a=some v)∧(∀v,a=some v→v∈K u)∧Frs K P (some u) rest
theorem Frs.mono {K:Nat→List Nat} {P P':Nat→Prop} (h:∀v,P v→P' v):∀{a:Option Nat} {l:List (Nat×Nat)},Frs K P a l→Frs K P' a l
  | _,[],_=>trivial
  | _,(_,_)::_,⟨h1,h2,h3,h4⟩=>⟨h1,fun j v hj hv=>(h2 j v hj hv).imp (h v) id,h3,Frs.mono h h4⟩
theorem Frs.reach {K:Nat→List Nat} {P:Nat→Prop}:∀{l:List (Nat×Nat)} {t:Nat},Frs K P (some t) l→∀p∈l,Rch K p.1 t
  | (u,nx)::rest,t,⟨_,_,h3,h4⟩,p,hp=>by
    have ht:Rch K u t:=.step (h3 t rfl) (.refl _);(rcases zM.1 hp with rfl | hp);(· exact ht);· exact (Frs.reach h4 p hp).trans ht
structure DfI (K:Nat→List Nat) (N:Nat) (W:WS) (stk:List (Nat×Nat)) (fo:List Nat):Prop where
  nd:(fo++stk.map Prod.fst).Nodup
  lt:∀r∈fo++stk.map Prod.fst,r<N
  s2:∀r,r∈fo→W.sg r=2
  s1:∀r,r∈stk.map Prod.fst→W.sg r=1
  s0:∀r,r∉fo→r∉stk.map Prod.fst→W.sg r=0
  fi:∀(i u:Nat),fo[i]?=some u→∀v∈K u,v∈fo.take i∨W.cg v=true
  fr:Frs K (fun v=>v∈fo∨W.cg v=true) none stk
  cys:∀r,W.cg r=true→Lp K r
  cyb:∀r,W.cg r=true→W.bad=true
  cym:∀r,W.cg r=true→r∈fo++stk.map Prod.fst
  bds:W.bad=true→∃y∈fo++stk.map Prod.fst,Pls K y y
  tol:W.bad=false→∀(i u:Nat),fo[i]?=some u→Tl K u (W.dg u,W.zg u)∧1≤W.dg u∧W.dg u≤(i:Int)+1
theorem DfI.nil (K:Nat→List Nat) (N:Nat):DfI K N WS0 [] [] :=
  ⟨by simp,by simp,by simp,by simp,fun _ _ _=>rfl,by simp,trivial,fun r h=>(by cases h),fun r h=>(by cases h),fun r h=>(by cases h),fun h=>(by cases h),by simp⟩
theorem DfI.tick {K:Nat→List Nat} {N:Nat} {W:WS} {stk:List (Nat×Nat)} {fo:List Nat} (h:DfI K N W stk fo):DfI K N W.tick stk fo:=⟨h.nd,h.lt,h.s2,h.s1,h.s0,h.fi,h.fr,h.cys,h.cyb,h.cym,h.bds,h.tol⟩
theorem DfI.begin {K:Nat→List Nat} {N:Nat} {W:WS} {stk:List (Nat×Nat)} {fo:List Nat} {q:Nat} (h:DfI K N W stk fo) (hq:W.sg q=0) (hN:q<N) (hfr:Frs K (fun v=>v∈fo∨W.cg v=true) (some q) stk):DfI K N (W.begin q) ((q,0)::stk) fo:=by
  (have hqf:q∉fo:=fun hm=>by rw[h.s2 q hm] at hq;cases hq);(have hqs:q∉stk.map Prod.fst:=fun hm=>by rw[h.s1 q hm] at hq;cases hq);refine ⟨?_,?_,fun r hr=>?_,fun r hr=>?_,fun r hr hr2=>?_,h.fi,⟨Nat.zero_le _,fun j v hj=>by omega,fun v hv=>(by cases hv),hfr⟩,h.cys,h.cyb,fun r hr=>?_,fun hb=>?_,h.tol⟩
  · rw[zI]
    refine List.Perm.nodup_iff (List.perm_middle) |>.2 (List.nodup_cons.2 ⟨?_,h.nd⟩);rw[zG];rintro (hm | hm);(· exact hqf hm);· exact hqs hm
  · intro r hr
    rw[zI,zG,zM] at hr;(rcases hr with hr | rfl | hr);(· exact h.lt r (by simp[hr]));(· exact hN);· exact h.lt r (zG.2 (.inr hr))
  · rw[WS.sg_begin,if_neg (fun (e:r=q)=>hqf (e▸hr))];exact h.s2 r hr
  · rw[WS.sg_begin]
    split;· rfl
    · rename_i hne
      rw[zI,zM] at hr;exact h.s1 r (hr.resolve_left hne)
  · rw[zI,zM,not_or] at hr2
    rw[WS.sg_begin,if_neg hr2.1];exact h.s0 r hr hr2.2
  · have:=h.cym r hr
    rw[zI,zG,zM];(rcases zG.1 this with h1 | h1);(· exact .inl h1);· exact .inr (.inr h1)
  · obtain ⟨y,hy,hp⟩:=h.bds hb
    refine ⟨y,?_,hp⟩;rw[zI,zG,zM];(rcases zG.1 hy with h1 | h1);(· exact .inl h1);· exact .inr (.inr h1)
theorem DfI.push {K:Nat→List Nat} {N:Nat} {W:WS} {stk:List (Nat×Nat)} {fo:List Nat} {u nx q:Nat} (h:DfI K N W ((u,nx)::stk) fo) (hk:(K u)[nx]?=some q) (hq:W.sg q=0) (hN:q<N):DfI K N (W.begin q) ((q,0)::(u,nx+1)::stk) fo:=by
  obtain ⟨f1,f2,f3,f4⟩:=h.fr;have hl:=(ze.1 hk).1
  have hfr:Frs K (fun v=>v∈fo∨W.cg v=true) (some q) ((u,nx+1)::stk):=⟨hl,fun j v hj hv=>by
    rcases zO j nx with h1 | h1
    · rcases f2 j v h1 hv with h2 | h2
      (· exact .inl h2);· cases h2
    · obtain rfl:j=nx:=by omega
      rw[hk] at hv;cases hv;exact .inr rfl,fun v hv=>by cases hv;exact zl hk,f4⟩
  have h2:DfI K N W ((u,nx+1)::stk) fo→DfI K N (W.begin q) ((q,0)::(u,nx+1)::stk) fo:=fun h=>h.begin hq hN hfr
  -- the frame's own part is the new frame: shown of the state ahead by the same fields
  (have hqf:q∉fo:=fun hm=>by rw[h.s2 q hm] at hq;cases hq);(have hqs:q∉((u,nx)::stk).map Prod.fst:=fun hm=>by rw[h.s1 q hm] at hq;cases hq);have hb:=h.begin (q:=q) hq hN ⟨f1,fun j v hj hv=>.inl ((f2 j v hj hv).resolve_right (fun e=>by cases e)),fun v hv=>by cases hv;exact zl hk,f4⟩;exact ⟨hb.nd,hb.lt,hb.s2,hb.s1,hb.s0,hb.fi,⟨Nat.zero_le _,fun j v hj=>by omega,fun v hv=>(by cases hv),hfr⟩,hb.cys,hb.cyb,hb.cym,hb.bds,hb.tol⟩
theorem DfI.pass {K:Nat→List Nat} {N:Nat} {W:WS} {stk:List (Nat×Nat)} {fo:List Nat} {u nx q:Nat} (h:DfI K N W ((u,nx)::stk) fo) (hk:(K u)[nx]?=some q) (hq:q∈fo∨W.cg q=true):DfI K N W ((u,nx+1)::stk) fo:=by
  obtain ⟨f1,f2,f3,f4⟩:=h.fr;refine ⟨h.nd,h.lt,h.s2,h.s1,h.s0,h.fi,⟨(ze.1 hk).1,fun j v hj hv=>?_,fun v hv=>(by cases hv),f4⟩,h.cys,h.cyb,h.cym,h.bds,h.tol⟩;(rcases zO j nx with h1 | h1);· exact f2 j v h1 hv
  · obtain rfl:j=nx:=by omega
    rw[hk] at hv;cases hv;exact .inl hq
theorem DfI.done {K:Nat→List Nat} {N:Nat} {W:WS} {stk:List (Nat×Nat)} {fo:List Nat} {r:Nat} (h:DfI K N W stk fo) (h0:W.sg r≠0) (h1:W.sg r≠1):r∈fo :=
  Classical.byContradiction fun hn=>by
    by_cases hs:r∈stk.map Prod.fst
    (· exact h1 (h.s1 r hs));· exact h0 (h.s0 r hn hs)
theorem DfI.isOpen {K:Nat→List Nat} {N:Nat} {W:WS} {stk:List (Nat×Nat)} {fo:List Nat} {r:Nat} (h:DfI K N W stk fo) (h1:W.sg r=1):r∈stk.map Prod.fst :=
  Classical.byContradiction fun hn=>by
    by_cases hs:r∈fo
    (· rw[h.s2 r hs] at h1;cases h1);· rw[h.s0 r hs hn] at h1;cases h1
theorem DfI.back {K:Nat→List Nat} {N:Nat} {W:WS} {stk:List (Nat×Nat)} {fo:List Nat} {u nx q:Nat} (h:DfI K N W ((u,nx)::stk) fo) (hk:(K u)[nx]?=some q) (hq:W.sg q=1) :
    DfI K N (zbt q (((u,nx)::stk).map Prod.fst) {W with bad:=true}) ((u,nx+1)::stk) fo:=by
  have hqs:=h.isOpen hq;obtain ⟨f1,f2,f3,f4⟩:=h.fr;obtain ⟨m1,m2,m3,m4,m5⟩:=zcS q (((u,nx)::stk).map Prod.fst) {W with bad:=true};obtain ⟨c1,c2,c3⟩:=zhs q (((u,nx)::stk).map Prod.fst) {W with bad:=true}
  have hru:∀x∈((u,nx)::stk).map Prod.fst,Rch K x u:=fun x hx=>by
    obtain ⟨p,hp,rfl⟩:=zC.1 hx;(rcases zM.1 hp with rfl | hp);(· exact .refl _);· exact Frs.reach f4 p hp
  have hkm:=zl hk;have hqq:Pls K q q:=Pls.of_rch (hru q hqs) hkm;(have hlp:∀x∈((u,nx)::stk).map Prod.fst,Lp K x:=fun x hx=>⟨q,(hru x hx).trans (.step hkm (.refl _)),hqq⟩);have hsg:∀r,(zbt q (((u,nx)::stk).map Prod.fst) {W with bad:=true}).sg r=W.sg r:=fun r=>by unfold WS.sg;rw[m1]
  refine ⟨h.nd,h.lt,fun r hr=>by rw[hsg];exact h.s2 r hr,fun r hr=>by rw[hsg];exact h.s1 r hr,fun r h1 h2=>by rw[hsg];exact h.s0 r h1 h2,fun i u' hu v hv=>(h.fi i u' hu v hv).imp id (c2 v),⟨(ze.1 hk).1,fun j v hj hv=>?_,fun v hv=>(by cases hv),Frs.mono (fun v hv=>hv.imp id (c2 v)) f4⟩,
    fun r hr=>?_,fun r hr=>by rw[m5],fun r hr=>?_,fun _=>⟨q,zG.2 (.inr hqs),hqq⟩,fun hb=>by rw[m5] at hb;cases hb⟩
  · rcases zO j nx with h1 | h1
    · exact (f2 j v h1 hv).imp (fun h=>h.imp id (c2 v)) id
    · obtain rfl:j=nx:=by omega
      rw[hk] at hv;cases hv;exact .inl (.inr (c3 hqs))
  · rcases c1 r hr with h1 | h1
    (· exact h.cys r h1);· exact hlp r h1
  · rcases c1 r hr with h1 | h1
    (· exact h.cym r h1);· exact zG.2 (.inr h1)
theorem zj5 {f:Nat→Int×Int} {n:Int} (hn:0≤n):∀{ch:List Nat} (_:∀v∈ch,(f v).1≤n),1≤(zhZ f ch).1∧(zhZ f ch).1≤n+1:=by
  have key:∀(ch:List Nat) (a:Int×Int),0≤a.1→a.1≤n→(∀v∈ch,(f v).1≤n)→0≤(ch.foldl (fun a p=>(max a.1 (f p).1,min most (a.2+(f p).2))) a).1∧(ch.foldl (fun a p=>(max a.1 (f p).1,min most (a.2+(f p).2))) a).1≤n:=by
    intro ch
    induction ch with
    | nil=>intro a h1 h2 _;exact ⟨h1,h2⟩
    | cons p ch ih =>
      intro a h1 h2 h3;have:=h3 p (by simp);exact ih _ (by simp only;omega) (by simp only;omega) fun v hv=>h3 v (by simp[hv])
  intro ch h;have:=key ch (0,1) (by simp) (by simpa using hn) h;unfold zhZ;(simp only);omega
theorem zdl:∀{N:Nat} {l:List Nat},l.Nodup→(∀r∈l,r<N)→l.length≤N
  | 0,l,_,hl=>by
    cases l with
    | nil=>simp
    | cons a l=>exact absurd (hl a (by simp)) (by omega)
  | N+1,l,hn,hl=>by
    by_cases h:N∈l
    · have h1:=zdl (N:=N) (hn.erase N) fun r hr=>by
        have h2:=(hn.mem_erase_iff).1 hr;have:=hl r h2.2;omega
      rw[List.length_erase_of_mem h] at h1;omega
    · have h1:=zdl (N:=N) hn fun r hr=>by
        have h2:=hl r hr;(have:r≠N:=fun e=>h (e▸hr));omega
      omega
theorem DfI.fin {K:Nat→List Nat} {N:Nat} {W:WS} {stk:List (Nat×Nat)} {fo:List Nat} {u nx:Nat} (h:DfI K N W ((u,nx)::stk) fo) (hnx:(K u).length≤nx) (hN:(N:Int)≤1048576):DfI K N (W.fin u (K u)) stk (fo++[u]):=by
  obtain ⟨f1,f2,f3,f4⟩:=h.fr;obtain ⟨g1,g2,g3,g4,g5,g6,g7⟩:=W.fin_spec u (K u)
  have hch:∀v∈K u,v∈fo∨W.cg v=true:=fun v hv=>by
    obtain ⟨j,hj,rfl⟩:=zZ.1 hv;(rcases f2 j _ (by omega) (zd hj) with h1 | h1);(· exact h1);· cases h1
  have hmono:∀x,W.cg x=true→(W.fin u (K u)).cg x=true:=fun x hx=>by
    by_cases e:x=u
    (· subst e;exact g3.2 (.inl hx));· rw[g2 x e];exact hx
  (have hperm:(fo++[u]++stk.map Prod.fst)=fo++((u,nx)::stk).map Prod.fst:=by simp);have hnd:=h.nd
  have huf:u∉fo:=fun hm=>by
    have:=(List.nodup_append.1 hnd).2.2 u hm u (by simp);exact this rfl
  have hus:u∉stk.map Prod.fst:=by
    have:=(List.nodup_append.1 hnd).2.1;rw[zI,List.nodup_cons] at this;exact this.1
  refine ⟨by rw[hperm];exact hnd,by rw[hperm];exact h.lt,fun r hr=>?_,fun r hr=>?_,fun r h1 h2=>?_,fun i v hv w hw=>?_,?_,fun r hr=>?_,fun r hr=>?_,fun r hr=>?_,fun hb=>?_,fun hb i v hv=>?_⟩
  · rw[g1]
    split;· rfl
    · rename_i hne
      exact h.s2 r ((zG.1 hr).resolve_right (by simpa using hne))
  · rw[g1,if_neg (fun (e:r=u)=>hus (e▸hr))]
    exact h.s1 r (by rw[zI];exact List.mem_cons_of_mem _ hr)
  · have hne:r≠u:=fun e=>h1 (by simp[e])
    rw[g1,if_neg hne];exact h.s0 r (fun hm=>h1 (zG.2 (.inl hm))) (by rw[zI,zM,not_or];exact ⟨hne,h2⟩)
  · have hi:i<(fo++[u]).length:=(ze.1 hv).1
    rw[zf,List.length_singleton] at hi;rcases zO i fo.length with h1 | h1
    · rw[zE h1] at hv
      rw[List.take_append_of_le_length (by omega)];exact (h.fi i v hv w hw).imp id (hmono w)
    · obtain rfl:i=fo.length:=by omega
      rw[zJ (zW _),Nat.sub_self] at hv;(cases hv);rw[List.take_left'];(· exact (hch w hw).imp id (hmono w));· rfl
  · cases stk with
    | nil=>trivial
    | cons p stk =>
      obtain ⟨u2,nx2⟩:=p;obtain ⟨k1,k2,k3,k4⟩:=f4;refine ⟨k1,fun j v hj hv=>.inl ?_,fun v hv=>(by cases hv),Frs.mono (fun v hv=>?_) k4⟩
      · rcases k2 j v hj hv with h1 | h1
        (· exact h1.imp (fun h=>by simp[h]) (hmono v));· cases h1;exact .inl (by simp)
      · exact hv.imp (fun h=>by simp[h]) (hmono v)
  · by_cases e:r=u
    · subst e
      (rcases g3.1 hr with h1 | ⟨p,hp,h1⟩);(· exact h.cys _ h1);· exact (h.cys p h1).step hp
    · rw[g2 r e] at hr;exact h.cys r hr
  · rw[g7]
    by_cases e:r=u
    · subst e
      (rcases g3.1 hr with h1 | ⟨p,hp,h1⟩);(· exact h.cyb _ h1);· exact h.cyb p h1
    · rw[g2 r e] at hr;exact h.cyb r hr
  · rw[hperm]
    by_cases e:r=u
    (· subst e;simp);· rw[g2 r e] at hr;exact h.cym r hr
  · rw[g7] at hb
    rw[hperm];exact h.bds hb
  · rw[g7] at hb
    have hcf:∀x,W.cg x=false:=fun x=>by
      cases hc:W.cg x with
      | false=>rfl
      | true=>rw[h.cyb x hc] at hb;cases hb
    have hi:i<(fo++[u]).length:=(ze.1 hv).1;rw[zf,List.length_singleton] at hi;rcases zO i fo.length with h1 | h1
    · rw[zE h1] at hv
      (have hne:v≠u:=fun e=>huf (e▸zl hv));rw[g4,g5,if_neg hne,if_neg hne];exact h.tol hb i v hv
    · obtain rfl:i=fo.length:=by omega
      rw[zJ (zW _),Nat.sub_self] at hv;(cases hv);have hin:∀v∈K u,v∈fo:=fun v hv=>(hch v hv).resolve_right (by rw[hcf v];decide)
      have hval:∀v∈K u,Tl K v (W.dg v,W.zg v)∧W.dg v≤(fo.length:Int):=fun v hv=>by
        obtain ⟨j,hj,e⟩:=zZ.1 (hin v hv);obtain ⟨t1,_,t3⟩:=h.tol hb j v (by rw[zd hj,e]);exact ⟨t1,by omega⟩
      have hbd:=zj5 (f:=fun p=>(W.dg p,W.zg p)) (n:=(fo.length:Int)) (by omega) (ch:=K u) fun v hv=>(hval v hv).2
      have hlen:fo.length≤N:=by
        have h2:(fo++((u,nx)::stk).map Prod.fst).length≤N:=zdl hnd h.lt;rw[zf] at h2;omega
      (have hmin:min most (zhZ (fun p=>(W.dg p,W.zg p)) (K u)).1=(zhZ (fun p=>(W.dg p,W.zg p)) (K u)).1:=by simp only[most];omega);rw[g4,g5,if_pos rfl,if_pos rfl,hmin];exact ⟨.mk u _ fun v hv=>(hval v hv).1,hbd.1,hbd.2⟩
end Go.Proofs.YtpfiliamceimmaaGreatDoor
namespace Go.Proofs.YtpfiliamceimmaaGreatDoor
open Go Go.RowKit
section
variable {K:Nat→List Nat} {N:Nat} {W:WS} {fo:List Nat}
theorem DfI.closed (h:DfI K N W [] fo) {u v:Nat} (hu:u∈fo) (hv:v∈K u):v∈fo:=by
  obtain ⟨i,hi,e⟩:=zZ.1 hu;(rcases h.fi i u (by rw[zd hi,e]) v hv with h1 | h1);(· exact List.mem_of_mem_take h1);· simpa using h.cym v h1
theorem DfI.rch (h:DfI K N W [] fo) {u w:Nat} (hr:Rch K u w):u∈fo→w∈fo:=by
  induction hr with
  | refl _=>exact id
  | step hv _ ih=>exact fun hu=>ih (h.closed hu hv)
theorem DfI.down (h:DfI K N W [] fo) {x w:Nat} (hr:Rch K x w):(∀v,Rch K x v→W.cg v=false)→∀i:Nat,fo[i]?=some x→∃j:Nat,j≤i∧fo[j]?=some w:=by
  induction hr with
  | refl _=>exact fun _ i hi=>⟨i,zW _,hi⟩
  | @step u v w hv hr ih =>
    intro hm i hi;rcases h.fi i u hi v hv with h1 | h1
    · obtain ⟨j,hj,e⟩:=zZ.1 h1
      rw[List.length_take] at hj;rw[List.getElem_take] at e;obtain ⟨k,hk1,hk2⟩:=ih (fun z hz=>hm z (.step hv hz)) j (by rw[zd (by omega),e]);exact ⟨k,by omega,hk2⟩
    · rw[hm v (.step hv (.refl _))] at h1;cases h1
theorem DfI.loop_marked (h:DfI K N W [] fo) {u:Nat} (hu:u∈fo) (hl:Pls K u u):∃v,Rch K u v∧W.cg v=true:=Classical.byContradiction fun hn=>by
  have hm:∀v,Rch K u v→W.cg v=false:=fun v hv=>by
    cases hc:W.cg v with
    | false=>rfl
    | true=>exact absurd ⟨v,hv,hc⟩ hn
  obtain ⟨i,hi,e⟩:=zZ.1 hu;(have hiu:fo[i]?=some u:=by rw[zd hi,e]);obtain ⟨v,hv,hr⟩:=hl;rcases h.fi i u hiu v hv with h1 | h1
  · obtain ⟨j,hj,e1⟩:=zZ.1 h1
    rw[List.length_take] at hj;rw[List.getElem_take] at e1;obtain ⟨k,hk1,hk2⟩:=h.down hr (fun z hz=>hm z (.step hv hz)) j (by rw[zd (by omega),e1]);(have hnd:fo.Nodup:=by simpa using h.nd);have hkl:=(ze.1 hk2).1;have hp:=List.pairwise_iff_getElem.1 hnd k i hkl hi (by omega);rw[(ze.1 hk2).2,e] at hp;exact hp rfl
  · rw[hm v (.step hv (.refl _))] at h1;cases h1
theorem DfI.bad_iff (h:DfI K N W [] fo):W.bad=true↔∃y∈fo,Pls K y y:=by
  constructor;· intro hb;simpa using h.bds hb
  · rintro ⟨y,hy,hl⟩
    obtain ⟨v,_,hv⟩:=h.loop_marked hy hl;exact h.cyb v hv
theorem Lp.of_rch {u v:Nat} (h:Rch K u v) (k:Lp K v):Lp K u:=by
  obtain ⟨y,h1,h2⟩:=k;exact ⟨y,h.trans h1,h2⟩
theorem DfI.told (h:DfI K N W [] fo) (hb:W.bad=false) {u:Nat} (hu:u∈fo):Tl K u (W.dg u,W.zg u):=by
  obtain ⟨i,hi,e⟩:=zZ.1 hu;exact (h.tol hb i u (by rw[zd hi,e])).1
theorem zjB {f g:Nat→Int×Int} {ch:List Nat} (h:∀v∈ch,f v=g v):zhZ f ch=zhZ g ch:=by
  have key:∀(ch:List Nat) (a:Int×Int),(∀v∈ch,f v=g v)→ch.foldl (fun a p=>(max a.1 (f p).1,min most (a.2+(f p).2))) a=ch.foldl (fun a p=>(max a.1 (g p).1,min most (a.2+(g p).2))) a:=by
    intro ch
    induction ch with
    | nil=>intro a _;rfl
    | cons p ch ih =>
      intro a h;rw[List.foldl_cons,List.foldl_cons,h p (by simp)];exact ih _ fun v hv=>h v (by simp[hv])
  unfold zhZ;rw[key ch (0,1) h]
theorem Tl.det {u:Nat} {a b:Int×Int} (h:Tl K u a):Tl K u b→a=b:=by
  induction h generalizing b with
  | mk u f hf ih =>
    intro hb
    cases hb with
    | mk _ g hg=>exact zjB fun v hv=>ih v hv (hg v hv)
end
def sumK (K:Nat→List Nat):List Nat→Nat
  | []=>0
  | u::l=>(K u).length+sumK K l
theorem zi8 (K:Nat→List Nat) (u:Nat):∀l,sumK K (l++[u])=sumK K l+(K u).length
  | []=>by simp[sumK]
  | v::l=>by simp only[zh,sumK,zi8 K u l];omega
theorem zh3 {K:Nat→List Nat} (h:∀u,(K u).length≤8):∀l,sumK K l≤8 * l.length
  | []=>by simp[sumK]
  | v::l=>by
    have:=h v;have:=zh3 h l;simp only[sumK,zi];omega
def sumN:List (Nat×Nat)→Nat
  | []=>0
  | p::l=>p.2+sumN l
structure StI (K:Nat→List Nat) (W:WS) (stk:List (Nat×Nat)) (fo:List Nat) (c:Int):Prop where
  pos:0≤W.steps
  le:W.steps+(stk.length:Int)≤3 * ((fo.length:Int)+(stk.length:Int))+(sumK K fo:Int)+(sumN stk:Int)+c
theorem StI.nil (K:Nat→List Nat):StI K WS0 [] [] 0:=⟨by simp[WS0],by simp[WS0,sumK,sumN]⟩
theorem StI.start {K:Nat→List Nat} {W:WS} {fo:List Nat} {q:Nat} (h:StI K W [] fo 0):StI K (W.begin q) [(q,0)] fo 0:=by
  have h1:=h.pos;have h2:=h.le;refine ⟨?_,?_⟩;(· simp only[WS.begin];omega);· simp only[WS.begin,sumN,zi,zm,Nat.add_zero,zR] at h2 ⊢;omega
theorem StI.tick {K:Nat→List Nat} {W:WS} {stk:List (Nat×Nat)} {fo:List Nat} (h:StI K W stk fo 0):StI K W.tick stk fo 1:=by
  have h1:=h.pos;have h2:=h.le;refine ⟨?_,?_⟩;(· simp only[WS.tick];omega);· simp only[WS.tick];omega
theorem StI.part {K:Nat→List Nat} {W:WS} {stk:List (Nat×Nat)} {fo:List Nat} {u nx:Nat} (h:StI K W ((u,nx)::stk) fo 1):StI K W.tick ((u,nx+1)::stk) fo 1:=by
  have h1:=h.pos;have h2:=h.le;refine ⟨?_,?_⟩;(· simp only[WS.tick];omega);· simp only[WS.tick,sumN,zi] at h2 ⊢;omega
theorem StI.push {K:Nat→List Nat} {W:WS} {stk:List (Nat×Nat)} {fo:List Nat} {q:Nat} (h:StI K W stk fo 1):StI K (W.begin q) ((q,0)::stk) fo 0:=by
  have h1:=h.pos;have h2:=h.le;refine ⟨?_,?_⟩;(· simp only[WS.begin];omega);· simp only[WS.begin,sumN,zi] at h2 ⊢;omega
theorem StI.back {K:Nat→List Nat} {W:WS} {stk:List (Nat×Nat)} {fo:List Nat} {c:Int} (h:StI K W stk fo c) (q:Nat) (l:List Nat):StI K (zbt q l {W with bad:=true}) stk fo c:=by
  obtain ⟨_,_,_,e,_⟩:=zcS q l {W with bad:=true};exact ⟨by rw[e];exact h.pos,by rw[e];exact h.le⟩
theorem StI.fin {K:Nat→List Nat} {W:WS} {stk:List (Nat×Nat)} {fo:List Nat} {u nx:Nat} (h:StI K W ((u,nx)::stk) fo 1) (hn:nx≤(K u).length):StI K (W.fin u (K u)) stk (fo++[u]) 0:=by
  have h1:=h.pos;have h2:=h.le;have e:=(W.fin_spec u (K u)).2.2.2.2.2.1;refine ⟨by rw[e];exact h1,?_⟩;rw[e,zi8];simp only[sumN,zi,zf,zm] at h2 ⊢;omega
theorem StI.bound {K:Nat→List Nat} {W:WS} {fo:List Nat} (h:StI K W [] fo 0) (hk:∀u,(K u).length≤8):W.steps≤11 * (fo.length:Int):=by
  have h2:=h.le;have h3:=zh3 hk fo;simp only[sumN,zm] at h2;omega
end Go.Proofs.YtpfiliamceimmaaGreatDoor
namespace Go.Proofs.YtpfiliamceimmaaGreatDoor
open Go Go.RowKit
theorem RenO.rowR {ρ:Nat→Nat} {i t sz:Nat} {xs ys:List (List AV)} (hl:ys.length=xs.length) (hsz:(∀x∈xs,x.length=sz)↔∀y∈ys,y.length=sz) (hr:RenL ρ xs.flatten ys.flatten):RenO ρ i (.row t sz xs) (.row t sz ys):=by
  refine ⟨fun E=>rfl,rfl,fun E A w=>⟨?_,?_⟩⟩
  · rintro ⟨h1,h2,h3⟩
    refine ⟨by rw[hl];exact h1,hsz.1 h2,?_⟩;(rcases h3 with h3 | ⟨b,cap,cur,h3,h4,h5,h6,h7,h8⟩);· exact .inl (by rw[hl];exact h3)
    · refine .inr ⟨b,cap,cur,by rw[hl];exact h3,by rw[hl];exact h4,h5,h6,h7,fun j c u hc hu=>?_⟩
      obtain ⟨x,hx,hv⟩:=hr.get' j c hc;exact (hv E A w u).1 (h8 j x u hx hu)
  · rintro ⟨h1,h2,h3⟩
    refine ⟨by rw[← hl];exact h1,hsz.2 h2,?_⟩;(rcases h3 with h3 | ⟨b,cap,cur,h3,h4,h5,h6,h7,h8⟩);· exact .inl (by rw[← hl];exact h3)
    · refine .inr ⟨b,cap,cur,by rw[← hl];exact h3,by rw[← hl];exact h4,h5,h6,h7,fun j c u hc hu=>?_⟩
      obtain ⟨y,hy,hv⟩:=hr.get j c hc;exact (hv E A w u).2 (h8 j y u hy hu)
abbrev cI (n:Int):AV:=.v (.int .i64 n)
abbrev cB (b:Bool):AV:=.v (.bool b)
def mC {α:Type} (c:α→AV) (V:List (Int×α)):List (Int×AV):=V.map fun p=>(p.1,c p.2)
theorem za5 (V:List (Int×Int)):∀p∈mC cI V,Data p.2:=fun p hp=>by
  obtain ⟨q,_,rfl⟩:=zC.1 hp;exact .v _
theorem zbJ (V:List (Int×Bool)):∀p∈mC cB V,Data p.2:=fun p hp=>by
  obtain ⟨q,_,rfl⟩:=zC.1 hp;exact .v _
theorem zaj (V:List (Int×Int)) (k:Int):(zbU (mC cI V) k).getD (.v (.int .i64 0))=.v (.int .i64 ((zcx V k).getD 0)):=by
  rw[mC,zfx];cases zcx V k <;> rfl
theorem zak (V:List (Int×Bool)) (k:Int):(zbU (mC cB V) k).getD (.v (.bool false))=.v (.bool ((zcx V k).getD false)):=by
  rw[mC,zfx];cases zcx V k <;> rfl
theorem zat (V:List (Int×Int)) (k x:Int):zdR (mC cI V) k (.v (.int .i64 x))=mC cI (zfE V k x):=zgN cI k x V
theorem zas (V:List (Int×Bool)) (k:Int) (x:Bool):zdR (mC cB V) k (.v (.bool x))=mC cB (zfE V k x):=zgN cB k x V
def frC (K:Nat→List Nat) (p:Nat×Nat):List AV:=[.v (.int .i64 (p.1:Int)),.sl 2 ((K p.1).map (zaw 0)),.v (.int .i64 (p.2:Int))]
theorem RenL.app {ρ:Nat→Nat}:∀{a a' b b':List AV},RenL ρ a a'→RenL ρ b b'→RenL ρ (a++b) (a'++b')
  | [],[],_,_,_,h=>h
  | _::_,_::_,_,_,⟨h1,h2⟩,h=>⟨h1,RenL.app h2 h⟩
theorem RenL.frames {ρ:Nat→Nat} (K:Nat→List Nat) (h:ρ 0=0):∀l:List (Nat×Nat),RenL ρ (l.map (frC K)).flatten (l.map (frC K)).flatten
  | []=>trivial
  | p::l=>by
    rw[zI,List.flatten_cons];exact RenL.app ⟨.v _,.parts h _,.v _,trivial⟩ (RenL.frames K h l)
theorem Und.frames {n:Nat} (K:Nat→List Nat) (h:0<n) (l:List (Nat×Nat)):∀x∈l.map (frC K),UndL n x:=fun x hx=>by
  obtain ⟨p,_,rfl⟩:=zC.1 hx;exact ⟨.v _ _,.parts h _,.v _ _,trivial⟩
theorem Und.frame {n:Nat} (K:Nat→List Nat) (h:0<n) (p:Nat×Nat):UndL n (frC K p):=⟨.v _ _,.parts h _,.v _ _,trivial⟩
def zjr (S:CS) (r:Nat) (rs:List Nat):Prop:=∃x,S.W[r]?=some x∧Roots S x rs
theorem Roots.det {S:CS} {x:Int} {a b:List Nat} (h:Roots S x a) (k:Roots S x b):a=b:=by
  rcases h with ⟨h1,rfl⟩ | ⟨h1,g,hg,hl,ha⟩
  · rcases k with ⟨_,rfl⟩ | ⟨k1,_⟩
    (· rfl);· omega
  · rcases k with ⟨k1,_⟩ | ⟨_,g',hg',hl',hb⟩
    · omega
    · rw[hg] at hg';cases hg'
      refine List.ext_getElem (by omega) fun j h1 h2=>?_;have hp:g.parts[j]?=some (g.parts[j]'(by omega)):=zd (by omega);exact Rt.det (ha j _ _ hp (zd h1)) (hb j _ _ hp (zd h2))
open Classical in
noncomputable def za3 (S:CS) (r:Nat):List Nat:=if h:∃rs,zjr S r rs then Classical.choose h else []
theorem zdC {S:CS} {r:Nat} {rs:List Nat} (h:zjr S r rs):za3 S r=rs:=by
  classical
  have h1:∃rs,zjr S r rs:=⟨rs,h⟩;unfold za3;rw[dif_pos h1];obtain ⟨x,hx,hr⟩:=h;obtain ⟨x',hx',hr'⟩:=Classical.choose_spec h1;rw[hx] at hx';cases hx';exact hr'.det hr
theorem Roots.fsame {S:CS} {F1:FS} (k:FSame S.F F1) {x:Int} {rs:List Nat}:Roots {S with F:=F1} x rs↔Roots S x rs:=by
  unfold Roots;constructor
  · rintro (h | ⟨h1,g,h2,h3,h4⟩)
    (· exact .inl h);· exact .inr ⟨h1,g,h2,h3,fun j p q hp hq=>(k.rt _ _).1 (h4 j p q hp hq)⟩
  · rintro (h | ⟨h1,g,h2,h3,h4⟩)
    (· exact .inl h);· exact .inr ⟨h1,g,h2,h3,fun j p q hp hq=>(k.rt _ _).2 (h4 j p q hp hq)⟩
theorem zb6 {S:CS} {F1:FS} (k:FSame S.F F1) (r:Nat):za3 {S with F:=F1} r=za3 S r:=by
  classical
  have h:∀rs,zjr {S with F:=F1} r rs↔zjr S r rs:=fun rs=>⟨fun ⟨x,h1,h2⟩=>⟨x,h1,(Roots.fsame k).1 h2⟩,fun ⟨x,h1,h2⟩=>⟨x,h1,(Roots.fsame k).2 h2⟩⟩
  by_cases he:∃rs,zjr S r rs
  · obtain ⟨rs,hrs⟩:=he
    rw[zdC hrs,zdC ((h rs).2 hrs)]
  · unfold za3
    rw[dif_neg he,dif_neg (fun ⟨rs,hrs⟩=>he ⟨rs,(h rs).1 hrs⟩)]
structure CyG (S:CS):Prop where
  c:CInv S
  vin:∀n k,zaM S.G.V n=some k→0≤k∧k<(S.F.up.length:Int)
  g0:∀(r:Nat) (x:Int),Rt S.F.up r r→S.W[r]?=some x→0≤x→∃g,S.G.N[x.toNat]?=some g∧1≤g.k∧g.parts.length≤8∧∀p∈g.parts,0≤p∧p<(S.F.up.length:Int)
  h64:∀q∈S.G.V,is64 q.1
  vl:S.G.V.length≤1048576
  nl:S.F.up.length≤1048576
theorem CyG.fsame {S:CS} (h:CyG S) {F1:FS} (k:FSame S.F F1) (hc:CInv {S with F:=F1}):CyG {S with F:=F1} :=
  ⟨hc,fun n i hv=>by have:=h.vin n i hv;dsimp only;rw[k.len];exact this,fun r x hr hx h0=>by
    have:=h.g0 r x ((k.rt _ _).1 hr) hx h0
    dsimp only;rw[k.len];exact this,h.h64,h.vl,by dsimp only;rw[k.len];exact h.nl⟩
theorem zch {S:CS} (h:CyG S) (r:Nat):(za3 S r).length≤8:=by
  classical
  unfold za3;split
  · rename_i he
    obtain ⟨x,hx,hr⟩:=Classical.choose_spec he;(rcases hr with ⟨_,h2⟩ | ⟨_,g,hg,hl,_⟩);(· rw[h2];simp);· rw[hl];exact h.c.pl g (zl hg)
  · simp
theorem zct {S:CS} (r v:Nat) (hv:v∈za3 S r):Rt S.F.up v v:=by
  classical
  unfold za3 at hv;split at hv
  · rename_i he
    obtain ⟨x,hx,hr⟩:=Classical.choose_spec he;(rcases hr with ⟨_,h2⟩ | ⟨_,g,hg,hl,ha⟩);· rw[h2] at hv;cases hv
    · obtain ⟨j,hj,e⟩:=zZ.1 hv
      have:=ha j _ _ (zd (show j<g.parts.length by omega)) (zd hj);rw[e] at this;exact zcb.1 this.root
  · cases hv
end Go.Proofs.YtpfiliamceimmaaGreatDoor
namespace Go.Proofs.YtpfiliamceimmaaGreatDoor
open Go Go.RowKit
attribute [local irreducible] aops za1
theorem PSt.cyG {l:List (Ty×Ty)} {M:List RNode} {c:List Int} {S:CS} (h:PSt l M c S):CyG S :=
  ⟨h.h.2.w.c,h.h.2.vin,h.g0,h.h64,h.vl,by rw[h.nl];exact h.len⟩
theorem CyG.zero:CyG CS0 :=
  ⟨Holds.none.2.w.c,Holds.none.2.vin,fun r x _ hx=>by simp[CS0] at hx,fun q hq=>by simp[CS0] at hq,by simp[CS0],by simp[CS0]⟩
end Go.Proofs.YtpfiliamceimmaaGreatDoor
namespace Go.Proofs.YtpfiliamceimmaaGreatDoor
open Go Go.RowKit
structure WayH (N:Nat) (D K:Nat→List Nat) (ρ:Nat→Nat):Prop where
  lt:∀i,i<N→∀j∈D i,j<N
  hom:∀i,i<N→K (ρ i)=(D i).map ρ
section
variable {N:Nat} {D K:Nat→List Nat} {ρ:Nat→Nat}
theorem WayH.rch (h:WayH N D K ρ) {i j:Nat} (hr:Rch D i j):i<N→j<N∧Rch K (ρ i) (ρ j):=by
  induction hr with
  | refl u=>exact fun hi=>⟨hi,.refl _⟩
  | @step u v w hv _ ih =>
    intro hi;have hv':=h.lt u hi v hv;obtain ⟨h1,h2⟩:=ih hv';exact ⟨h1,.step (by rw[h.hom u hi];exact zC.2 ⟨v,hv,rfl⟩) h2⟩
theorem WayH.back (h:WayH N D K ρ) {y z:Nat} (hr:Rch K y z):∀i,i<N→ρ i=y→∃j,j<N∧Rch D i j∧ρ j=z:=by
  induction hr with
  | refl u=>exact fun i hi e=>⟨i,hi,.refl _,e⟩
  | @step u v w hv _ ih =>
    rintro i hi rfl;rw[h.hom i hi] at hv;obtain ⟨k,hk,rfl⟩:=zC.1 hv;obtain ⟨j,h1,h2,h3⟩:=ih k (h.lt i hi k hk) rfl;exact ⟨j,h1,.step hk h2,h3⟩
theorem WayH.pls (h:WayH N D K ρ) {i z:Nat} (hi:i<N):Pls K (ρ i) z↔∃j,j<N∧Pls D i j∧ρ j=z:=by
  constructor
  · rintro ⟨v,hv,hr⟩
    rw[h.hom i hi] at hv;obtain ⟨k,hk,rfl⟩:=zC.1 hv;obtain ⟨j,h1,h2,h3⟩:=h.back hr k (h.lt i hi k hk) rfl;exact ⟨j,h1,⟨k,hk,h2⟩,h3⟩
  · rintro ⟨j,hj,⟨v,hv,hr⟩,rfl⟩
    exact ⟨ρ v,by rw[h.hom i hi];exact zC.2 ⟨v,hv,rfl⟩,(h.rch hr (h.lt i hi v hv)).2⟩
theorem Pls.next {u v w:Nat} (h:Pls K u v) (k:w∈K v):Pls K u w:=by
  obtain ⟨x,hx,hr⟩:=h;exact ⟨x,hx,hr.trans (.step k (.refl _))⟩
open Classical in
theorem Tl.ex (hlt:∀i,i<N→∀j∈K i,j<N) (hno:∀y,y<N→¬Pls K y y):∀(n:Nat) (anc:List Nat),anc.length+n=N→anc.Nodup→(∀x∈anc,x<N)→∀i,i<N→(∀x∈anc,Pls K x i)→∃a,Tl K i a
  | n,anc,hn,hd,ha,i,hi,hp=>by
    (have hia:i∉anc:=fun hm=>hno i hi (hp i hm));have hd':(i::anc).Nodup:=List.nodup_cons.2 ⟨hia,hd⟩
    have ha':∀x∈i::anc,x<N:=fun x hx=>by
      (rcases zM.1 hx with rfl | hx);(· exact hi);· exact ha x hx
    have hle:=zdl hd' ha';rw[zi] at hle
    match n,hn with
    | 0,hn=>omega
    | n+1,hn =>
      have key:∀v∈K i,∃a,Tl K v a:=fun v hv=>Tl.ex hlt hno n (i::anc) (by rw[zi];omega) hd' ha' v (hlt i hi v hv) fun x hx=>by
        (rcases zM.1 hx with rfl | hx);(· exact ⟨v,hv,.refl _⟩);· exact (hp x hx).next hv
      exact ⟨_,.mk i (fun v=>if h:∃a,Tl K v a then Classical.choose h else (0,0)) fun v hv=>by
        have h:=key v hv;simp only[dif_pos h]
        exact Classical.choose_spec h⟩
theorem Tl.all (hlt:∀i,i<N→∀j∈K i,j<N) (hno:∀y,y<N→¬Pls K y y) {i:Nat} (hi:i<N):∃a,Tl K i a:=Tl.ex hlt hno N [] (by simp) (by simp) (by simp) i hi (by simp)
end
open Classical in
noncomputable def zbl (S:CS) (i:Nat):Nat:=if h:∃r,Rt S.F.up i r then Classical.choose h else 0
theorem zbA {S:CS} {i r:Nat} (h:Rt S.F.up i r):zbl S i=r:=by
  classical
  have h1:∃r,Rt S.F.up i r:=⟨r,h⟩;unfold zbl;rw[dif_pos h1];exact Rt.det (Classical.choose_spec h1) h
theorem zeU {S:CS} (h:CInv S) {i:Nat} (hi:i<S.G.N.length):Rt S.F.up i (zbl S i):=by
  obtain ⟨r,hr⟩:=h.root hi;rw[zbA hr];exact hr
def zda (M:List RNode) (c:List Int) (i:Nat):List Int:=if 0≤zbO M c i then ((M[(zbO M c i).toNat]?).map RNode.parts).getD [] else []
def zc9 (M:List RNode) (c:List Int) (i:Nat):List Nat:=(zda M c i).map Int.toNat
theorem zi9 {M:List RNode} {c:List Int} {i:Nat} (h:zbO M c i<0):zda M c i=[]:=by
  unfold zda;rw[if_neg (by omega)]
theorem ziN {M:List RNode} {c:List Int} {i k:Nat} {y:RNode} (h:zbO M c i=(k:Int)) (hy:M[k]?=some y):zda M c i=y.parts:=by
  unfold zda;rw[h,if_pos (by omega),zK,hy];rfl
theorem ziq {M:List RNode} {c:List Int} {i j:Nat} (h:c[i]?=c[j]?):zcc M c i=zcc M c j:=by
  (funext k);unfold zcc;rw[h]
theorem nextI_col {M:List RNode} {c:List Int} {i j:Nat} (h:c[i]?=c[j]?):zda M c i=zda M c j:=by
  unfold zda zbO;rw[ziq h]
section
variable {l:List (Ty×Ty)} {M:List RNode} {c:List Int} {S:CS}
theorem PSt.gl (h:PSt l M c S):S.G.N.length=M.length:=by rw[h.m];exact h.h.2.rel.len
theorem PSt.rt (h:PSt l M c S) {i:Nat} (hi:i<M.length):Rt S.F.up i (zbl S i):=zeU h.h.2.w.c (by rw[h.gl];exact hi)
theorem PSt.parts (h:PSt l M c S) {k:Nat} {y:RNode} (hy:M[k]?=some y):y.parts.length≤8∧∀p∈y.parts,0≤p∧p<(k:Int):=by
  have hm:=h.m;subst hm;have hk:=(ze.1 hy).1;(have hgl:k<S.G.N.length:=by rw[h.h.2.rel.len];exact hk);obtain ⟨_,_,f3,_,_,_,f7,f8⟩:=h.h.2.rel.node k _ _ (zd hgl) hy;refine ⟨by rw[← f3];exact h.h.2.w.c.pl _ (List.getElem_mem _),fun p hp=>?_⟩;obtain ⟨j,hj,e⟩:=zZ.1 hp;have h1:=f8 j p (y.t.ps[j]'(by omega)) (by rw[zd hj,e]) (zd _);exact ⟨h1.1,h1.2.1⟩
theorem PSt.kids_node (h:PSt l M c S) {k r:Nat} {y:RNode} (hy:M[k]?=some y) (hk:y.t.k≠1) (hr:Rt S.F.up k r):za3 S r=(y.parts.map Int.toNat).map (zbl S):=by
  have hml:=h.gl;have hpp:=h.parts hy;have hkl:=(ze.1 hy).1;have hm:=h.m;subst hm;have hW:=h.h.2.w;have hC:=hW.c;obtain ⟨x,hx⟩:=hC.wat hr;have hsk:shG S.G k=some (y.t.k,y.parts):=by rw[h.h.2.rel.sh];exact zdQ hy
  have hx0:0≤x:=by
    (rcases Int.lt_or_le x 0 with h1 | h1);(· exact absurd (hW.neg r k x _ _ hx h1 hr hsk) hk);· exact h1
  obtain ⟨hxr,d,ps,hsx,hd,hall⟩:=hW.pos r x (zcb.1 hr.root) hx hx0;obtain ⟨g,hg,hgk,hgp⟩:=shG_at hsx;obtain ⟨e1,e2,e3⟩:=hall k _ _ hr hsk hk;refine zdC ⟨x,hx,.inr ⟨hx0,g,hg,by rw[zS,zS,hgp];exact e2,fun j p q hp hq=>?_⟩⟩;rw[zY,zY] at hq
  cases hp':y.parts[j]? with
  | none=>rw[hp'] at hq;cases hq
  | some p' =>
    rw[hp'] at hq;simp only[z7,Option.some.injEq] at hq;subst hq;rw[hgp] at hp;have h9:=hpp.2 p' (zl hp');exact ((e3 j p p' hp hp').nil).rt (zeU hC (by omega))
theorem PSt.kids_next (h:PSt l M c S) {i r:Nat} (hi:i<M.length) (hr:Rt S.F.up i r):za3 S r=(zc9 M c i).map (zbl S):=by
  have hC:=h.h.2.w.c;rcases zcO M c i with ⟨h1,h2⟩ | ⟨k,h1,h2,h3⟩
  · obtain ⟨x,hx⟩:=hC.wat hr
    have hx0:x<0:=(h.part hi hr hx).neg.2 (by omega);rw[zc9,zi9 (by omega)];exact zdC ⟨x,hx,.inl ⟨hx0,rfl⟩⟩
  · obtain ⟨h4,h5⟩:=zcL.1 h3
    have hy:M[k]?=some (M[k]'h2):=zd h2;rw[hy] at h5;rw[zc9,ziN h1 hy];have hm:=h.m;subst hm;exact h.kids_node hy (by simpa using h5) ((zbC h.h hr).2 ((h.hc.iff i k hi h2).1 h4.symm))
theorem PSt.next_lt (h:PSt l M c S) (i:Nat):(zda M c i).length≤8∧∀p∈zda M c i,0≤p∧p<(M.length:Int):=by
  (rcases zcO M c i with ⟨h1,h2⟩ | ⟨k,h1,h2,h3⟩);· rw[zi9 (by omega)];exact ⟨by simp,fun p hp=>by cases hp⟩
  · have hy:M[k]?=some (M[k]'h2):=zd h2
    rw[ziN h1 hy];refine ⟨(h.parts hy).1,fun p hp=>?_⟩;have:=(h.parts hy).2 p hp;omega
theorem PSt.way (h:PSt l M c S):WayH M.length (zc9 M c) (za3 S) (zbl S) :=
  ⟨fun i hi j hj=>by
    obtain ⟨p,hp,rfl⟩:=zC.1 hj;have:=(h.next_lt i).2 p hp
    omega,fun i hi=>h.kids_next hi (h.rt hi)⟩
theorem PSt.col_iff (h:PSt l M c S) {i j:Nat} (hi:i<M.length) (hj:j<M.length):c[i]?=c[j]?↔zbl S i=zbl S j:=by
  have h1:=h.rt hi;have h2:=h.rt hj;have hm:=h.m;subst hm;rw[h.hc.iff i j hi hj];constructor;(· exact fun hc=>Rt.det ((zbC h.h h1).2 hc) h2 |>.symm▸rfl);· exact fun e=>(zbC h.h h1).1 (by rw[e];exact h2)
theorem PSt.loop_var (h:PSt l M c S):∀(i:Nat) (y:RNode),M[i]?=some y→Pls (za3 S) (zbl S i) (zbl S i)→∃(j:Nat) (z:RNode),M[j]?=some z∧z.t.k=1∧Pls (za3 S) (zbl S j) (zbl S j):=by
  intro i
  induction i using Nat.strongRecOn with
  | ind i ih =>
  intro y hy hp
  by_cases hk:y.t.k=1
  · exact ⟨i,y,hy,hk,hp⟩
  · have hi:=(ze.1 hy).1
    obtain ⟨v,hv,hr⟩:=hp;have hv0:=hv;rw[h.kids_node hy hk (h.rt hi)] at hv;obtain ⟨q,hq,rfl⟩:=zC.1 hv;obtain ⟨p,hp,rfl⟩:=zC.1 hq;have h1:=(h.parts hy).2 p hp;exact ih p.toNat (by omega) _ (zd (show p.toNat<M.length by omega)) (Pls.of_rch hr hv0)
theorem PSt.var_node (h:PSt l M c S) {j:Nat} {z:RNode} (hz:M[j]?=some z) (hk:z.t.k=1):zbK (RNode.isVar z.t.n) M=(j:Int)∧zaM S.G.V z.t.n=some (j:Int):=by
  have hm:=h.m;subst hm;have hU:=zdm l h.hc.ok;have hj:=(ze.1 hz).1;have h1:zbK (RNode.isVar z.t.n) (eqF l).1=(j:Int):=hU.idx hz hk;refine ⟨h1,?_⟩;(rcases h.h.vf z.t.n with ⟨_,h2⟩ | ⟨i,h2,h3,_⟩);(· omega);· rw[h2];congr 1;omega
theorem kids_lt {S:CS} {r v:Nat} (h:v∈za3 S r):v<S.F.up.length:=(zct r v h).lt
theorem Pls.root {S:CS} {r v:Nat} (h:Pls (za3 S) r v):Rt S.F.up v v:=by
  obtain ⟨x,hx,hr⟩:=h
  have:∀{a b:Nat},Rch (za3 S) a b→Rt S.F.up a a→Rt S.F.up b b:=fun hr=>by
    induction hr with
    | refl _=>exact id
    | step hv _ ih=>exact fun _=>ih (zct _ _ hv)
  exact this hr (zct _ _ hx)
theorem PSt.no_loop (h:PSt l M c S) (hv:∀(v i:Int) (q:Nat),zaM S.G.V v=some i→Rt S.F.up i.toNat q→¬Lp (za3 S) q) (y:Nat):¬Pls (za3 S) y y:=fun hp=>by
  have hr:=hp.root;(have hy:y<M.length:=by rw[← h.nl];exact hr.lt);obtain ⟨j,z,hz,hk,hl⟩:=h.loop_var y _ (zd hy) (by rw[zbA hr];exact hp);have hj:=(ze.1 hz).1;exact hv z.t.n j _ (h.var_node hz hk).2 (by rw[zK];exact h.rt hj) ⟨_,.refl _,hl⟩
def LoopD (M:List RNode) (c:List Int) (i:Nat):Prop:=∃j,j<M.length∧Pls (zc9 M c) i j∧c[j]?=c[i]?
theorem PSt.loop_iff (h:PSt l M c S) {i:Nat} (hi:i<M.length):LoopD M c i↔Pls (za3 S) (zbl S i) (zbl S i):=by
  rw[h.way.pls hi];constructor
  · rintro ⟨j,hj,hp,hc⟩
    exact ⟨j,hj,hp,(h.col_iff hj hi).1 hc⟩
  · rintro ⟨j,hj,hp,hc⟩
    exact ⟨j,hj,hp,(h.col_iff hj hi).2 hc⟩
end
end Go.Proofs.YtpfiliamceimmaaGreatDoor
