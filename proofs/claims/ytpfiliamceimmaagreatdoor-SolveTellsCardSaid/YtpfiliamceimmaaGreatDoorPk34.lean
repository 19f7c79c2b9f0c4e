/- Texts of the abstract walk, of the contracts and of the plain laws, packed (part 34 of 50): SolI. Conditions: none. -/
import Derived.Test.YtpfiliamceimmaaGreatDoorPk33
set_option linter.unusedVariables false
set_option linter.unusedSimpArgs false
namespace Go.Proofs.YtpfiliamceimmaaGreatDoor
open Go Go.RowKit
theorem snocInd {α:Type} {C:List α→Prop} (h0:C []) (h1:∀l x,C l→C (l++[x])) (l:List α):C l:=by
  have h:∀k:List α,C k.reverse:=by
    intro k
    induction k with
    | nil=>exact h0
    | cons x k ih=>rw[List.reverse_cons];exact h1 _ _ ih
  have:=h l.reverse
  rwa [List.reverse_reverse] at this
theorem addV_nd {l:List Int} {n:Int} (h:l.Nodup):(addV l n).Nodup:=by
  unfold addV;split;· exact h
  · rename_i hn
    rw[List.nodup_append];refine ⟨h,by simp,?_⟩;rintro a ha b hb rfl;(simp at hb;subst hb);exact hn (List.any_eq_true.2 ⟨a,ha,by simp⟩)
theorem Ty.rvars_nd:∀(t:Ty) (l:List Int),l.Nodup→(t.rvars l).Nodup:=by
  refine Ty.ind fun t ih l hl=>?_;rw[Ty.rvars_eq]
  have key:∀ps:List Ty,(∀p∈ps,∀l:List Int,l.Nodup→(p.rvars l).Nodup)→∀l:List Int,l.Nodup→(Ty.rvarsL ps l).Nodup:=by
    intro ps
    induction ps with
    | nil=>intro _ l hl;exact hl
    | cons p ps ih2 =>
      intro h l hl;rw[Ty.rvarsL];exact ih2 (fun q hq=>h q (by simp[hq])) _ (h p (by simp) l hl)
  refine key t.ps ih _ ?_;split;(· exact addV_nd hl);· exact hl
def zfm (es:List (Ty×Ty)):List Int:=es.foldl (fun v e=>e.2.rvars (e.1.rvars v)) []
theorem zis (es:List (Ty×Ty)) (e:Ty×Ty):zfm (es++[e])=e.2.rvars (e.1.rvars (zfm es)):=by simp[zfm,List.foldl_append]
theorem zj2 (es:List (Ty×Ty)):(zfm es).Nodup∧∀v,v∈zfm es↔OccE es v:=by
  induction es using snocInd with
  | h0=>exact ⟨List.nodup_nil,fun v=>⟨fun h=>(by cases h),fun ⟨e,he,_⟩=>(by cases he)⟩⟩
  | h1 es e ih =>
    rw[zis];refine ⟨Ty.rvars_nd _ _ (Ty.rvars_nd _ _ ih.1),fun v=>?_⟩;rw[Ty.mem_rvars,Ty.mem_rvars,ih.2];unfold OccE;constructor
    · rintro ((⟨x,hx,h⟩ | h) | h)
      (· exact ⟨x,List.mem_append_left _ hx,h⟩);(· exact ⟨e,by simp,.inl h⟩);· exact ⟨e,by simp,.inr h⟩
    · rintro ⟨x,hx,h⟩
      (rcases zG.1 hx with hx | hx);· exact .inl (.inl ⟨x,hx,h⟩)
      · simp at hx;subst hx
        (rcases h with h | h);(· exact .inl (.inr h));· exact .inr h
end Go.Proofs.YtpfiliamceimmaaGreatDoor
