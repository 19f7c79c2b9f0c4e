/- Texts of the abstract walk, of the contracts and of the plain laws, packed (part 44 of 44): Ps27 Fplevels. Conditions: none. -/
import Derived.Test.YtkokfdmggdhfmaaDoorPk43
import Derived.Test.YtkokfdmggdhfmaaDoorCards
import Derived.Test.YtkokfdmggdhfmaaDoorTie
import Derived.ChangeMaps5
import Derived.LaidSub
import Derived.Lib.LaidTab
import Derived.Stop.LaidErr
import Derived.OpenShut
import Derived.ChangeOld
import Derived.Below
import Derived.LaidMore
import Derived.Lay
import Derived.SevenTiedAt
namespace Go.Proofs.YtkokfdmggdhfmaaDoor
open Go Go.RowKit
set_option maxRecDepth 100000
set_option maxHeartbeats 4000000
set_option linter.unusedSimpArgs false
set_option linter.unnecessarySimpa false
set_option linter.unusedVariables false
attribute [local irreducible] aops dRun
theorem Alike_pure (t : Tm) (b : Bool) : APure Tryd.prog 40 [.agg t.cells, .agg t.cells, .v (.bool b)] (.v (.bool true)) := by
  refine APure.mkL (.cons (Tm.dataAgg _) (.cons (Tm.dataAgg _) (.cons (.v _) .nil))) (.v _) ?_
  refine ACalls_intro Tryd.func40 (by kernel_rfl) rfl (by rw [Tryd.ntmps40]; simp) (fun hm => ?_)
  simp only [Tryd.ntmps40, Tryd.results40, List.length_cons, List.length_nil, Nat.reduceAdd, Nat.reduceSub, List.replicate_succ, List.replicate_zero, List.cons_append, List.nil_append]
  refine AWp_seqK fun Y0 y0 => ?_
  refine AWp_region ?_
  iterate 2 (refine aops_chunk 1 fun Q0 q0 => ?_; simp only [↓bO, go_sem, seval, Tok.cells, qC, Tm.cells_eq t, List.take, List.drop, Ty.same_refl]; refine q0 _ ?_; clear q0 Q0; simp only [go_sem])
  simp only [↓bO, go_sem, seval, Tok.cells, qC, Tm.cells_eq t, List.take, List.drop, Ty.same_refl]
  refine y0 _ ?_
  try clear y0 Y0
  refine AWp_seqK fun Y0 y0 => ?_
  refine AWp_seqK fun Y1 y1 => ?_
  refine AWp_region ?_
  iterate 6 (refine aops_chunk 1 fun Q0 q0 => ?_; simp only [↓bO, go_sem, seval, Tok.cells, qC, Tm.cells_eq t, List.take, List.drop, Ty.same_refl]; refine q0 _ ?_; clear q0 Q0; simp only [go_sem])
  refine aops_case 12 rfl (fun hc12 => ?_) (fun hc12 => ?_)
  ·
   simp only [List.set_cons_zero, List.set_cons_succ]
   exact absurd hc12 (by simp)
  ·
   simp only [List.set_cons_zero, List.set_cons_succ]
   iterate 7 (refine aops_chunk 1 fun Q0 q0 => ?_; simp only [↓bO, go_sem, seval, Tok.cells, qC, Tm.cells_eq t, List.take, List.drop, Ty.same_refl]; refine q0 _ ?_; clear q0 Q0; simp only [go_sem])
   refine aops_case 19 rfl (fun hc19 => ?_) (fun hc19 => ?_)
   ·
    simp only [List.set_cons_zero, List.set_cons_succ]
    exact absurd hc19 (by simp [eqS_iff])
   ·
    simp only [List.set_cons_zero, List.set_cons_succ]
    iterate 4 (refine aops_chunk 1 fun Q0 q0 => ?_; simp only [↓bO, go_sem, seval, Tok.cells, qC, Tm.cells_eq t, List.take, List.drop, Ty.same_refl]; refine q0 _ ?_; clear q0 Q0; simp only [go_sem])
    refine aops_chunk 1 fun Q0 q0 => ?_
    simp only [↓bO, go_sem, seval, Tok.cells, qC, Tm.cells_eq t, List.take, List.drop, Ty.same_refl]
    refine APure.call ((show APure Tryd.prog 8 [.agg [.v (.int .i64 t.t.k), .v (.int .i64 t.t.n), .sl 3 (t.t.ps.map Ty.cells)], .agg [.v (.int .i64 t.t.k), .v (.int .i64 t.t.n), .sl 3 (t.t.ps.map Ty.cells)]] (.v (.bool true)) from by (have h9 := Same_pure t.t t.t; rw [Ty.same_refl, Ty.cells_eq] at h9; exact h9))) ?_
    try simp only [bS, bA, thenQ, blockQ, noGotoQ]
    iterate 3 (refine q0 _ ?_; clear q0 Q0; simp only [go_sem]; refine aops_chunk 1 fun Q0 q0 => ?_; simp only [↓bO, go_sem, seval, Tok.cells, qC, Tm.cells_eq t, List.take, List.drop, Ty.same_refl])
    refine q0 _ ?_
    clear q0 Q0
    simp only [go_sem]
    refine aops_case 27 rfl (fun hc27 => ?_) (fun hc27 => ?_)
    ·
     simp only [List.set_cons_zero, List.set_cons_succ]
     exact absurd hc27 (by simp)
    ·
     simp only [List.set_cons_zero, List.set_cons_succ]
     iterate 7 (refine aops_chunk 1 fun Q0 q0 => ?_; simp only [↓bO, go_sem, seval, Tok.cells, qC, Tm.cells_eq t, List.take, List.drop, Ty.same_refl]; refine q0 _ ?_; clear q0 Q0; simp only [go_sem])
     simp only [↓bO, go_sem, seval, Tok.cells, qC, Tm.cells_eq t, List.take, List.drop, Ty.same_refl]
     refine y1 _ ?_
     try clear y1 Y1
     refine AWp_cond rfl (fun hb35 => ?_) (fun hb35 => ?_)
     ·
      exact absurd hb35 (by simp)
     ·
      refine AWp_skip ?_
      try simp only [thenQ, blockQ, noGotoQ]
      refine y0 _ ?_
      try clear y0 Y0
      refine AWp_seqK fun Y0 y0 => ?_
      refine AWp_seqK fun Y1 y1 => ?_
      refine AWp_region ?_
      simp only [↓bO, go_sem, seval, Tok.cells, qC, Tm.cells_eq t, List.take, List.drop, Ty.same_refl]
      refine y1 _ ?_
      try clear y1 Y1
      refine AWp_cond rfl (fun hb36 => ?_) (fun hb36 => ?_)
      ·
       refine AWp_seqK fun Y1 y1 => ?_
       refine AWp_region ?_
       iterate 6 (refine aops_chunk 1 fun Q0 q0 => ?_; simp only [↓bO, go_sem, seval, Tok.cells, qC, Tm.cells_eq t, List.take, List.drop, Ty.same_refl]; refine q0 _ ?_; clear q0 Q0; simp only [go_sem])
       refine aops_case 42 rfl (fun hc42 => ?_) (fun hc42 => ?_)
       ·
        simp only [List.set_cons_zero, List.set_cons_succ]
        iterate 4 (refine aops_chunk 1 fun Q0 q0 => ?_; simp only [↓bO, go_sem, seval, Tok.cells, qC, Tm.cells_eq t, List.take, List.drop, Ty.same_refl]; refine q0 _ ?_; clear q0 Q0; simp only [go_sem])
        refine aops_chunk 1 fun Q0 q0 => ?_
        simp only [↓bO, go_sem, seval, i2t38, aEq2, eq2, Tok.cells, qC, Tm.cells_eq t, List.take, List.drop, Ty.same_refl]
        refine q0 _ ?_
        clear q0 Q0
        simp only [go_sem]
        refine aops_chunk 1 fun Q0 q0 => ?_
        simp only [↓bO, go_sem, seval, Tok.cells, qC, Tm.cells_eq t, List.take, List.drop, Ty.same_refl]
        refine q0 _ ?_
        clear q0 Q0
        simp only [go_sem]
        simp only [↓bO, go_sem, seval, Tok.cells, qC, Tm.cells_eq t, List.take, List.drop, Ty.same_refl]
        refine y1 _ ?_
        try clear y1 Y1
        refine AWp_ret ?_
        try simp only [thenQ, blockQ, noGotoQ, retQ, aRes, tupOf, bS, bA]
        first | exact Le.refl _ | exact Le.of_eq (congrArg (fun b => AV.v (.bool b)) (by simp))
       ·
        simp only [List.set_cons_zero, List.set_cons_succ]
        exact absurd hc42 (by simp)
      ·
       refine AWp_skip ?_
       try simp only [thenQ, blockQ, noGotoQ]
       refine y0 _ ?_
       try clear y0 Y0
       refine AWp_seqK fun Y0 y0 => ?_
       refine AWp_region ?_
       iterate 6 (refine aops_chunk 1 fun Q0 q0 => ?_; simp only [↓bO, go_sem, seval, Tok.cells, qC, Tm.cells_eq t, List.take, List.drop, Ty.same_refl]; refine q0 _ ?_; clear q0 Q0; simp only [go_sem])
       refine aops_case 54 rfl (fun hc54 => ?_) (fun hc54 => ?_)
       ·
        simp only [List.set_cons_zero, List.set_cons_succ]
        iterate 4 (refine aops_chunk 1 fun Q0 q0 => ?_; simp only [↓bO, go_sem, seval, Tok.cells, qC, Tm.cells_eq t, List.take, List.drop, Ty.same_refl]; refine q0 _ ?_; clear q0 Q0; simp only [go_sem])
        simp only [↓bO, go_sem, seval, Tok.cells, qC, Tm.cells_eq t, List.take, List.drop, Ty.same_refl]
        refine y0 _ ?_
        try clear y0 Y0
        refine AWp_ret ?_
        try simp only [thenQ, blockQ, noGotoQ, retQ, aRes, tupOf, bS, bA]
        first | exact Le.refl _ | exact Le.of_eq (congrArg (fun b => AV.v (.bool b)) (by simp))
       ·
        simp only [List.set_cons_zero, List.set_cons_succ]
        exact absurd hc54 (by simp)
theorem Met.tmParts {args : List AV} (h : Met args) {t : Tm} (ht : AV.agg t.cells ∈ args) : t.ps.length ≤ maxLen := by
  obtain ⟨E, A, w, hr⟩ := h.at
  obtain ⟨v, hv⟩ := hr _ ht
  obtain ⟨u, hu⟩ := hv.aggAt (.sl 9 (t.ps.map Tm.cells)) (by rw [t.cells_eq]; simp)
  have := hu.slLen
  rwa [List.length_map] at this
theorem Same5_pure : ∀ (t : Tm) (b : Bool), APure Tryd.prog 23 [.agg t.cells, .agg t.cells, .v (.bool b)] (.v (.bool true)) := by
  refine Tm.ind fun t ih => ?_
  intro b
  refine APure.mkL (.cons (Tm.dataAgg _) (.cons (Tm.dataAgg _) (.cons (.v _) .nil))) (.v _) ?_
  refine ACalls_intro Tryd.func23 (by kernel_rfl) rfl (by rw [Tryd.ntmps23]; simp) (fun hm => ?_)
  simp only [Tryd.ntmps23, Tryd.results23, List.length_cons, List.length_nil, Nat.reduceAdd, Nat.reduceSub, List.replicate_succ, List.replicate_zero, List.cons_append, List.nil_append]
  have hml := hm.tmParts (t := t) (by simp)
  simp only [maxLen] at hml
  have htc : t.cells.length = 9 := t.cells_len
  refine AWp_seqK fun Y0 y0 => ?_
  refine AWp_region ?_
  iterate 2 (refine aops_chunk 1 fun Q0 q0 => ?_; simp only [↓bO, go_sem, seval, Tok.cells, qC, Tm.cells_eq t, List.take, List.drop]; refine q0 _ ?_; clear q0 Q0; simp only [go_sem])
  simp only [↓bO, go_sem, seval, Tok.cells, qC, Tm.cells_eq t, List.take, List.drop]
  refine y0 _ ?_
  try clear y0 Y0
  refine AWp_seqK fun Y0 y0 => ?_
  refine AWp_seqK fun Y1 y1 => ?_
  refine AWp_region ?_
  iterate 3 (refine aops_chunk 1 fun Q0 q0 => ?_; simp only [↓bO, go_sem, seval, Tok.cells, qC, Tm.cells_eq t, List.take, List.drop]; refine q0 _ ?_; clear q0 Q0; simp only [go_sem])
  refine aops_chunk 1 fun Q0 q0 => ?_
  simp only [↓bO, go_sem, seval, Tok.cells, qC, Tm.cells_eq t, List.take, List.drop]
  refine APure.call ((show APure Tryd.prog 40 [.agg [.v (.int .i64 t.k), .v (.string t.s), .v (.int .i64 t.n), .v (.int .i64 t.t.k), .v (.int .i64 t.t.n), .sl 3 (t.t.ps.map Ty.cells), .sl 9 (t.ps.map Tm.cells), .v (.int .i64 t.a), .v (.int .i64 t.b)], .agg [.v (.int .i64 t.k), .v (.string t.s), .v (.int .i64 t.n), .v (.int .i64 t.t.k), .v (.int .i64 t.t.n), .sl 3 (t.t.ps.map Ty.cells), .sl 9 (t.ps.map Tm.cells), .v (.int .i64 t.a), .v (.int .i64 t.b)], .v (.bool b)] (.v (.bool true)) from by (have h9 := Alike_pure t b; rw [Tm.cells_eq] at h9; exact h9))) ?_
  try simp only [bS, bA, thenQ, blockQ, noGotoQ]
  refine q0 _ ?_
  clear q0 Q0
  simp only [go_sem]
  simp only [↓bO, go_sem, seval, Tok.cells, qC, Tm.cells_eq t, List.take, List.drop]
  refine y1 _ ?_
  try clear y1 Y1
  refine AWp_cond rfl (fun hb12 => ?_) (fun hb12 => ?_)
  ·
   exact absurd hb12 (by simp)
  ·
   refine AWp_skip ?_
   try simp only [thenQ, blockQ, noGotoQ]
   refine y0 _ ?_
   try clear y0 Y0
   refine AWp_seqK fun Y0 y0 => ?_
   refine AWp_seqK fun Y1 y1 => ?_
   refine AWp_region ?_
   simp only [↓bO, go_sem, seval, Tok.cells, qC, Tm.cells_eq t, List.take, List.drop]
   refine y1 _ ?_
   try clear y1 Y1
   refine AWp_block ?_
   refine AWp_loopM (σ := Nat) (mB 33 156) (fun s => s ≤ t.ps.length) (fun s => [(7, .v (.int .i64 (s : Int)))]) (fun s => []) (fun s => t.ps.length - s) 0 (by omega) ?_ (fun s hs => ?_)
   ·
    try simp only [maskL, setsL, putsO, putO, mB, List.set_cons_zero, List.set_cons_succ, seval]
    exact Weak.mk (by simp only [go_sem, Le.refl, Le.any, Le.slNil, Int.natCast_add, Int.cast_ofNat_Int, Int.natCast_one]) (fun _ _ h => h) rfl rfl
   simp only [maskL, setsL, putsO, putO, mB, List.set_cons_zero, List.set_cons_succ, seval]
   refine AWp_seqK fun Y1 y1 => ?_
   refine AWp_seqK fun Y2 y2 => ?_
   refine AWp_region ?_
   iterate 4 (refine aops_chunk 1 fun Q0 q0 => ?_; simp only [↓bO, go_sem, seval, Tok.cells, qC, Tm.cells_eq t, List.take, List.drop]; refine q0 _ ?_; clear q0 Q0; simp only [go_sem])
   simp only [↓bO, go_sem, seval, Tok.cells, qC, Tm.cells_eq t, List.take, List.drop]
   refine y2 _ ?_
   try clear y2 Y2
   refine AWp_cond rfl (fun hb17 => ?_) (fun hb17 => ?_)
   ·
    have hlt : s < t.ps.length := by simpa using hb17
    obtain ⟨p, hp⟩ : ∃ p, t.ps[s]? = some p := ⟨_, List.getElem?_eq_getElem hlt⟩
    have hw1 : IntKind.i64.wrap ((s : Int) + 1) = (s : Int) + 1 := wrap_in (by omega) (by omega)
    refine AWp_skip ?_
    try simp only [thenQ, blockQ, noGotoQ]
    refine y1 _ ?_
    try clear y1 Y1
    refine AWp_seqK fun Y1 y1 => ?_
    refine AWp_block ?_
    refine AWp_seqK fun Y2 y2 => ?_
    refine AWp_drawK 13 mixed (by kernel_rfl) fun J0 j0 => ?_
    iterate 11 (simp only [go_sem]; refine dRun_chunk 1 fun Q0 q0 => ?_; simp only [↓dRun, ↓dOp, ↓bO, go_sem, seval, Tok.cells, qC, Tm.cells_eq t, List.take, List.drop, hlt, gM hp, hw1, Tm.cells_eq p]; refine q0 _ ?_; clear q0 Q0)
    simp only [go_sem]
    refine dRun_chunk 1 fun Q0 q0 => ?_
    simp only [↓dRun, ↓dOp, ↓bO, go_sem, seval, Tok.cells, qC, Tm.cells_eq t, List.take, List.drop, hlt, gM hp, hw1, Tm.cells_eq p]
    refine ⟨_, (show APure Tryd.prog 23 [.agg [.v (.int .i64 p.k), .v (.string p.s), .v (.int .i64 p.n), .v (.int .i64 p.t.k), .v (.int .i64 p.t.n), .sl 3 (p.t.ps.map Ty.cells), .sl 9 (p.ps.map Tm.cells), .v (.int .i64 p.a), .v (.int .i64 p.b)], .agg [.v (.int .i64 p.k), .v (.string p.s), .v (.int .i64 p.n), .v (.int .i64 p.t.k), .v (.int .i64 p.t.n), .sl 3 (p.t.ps.map Ty.cells), .sl 9 (p.ps.map Tm.cells), .v (.int .i64 p.a), .v (.int .i64 p.b)], .v (.bool b)] (.v (.bool true)) from by (have h9 := ih p (List.mem_of_getElem? hp) b; rw [Tm.cells_eq] at h9; exact h9)), ?_⟩
    try simp only [bS, bA, thenQ, blockQ, noGotoQ]
    refine q0 _ ?_
    clear q0 Q0
    simp only [go_sem]
    simp only [↓dRun, ↓dOp, ↓bO, go_sem, seval, Tok.cells, qC, Tm.cells_eq t, List.take, List.drop, hlt, gM hp, hw1, Tm.cells_eq p]
    refine j0 _ ?_
    clear j0 J0
    simp only [bL, aops, thenQ, blockQ, noGotoQ]
    refine y2 _ ?_
    try clear y2 Y2
    refine AWp_cond rfl (fun hb32 => ?_) (fun hb32 => ?_)
    ·
     exact absurd hb32 (by simp)
    ·
     refine AWp_skip ?_
     try simp only [thenQ, blockQ, noGotoQ]
     refine y1 _ ?_
     try clear y1 Y1
     refine AWp_region ?_
     iterate 2 (refine aops_chunk 1 fun Q0 q0 => ?_; simp only [↓bO, go_sem, seval, Tok.cells, qC, Tm.cells_eq t, List.take, List.drop, hlt, gM hp, hw1, Tm.cells_eq p]; refine q0 _ ?_; clear q0 Q0; simp only [go_sem])
     simp only [↓bO, go_sem, seval, Tok.cells, qC, Tm.cells_eq t, List.take, List.drop, hlt, gM hp, hw1, Tm.cells_eq p]
     refine ⟨(s + 1), (by omega), by omega, ?_⟩
     try simp only [maskL, setsL, putsO, putO, mB, List.set_cons_zero, List.set_cons_succ, seval, hlt, gM hp, hw1, Tm.cells_eq p]
     exact Weak.mk (by simp only [go_sem, Le.refl, Le.any, Le.slNil, Int.natCast_add, Int.cast_ofNat_Int, Int.natCast_one]) (fun _ _ h => h) rfl rfl
   ·
    refine AWp_exit ?_
    simp only [thenQ, blockQ, noGotoQ, bA, Nat.reduceEqDiff, ↓reduceIte]
    refine y0 _ ?_
    try clear y0 Y0
    refine AWp_seqK fun Y0 y0 => ?_
    refine AWp_region ?_
    simp only [↓bO, go_sem, seval, Tok.cells, qC, Tm.cells_eq t, List.take, List.drop]
    refine y0 _ ?_
    try clear y0 Y0
    refine AWp_ret ?_
    try simp only [thenQ, blockQ, noGotoQ, retQ, aRes, tupOf, bS, bA]
    exact Le.refl _
theorem Equal_pure (t : Tm) : APure Tryd.prog 13 [.agg [.v (.int .i64 t.k), .v (.string t.s), .v (.int .i64 t.n), .v (.int .i64 t.t.k), .v (.int .i64 t.t.n), .sl 3 (t.t.ps.map Ty.cells), .sl 9 (t.ps.map Tm.cells), .v (.int .i64 t.a), .v (.int .i64 t.b)], .agg [.v (.int .i64 t.k), .v (.string t.s), .v (.int .i64 t.n), .v (.int .i64 t.t.k), .v (.int .i64 t.t.n), .sl 3 (t.t.ps.map Ty.cells), .sl 9 (t.ps.map Tm.cells), .v (.int .i64 t.a), .v (.int .i64 t.b)]] (.v (.bool true)) := by
  refine APure.mkL ((by rw [← Tm.cells_eq]; exact .cons (Tm.dataAgg _) (.cons (Tm.dataAgg _) .nil))) (.v _) ?_
  refine ACalls_intro Tryd.func13 (by kernel_rfl) rfl (by rw [Tryd.ntmps13]; simp) (fun hm => ?_)
  simp only [Tryd.ntmps13, Tryd.results13, List.length_cons, List.length_nil, Nat.reduceAdd, Nat.reduceSub, List.replicate_succ, List.replicate_zero, List.cons_append, List.nil_append]
  refine AWp_seqK fun Y0 y0 => ?_
  refine AWp_region ?_
  iterate 2 (refine aops_chunk 1 fun Q0 q0 => ?_; simp only [↓bO, go_sem, seval, Tok.cells, qC, List.take, List.drop]; refine q0 _ ?_; clear q0 Q0; simp only [go_sem])
  simp only [↓bO, go_sem, seval, Tok.cells, qC, List.take, List.drop]
  refine y0 _ ?_
  try clear y0 Y0
  refine AWp_seqK fun Y0 y0 => ?_
  refine AWp_region ?_
  iterate 2 (refine aops_chunk 1 fun Q0 q0 => ?_; simp only [↓bO, go_sem, seval, Tok.cells, qC, List.take, List.drop]; refine q0 _ ?_; clear q0 Q0; simp only [go_sem])
  refine aops_chunk 1 fun Q0 q0 => ?_
  simp only [↓bO, go_sem, seval, Tok.cells, qC, List.take, List.drop]
  refine APure.call ((show APure Tryd.prog 23 [.agg [.v (.int .i64 t.k), .v (.string t.s), .v (.int .i64 t.n), .v (.int .i64 t.t.k), .v (.int .i64 t.t.n), .sl 3 (t.t.ps.map Ty.cells), .sl 9 (t.ps.map Tm.cells), .v (.int .i64 t.a), .v (.int .i64 t.b)], .agg [.v (.int .i64 t.k), .v (.string t.s), .v (.int .i64 t.n), .v (.int .i64 t.t.k), .v (.int .i64 t.t.n), .sl 3 (t.t.ps.map Ty.cells), .sl 9 (t.ps.map Tm.cells), .v (.int .i64 t.a), .v (.int .i64 t.b)], .v (.bool true)] (.v (.bool true)) from by (have h9 := Same5_pure t true; rw [Tm.cells_eq] at h9; exact h9))) ?_
  try simp only [bS, bA, thenQ, blockQ, noGotoQ]
  refine q0 _ ?_
  clear q0 Q0
  simp only [go_sem]
  simp only [↓bO, go_sem, seval, Tok.cells, qC, List.take, List.drop]
  refine y0 _ ?_
  try clear y0 Y0
  refine AWp_ret ?_
  try simp only [thenQ, blockQ, noGotoQ, retQ, aRes, tupOf, bS, bA]
  exact Le.refl _
def aw6 : ByteArray := ⟨#[102, 32, 40, 120, 41, 32, 49]⟩
def aw6T : Tm := tm 5 ByteArray.empty 0 [tm 5 ByteArray.empty 0 [tm 1 ⟨#[102]⟩ 0 [] (0, 1), tm 1 ⟨#[120]⟩ 0 [] (3, 4)] (0, 5), tm 2 ByteArray.empty 1 [] (6, 7)] (0, 7)
theorem aw6_read : txR aw6 9 = (aw6T, (0, 0), 0) := by kernel_rfl
theorem aw6_pure : APure Tryd.prog 12 [.v (.string aw6), .v (.int .i64 9)] (.tup [.agg aw6T.cells, .agg [.v (.int .i64 0), .v (.int .i64 0)], .v (.int .i64 0)]) := by
  have h := PTerm_pure aw6 9 (by decide)
  unfold txA at h
  rw [aw6_read] at h
  exact h
theorem awake6_pure : APure Tryd.prog 10 [] (.v (.bool true)) := by
  refine APure.mkL (.nil) (.v _) ?_
  refine ACalls_intro Tryd.func10 (by kernel_rfl) rfl (by rw [Tryd.ntmps10]; simp) (fun hm => ?_)
  simp only [Tryd.ntmps10, Tryd.results10, List.length_cons, List.length_nil, Nat.reduceAdd, Nat.reduceSub, List.replicate_succ, List.replicate_zero, List.cons_append, List.nil_append]
  refine AWp_seqK fun Y0 y0 => ?_
  refine AWp_region ?_
  simp only [↓bO, go_sem, seval, Tok.cells, qC, List.take, List.drop, aw6T, tm, Tm.cells_mk, Ty.k, Ty.n, Ty.ps]
  refine y0 _ ?_
  try clear y0 Y0
  refine AWp_seqK fun Y0 y0 => ?_
  refine AWp_region ?_
  refine aops_chunk 1 fun Q0 q0 => ?_
  simp only [↓bO, go_sem, seval, Tok.cells, qC, List.take, List.drop, aw6T, tm, Tm.cells_mk, Ty.k, Ty.n, Ty.ps]
  refine APure.call (aw6_pure) ?_
  try simp only [bS, bA, thenQ, blockQ, noGotoQ]
  iterate 8 (refine q0 _ ?_; clear q0 Q0; simp only [go_sem]; refine aops_chunk 1 fun Q0 q0 => ?_; simp only [↓bO, go_sem, seval, Tok.cells, qC, List.take, List.drop, aw6T, tm, Tm.cells_mk, Ty.k, Ty.n, Ty.ps])
  refine q0 _ ?_
  clear q0 Q0
  simp only [go_sem]
  simp only [↓bO, go_sem, seval, Tok.cells, qC, List.take, List.drop, aw6T, tm, Tm.cells_mk, Ty.k, Ty.n, Ty.ps]
  refine y0 _ ?_
  try clear y0 Y0
  refine AWp_seqK fun Y0 y0 => ?_
  refine AWp_region ?_
  iterate 3 (refine aops_chunk 1 fun Q0 q0 => ?_; simp only [↓bO, go_sem, seval, Tok.cells, qC, List.take, List.drop, aw6T, tm, Tm.cells_mk, Ty.k, Ty.n, Ty.ps]; refine q0 _ ?_; clear q0 Q0; simp only [go_sem])
  refine aops_case 11 rfl (fun hc11 => ?_) (fun hc11 => ?_)
  ·
   simp only [List.set_cons_zero, List.set_cons_succ]
   iterate 5 (refine aops_chunk 1 fun Q0 q0 => ?_; simp only [↓bO, go_sem, seval, Tok.cells, qC, List.take, List.drop, aw6T, tm, Tm.cells_mk, Ty.k, Ty.n, Ty.ps]; refine q0 _ ?_; clear q0 Q0; simp only [go_sem])
   refine aops_case 16 rfl (fun hc16 => ?_) (fun hc16 => ?_)
   ·
    simp only [List.set_cons_zero, List.set_cons_succ]
    iterate 3 (refine aops_chunk 1 fun Q0 q0 => ?_; simp only [↓bO, go_sem, seval, Tok.cells, qC, List.take, List.drop, aw6T, tm, Tm.cells_mk, Ty.k, Ty.n, Ty.ps]; refine q0 _ ?_; clear q0 Q0; simp only [go_sem])
    refine aops_chunk 1 fun Q0 q0 => ?_
    simp only [↓bO, go_sem, seval, i2t38, aEq2, eq2, Tok.cells, qC, List.take, List.drop, aw6T, tm, Tm.cells_mk, Ty.k, Ty.n, Ty.ps]
    iterate 2 (refine q0 _ ?_; clear q0 Q0; simp only [go_sem]; refine aops_chunk 1 fun Q0 q0 => ?_; simp only [↓bO, go_sem, seval, Tok.cells, qC, List.take, List.drop, aw6T, tm, Tm.cells_mk, Ty.k, Ty.n, Ty.ps])
    refine q0 _ ?_
    clear q0 Q0
    simp only [go_sem]
    refine aops_case 22 rfl (fun hc22 => ?_) (fun hc22 => ?_)
    ·
     simp only [List.set_cons_zero, List.set_cons_succ]
     iterate 6 (refine aops_chunk 1 fun Q0 q0 => ?_; simp only [↓bO, go_sem, seval, Tok.cells, qC, List.take, List.drop, aw6T, tm, Tm.cells_mk, Ty.k, Ty.n, Ty.ps]; refine q0 _ ?_; clear q0 Q0; simp only [go_sem])
     refine aops_case 28 rfl (fun hc28 => ?_) (fun hc28 => ?_)
     ·
      simp only [List.set_cons_zero, List.set_cons_succ]
      iterate 9 (refine aops_chunk 1 fun Q0 q0 => ?_; simp only [↓bO, go_sem, seval, Tok.cells, qC, List.take, List.drop, aw6T, tm, Tm.cells_mk, Ty.k, Ty.n, Ty.ps]; refine q0 _ ?_; clear q0 Q0; simp only [go_sem])
      refine aops_case 37 rfl (fun hc37 => ?_) (fun hc37 => ?_)
      ·
       simp only [List.set_cons_zero, List.set_cons_succ]
       iterate 9 (refine aops_chunk 1 fun Q0 q0 => ?_; simp only [↓bO, go_sem, seval, Tok.cells, qC, List.take, List.drop, aw6T, tm, Tm.cells_mk, Ty.k, Ty.n, Ty.ps]; refine q0 _ ?_; clear q0 Q0; simp only [go_sem])
       refine aops_chunk 1 fun Q0 q0 => ?_
       simp only [↓bO, go_sem, seval, i2t38, aEq2, eq2, Tok.cells, qC, List.take, List.drop, aw6T, tm, Tm.cells_mk, Ty.k, Ty.n, Ty.ps]
       refine q0 _ ?_
       clear q0 Q0
       simp only [go_sem]
       refine aops_chunk 1 fun Q0 q0 => ?_
       simp only [↓bO, go_sem, seval, Tok.cells, qC, List.take, List.drop, aw6T, tm, Tm.cells_mk, Ty.k, Ty.n, Ty.ps]
       refine q0 _ ?_
       clear q0 Q0
       simp only [go_sem]
       simp only [↓bO, go_sem, seval, Tok.cells, qC, List.take, List.drop, aw6T, tm, Tm.cells_mk, Ty.k, Ty.n, Ty.ps]
       refine y0 _ ?_
       try clear y0 Y0
       refine AWp_ret ?_
       try simp only [thenQ, blockQ, noGotoQ, retQ, aRes, tupOf, bS, bA]
       first | exact Le.refl _ | exact Le.of_eq (congrArg (fun b => AV.v (.bool b)) (by simp))
      ·
       simp only [List.set_cons_zero, List.set_cons_succ]
       exact absurd hc37 (by simp)
     ·
      simp only [List.set_cons_zero, List.set_cons_succ]
      exact absurd hc28 (by simp)
    ·
     simp only [List.set_cons_zero, List.set_cons_succ]
     exact absurd hc22 (by simp)
   ·
    simp only [List.set_cons_zero, List.set_cons_succ]
    exact absurd hc16 (by simp)
  ·
   simp only [List.set_cons_zero, List.set_cons_succ]
   exact absurd hc11 (by simp)
section
variable {s : ByteArray} {m : Int}
theorem txR_e (h : (wdA s).2.2 = 0) : (txR s m).2.2 = (rxW (wdA s).1 m).2.2 := by
  by_cases h2 : (rxW (wdA s).1 m).2.2 = 0
  · rw [txR_ok h h2, h2]
  · rw [txR_bad h h2]
theorem txR_t (h : (wdA s).2.2 = 0) (h2 : (rxW (wdA s).1 m).2.2 = 0) : (txR s m).1 = (rxW (wdA s).1 m).1 := by rw [txR_ok h h2]
theorem lv_no (h : (lvR s).2 = false) (hm : m ≤ 9223372036854775807) : ¬ (txR s m).2.2 = 0 := by
  by_cases h1 : (wdA s).2.2 = 0
  · by_cases h2 : (rxW (wdA s).1 9223372036854775807).2.2 = 0
    · rw [lvR_ok h1 h2] at h; exact absurd (show true = false from h) (by decide)
    · rw [txR_e h1]
      intro h3
      exact h2 (by rw [rxW_same hm (z4 h3)]; exact h3)
  · rw [txR_lex h1]; exact h1
theorem lv_zero (h : (lvR s).2 = false) : (lvR s).1 = 0 := by
  by_cases h1 : (wdA s).2.2 = 0
  · by_cases h2 : (rxW (wdA s).1 9223372036854775807).2.2 = 0
    · rw [lvR_ok h1 h2] at h; exact absurd (show true = false from h) (by decide)
    · rw [lvR_bad h1 h2]
  · rw [lvR_lex h1]
theorem lv_yes (hs : s.size ≤ 90000) (h : (lvR s).2 = true) : (wdA s).2.2 = 0 ∧ 0 < (lvR s).1 ∧ (lvR s).1 ≤ 200000 ∧ ∀ m : Int, (txR s m).2.2 = 0 ↔ (lvR s).1 ≤ m := by
  by_cases h1 : (wdA s).2.2 = 0
  · by_cases h2 : (rxW (wdA s).1 9223372036854775807).2.2 = 0
    · have hln := wd_len s
      have h3 := lvN_spec (by omega) h2
      rw [lvR_ok h1 h2]
      refine ⟨h1, by show (0 : Int) < ((lvN (wdA s).1 : Nat) : Int); omega, by show ((lvN (wdA s).1 : Nat) : Int) ≤ 200000; omega, fun m => ?_⟩
      rw [txR_e h1]
      exact h3.2.2 m
    · rw [lvR_bad h1 h2] at h; exact absurd h (by decide)
  · rw [lvR_lex h1] at h; exact absurd h (by decide)
theorem lv_less (hs : s.size ≤ 90000) (h : (lvR s).2 = true) (h2 : ¬ (txR s m).2.2 = 0) : (txR s m).2.2 = 4 := by
  obtain ⟨h1, h3, h4, h5⟩ := lv_yes hs h
  rw [txR_e h1] at h2 ⊢
  have h6 : ¬ (lvR s).1 ≤ m := fun g => h2 (by rw [← txR_e h1]; exact (h5 m).2 g)
  exact rxW_less (m' := (lvR s).1) (by omega) (by rw [← txR_e h1]; exact (h5 _).2 (Int.le_refl _)) h2
theorem lv_term (hs : s.size ≤ 90000) (h : (lvR s).2 = true) (h2 : (txR s m).2.2 = 0) : (txR s m).1 = (txR s (lvR s).1).1 := by
  obtain ⟨h1, h3, h4, h5⟩ := lv_yes hs h
  have h6 := (h5 m).1 h2
  have h7 := (h5 (lvR s).1).2 (Int.le_refl _)
  rw [txR_e h1] at h2 h7
  rw [txR_t h1 h2, txR_t h1 h7, rxW_same h6 (z4 h7)]
end
theorem ParseLevels_pure (s : ByteArray) (m : Int) (hmx : m ≤ 9223372036854775807) : APure Tryd.prog 4 [.v (.string s), .v (.int .i64 m)] (.v (.bool true)) := by
  refine APure.mkL (.cons (.v _) (.cons (.v _) .nil)) (.v _) ?_
  refine ACalls_intro Tryd.func4 (by kernel_rfl) rfl (by rw [Tryd.ntmps4]; simp) (fun hm => ?_)
  simp only [Tryd.ntmps4, Tryd.results4, List.length_cons, List.length_nil, Nat.reduceAdd, Nat.reduceSub, List.replicate_succ, List.replicate_zero, List.cons_append, List.nil_append]
  refine AWp_seqK fun Y0 y0 => ?_
  refine AWp_region ?_
  simp only [↓bO, go_sem, seval, Tok.cells, qC, List.take, List.drop, txA, lvA, Tm.cells_eq (txR s m).1, Tm.cells_eq (txR s (lvR s).1).1, Tm.cells_eq (txR s ((lvR s).1 - 1)).1]
  refine y0 _ ?_
  try clear y0 Y0
  refine AWp_seqK fun Y0 y0 => ?_
  refine AWp_seqK fun Y1 y1 => ?_
  refine AWp_region ?_
  iterate 2 (refine aops_chunk 1 fun Q0 q0 => ?_; simp only [↓bO, go_sem, seval, Tok.cells, qC, List.take, List.drop, txA, lvA, Tm.cells_eq (txR s m).1, Tm.cells_eq (txR s (lvR s).1).1, Tm.cells_eq (txR s ((lvR s).1 - 1)).1]; refine q0 _ ?_; clear q0 Q0; simp only [go_sem])
  simp only [↓bO, go_sem, seval, Tok.cells, qC, List.take, List.drop, txA, lvA, Tm.cells_eq (txR s m).1, Tm.cells_eq (txR s (lvR s).1).1, Tm.cells_eq (txR s ((lvR s).1 - 1)).1]
  refine y1 _ ?_
  try clear y1 Y1
  refine AWp_cond rfl (fun hb18 => ?_) (fun hb18 => ?_)
  ·
   refine AWp_seqK fun Y1 y1 => ?_
   refine AWp_region ?_
   refine aops_chunk 1 fun Q0 q0 => ?_
   simp only [↓bO, go_sem, seval, Tok.cells, qC, List.take, List.drop, txA, lvA, Tm.cells_eq (txR s m).1, Tm.cells_eq (txR s (lvR s).1).1, Tm.cells_eq (txR s ((lvR s).1 - 1)).1]
   refine APure.call (awake6_pure) ?_
   try simp only [bS, bA, thenQ, blockQ, noGotoQ]
   refine q0 _ ?_
   clear q0 Q0
   simp only [go_sem]
   simp only [↓bO, go_sem, seval, Tok.cells, qC, List.take, List.drop, txA, lvA, Tm.cells_eq (txR s m).1, Tm.cells_eq (txR s (lvR s).1).1, Tm.cells_eq (txR s ((lvR s).1 - 1)).1]
   refine y1 _ ?_
   try clear y1 Y1
   refine AWp_ret ?_
   try simp only [thenQ, blockQ, noGotoQ, retQ, aRes, tupOf, bS, bA]
   first | exact Le.refl _ | exact Le.of_eq (congrArg (fun b => AV.v (.bool b)) (by simp_all))
  ·
   have hz : s.size ≤ 300 := by (have h9 := hb18; simp at h9; omega)
   have hs : s.size ≤ 90000 := by omega
   refine AWp_skip ?_
   try simp only [thenQ, blockQ, noGotoQ]
   refine y0 _ ?_
   try clear y0 Y0
   refine AWp_seqK fun Y0 y0 => ?_
   refine AWp_region ?_
   refine aops_chunk 1 fun Q0 q0 => ?_
   simp only [↓bO, go_sem, seval, Tok.cells, qC, List.take, List.drop, txA, lvA, Tm.cells_eq (txR s m).1, Tm.cells_eq (txR s (lvR s).1).1, Tm.cells_eq (txR s ((lvR s).1 - 1)).1]
   refine q0 _ ?_
   clear q0 Q0
   simp only [go_sem]
   refine aops_chunk 1 fun Q0 q0 => ?_
   simp only [↓bO, go_sem, seval, Tok.cells, qC, List.take, List.drop, txA, lvA, Tm.cells_eq (txR s m).1, Tm.cells_eq (txR s (lvR s).1).1, Tm.cells_eq (txR s ((lvR s).1 - 1)).1]
   refine APure.call (Level_pure s hs) ?_
   try simp only [bS, bA, thenQ, blockQ, noGotoQ]
   iterate 4 (refine q0 _ ?_; clear q0 Q0; simp only [go_sem]; refine aops_chunk 1 fun Q0 q0 => ?_; simp only [↓bO, go_sem, seval, Tok.cells, qC, List.take, List.drop, txA, lvA, Tm.cells_eq (txR s m).1, Tm.cells_eq (txR s (lvR s).1).1, Tm.cells_eq (txR s ((lvR s).1 - 1)).1])
   refine q0 _ ?_
   clear q0 Q0
   simp only [go_sem]
   simp only [↓bO, go_sem, seval, Tok.cells, qC, List.take, List.drop, txA, lvA, Tm.cells_eq (txR s m).1, Tm.cells_eq (txR s (lvR s).1).1, Tm.cells_eq (txR s ((lvR s).1 - 1)).1]
   refine y0 _ ?_
   try clear y0 Y0
   refine AWp_seqK fun Y0 y0 => ?_
   refine AWp_region ?_
   iterate 2 (refine aops_chunk 1 fun Q0 q0 => ?_; simp only [↓bO, go_sem, seval, Tok.cells, qC, List.take, List.drop, txA, lvA, Tm.cells_eq (txR s m).1, Tm.cells_eq (txR s (lvR s).1).1, Tm.cells_eq (txR s ((lvR s).1 - 1)).1]; refine q0 _ ?_; clear q0 Q0; simp only [go_sem])
   refine aops_chunk 1 fun Q0 q0 => ?_
   simp only [↓bO, go_sem, seval, Tok.cells, qC, List.take, List.drop, txA, lvA, Tm.cells_eq (txR s m).1, Tm.cells_eq (txR s (lvR s).1).1, Tm.cells_eq (txR s ((lvR s).1 - 1)).1]
   refine APure.call (PTerm_pure s m hs) ?_
   try simp only [bS, bA, thenQ, blockQ, noGotoQ]
   iterate 8 (refine q0 _ ?_; clear q0 Q0; simp only [go_sem]; refine aops_chunk 1 fun Q0 q0 => ?_; simp only [↓bO, go_sem, seval, Tok.cells, qC, List.take, List.drop, txA, lvA, Tm.cells_eq (txR s m).1, Tm.cells_eq (txR s (lvR s).1).1, Tm.cells_eq (txR s ((lvR s).1 - 1)).1])
   refine q0 _ ?_
   clear q0 Q0
   simp only [go_sem]
   simp only [↓bO, go_sem, seval, Tok.cells, qC, List.take, List.drop, txA, lvA, Tm.cells_eq (txR s m).1, Tm.cells_eq (txR s (lvR s).1).1, Tm.cells_eq (txR s ((lvR s).1 - 1)).1]
   refine y0 _ ?_
   try clear y0 Y0
   refine AWp_seqK fun Y0 y0 => ?_
   refine AWp_seqK fun Y1 y1 => ?_
   refine AWp_region ?_
   refine aops_chunk 1 fun Q0 q0 => ?_
   simp only [↓bO, go_sem, seval, Tok.cells, qC, List.take, List.drop, txA, lvA, Tm.cells_eq (txR s m).1, Tm.cells_eq (txR s (lvR s).1).1, Tm.cells_eq (txR s ((lvR s).1 - 1)).1]
   refine q0 _ ?_
   clear q0 Q0
   simp only [go_sem]
   simp only [↓bO, go_sem, seval, Tok.cells, qC, List.take, List.drop, txA, lvA, Tm.cells_eq (txR s m).1, Tm.cells_eq (txR s (lvR s).1).1, Tm.cells_eq (txR s ((lvR s).1 - 1)).1]
   refine y1 _ ?_
   try clear y1 Y1
   refine AWp_cond rfl (fun hb33 => ?_) (fun hb33 => ?_)
   ·
    have hno : (lvR s).2 = false := by simpa using hb33
    have h0 := lv_zero hno
    have h1 := lv_no hno hmx
    refine AWp_seqK fun Y1 y1 => ?_
    refine AWp_region ?_
    iterate 3 (refine aops_chunk 1 fun Q0 q0 => ?_; simp only [↓bO, go_sem, seval, Tok.cells, qC, List.take, List.drop, txA, lvA, Tm.cells_eq (txR s m).1, Tm.cells_eq (txR s (lvR s).1).1, Tm.cells_eq (txR s ((lvR s).1 - 1)).1]; refine q0 _ ?_; clear q0 Q0; simp only [go_sem])
    refine aops_case 36 rfl (fun hc36 => ?_) (fun hc36 => ?_)
    ·
     simp only [List.set_cons_zero, List.set_cons_succ]
     iterate 4 (refine aops_chunk 1 fun Q0 q0 => ?_; simp only [↓bO, go_sem, seval, Tok.cells, qC, List.take, List.drop, txA, lvA, Tm.cells_eq (txR s m).1, Tm.cells_eq (txR s (lvR s).1).1, Tm.cells_eq (txR s ((lvR s).1 - 1)).1]; refine q0 _ ?_; clear q0 Q0; simp only [go_sem])
     refine aops_case 40 rfl (fun hc40 => ?_) (fun hc40 => ?_)
     ·
      simp only [List.set_cons_zero, List.set_cons_succ]
      refine aops_chunk 1 fun Q0 q0 => ?_
      simp only [↓bO, go_sem, seval, Tok.cells, qC, List.take, List.drop, txA, lvA, Tm.cells_eq (txR s m).1, Tm.cells_eq (txR s (lvR s).1).1, Tm.cells_eq (txR s ((lvR s).1 - 1)).1]
      refine APure.call (awake6_pure) ?_
      try simp only [bS, bA, thenQ, blockQ, noGotoQ]
      refine q0 _ ?_
      clear q0 Q0
      simp only [go_sem]
      refine aops_chunk 1 fun Q0 q0 => ?_
      simp only [↓bO, go_sem, seval, Tok.cells, qC, List.take, List.drop, txA, lvA, Tm.cells_eq (txR s m).1, Tm.cells_eq (txR s (lvR s).1).1, Tm.cells_eq (txR s ((lvR s).1 - 1)).1]
      refine q0 _ ?_
      clear q0 Q0
      simp only [go_sem]
      simp only [↓bO, go_sem, seval, Tok.cells, qC, List.take, List.drop, txA, lvA, Tm.cells_eq (txR s m).1, Tm.cells_eq (txR s (lvR s).1).1, Tm.cells_eq (txR s ((lvR s).1 - 1)).1]
      refine y1 _ ?_
      try clear y1 Y1
      refine AWp_ret ?_
      try simp only [thenQ, blockQ, noGotoQ, retQ, aRes, tupOf, bS, bA]
      first | exact Le.refl _ | exact Le.of_eq (congrArg (fun b => AV.v (.bool b)) (by simp_all))
     ·
      simp only [List.set_cons_zero, List.set_cons_succ]
      exact absurd hc40 (by simp [h0])
    ·
     simp only [List.set_cons_zero, List.set_cons_succ]
     exact absurd hc36 (by simpa using h1)
   ·
    have hyes : (lvR s).2 = true := by simpa using hb33
    obtain ⟨g1, g2, g3, g4⟩ := lv_yes hs hyes
    have gn := (g4 (lvR s).1).2 (Int.le_refl _)
    have gl := lv_less (m := (lvR s).1 - 1) hs hyes (fun g => by (have := (g4 _).1 g; omega))
    have gt := fun h => lv_term (m := m) hs hyes h
    have gd := fun h => lv_less (m := m) hs hyes h
    have gm := g4 m
    have hw : IntKind.i64.wrap ((lvR s).1 - 1) = (lvR s).1 - 1 := by (rw [wrap_in (by omega) (by omega)])
    refine AWp_skip ?_
    try simp only [thenQ, blockQ, noGotoQ]
    refine y0 _ ?_
    try clear y0 Y0
    refine AWp_seqK fun Y0 y0 => ?_
    refine AWp_region ?_
    iterate 2 (refine aops_chunk 1 fun Q0 q0 => ?_; simp only [↓bO, go_sem, seval, Tok.cells, qC, List.take, List.drop, txA, lvA, Tm.cells_eq (txR s m).1, Tm.cells_eq (txR s (lvR s).1).1, Tm.cells_eq (txR s ((lvR s).1 - 1)).1, hw]; refine q0 _ ?_; clear q0 Q0; simp only [go_sem])
    refine aops_chunk 1 fun Q0 q0 => ?_
    simp only [↓bO, go_sem, seval, Tok.cells, qC, List.take, List.drop, txA, lvA, Tm.cells_eq (txR s m).1, Tm.cells_eq (txR s (lvR s).1).1, Tm.cells_eq (txR s ((lvR s).1 - 1)).1, hw]
    refine APure.call (PTerm_pure s (lvR s).1 hs) ?_
    try simp only [bS, bA, thenQ, blockQ, noGotoQ]
    iterate 8 (refine q0 _ ?_; clear q0 Q0; simp only [go_sem]; refine aops_chunk 1 fun Q0 q0 => ?_; simp only [↓bO, go_sem, seval, Tok.cells, qC, List.take, List.drop, txA, lvA, Tm.cells_eq (txR s m).1, Tm.cells_eq (txR s (lvR s).1).1, Tm.cells_eq (txR s ((lvR s).1 - 1)).1, hw])
    refine q0 _ ?_
    clear q0 Q0
    simp only [go_sem]
    simp only [↓bO, go_sem, seval, Tok.cells, qC, List.take, List.drop, txA, lvA, Tm.cells_eq (txR s m).1, Tm.cells_eq (txR s (lvR s).1).1, Tm.cells_eq (txR s ((lvR s).1 - 1)).1, hw]
    refine y0 _ ?_
    try clear y0 Y0
    refine AWp_seqK fun Y0 y0 => ?_
    refine AWp_region ?_
    iterate 3 (refine aops_chunk 1 fun Q0 q0 => ?_; simp only [↓bO, go_sem, seval, Tok.cells, qC, List.take, List.drop, txA, lvA, Tm.cells_eq (txR s m).1, Tm.cells_eq (txR s (lvR s).1).1, Tm.cells_eq (txR s ((lvR s).1 - 1)).1, hw]; refine q0 _ ?_; clear q0 Q0; simp only [go_sem])
    refine aops_chunk 1 fun Q0 q0 => ?_
    simp only [↓bO, go_sem, seval, Tok.cells, qC, List.take, List.drop, txA, lvA, Tm.cells_eq (txR s m).1, Tm.cells_eq (txR s (lvR s).1).1, Tm.cells_eq (txR s ((lvR s).1 - 1)).1, hw]
    refine APure.call (PTerm_pure s ((lvR s).1 - 1) hs) ?_
    try simp only [bS, bA, thenQ, blockQ, noGotoQ]
    iterate 8 (refine q0 _ ?_; clear q0 Q0; simp only [go_sem]; refine aops_chunk 1 fun Q0 q0 => ?_; simp only [↓bO, go_sem, seval, Tok.cells, qC, List.take, List.drop, txA, lvA, Tm.cells_eq (txR s m).1, Tm.cells_eq (txR s (lvR s).1).1, Tm.cells_eq (txR s ((lvR s).1 - 1)).1, hw])
    refine q0 _ ?_
    clear q0 Q0
    simp only [go_sem]
    simp only [↓bO, go_sem, seval, Tok.cells, qC, List.take, List.drop, txA, lvA, Tm.cells_eq (txR s m).1, Tm.cells_eq (txR s (lvR s).1).1, Tm.cells_eq (txR s ((lvR s).1 - 1)).1, hw]
    refine y0 _ ?_
    try clear y0 Y0
    refine AWp_seqK fun Y0 y0 => ?_
    refine AWp_region ?_
    iterate 3 (refine aops_chunk 1 fun Q0 q0 => ?_; simp only [↓bO, go_sem, seval, Tok.cells, qC, List.take, List.drop, txA, lvA, Tm.cells_eq (txR s m).1, Tm.cells_eq (txR s (lvR s).1).1, Tm.cells_eq (txR s ((lvR s).1 - 1)).1, hw]; refine q0 _ ?_; clear q0 Q0; simp only [go_sem])
    refine aops_case 60 rfl (fun hc60 => ?_) (fun hc60 => ?_)
    ·
     simp only [List.set_cons_zero, List.set_cons_succ]
     iterate 4 (refine aops_chunk 1 fun Q0 q0 => ?_; simp only [↓bO, go_sem, seval, Tok.cells, qC, List.take, List.drop, txA, lvA, Tm.cells_eq (txR s m).1, Tm.cells_eq (txR s (lvR s).1).1, Tm.cells_eq (txR s ((lvR s).1 - 1)).1, hw]; refine q0 _ ?_; clear q0 Q0; simp only [go_sem])
     refine aops_case 64 rfl (fun hc64 => ?_) (fun hc64 => ?_)
     ·
      simp only [List.set_cons_zero, List.set_cons_succ]
      iterate 4 (refine aops_chunk 1 fun Q0 q0 => ?_; simp only [↓bO, go_sem, seval, Tok.cells, qC, List.take, List.drop, txA, lvA, Tm.cells_eq (txR s m).1, Tm.cells_eq (txR s (lvR s).1).1, Tm.cells_eq (txR s ((lvR s).1 - 1)).1, hw]; refine q0 _ ?_; clear q0 Q0; simp only [go_sem])
      refine aops_case 68 rfl (fun hc68 => ?_) (fun hc68 => ?_)
      ·
       simp only [List.set_cons_zero, List.set_cons_succ]
       iterate 8 (refine aops_chunk 1 fun Q0 q0 => ?_; simp only [↓bO, go_sem, seval, Tok.cells, qC, List.take, List.drop, txA, lvA, Tm.cells_eq (txR s m).1, Tm.cells_eq (txR s (lvR s).1).1, Tm.cells_eq (txR s ((lvR s).1 - 1)).1, hw]; refine q0 _ ?_; clear q0 Q0; simp only [go_sem])
       refine aops_case 76 rfl (fun hc76 => ?_) (fun hc76 => ?_)
       ·
        simp only [List.set_cons_zero, List.set_cons_succ]
        iterate 3 (refine aops_chunk 1 fun Q0 q0 => ?_; simp only [↓bO, go_sem, seval, Tok.cells, qC, List.take, List.drop, txA, lvA, Tm.cells_eq (txR s m).1, Tm.cells_eq (txR s (lvR s).1).1, Tm.cells_eq (txR s ((lvR s).1 - 1)).1, hw]; refine q0 _ ?_; clear q0 Q0; simp only [go_sem])
        refine aops_case 79 rfl (fun hc79 => ?_) (fun hc79 => ?_)
        ·
         simp only [List.set_cons_zero, List.set_cons_succ]
         have hok : (txR s m).2.2 = 0 := by simpa using hc79
         have hteq := gt hok
         iterate 8 (refine aops_chunk 1 fun Q0 q0 => ?_; simp only [↓bO, go_sem, seval, Tok.cells, qC, List.take, List.drop, txA, lvA, Tm.cells_eq (txR s m).1, Tm.cells_eq (txR s (lvR s).1).1, Tm.cells_eq (txR s ((lvR s).1 - 1)).1, hw]; refine q0 _ ?_; clear q0 Q0; simp only [go_sem])
         refine aops_case 87 rfl (fun hc87 => ?_) (fun hc87 => ?_)
         ·
          simp only [List.set_cons_zero, List.set_cons_succ]
          have hok2 : ¬ (txR s m).2.2 = 0 := by simpa using hc87
          iterate 6 (refine aops_chunk 1 fun Q0 q0 => ?_; simp only [↓bO, go_sem, seval, Tok.cells, qC, List.take, List.drop, txA, lvA, Tm.cells_eq (txR s m).1, Tm.cells_eq (txR s (lvR s).1).1, Tm.cells_eq (txR s ((lvR s).1 - 1)).1, hw]; refine q0 _ ?_; clear q0 Q0; simp only [go_sem])
          refine aops_chunk 1 fun Q0 q0 => ?_
          simp only [↓bO, go_sem, seval, Tok.cells, qC, List.take, List.drop, txA, lvA, Tm.cells_eq (txR s m).1, Tm.cells_eq (txR s (lvR s).1).1, Tm.cells_eq (txR s ((lvR s).1 - 1)).1, hw]
          refine APure.call (awake6_pure) ?_
          try simp only [bS, bA, thenQ, blockQ, noGotoQ]
          refine q0 _ ?_
          clear q0 Q0
          simp only [go_sem]
          refine aops_chunk 1 fun Q0 q0 => ?_
          simp only [↓bO, go_sem, seval, Tok.cells, qC, List.take, List.drop, txA, lvA, Tm.cells_eq (txR s m).1, Tm.cells_eq (txR s (lvR s).1).1, Tm.cells_eq (txR s ((lvR s).1 - 1)).1, hw]
          refine q0 _ ?_
          clear q0 Q0
          simp only [go_sem]
          simp only [↓bO, go_sem, seval, Tok.cells, qC, List.take, List.drop, txA, lvA, Tm.cells_eq (txR s m).1, Tm.cells_eq (txR s (lvR s).1).1, Tm.cells_eq (txR s ((lvR s).1 - 1)).1, hw]
          refine y0 _ ?_
          try clear y0 Y0
          refine AWp_ret ?_
          try simp only [thenQ, blockQ, noGotoQ, retQ, aRes, tupOf, bS, bA]
          first | exact Le.refl _ | exact Le.of_eq (congrArg (fun b => AV.v (.bool b)) (by simp_all))
         ·
          simp only [List.set_cons_zero, List.set_cons_succ]
          have hok2 : (txR s m).2.2 = 0 := by simpa using hc87
          have hteq := gt hok2
          iterate 2 (refine aops_chunk 1 fun Q0 q0 => ?_; simp only [↓bO, go_sem, seval, Tok.cells, qC, List.take, List.drop, txA, lvA, Tm.cells_eq (txR s m).1, Tm.cells_eq (txR s (lvR s).1).1, Tm.cells_eq (txR s ((lvR s).1 - 1)).1, hw]; refine q0 _ ?_; clear q0 Q0; simp only [go_sem])
          refine aops_chunk 1 fun Q0 q0 => ?_
          simp only [↓bO, go_sem, seval, Tok.cells, qC, List.take, List.drop, txA, lvA, Tm.cells_eq (txR s m).1, Tm.cells_eq (txR s (lvR s).1).1, Tm.cells_eq (txR s ((lvR s).1 - 1)).1, hw]
          refine APure.call ((show APure Tryd.prog 13 [.agg [.v (.int .i64 (txR s m).1.k), .v (.string (txR s m).1.s), .v (.int .i64 (txR s m).1.n), .v (.int .i64 (txR s m).1.t.k), .v (.int .i64 (txR s m).1.t.n), .sl 3 ((txR s m).1.t.ps.map Ty.cells), .sl 9 ((txR s m).1.ps.map Tm.cells), .v (.int .i64 (txR s m).1.a), .v (.int .i64 (txR s m).1.b)], .agg [.v (.int .i64 (txR s (lvR s).1).1.k), .v (.string (txR s (lvR s).1).1.s), .v (.int .i64 (txR s (lvR s).1).1.n), .v (.int .i64 (txR s (lvR s).1).1.t.k), .v (.int .i64 (txR s (lvR s).1).1.t.n), .sl 3 ((txR s (lvR s).1).1.t.ps.map Ty.cells), .sl 9 ((txR s (lvR s).1).1.ps.map Tm.cells), .v (.int .i64 (txR s (lvR s).1).1.a), .v (.int .i64 (txR s (lvR s).1).1.b)]] (.v (.bool true)) from by (have h9 := Equal_pure (txR s m).1; have h8 := h9; rw [← hteq] ; exact h9))) ?_
          try simp only [bS, bA, thenQ, blockQ, noGotoQ]
          iterate 3 (refine q0 _ ?_; clear q0 Q0; simp only [go_sem]; refine aops_chunk 1 fun Q0 q0 => ?_; simp only [↓bO, go_sem, seval, Tok.cells, qC, List.take, List.drop, txA, lvA, Tm.cells_eq (txR s m).1, Tm.cells_eq (txR s (lvR s).1).1, Tm.cells_eq (txR s ((lvR s).1 - 1)).1, hw])
          refine q0 _ ?_
          clear q0 Q0
          simp only [go_sem]
          refine aops_case 93 rfl (fun hc93 => ?_) (fun hc93 => ?_)
          ·
           simp only [List.set_cons_zero, List.set_cons_succ]
           refine aops_chunk 1 fun Q0 q0 => ?_
           simp only [↓bO, go_sem, seval, Tok.cells, qC, List.take, List.drop, txA, lvA, Tm.cells_eq (txR s m).1, Tm.cells_eq (txR s (lvR s).1).1, Tm.cells_eq (txR s ((lvR s).1 - 1)).1, hw]
           refine APure.call (awake6_pure) ?_
           try simp only [bS, bA, thenQ, blockQ, noGotoQ]
           refine q0 _ ?_
           clear q0 Q0
           simp only [go_sem]
           refine aops_chunk 1 fun Q0 q0 => ?_
           simp only [↓bO, go_sem, seval, Tok.cells, qC, List.take, List.drop, txA, lvA, Tm.cells_eq (txR s m).1, Tm.cells_eq (txR s (lvR s).1).1, Tm.cells_eq (txR s ((lvR s).1 - 1)).1, hw]
           refine q0 _ ?_
           clear q0 Q0
           simp only [go_sem]
           simp only [↓bO, go_sem, seval, Tok.cells, qC, List.take, List.drop, txA, lvA, Tm.cells_eq (txR s m).1, Tm.cells_eq (txR s (lvR s).1).1, Tm.cells_eq (txR s ((lvR s).1 - 1)).1, hw]
           refine y0 _ ?_
           try clear y0 Y0
           refine AWp_ret ?_
           try simp only [thenQ, blockQ, noGotoQ, retQ, aRes, tupOf, bS, bA]
           first | exact Le.refl _ | exact Le.of_eq (congrArg (fun b => AV.v (.bool b)) (by simp_all))
          ·
           simp only [List.set_cons_zero, List.set_cons_succ]
           iterate 2 (refine aops_chunk 1 fun Q0 q0 => ?_; simp only [↓bO, go_sem, seval, Tok.cells, qC, List.take, List.drop, txA, lvA, Tm.cells_eq (txR s m).1, Tm.cells_eq (txR s (lvR s).1).1, Tm.cells_eq (txR s ((lvR s).1 - 1)).1, hw]; refine q0 _ ?_; clear q0 Q0; simp only [go_sem])
           simp only [↓bO, go_sem, seval, Tok.cells, qC, List.take, List.drop, txA, lvA, Tm.cells_eq (txR s m).1, Tm.cells_eq (txR s (lvR s).1).1, Tm.cells_eq (txR s ((lvR s).1 - 1)).1, hw]
           refine y0 _ ?_
           try clear y0 Y0
           refine AWp_ret ?_
           try simp only [thenQ, blockQ, noGotoQ, retQ, aRes, tupOf, bS, bA]
           first | exact Le.refl _ | exact Le.of_eq (congrArg (fun b => AV.v (.bool b)) (by simp_all))
        ·
         simp only [List.set_cons_zero, List.set_cons_succ]
         have hok : ¬ (txR s m).2.2 = 0 := by simpa using hc79
         have hd := gd hok
         iterate 5 (refine aops_chunk 1 fun Q0 q0 => ?_; simp only [↓bO, go_sem, seval, Tok.cells, qC, List.take, List.drop, txA, lvA, Tm.cells_eq (txR s m).1, Tm.cells_eq (txR s (lvR s).1).1, Tm.cells_eq (txR s ((lvR s).1 - 1)).1, hw]; refine q0 _ ?_; clear q0 Q0; simp only [go_sem])
         refine aops_case 84 rfl (fun hc84 => ?_) (fun hc84 => ?_)
         ·
          simp only [List.set_cons_zero, List.set_cons_succ]
          iterate 3 (refine aops_chunk 1 fun Q0 q0 => ?_; simp only [↓bO, go_sem, seval, Tok.cells, qC, List.take, List.drop, txA, lvA, Tm.cells_eq (txR s m).1, Tm.cells_eq (txR s (lvR s).1).1, Tm.cells_eq (txR s ((lvR s).1 - 1)).1, hw]; refine q0 _ ?_; clear q0 Q0; simp only [go_sem])
          refine aops_case 87 rfl (fun hc87 => ?_) (fun hc87 => ?_)
          ·
           simp only [List.set_cons_zero, List.set_cons_succ]
           have hok2 : ¬ (txR s m).2.2 = 0 := by simpa using hc87
           iterate 6 (refine aops_chunk 1 fun Q0 q0 => ?_; simp only [↓bO, go_sem, seval, Tok.cells, qC, List.take, List.drop, txA, lvA, Tm.cells_eq (txR s m).1, Tm.cells_eq (txR s (lvR s).1).1, Tm.cells_eq (txR s ((lvR s).1 - 1)).1, hw]; refine q0 _ ?_; clear q0 Q0; simp only [go_sem])
           refine aops_chunk 1 fun Q0 q0 => ?_
           simp only [↓bO, go_sem, seval, Tok.cells, qC, List.take, List.drop, txA, lvA, Tm.cells_eq (txR s m).1, Tm.cells_eq (txR s (lvR s).1).1, Tm.cells_eq (txR s ((lvR s).1 - 1)).1, hw]
           refine APure.call (awake6_pure) ?_
           try simp only [bS, bA, thenQ, blockQ, noGotoQ]
           refine q0 _ ?_
           clear q0 Q0
           simp only [go_sem]
           refine aops_chunk 1 fun Q0 q0 => ?_
           simp only [↓bO, go_sem, seval, Tok.cells, qC, List.take, List.drop, txA, lvA, Tm.cells_eq (txR s m).1, Tm.cells_eq (txR s (lvR s).1).1, Tm.cells_eq (txR s ((lvR s).1 - 1)).1, hw]
           refine q0 _ ?_
           clear q0 Q0
           simp only [go_sem]
           simp only [↓bO, go_sem, seval, Tok.cells, qC, List.take, List.drop, txA, lvA, Tm.cells_eq (txR s m).1, Tm.cells_eq (txR s (lvR s).1).1, Tm.cells_eq (txR s ((lvR s).1 - 1)).1, hw]
           refine y0 _ ?_
           try clear y0 Y0
           refine AWp_ret ?_
           try simp only [thenQ, blockQ, noGotoQ, retQ, aRes, tupOf, bS, bA]
           first | exact Le.refl _ | exact Le.of_eq (congrArg (fun b => AV.v (.bool b)) (by simp_all))
          ·
           simp only [List.set_cons_zero, List.set_cons_succ]
           have hok2 : (txR s m).2.2 = 0 := by simpa using hc87
           have hteq := gt hok2
           iterate 2 (refine aops_chunk 1 fun Q0 q0 => ?_; simp only [↓bO, go_sem, seval, Tok.cells, qC, List.take, List.drop, txA, lvA, Tm.cells_eq (txR s m).1, Tm.cells_eq (txR s (lvR s).1).1, Tm.cells_eq (txR s ((lvR s).1 - 1)).1, hw]; refine q0 _ ?_; clear q0 Q0; simp only [go_sem])
           refine aops_chunk 1 fun Q0 q0 => ?_
           simp only [↓bO, go_sem, seval, Tok.cells, qC, List.take, List.drop, txA, lvA, Tm.cells_eq (txR s m).1, Tm.cells_eq (txR s (lvR s).1).1, Tm.cells_eq (txR s ((lvR s).1 - 1)).1, hw]
           refine APure.call ((show APure Tryd.prog 13 [.agg [.v (.int .i64 (txR s m).1.k), .v (.string (txR s m).1.s), .v (.int .i64 (txR s m).1.n), .v (.int .i64 (txR s m).1.t.k), .v (.int .i64 (txR s m).1.t.n), .sl 3 ((txR s m).1.t.ps.map Ty.cells), .sl 9 ((txR s m).1.ps.map Tm.cells), .v (.int .i64 (txR s m).1.a), .v (.int .i64 (txR s m).1.b)], .agg [.v (.int .i64 (txR s (lvR s).1).1.k), .v (.string (txR s (lvR s).1).1.s), .v (.int .i64 (txR s (lvR s).1).1.n), .v (.int .i64 (txR s (lvR s).1).1.t.k), .v (.int .i64 (txR s (lvR s).1).1.t.n), .sl 3 ((txR s (lvR s).1).1.t.ps.map Ty.cells), .sl 9 ((txR s (lvR s).1).1.ps.map Tm.cells), .v (.int .i64 (txR s (lvR s).1).1.a), .v (.int .i64 (txR s (lvR s).1).1.b)]] (.v (.bool true)) from by (have h9 := Equal_pure (txR s m).1; have h8 := h9; rw [← hteq] ; exact h9))) ?_
           try simp only [bS, bA, thenQ, blockQ, noGotoQ]
           iterate 3 (refine q0 _ ?_; clear q0 Q0; simp only [go_sem]; refine aops_chunk 1 fun Q0 q0 => ?_; simp only [↓bO, go_sem, seval, Tok.cells, qC, List.take, List.drop, txA, lvA, Tm.cells_eq (txR s m).1, Tm.cells_eq (txR s (lvR s).1).1, Tm.cells_eq (txR s ((lvR s).1 - 1)).1, hw])
           refine q0 _ ?_
           clear q0 Q0
           simp only [go_sem]
           refine aops_case 93 rfl (fun hc93 => ?_) (fun hc93 => ?_)
           ·
            simp only [List.set_cons_zero, List.set_cons_succ]
            refine aops_chunk 1 fun Q0 q0 => ?_
            simp only [↓bO, go_sem, seval, Tok.cells, qC, List.take, List.drop, txA, lvA, Tm.cells_eq (txR s m).1, Tm.cells_eq (txR s (lvR s).1).1, Tm.cells_eq (txR s ((lvR s).1 - 1)).1, hw]
            refine APure.call (awake6_pure) ?_
            try simp only [bS, bA, thenQ, blockQ, noGotoQ]
            refine q0 _ ?_
            clear q0 Q0
            simp only [go_sem]
            refine aops_chunk 1 fun Q0 q0 => ?_
            simp only [↓bO, go_sem, seval, Tok.cells, qC, List.take, List.drop, txA, lvA, Tm.cells_eq (txR s m).1, Tm.cells_eq (txR s (lvR s).1).1, Tm.cells_eq (txR s ((lvR s).1 - 1)).1, hw]
            refine q0 _ ?_
            clear q0 Q0
            simp only [go_sem]
            simp only [↓bO, go_sem, seval, Tok.cells, qC, List.take, List.drop, txA, lvA, Tm.cells_eq (txR s m).1, Tm.cells_eq (txR s (lvR s).1).1, Tm.cells_eq (txR s ((lvR s).1 - 1)).1, hw]
            refine y0 _ ?_
            try clear y0 Y0
            refine AWp_ret ?_
            try simp only [thenQ, blockQ, noGotoQ, retQ, aRes, tupOf, bS, bA]
            first | exact Le.refl _ | exact Le.of_eq (congrArg (fun b => AV.v (.bool b)) (by simp_all))
           ·
            simp only [List.set_cons_zero, List.set_cons_succ]
            iterate 2 (refine aops_chunk 1 fun Q0 q0 => ?_; simp only [↓bO, go_sem, seval, Tok.cells, qC, List.take, List.drop, txA, lvA, Tm.cells_eq (txR s m).1, Tm.cells_eq (txR s (lvR s).1).1, Tm.cells_eq (txR s ((lvR s).1 - 1)).1, hw]; refine q0 _ ?_; clear q0 Q0; simp only [go_sem])
            simp only [↓bO, go_sem, seval, Tok.cells, qC, List.take, List.drop, txA, lvA, Tm.cells_eq (txR s m).1, Tm.cells_eq (txR s (lvR s).1).1, Tm.cells_eq (txR s ((lvR s).1 - 1)).1, hw]
            refine y0 _ ?_
            try clear y0 Y0
            refine AWp_ret ?_
            try simp only [thenQ, blockQ, noGotoQ, retQ, aRes, tupOf, bS, bA]
            first | exact Le.refl _ | exact Le.of_eq (congrArg (fun b => AV.v (.bool b)) (by simp_all))
         ·
          simp only [List.set_cons_zero, List.set_cons_succ]
          exact absurd hc84 (by simp [hd])
       ·
        simp only [List.set_cons_zero, List.set_cons_succ]
        exact absurd hc76 (if h : (lvR s).1 ≤ m then by (have h9 := gm.2 h; simp [h9, h]) else by (have h9 : ¬ (txR s m).2.2 = 0 := fun g => h (gm.1 g); simp [h9, h]))
      ·
       simp only [List.set_cons_zero, List.set_cons_succ]
       exact absurd hc68 (by simp [gl])
     ·
      simp only [List.set_cons_zero, List.set_cons_succ]
      exact absurd hc64 (by simp [gn])
    ·
     simp only [List.set_cons_zero, List.set_cons_succ]
     exact absurd hc60 (by simp; omega)
end Go.Proofs.YtkokfdmggdhfmaaDoor
namespace Go.Proofs.YtkokfdmggdhfmaaDoor.parseLevels
open Go Go.ChangeShapes Go.WideShapes Go.ChangeAt Go.RowKit
set_option linter.unusedVariables false
theorem own : ownKnob Tryd.prog.godebug = none := by kernel_rfl
theorem laidOut : laidOutB Tryd.prog = true := by kernel_rfl
theorem cT : Tryd.prog.cellsOf 25 = 3 := by kernel_rfl
theorem cI : Tryd.prog.cellsOf 3 = 1 := by kernel_rfl
theorem cS : Tryd.prog.cellsOf 23 = 1 := by kernel_rfl
section
variable {H : Type} {enc : TypeId × Value → H} {w : World} {base : Nat} {spare : Nat → Bool} {held : Bool}
theorem rdT (fuel : Nat) : Rd enc Tryd.prog w base spare held Env.none fuel 25 Ty.cells :=
  rd_ty Tryd.underlying25 cT rfl rfl rfl rfl rfl rfl Tryd.underlying3 cI Tryd.underlying23 cS fuel
theorem rdS (fuel : Nat) : Rd enc Tryd.prog w base spare held Env.none fuel 23 (fun xs : List Ty => [.sl 3 (xs.map Ty.cells)]) :=
  rd_slice Tryd.underlying23 cT (by omega) Ty.cells_len fun n _ => rdT n
end
set_option maxRecDepth 100000 in
theorem lifted (os : Go.Os) (started : os.Started) (H : Type) (enc : TypeId × Value → H) :
    ReturnsInHanded {} Tryd.checked os 4 .any (fun w args => (Rows.parseLevelsSpec.pre enc Tryd.prog Tryd.f4 Rows.parseLevelsRow.domain false w args ∧ laidMetH Tryd.prog Rows.parseLevelsRow.laid w) ∧ sizedMet enc Tryd.prog Tryd.f4 (OpenSpec.ofChange Rows.parseLevelsSpec) false w args)
      (Rows.parseLevelsSpec.post enc Tryd.prog Tryd.f4 false true false false) := by
  refine returnsInHanded_of_change_and (C := Tryd.checked) (X := fun w _ => laidMetH Tryd.prog Rows.parseLevelsRow.laid w) (fun _ _ _ hh h => h.of_heap hh) own started (by kernel_rfl) Tryd.func4
    (ChangeSpec.witness_shaped (enc := enc) (C := Tryd.checked) (os := os) (X := fun w _ => laidMetH Tryd.prog Rows.parseLevelsRow.laid w) false (World.laidAll Tryd.prog os Rows.parseLevelsRow.laid) #[.string ByteArray.empty, .int .i64 0] 8 (World.laidAll_os _ _ _)
      (World.shaped_of_ZipB (by kernel_rfl) (by kernel_rfl)) (by kernel_rfl) (by kernel_rfl) (by kernel_rfl)
      (by rw [MakeChecks.laidMetH_plain _ _ _ (by kernel_rfl)]; exact laidMet_laidAll _ (by kernel_rfl) (by kernel_rfl))) ?_
  intro W base args ds gs before hval0 hW hcnd _ hL _
  have hlaid : laidMet Tryd.prog Rows.parseLevelsRow.laid W := by have h := hL; rw [MakeChecks.laidMetH_plain _ _ _ (by kernel_rfl)] at h; exact h
  have hgl : Gl (fun _ _ => False) W := by
    refine ⟨?_, ?_, ?_⟩
    · intro p hp
      have hp : p ∈ [(0, gv0), (5, gv5)] := hp
      rcases List.mem_cons.1 hp with rfl | hp
      · refine gl_one (Lib.tabIs_of_head (zs := gz0) (k := .u8) (g := 0) (t := 114) (e := 5) (n := 256) (rest := []) (name := "strings.asciiSpace") (by kernel_rfl) (by kernel_rfl) Tryd.underlying114 Tryd.underlying5 (by kernel_rfl) (by kernel_rfl) ?_) (by kernel_rfl) rfl
        have h := hlaid.filter (fun x => x.1 == "strings.asciiSpace")
        rw [show (Rows.parseLevelsRow.laid.filter fun x => x.1 == "strings.asciiSpace") = [("strings.asciiSpace", Lib.tabData .u8 gz0)] from by kernel_rfl] at h
        exact h
      rcases List.mem_cons.1 hp with rfl | hp
      · refine gl_one (Lib.tabIs_of_head (zs := gz5) (k := .u64) (g := 5) (t := 166) (e := 138) (n := 20) (rest := []) (name := "internal/strconv.uint64pow10") (by kernel_rfl) (by kernel_rfl) Tryd.underlying166 Tryd.underlying138 (by kernel_rfl) (by kernel_rfl) ?_) (by kernel_rfl) rfl
        have h := hlaid.filter (fun x => x.1 == "internal/strconv.uint64pow10")
        rw [show (Rows.parseLevelsRow.laid.filter fun x => x.1 == "internal/strconv.uint64pow10") = [("internal/strconv.uint64pow10", Lib.tabData .u64 gz5)] from by kernel_rfl] at h
        exact h
      cases hp
    · intro p hp
      have hp : p ∈ ([3, 4] : List Nat) := hp
      rcases List.mem_cons.1 hp with rfl | hp
      · have h := hlaid.filter (fun x => x.1 == "strconv.ErrSyntax")
        rw [show (Rows.parseLevelsRow.laid.filter fun x => x.1 == "strconv.ErrSyntax") = [("strconv.ErrSyntax", .iface "*errors.errorString" (.ptr (.agg [.lit (.string [105, 110, 118, 97, 108, 105, 100, 32, 115, 121, 110, 116, 97, 120])])))] from by kernel_rfl] at h
        obtain ⟨a0, s0, hv0, _⟩ := laid_sentinel (g := 3) (ti := 97) (tp := 173) (te := 175) (ts := 9) h (by kernel_rfl) (by kernel_rfl) Tryd.underlying97
          (fun u hu => typeName_ptr_named (nm := "errors.errorString") (by rw [show "*" ++ "errors.errorString" = "*errors.errorString" by decide]; kernel_rfl) (by kernel_rfl) (by decide) u (by rw [show "*" ++ "errors.errorString" = "*errors.errorString" by decide]; exact hu))
          Tryd.underlying173 Tryd.underlying175 rfl rfl Tryd.underlying9 (by kernel_rfl) (by kernel_rfl)
        exact glE_one hv0 (by kernel_rfl)
      rcases List.mem_cons.1 hp with rfl | hp
      · have h := hlaid.filter (fun x => x.1 == "strconv.ErrRange")
        rw [show (Rows.parseLevelsRow.laid.filter fun x => x.1 == "strconv.ErrRange") = [("strconv.ErrRange", .iface "*errors.errorString" (.ptr (.agg [.lit (.string [118, 97, 108, 117, 101, 32, 111, 117, 116, 32, 111, 102, 32, 114, 97, 110, 103, 101])])))] from by kernel_rfl] at h
        obtain ⟨a0, s0, hv0, _⟩ := laid_sentinel (g := 4) (ti := 97) (tp := 173) (te := 175) (ts := 9) h (by kernel_rfl) (by kernel_rfl) Tryd.underlying97
          (fun u hu => typeName_ptr_named (nm := "errors.errorString") (by rw [show "*" ++ "errors.errorString" = "*errors.errorString" by decide]; kernel_rfl) (by kernel_rfl) (by decide) u (by rw [show "*" ++ "errors.errorString" = "*errors.errorString" by decide]; exact hu))
          Tryd.underlying173 Tryd.underlying175 rfl rfl Tryd.underlying9 (by kernel_rfl) (by kernel_rfl)
        exact glE_one hv0 (by kernel_rfl)
      cases hp
    · intro p hp
      cases hp
  have hval : ∀ (j : Nat) t v, Tryd.f4.params[j]? = some t → args[j]? = some v → Value.okWide Tryd.prog W .any base t v := hval0
  have hW' := hW
  obtain ⟨p, q, hA0, hV, rfl, hfz, hnd⟩ := hW
  have hA : DataW.TrodAll enc Tryd.prog W 0 (fun _ => true) true Tryd.f4.params.toList args.toList ds p := hA0
  rw [Tryd.params4] at hA hval
  obtain ⟨v0, vs0, d0, ds0, p0, q0, hargs, rfl, rfl, h0, r0⟩ := trodAll_cons hA
  obtain ⟨v1, vs1, d1, ds1, p1, q1, rfl, rfl, rfl, h1, r1⟩ := trodAll_cons r0
  obtain ⟨rfl, rfl, rfl⟩ := trodAll_nil r1
  obtain rfl : args = #[v0, v1] := by cases args; simp_all
  obtain ⟨rfl, rfl⟩ := trodVars_none hV
  obtain ⟨a0, rfl, rfl, rfl, w0⟩ := ChangeMaps.open_string Tryd.underlying9 (hval 0 9 v0 rfl rfl) h0
  obtain ⟨a1, rfl, rfl, rfl, w1⟩ := open_int Tryd.underlying3 (hval 1 3 v1 rfl rfl) h1
  clear hA0 hval0
  refine ((ParseLevels_pure a0 a1 (by (have h9 := w1; have e2 : IntKind.i64.max = 9223372036854775807 := rfl; simp only [Lit.wf, Bool.and_eq_true, decide_eq_true_eq, e2] at h9; omega))).calls (w := W) rfl ?_ hgl).mono fun e W' ⟨he, bel⟩ => ?_
  · intro i c u hc hu
    match i with
    | 0 => simp at hc hu; subst hc; subst hu; exact .v _
    | 1 => simp at hc hu; subst hc; subst hu; exact .v _
    | i + 2 => simp at hc
  subst he
  exact ⟨_, rfl, _, _, _, [], _, [], hW', trodAll_mk1 (shut_bool Tryd.underlying4 _), (trodAll_cons_mk (ChangeMaps.shut_string Tryd.underlying9 w0) (trodAll_cons_mk (shut_int Tryd.underlying3 w1) trodAll_mk0)), rfl, bel.frame _, fun h => by cases h⟩
theorem over : Rows.parseLevelsRow.holds Tryd.pinned (OpenSpec.ofChange Rows.parseLevelsSpec) :=
  OpenClaim.holds_of_wide 4 Tryd.f4 rfl rfl rfl rfl rfl rfl rfl ⟨rfl, rfl, rfl, rfl, rfl⟩ rfl rfl rfl rfl rfl (by kernel_rfl) Tryd.func4 (by kernel_rfl)
    (of_decide_eq_true (by kernel_rfl)) (by unfold Func.isWrapper; first | (rw [if_pos (by decide +kernel)]; kernel_rfl) | (rw [if_neg (by decide +kernel)]; exact ⟨rfl, rfl⟩))
    (fun os started H enc _ => lifted os started H enc)
end Go.Proofs.YtkokfdmggdhfmaaDoor.parseLevels
namespace Go.Proofs.YtkokfdmggdhfmaaDoor
theorem parseLevels_proved : Rows.ParseLevelsCardSaid :=
  Claim7.holds_tied_plain_at .later [] _ _ _ _ parseLevels.over (fun _ h => by cases h) (by kernel_rfl) (fun _ h => by cases h) parseLevels_row_tie rfl ⟨rfl, rfl⟩ (by kernel_rfl) rfl
    (fun f fn hf hfn => by
      obtain rfl : f = 4 := Option.some.inj ((show Tryd.prog.funcNamed "pangram/pangramlaw06.ParseLevels" = some 4 by kernel_rfl).symm.trans hf) |>.symm
      obtain rfl : fn = Tryd.f4 := (Option.some.inj (Tryd.func4.symm.trans hfn)).symm
      refine ⟨by kernel_rfl, fun j t ht => ?_⟩
      rw [Tryd.params4] at ht
      have hm : t ∈ [9, 3] := by simpa using Array.mem_of_getElem? ht
      have hall : ([9, 3].all fun u => !Tryd.prog.wantsStandIn u) = true := by kernel_rfl
      have := List.all_eq_true.1 hall t hm
      have h9 : Tryd.prog.wantsStandIn t = false := by simpa using this
      exact h9)
    (by kernel_rfl)
#print axioms parseLevels_proved
end Go.Proofs.YtkokfdmggdhfmaaDoor
