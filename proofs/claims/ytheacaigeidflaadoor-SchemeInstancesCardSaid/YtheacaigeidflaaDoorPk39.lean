/- Texts of the abstract walk, of the contracts and of the plain laws, packed (part 39 of 44): Sc6 Sc7 Sc8 Sc9 Sc10 Sc11 Sc12. Conditions: none. -/
import Derived.Test.YtheacaigeidflaaDoorPk38
namespace Go.Proofs.YtheacaigeidflaaDoor
open Go Go.RowKit
set_option maxRecDepth 100000
set_option maxHeartbeats 4000000
set_option linter.unusedSimpArgs false
set_option linter.unusedVariables false
attribute [local irreducible] aops dRun
theorem inst_le {id : Nat} (l : List Bd) (v : Int) (u : Ty) : Le (.osl id 4 (l.map Bd.cells ++ [.v (.int .i64 v) :: u.cells])) (.osl id 4 ((l ++ [(⟨v, u⟩ : Bd)]).map Bd.cells)) := .of_eq (by rw [List.map_append]; rfl)
theorem zSch_le : Le (.agg [.v (.slice none 0 0), .v (.int .i64 0), .v (.int .i64 0), .v (.slice none 0 0)]) (.agg zSch.cells) := .agg (by rw [Sch.cells_eq]; exact ⟨Le.slNil 1, .refl _, .refl _, Le.slNil 3, trivial⟩)
def closeS (t : Ty) (ar : List Ty) : Sch := if t.right = true then closeR t ar else zSch
theorem Inst16_pure (s : Sch) (t : Ty) (hv : s.vs.length ≤ 1048576) (hc : s.t.cnt ≤ 1048576) : APure Tryd.prog 20 [.agg s.cells, .agg t.cells] (.v (.bool ((s.t.sub (instB s t)).same t))) := by
  refine APure.mkL (.cons Sch.agg (.cons (Ty.dataAgg _) .nil)) (.v _) ?_
  refine ACalls_intro Tryd.func20 (by kernel_rfl) rfl (by rw [Tryd.ntmps20]; simp) (fun hm => ?_)
  simp only [Tryd.ntmps20, Tryd.results20, List.length_cons, List.length_nil, Nat.reduceAdd, Nat.reduceSub, List.replicate_succ, List.replicate_zero, List.cons_append, List.nil_append]
  refine AWp_joinZ (mB 44 12) ([(2, .eptr s.cells), (3, .eptr t.cells)]) [] 0 (True) ?_ (fun hC => ?_)
  ·
   refine AWp_region ?_
   iterate 2 (refine aops_chunk 1 fun Q0 q0 => ?_; simp only [↓bO, go_sem, seval, Sch.cells, Bd.cells]; refine q0 _ ?_; clear q0 Q0; simp only [go_sem])
   simp only [↓bO, go_sem, seval, Sch.cells, Bd.cells]
   try simp only [maskL, setsL, putsO, putO, mB, List.set_cons_zero, List.set_cons_succ, seval]
   first | refine ⟨trivial, ?_⟩ | skip
   refine Weak.freeze ?_ trivial (by first | omega | (simp only; omega)) (by first | omega | (simp only; omega)) ?_ ?_
   · repeat' first | trivial | exact .inr ⟨_, _, _, rfl, rfl, rfl, rfl⟩ | exact .inl (.refl _) | exact .inl (.any _) | (refine ⟨?_, ?_⟩)
   · repeat' first | exact trivial | exact .any _ | exact .v _ _ | exact .ptr (by omega) | exact Und.data (dataInts _) | exact Und.data Sch.eptr | exact Und.data Sch.agg | exact Und.data (Ty.dataSl _) | exact Und.data (.eptr (Ty.data _)) | exact Und.data (.eptr (.cons (dataInts _) .nil)) | exact .own (by omega) | (refine ⟨?_, ?_⟩)
   · repeat' first | exact trivial | (with_reducible omega) | exact Und.rowI (iD_data _) | exact UndL.data (Ty.data _) | exact UndL.data (Sch.data _) | exact .v _ _ | (refine ⟨?_, ?_⟩)
  simp only [maskL, setsL, putsO, putO, mB, List.set_cons_zero, List.set_cons_succ, seval]
  refine AWp_seqK fun Y0 y0 => ?_
  refine AWp_region ?_
  simp only [↓bO, go_sem, seval, Sch.cells, Bd.cells]
  refine y0 _ ?_
  try clear y0 Y0
  refine AWp_seqK fun Y0 y0 => ?_
  refine AWp_seqK fun Y1 y1 => ?_
  refine AWp_region ?_
  simp only [↓bO, go_sem, seval, Sch.cells, Bd.cells]
  refine y1 _ ?_
  try clear y1 Y1
  refine AWp_block ?_
  refine AWp_weak (Weak.tokSlot 5 66 4 rfl) ?_
  simp only [List.set_cons_zero, List.set_cons_succ]
  refine AWp_loopM (σ := Nat) (mB 44 108) (fun z => z ≤ s.vs.length) (fun z => [(5, .osl 0 4 (((instB s t).take z).map Bd.cells)), (6, .v (.int .i64 (z : Int)))]) (fun z => [(0, .tok 66 4 z)]) (fun z => s.vs.length - z) 0 (Nat.zero_le _) ?_ (fun z hz => ?_)
  ·
   simp only [maskL, setsL, putsO, putO, mB, List.set_cons_zero, List.set_cons_succ, seval, bL]
   exact Weak.mk (by simp only [go_sem, Le.refl, Le.any, Le.slNil, Int.natCast_add, Int.cast_ofNat_Int, Int.natCast_one]) (fun _ _ h => h) rfl rfl
  simp only [maskL, setsL, putsO, putO, mB, List.set_cons_zero, List.set_cons_succ, seval]
  refine AWp_seqK fun Y1 y1 => ?_
  refine AWp_seqK fun Y2 y2 => ?_
  refine AWp_region ?_
  iterate 4 (refine aops_chunk 1 fun Q0 q0 => ?_; simp only [↓bO, go_sem, seval, Sch.cells, Bd.cells]; refine q0 _ ?_; clear q0 Q0; simp only [go_sem])
  simp only [↓bO, go_sem, seval, Sch.cells, Bd.cells]
  refine y2 _ ?_
  try clear y2 Y2
  refine AWp_cond rfl (fun hb13 => ?_) (fun hb13 => ?_)
  ·
   have hk : z < s.vs.length := by (have h9 := hb13; simp at h9; omega)
   obtain ⟨v, hv9⟩ : ∃ v, s.vs[z]? = some v := ⟨_, List.getElem?_eq_getElem hk⟩
   have hw : IntKind.i64.wrap ((z : Int) + 1) = (z : Int) + 1 := wrap_in (by omega) (by omega)
   have hcl : ((instB s t).take z).length = z := by (rw [List.length_take, instB_len]; omega)
   have hb1 : (z + 1) * 48 ≤ 140737488355328 := by omega
   have hb2 : z + 1 ≤ maxLen := by (simp only [maxLen]; omega)
   have hst := instB_step (t := t) hv9
   refine AWp_skip ?_
   try simp only [thenQ, blockQ, noGotoQ]
   refine y1 _ ?_
   try clear y1 Y1
   refine AWp_seqK fun Y1 y1 => ?_
   refine AWp_block ?_
   refine AWp_joinZ (mB 44 236) ([(7, .eptr ((s.t.stand v t).getD (.mk 0 0 [])).cells)]) [(0, .tok 66 4 z)] 1 (True) ?_ (fun hC => ?_)
   ·
    refine AWp_drawKF 13 [11] mixed (by kernel_rfl) (fun _ _ h => h) fun J0 j0 => ?_
    iterate 8 (simp only [go_sem]; refine dRun_chunk 1 fun Q0 q0 => ?_; simp only [↓dRun, ↓dOp, ↓bO, go_sem, seval, Sch.cells, Bd.cells, hk, gM hv9, intC, hw, hcl, hb1, hb2, Int.natCast_add]; refine q0 _ ?_; clear q0 Q0)
    simp only [go_sem]
    refine dRun_chunk 1 fun Q0 q0 => ?_
    simp only [↓dRun, ↓dOp, ↓bO, go_sem, seval, Sch.cells, Bd.cells, hk, gM hv9, intC, hw, hcl, hb1, hb2, Int.natCast_add]
    refine ⟨_, At_pure s.t t v, ?_⟩
    try simp only [bS, bA, thenQ, blockQ, noGotoQ]
    iterate 3 (refine q0 _ ?_; clear q0 Q0; simp only [go_sem]; refine dRun_chunk 1 fun Q0 q0 => ?_; simp only [↓dRun, ↓dOp, ↓bO, go_sem, seval, Sch.cells, Bd.cells, hk, gM hv9, intC, hw, hcl, hb1, hb2, Int.natCast_add])
    refine q0 _ ?_
    clear q0 Q0
    simp only [go_sem]
    simp only [↓dRun, ↓dOp, ↓bO, go_sem, seval, Sch.cells, Bd.cells, hk, gM hv9, intC, hw, hcl, hb1, hb2, Int.natCast_add]
    refine j0 _ ?_
    clear j0 J0
    simp only [go_sem]
    refine aops_chunk 1 fun Q0 q0 => ?_
    simp only [↓bO, go_sem, seval, Sch.cells, Bd.cells, hk, gM hv9, intC, hw, hcl, hb1, hb2, Int.natCast_add]
    refine q0 _ ?_
    clear q0 Q0
    simp only [go_sem]
    simp only [↓bO, go_sem, seval, Sch.cells, Bd.cells, hk, gM hv9, intC, hw, hcl, hb1, hb2, Int.natCast_add]
    try simp only [maskL, setsL, putsO, putO, mB, List.set_cons_zero, List.set_cons_succ, seval]
    first | refine ⟨trivial, ?_⟩ | skip
    refine Weak.freeze ?_ ⟨rfl, trivial⟩ (by first | omega | (simp only; omega)) (by first | omega | (simp only; omega)) ?_ ?_
    · repeat' first | trivial | exact .inr ⟨_, _, _, rfl, rfl, rfl, rfl⟩ | exact .inl (.refl _) | exact .inl (.any _) | (refine ⟨?_, ?_⟩)
    · repeat' first | exact trivial | exact .any _ | exact .v _ _ | exact .ptr (by omega) | exact Und.data (dataInts _) | exact Und.data (Bd.dataSl _) | exact .osl (by omega) (.data (Bd.dataSl _)) | exact Und.data Sch.eptr | exact Und.data Sch.agg | exact Und.data (Ty.dataSl _) | exact Und.data (.eptr (Ty.data _)) | exact Und.data (.eptr (.cons (dataInts _) .nil)) | exact .own (by omega) | (refine ⟨?_, ?_⟩)
    · repeat' first | exact trivial | (with_reducible omega) | exact Und.rowI (iD_data _) | exact UndL.data (Ty.data _) | exact UndL.data (Sch.data _) | exact .v _ _ | (refine ⟨?_, ?_⟩)
   simp only [maskL, setsL, putsO, putO, mB, List.set_cons_zero, List.set_cons_succ, seval]
   refine NAny_start 11 [2, 6, 7] rfl mixed ?_
   dsimp only
   refine NAny_takeK 0 rfl (by kernel_rfl) (by kernel_rfl) (by kernel_rfl) (fun _ _ h => h) (by kernel_rfl) (fun d h => by cases h; rfl) (by kernel_rfl) (G' := [2, 6, 7]) (by kernel_rfl) fun Q0 q0 => ?_
   simp only [↓bO, go_sem, seval, nHead, isE, isSE, isV, Sch.cells, Bd.cells, hk, gM hv9, intC, hw, hcl, hb1, hb2, Int.natCast_add]
   refine q0 _ ?_
   clear q0 Q0
   refine NAny_takeK 1 rfl (by kernel_rfl) (by kernel_rfl) (by kernel_rfl) (fun _ _ h => h) (by kernel_rfl) (fun d h => by cases h; rfl) (by kernel_rfl) (G' := [29, 2, 6, 7]) (by kernel_rfl) fun Q0 q0 => ?_
   simp only [↓bO, go_sem, seval, nHead, isE, isSE, isV, Sch.cells, Bd.cells, hk, gM hv9, intC, hw, hcl, hb1, hb2, Int.natCast_add]
   refine q0 _ ?_
   clear q0 Q0
   refine NAny_takeK 2 rfl (by kernel_rfl) (by kernel_rfl) (by kernel_rfl) (fun _ _ h => h) (by kernel_rfl) (fun d h => by cases h; rfl) (by kernel_rfl) (G' := [30, 29, 2, 6, 7]) (by kernel_rfl) fun Q0 q0 => ?_
   simp only [↓bO, go_sem, seval, nHead, isE, isSE, isV, Sch.cells, Bd.cells, hk, gM hv9, intC, hw, hcl, hb1, hb2, Int.natCast_add]
   refine q0 _ ?_
   clear q0 Q0
   refine NAny_takeK 3 rfl (by kernel_rfl) (by kernel_rfl) (by kernel_rfl) (fun _ _ h => h) (by kernel_rfl) (fun d h => by cases h; rfl) (by kernel_rfl) (G' := [31, 30, 29, 2, 6, 7]) (by kernel_rfl) fun Q0 q0 => ?_
   simp only [↓bO, go_sem, seval, nHead, isE, isSE, isV, Sch.cells, Bd.cells, hk, gM hv9, intC, hw, hcl, hb1, hb2, Int.natCast_add]
   refine q0 _ ?_
   clear q0 Q0
   refine NAny_takeK 4 rfl (by kernel_rfl) (by kernel_rfl) (by kernel_rfl) (fun _ _ h => h) (by kernel_rfl) (fun d h => by cases h; rfl) (by kernel_rfl) (G' := [32, 31, 30, 29, 2, 6, 7]) (by kernel_rfl) fun Q0 q0 => ?_
   simp only [↓bO, go_sem, seval, nHead, isE, isSE, isV, Sch.cells, Bd.cells, hk, gM hv9, intC, hw, hcl, hb1, hb2, Int.natCast_add]
   refine q0 _ ?_
   clear q0 Q0
   refine NAny_takeK 5 rfl (by kernel_rfl) (by kernel_rfl) (by kernel_rfl) (fun _ _ h => h) (by kernel_rfl) (fun d h => by cases h; rfl) (by kernel_rfl) (G' := [33, 32, 31, 30, 29, 2, 6, 7]) (by kernel_rfl) fun Q0 q0 => ?_
   simp only [↓bO, go_sem, seval, nHead, isE, isSE, isV, Sch.cells, Bd.cells, hk, gM hv9, intC, hw, hcl, hb1, hb2, Int.natCast_add]
   refine q0 _ ?_
   clear q0 Q0
   refine NAny_takeK 6 rfl (by kernel_rfl) (by kernel_rfl) (by kernel_rfl) (fun _ _ h => h) (by kernel_rfl) (fun d h => by cases h; rfl) (by kernel_rfl) (G' := [34, 33, 32, 31, 30, 29, 2, 6, 7]) (by kernel_rfl) fun Q0 q0 => ?_
   simp only [↓bO, go_sem, seval, nHead, isE, isSE, isV, Sch.cells, Bd.cells, hk, gM hv9, intC, hw, hcl, hb1, hb2, Int.natCast_add]
   refine q0 _ ?_
   clear q0 Q0
   refine NAny_all1 (i := 7) (by kernel_rfl) rfl (fun d h => by cases h; rfl) ?_
   refine aAt_op rfl rfl fun Q0 q0 => ?_
   simp only [↓bO, go_sem, seval, Sch.cells, Bd.cells, hk, gM hv9, intC, hw, hcl, hb1, hb2, Int.natCast_add]
   refine q0 _ ⟨⟨rfl, rfl, rfl, rfl, rfl, rfl, rfl, rfl, rfl, trivial⟩, ?_⟩
   clear q0 Q0
   refine NAny_all1 (i := 8) (by kernel_rfl) rfl (fun d h => by cases h; rfl) ?_
   refine aAt_op rfl rfl fun Q0 q0 => ?_
   simp only [↓bO, go_sem, seval, ↓bs1_1, ↓bs1_2, ↓bs1_3, ↓bs1_4, ↓bs1_5, ↓bs1_6, ↓bs1_7, ↓bs1_8, ↓bs1_9, ↓bs1_10, ↓bs1_11, ↓bs1_12, Sch.cells, Bd.cells, hk, gM hv9, intC, hw, hcl, hb1, hb2, Int.natCast_add]
   refine q0 _ ⟨⟨rfl, rfl, rfl, rfl, rfl, rfl, rfl, rfl, rfl, trivial⟩, ?_⟩
   clear q0 Q0
   refine NAny_all1 (i := 9) (by kernel_rfl) rfl (fun d h => by cases h; rfl) ?_
   refine aAt_op rfl rfl fun Q0 q0 => ?_
   simp only [↓bO, go_sem, seval, Sch.cells, Bd.cells, hk, gM hv9, intC, hw, hcl, hb1, hb2, Int.natCast_add]
   refine q0 _ ⟨⟨rfl, rfl, rfl, rfl, rfl, rfl, rfl, rfl, rfl, trivial⟩, ?_⟩
   clear q0 Q0
   refine NAny_all1 (i := 10) (by kernel_rfl) rfl (fun d h => by cases h; rfl) ?_
   refine aAt_op rfl rfl fun Q0 q0 => ?_
   simp only [↓bO, go_sem, seval, Sch.cells, Bd.cells, hk, gM hv9, intC, hw, hcl, hb1, hb2, Int.natCast_add]
   refine q0 _ ⟨⟨rfl, rfl, rfl, rfl, rfl, rfl, rfl, rfl, rfl, trivial⟩, ?_⟩
   clear q0 Q0
   refine NAny_done (by kernel_rfl) ?_
   simp only [thenQ, blockQ, noGotoQ]
   refine y1 _ ?_
   try clear y1 Y1
   refine AWp_region ?_
   iterate 2 (refine aops_chunk 1 fun Q0 q0 => ?_; simp only [↓bO, go_sem, seval, Sch.cells, Bd.cells, hk, gM hv9, intC, hw, hcl, hb1, hb2, Int.natCast_add]; refine q0 _ ?_; clear q0 Q0; simp only [go_sem])
   simp only [↓bO, go_sem, seval, Sch.cells, Bd.cells, hk, gM hv9, intC, hw, hcl, hb1, hb2, Int.natCast_add]
   refine ⟨z + 1, (by omega), (by omega), ?_⟩
   simp only [maskL, setsL, putsO, putO, mB, List.set_cons_zero, List.set_cons_succ, seval, Int.natCast_add, Int.natCast_one, Int.cast_ofNat_Int]
   rw [hst]
   refine Weak.mk ?_ (fun _ _ h => h) rfl rfl
   repeat' first | exact trivial | exact .refl _ | exact .any _ | exact inst_le _ _ _ | (refine ⟨?_, ?_⟩)
  ·
   have hk : z = s.vs.length := by (have h9 := hb13; simp at h9; omega)
   rw [show ((instB s t).take z) = instB s t from by rw [hk, ← instB_len s t, List.take_length]]
   refine AWp_exit ?_
   simp only [thenQ, blockQ, noGotoQ, bA, Nat.reduceEqDiff, ↓reduceIte]
   refine y0 _ ?_
   try clear y0 Y0
   refine AWp_seqK fun Y0 y0 => ?_
   refine NAny_start 7 [2, 3] rfl mixed ?_
   dsimp only
   refine NAny_takeK 0 rfl (by kernel_rfl) (by kernel_rfl) (by kernel_rfl) (fun _ _ h => h) (by kernel_rfl) (fun d h => by cases h; rfl) (by kernel_rfl) (G' := [2, 3]) (by kernel_rfl) fun Q0 q0 => ?_
   simp only [↓bO, go_sem, seval, nHead, isE, isSE, isV, Sch.cells, Bd.cells]
   refine q0 _ ?_
   clear q0 Q0
   refine NAny_takeK 1 rfl (by kernel_rfl) (by kernel_rfl) (by kernel_rfl) (fun _ _ h => h) (by kernel_rfl) (fun d h => by cases h; rfl) (by kernel_rfl) (G' := [39, 2, 3]) (by kernel_rfl) fun Q0 q0 => ?_
   simp only [↓bO, go_sem, seval, nHead, isE, isSE, isV, Sch.cells, Bd.cells]
   refine q0 _ ?_
   clear q0 Q0
   refine NAny_takeK 2 rfl (by kernel_rfl) (by kernel_rfl) (by kernel_rfl) (fun _ _ h => h) (by kernel_rfl) (fun d h => by cases h; rfl) (by kernel_rfl) (G' := [40, 39, 2, 3]) (by kernel_rfl) fun Q0 q0 => ?_
   simp only [↓bO, go_sem, seval, nHead, isE, isSE, isV, Sch.cells, Bd.cells]
   refine q0 _ ?_
   clear q0 Q0
   refine NAny_takeK 4 rfl (by kernel_rfl) (by kernel_rfl) (by kernel_rfl) (fun _ _ h => h) (by kernel_rfl) (fun d h => by cases h; rfl) (by kernel_rfl) (G' := [42, 40, 39, 2, 3]) (by kernel_rfl) fun Q0 q0 => ?_
   simp only [↓bO, go_sem, seval, nHead, isE, isSE, isV, Sch.cells, Bd.cells]
   refine q0 _ ?_
   clear q0 Q0
   refine NAny_all1 (i := 3) (by kernel_rfl) rfl (fun d h => by cases h; rfl) ?_
   refine aAt_op rfl rfl fun Q0 q0 => ?_
   simp only [↓bO, go_sem, seval, Sch.cells, Bd.cells]
   refine ACalls.args (args' := [.sl 4 ((instB s t).map Bd.cells), .agg s.t.cells]) ⟨Le.oslL, .refl _, trivial⟩ ?_
   refine APure.call (Apply_pure s.t (instB s t) (by omega)) ?_
   try simp only [bS, bA]
   refine q0 _ ⟨⟨rfl, rfl, rfl, rfl, rfl, trivial⟩, ?_⟩
   clear q0 Q0
   refine NAny_all1 (i := 5) (by kernel_rfl) rfl (fun d h => by cases h; rfl) ?_
   refine aAt_op rfl rfl fun Q0 q0 => ?_
   simp only [↓bO, go_sem, seval, Sch.cells, Bd.cells]
   refine APure.call (Same_pure (s.t.sub (instB s t)) t) ?_
   try simp only [bS, bA]
   refine q0 _ ⟨⟨rfl, rfl, rfl, rfl, rfl, trivial⟩, ?_⟩
   clear q0 Q0
   refine NAny_all1 (i := 6) (by kernel_rfl) rfl (fun d h => by cases h; rfl) ?_
   refine aAt_op rfl rfl fun Q0 q0 => ?_
   simp only [↓bO, go_sem, seval, Sch.cells, Bd.cells]
   refine q0 _ ⟨⟨rfl, rfl, rfl, rfl, rfl, trivial⟩, ?_⟩
   clear q0 Q0
   refine NAny_done (by kernel_rfl) ?_
   simp only [thenQ, blockQ, noGotoQ]
   refine y0 _ ?_
   try clear y0 Y0
   refine AWp_ret ?_
   try simp only [thenQ, blockQ, noGotoQ, retQ, aRes, tupOf, bS, bA]
   exact Le.refl _
theorem called_pure (s : Sch) (nm : Nat → Int) (g : Nat) (caps : List AV) (hok : s.ok = true) (hv : s.vs.length ≤ 1048576) (hc : s.t.cnt ≤ 1048576) (hcd : DataL caps) (hf : ∀ i : Nat, i < s.vs.length → APure Tryd.prog g (.v (.int .i64 (i : Int)) :: caps) (.v (.int .i64 (nm i)))) : APure Tryd.prog 52 [.agg s.cells, .clo g caps] (.agg (s.t.sub (callB s.vs ((List.range s.vs.length).map nm))).cells) := by
  refine APure.mkL (.cons Sch.agg (.cons (.clo hcd) .nil)) ((Ty.dataAgg _)) ?_
  refine ACalls_intro Tryd.func52 (by kernel_rfl) rfl (by rw [Tryd.ntmps52]; simp) (fun hm => ?_)
  simp only [Tryd.ntmps52, Tryd.results52, List.length_cons, List.length_nil, Nat.reduceAdd, Nat.reduceSub, List.replicate_succ, List.replicate_zero, List.cons_append, List.nil_append]
  have hnl : s.vs.length = ((List.range s.vs.length).map nm).length := by simp
  have hcv := callB_v hnl
  have hnd : ((callB s.vs ((List.range s.vs.length).map nm)).map Bd.v).Nodup := by rw [hcv]; exact Sch.vs_nodup hok
  refine AWp_joinZ (mB 30 22) ([(2, .eptr s.cells), (4, .ptr 1 0)]) [(1, .cells 25 [.v (.int .i64 0), .v (.int .i64 0), .v (.slice none 0 0)])] 2 (True) ?_ (fun hC => ?_)
  ·
   refine AWp_region ?_
   refine aops_chunk 1 fun Q0 q0 => ?_
   simp only [↓bO, go_sem, seval, Sch.cells, Bd.cells]
   refine q0 _ ?_
   clear q0 Q0
   simp only [go_sem]
   simp only [↓bO, go_sem, seval, Sch.cells, Bd.cells]
   try simp only [maskL, setsL, putsO, putO, mB, List.set_cons_zero, List.set_cons_succ, seval]
   first | refine ⟨trivial, ?_⟩ | skip
   refine Weak.freeze ?_ ⟨rfl, trivial⟩ (by first | omega | (simp only; omega)) (by first | omega | (simp only; omega)) ?_ ?_
   · repeat' first | trivial | exact .inr ⟨_, _, _, rfl, rfl, rfl, rfl⟩ | exact .inl (.refl _) | exact .inl (.any _) | (refine ⟨?_, ?_⟩)
   · repeat' first | exact trivial | exact .any _ | exact .v _ _ | exact .ptr (by omega) | exact Und.data (dataInts _) | exact Und.data (.clo hcd) | exact Und.data Sch.eptr | exact Und.data Sch.agg | exact Und.data (Ty.dataSl _) | exact Und.data (.eptr (Ty.data _)) | exact Und.data (.eptr (.cons (dataInts _) .nil)) | exact .own (by omega) | (refine ⟨?_, ?_⟩)
   · repeat' first | exact trivial | (with_reducible omega) | exact Und.rowI (iD_data _) | exact UndL.data (Ty.data _) | exact UndL.data (Sch.data _) | exact .v _ _ | (refine ⟨?_, ?_⟩)
  simp only [maskL, setsL, putsO, putO, mB, List.set_cons_zero, List.set_cons_succ, seval]
  refine AWp_seqK fun Y0 y0 => ?_
  refine AWp_region ?_
  simp only [↓bO, go_sem, seval, Sch.cells, Bd.cells]
  refine y0 _ ?_
  try clear y0 Y0
  refine AWp_seqK fun Y0 y0 => ?_
  refine AWp_seqK fun Y1 y1 => ?_
  refine AWp_region ?_
  iterate 3 (refine aops_chunk 1 fun Q0 q0 => ?_; simp only [↓bO, go_sem, seval, Sch.cells, Bd.cells]; refine q0 _ ?_; clear q0 Q0; simp only [go_sem])
  simp only [↓bO, go_sem, seval, Sch.cells, Bd.cells]
  refine y1 _ ?_
  try clear y1 Y1
  refine AWp_block ?_
  refine AWp_weak (Weak.tokSlot 5 66 4 rfl) ?_
  simp only [List.set_cons_zero, List.set_cons_succ]
  refine AWp_loopM (σ := Nat) (mB 30 3638) (fun z => z ≤ s.vs.length) (fun z => [(5, .osl 2 4 (((callB s.vs ((List.range s.vs.length).map nm)).take z).map Bd.cells)), (11, .v (.int .i64 (z : Int)))]) (fun z => [(2, .tok 66 4 z)]) (fun z => s.vs.length - z) 0 (Nat.zero_le _) ?_ (fun z hz => ?_)
  ·
   simp only [maskL, setsL, putsO, putO, mB, List.set_cons_zero, List.set_cons_succ, seval, bL]
   exact Weak.mk (by simp only [go_sem, Le.refl, Le.any, Le.slNil, Int.natCast_add, Int.cast_ofNat_Int, Int.natCast_one]) (fun _ _ h => h) rfl rfl
  simp only [maskL, setsL, putsO, putO, mB, List.set_cons_zero, List.set_cons_succ, seval]
  refine AWp_seqK fun Y1 y1 => ?_
  refine AWp_region ?_
  simp only [↓bO, go_sem, seval, Sch.cells, Bd.cells]
  refine y1 _ ?_
  try clear y1 Y1
  refine AWp_seqK fun Y1 y1 => ?_
  refine AWp_cond rfl (fun hb12 => ?_) (fun hb12 => ?_)
  ·
   have hk : z < s.vs.length := by (have h9 := hb12; simp at h9; omega)
   obtain ⟨v, hv9⟩ : ∃ v, s.vs[z]? = some v := ⟨_, List.getElem?_eq_getElem hk⟩
   have hn9 : ((List.range s.vs.length).map nm)[z]? = some (nm z) := by simp [hk]
   have hw : IntKind.i64.wrap ((z : Int) + 1) = (z : Int) + 1 := wrap_in (by omega) (by omega)
   have hcl : ((callB s.vs ((List.range s.vs.length).map nm)).take z).length = z := by (rw [List.length_take, callB_len hnl]; omega)
   have hb1 : (z + 1) * 48 ≤ 140737488355328 := by omega
   have hb2 : z + 1 ≤ maxLen := by (simp only [maxLen]; omega)
   have hst := callB_step hv9 hn9
   refine AWp_skip ?_
   try simp only [thenQ, blockQ, noGotoQ]
   refine y1 _ ?_
   try clear y1 Y1
   refine AWp_seqK fun Y1 y1 => ?_
   refine AWp_block ?_
   refine AWp_seqK fun Y2 y2 => ?_
   refine AWp_region ?_
   iterate 4 (refine aops_chunk 1 fun Q0 q0 => ?_; simp only [↓bO, go_sem, seval, Sch.cells, Bd.cells, hk, gM hv9, intC, hw, hcl, hb1, hb2, Int.natCast_add]; refine q0 _ ?_; clear q0 Q0; simp only [go_sem])
   simp only [↓bO, go_sem, seval, Sch.cells, Bd.cells, hk, gM hv9, intC, hw, hcl, hb1, hb2, Int.natCast_add]
   refine y2 _ ?_
   try clear y2 Y2
   refine AWp_region ?_
   iterate 4 (refine aops_chunk 1 fun Q0 q0 => ?_; simp only [↓bO, go_sem, seval, Sch.cells, Bd.cells, hk, gM hv9, intC, hw, hcl, hb1, hb2, Int.natCast_add]; refine q0 _ ?_; clear q0 Q0; simp only [go_sem])
   refine aops_chunk 1 fun Q0 q0 => ?_
   simp only [↓bO, go_sem, seval, Sch.cells, Bd.cells, hk, gM hv9, intC, hw, hcl, hb1, hb2, Int.natCast_add]
   refine APure.call (hf z hk) ?_
   try simp only [bS, bA, thenQ, blockQ, noGotoQ]
   refine q0 _ ?_
   clear q0 Q0
   simp only [go_sem]
   refine aops_chunk 1 fun Q0 q0 => ?_
   simp only [↓bO, go_sem, seval, Sch.cells, Bd.cells, hk, gM hv9, intC, hw, hcl, hb1, hb2, Int.natCast_add]
   refine APure.call (TVar_pure (nm z)) ?_
   try simp only [bS, bA, thenQ, blockQ, noGotoQ]
   refine q0 _ ?_
   clear q0 Q0
   simp only [go_sem]
   refine aops_chunk 1 fun Q0 q0 => ?_
   simp only [↓bO, go_sem, seval, Sch.cells, Bd.cells, hk, gM hv9, intC, hw, hcl, hb1, hb2, Int.natCast_add]
   refine q0 _ ?_
   clear q0 Q0
   simp only [go_sem]
   refine aops_chunk 1 fun Q0 q0 => ?_
   simp only [↓bO, go_sem, seval, ↓bs1_1, ↓bs1_2, ↓bs1_3, ↓bs1_4, ↓bs1_5, ↓bs1_6, ↓bs1_7, ↓bs1_8, ↓bs1_9, ↓bs1_10, ↓bs1_11, ↓bs1_12, Sch.cells, Bd.cells, hk, gM hv9, intC, hw, hcl, hb1, hb2, Int.natCast_add]
   refine q0 _ ?_
   clear q0 Q0
   simp only [go_sem]
   refine aops_chunk 1 fun Q0 q0 => ?_
   simp only [↓bO, go_sem, seval, Sch.cells, Bd.cells, hk, gM hv9, intC, hw, hcl, hb1, hb2, Int.natCast_add]
   refine q0 _ ?_
   clear q0 Q0
   simp only [go_sem]
   simp only [↓bO, go_sem, seval, Sch.cells, Bd.cells, hk, gM hv9, intC, hw, hcl, hb1, hb2, Int.natCast_add]
   refine y1 _ ?_
   try clear y1 Y1
   refine AWp_region ?_
   refine aops_chunk 1 fun Q0 q0 => ?_
   simp only [↓bO, go_sem, seval, Sch.cells, Bd.cells, hk, gM hv9, intC, hw, hcl, hb1, hb2, Int.natCast_add]
   refine q0 _ ?_
   clear q0 Q0
   simp only [go_sem]
   simp only [↓bO, go_sem, seval, Sch.cells, Bd.cells, hk, gM hv9, intC, hw, hcl, hb1, hb2, Int.natCast_add]
   refine ⟨z + 1, (by omega), (by omega), ?_⟩
   simp only [maskL, setsL, putsO, putO, mB, List.set_cons_zero, List.set_cons_succ, seval, Int.natCast_add, Int.natCast_one, Int.cast_ofNat_Int]
   rw [hst]
   refine Weak.mk ?_ (fun _ _ h => h) rfl rfl
   repeat' first | exact trivial | exact .refl _ | exact .any _ | exact inst_le _ _ _ | (refine ⟨?_, ?_⟩)
  ·
   have hk : z = s.vs.length := by (have h9 := hb12; simp at h9; omega)
   rw [show ((callB s.vs ((List.range s.vs.length).map nm)).take z) = (callB s.vs ((List.range s.vs.length).map nm)) from by rw [hk]; exact List.take_of_length_le (by rw [callB_len hnl]; omega)]
   refine AWp_exit ?_
   simp only [thenQ, blockQ, noGotoQ, bA, Nat.reduceEqDiff, ↓reduceIte]
   refine y0 _ ?_
   try clear y0 Y0
   refine AWp_seqK fun Y0 y0 => ?_
   refine AWp_region ?_
   iterate 3 (refine aops_chunk 1 fun Q0 q0 => ?_; simp only [↓bO, go_sem, seval, Sch.cells, Bd.cells]; refine q0 _ ?_; clear q0 Q0; simp only [go_sem])
   refine aops_chunk 1 fun Q0 q0 => ?_
   simp only [↓bO, go_sem, seval, Sch.cells, Bd.cells]
   refine ACalls.args (args' := [.sl 4 ((callB s.vs ((List.range s.vs.length).map nm)).map Bd.cells), .agg s.t.cells]) ⟨Le.oslL, .refl _, trivial⟩ ?_
   refine APure.call (SApply_pure (callB s.vs ((List.range s.vs.length).map nm)) s.t hnd (by rw [callB_len hnl]; omega) (fun b hb => by (obtain ⟨p, _, rfl⟩ := List.mem_map.1 hb; rw [show (vTy p.2).cnt = 1 from by simp [vTy, Ty.cnt_eq, Ty.ps, Ty.cntL]]; omega)) (by omega)) ?_
   rw [Ty.subM_bfun _ _ (Sch.ok_iff.1 hok).1, ← Ty.sub_subF _ _ (Sch.ok_iff.1 hok).1]
   try simp only [bS, bA, thenQ, blockQ, noGotoQ]
   refine q0 _ ?_
   clear q0 Q0
   simp only [go_sem]
   simp only [↓bO, go_sem, seval, Sch.cells, Bd.cells]
   refine y0 _ ?_
   try clear y0 Y0
   refine AWp_ret ?_
   try simp only [thenQ, blockQ, noGotoQ, retQ, aRes, tupOf, bS, bA, aLoad, getO, pack, bL, Nat.reduceAdd, Nat.reduceLeDiff, Nat.reduceEqDiff, ↓reduceIte, ti25, tyX, Sch.cells, List.length_map, Bd.cells]
   exact Le.refl _
theorem mark_pure : ∀ (T : Ty) (g : Nat) (caps : List AV) (f : Int → Bool) (hd : DataL caps) (hφ : ∀ n : Int, APure Tryd.prog g (.v (.int .i64 n) :: caps) (.v (.bool (f n)))) (hT : T.cnt ≤ 1099511627776), APure Tryd.prog 71 [.agg T.cells, .clo g caps] (.agg (T.mark f).cells) := by
  refine Ty.ind fun T ih => ?_
  intro g caps f hd hφ hT
  refine APure.mkL (.cons T.dataAgg (.cons (.clo hd) .nil)) ((Ty.dataAgg _)) ?_
  refine ACalls_intro Tryd.func71 (by kernel_rfl) rfl (by rw [Tryd.ntmps71]; simp) (fun hm => ?_)
  simp only [Tryd.ntmps71, Tryd.results71, List.length_cons, List.length_nil, Nat.reduceAdd, Nat.reduceSub, List.replicate_succ, List.replicate_zero, List.cons_append, List.nil_append]
  have hm1 := hm.wide (t := T) (by simp)
  have hcn := T.cnt_eq
  have hcl := Ty.cntL_len T.ps
  simp only [Ty.cells_eq T, List.cons_append, List.nil_append]
  refine AWp_seqK fun Y0 y0 => ?_
  refine AWp_region ?_
  simp only [↓bO, go_sem, seval]
  refine y0 _ ?_
  try clear y0 Y0
  refine AWp_seqK fun Y0 y0 => ?_
  refine AWp_joinM (mB 37 65558) ([(16, .v (.bool (decide (T.k = 1) && f T.n)))]) ([]) ?_ ?_
  ·
   refine AWp_region ?_
   refine aops_chunk 4 fun Q0 q0 => ?_
   simp only [↓bO, go_sem, seval]
   refine q0 _ ?_
   clear q0 Q0
   simp only [go_sem]
   refine aops_case 11 rfl (fun hc11 => ?_) (fun hc11 => ?_)
   ·
    simp only [List.set_cons_zero, List.set_cons_succ]
    have hk1 : T.k = 1 := by simpa using hc11
    refine aops_chunk 3 fun Q0 q0 => ?_
    simp only [↓bO, go_sem, seval, hk1]
    refine q0 _ ?_
    clear q0 Q0
    simp only [go_sem]
    refine aops_chunk 1 fun Q0 q0 => ?_
    simp only [↓bO, go_sem, seval, hk1]
    refine APure.call ((hφ T.n)) ?_
    try simp only [bS, bA, thenQ, blockQ, noGotoQ]
    refine q0 _ ?_
    clear q0 Q0
    simp only [go_sem]
    simp only [↓bO, go_sem, seval, hk1]
    try simp only [maskL, setsL, putsO, putO, mB, List.set_cons_zero, List.set_cons_succ, seval]
    refine Weak.mk ?_ (fun _ _ h => h) rfl rfl
    simp only [go_sem, Le.refl, Le.any]
    all_goals (refine Le.of_eq (congrArg (fun b => AV.v (.bool b)) ?_); (first | rw [hk1] | skip); simp [hk1])
   ·
    simp only [List.set_cons_zero, List.set_cons_succ]
    have hk1 : ¬ T.k = 1 := by simpa using hc11
    refine aops_chunk 4 fun Q0 q0 => ?_
    simp only [↓bO, go_sem, seval, hk1]
    refine q0 _ ?_
    clear q0 Q0
    simp only [go_sem]
    simp only [↓bO, go_sem, seval, hk1]
    try simp only [maskL, setsL, putsO, putO, mB, List.set_cons_zero, List.set_cons_succ, seval]
    refine Weak.mk ?_ (fun _ _ h => h) rfl rfl
    simp only [go_sem, Le.refl, Le.any]
    all_goals (refine Le.of_eq (congrArg (fun b => AV.v (.bool b)) ?_); (first | rw [hk1] | skip); simp [hk1])
  simp only [maskL, setsL, putsO, putO, mB, List.set_cons_zero, List.set_cons_succ, seval]
  refine AWp_cond rfl (fun hb16 => ?_) (fun hb16 => ?_)
  ·
   obtain ⟨hk1, hp1⟩ : T.k = 1 ∧ f T.n = true := by simpa using hb16
   refine AWp_seqK fun Y1 y1 => ?_
   refine AWp_region ?_
   simp only [↓bO, go_sem, seval]
   refine y1 _ ?_
   try clear y1 Y1
   refine AWp_ret ?_
   try simp only [thenQ, blockQ, noGotoQ, retQ, aRes, tupOf, bS, bA, aLoad, getO, pack, bL, Nat.reduceAdd, Nat.reduceLeDiff, Nat.reduceEqDiff, ↓reduceIte, ti25, tyX]
   refine Le.agg ?_
   rw [Ty.mark_yes hk1 hp1, Ty.cells_eq]
   exact ⟨.refl _, .refl _, Le.slNil 3, trivial⟩
  ·
   have hno : ¬ (T.k = 1 ∧ f T.n = true) := fun h9 => (by have h8 := hb16; rw [h9.2] at h8; simp [h9.1] at h8)
   refine AWp_skip ?_
   try simp only [thenQ, blockQ, noGotoQ]
   refine y0 _ ?_
   try clear y0 Y0
   refine AWp_seqK fun Y0 y0 => ?_
   refine AWp_region ?_
   simp only [↓bO, go_sem, seval]
   refine y0 _ ?_
   try clear y0 Y0
   refine AWp_seqK fun Y0 y0 => ?_
   refine AWp_seqK fun Y1 y1 => ?_
   refine AWp_region ?_
   simp only [↓bO, go_sem, seval]
   refine y1 _ ?_
   try clear y1 Y1
   refine AWp_block ?_
   refine AWp_weak (Weak.tokSlot 5 25 3 rfl) ?_
   simp only [List.set_cons_zero, List.set_cons_succ]
   refine AWp_loopM (σ := Nat) (mB 37 14680118) (fun s => s ≤ T.ps.length) (fun s => [(5, .osl 2 3 (((T.ps.take s).map (Ty.mark f)).map Ty.cells)), (23, .v (.int .i64 (s : Int)))]) (fun s => [(2, .tok 25 3 s)]) (fun s => T.ps.length - s) 0 (by omega) ?_ (fun s hs => ?_)
   ·
    simp only [maskL, setsL, putsO, putO, mB, List.set_cons_zero, List.set_cons_succ, seval, bL]
    exact Weak.mk (by simp only [go_sem, Le.refl, Le.any, Le.slNil, Int.natCast_add, Int.cast_ofNat_Int, Int.natCast_one]) (fun _ _ h => h) rfl rfl
   simp only [maskL, setsL, putsO, putO, mB, List.set_cons_zero, List.set_cons_succ, seval]
   refine AWp_seqK fun Y1 y1 => ?_
   refine AWp_region ?_
   simp only [↓bO, go_sem, seval]
   refine y1 _ ?_
   try clear y1 Y1
   refine AWp_seqK fun Y1 y1 => ?_
   refine AWp_cond rfl (fun hb24 => ?_) (fun hb24 => ?_)
   ·
    have hk : s < T.ps.length := by simpa using hb24
    obtain ⟨p, hp⟩ : ∃ p, T.ps[s]? = some p := ⟨_, List.getElem?_eq_getElem hk⟩
    have hpm := Ty.cnt_mem (List.mem_of_getElem? hp)
    have hw : IntKind.i64.wrap ((s : Int) + 1) = (s : Int) + 1 := wrap_in (by omega) (by omega)
    have hln : (((T.ps.take s).map (Ty.mark f)).map Ty.cells).length = s := by simp; omega
    have hb1 : (s + 1) * 40 ≤ 140737488355328 := by omega
    have hb2 : s + 1 ≤ maxLen := by simp only [maxLen]; omega
    refine AWp_skip ?_
    try simp only [thenQ, blockQ, noGotoQ]
    refine y1 _ ?_
    try clear y1 Y1
    refine AWp_seqK fun Y1 y1 => ?_
    refine AWp_block ?_
    refine AWp_seqK fun Y2 y2 => ?_
    refine AWp_region ?_
    simp only [↓bO, go_sem, seval, hk, gM hp, Int.natCast_add, hw, hln, hb1, hb2, List.map_append, take_map_step (Ty.mark f) hp]
    refine y2 _ ?_
    try clear y2 Y2
    refine AWp_region ?_
    refine aops_chunk 3 fun Q0 q0 => ?_
    simp only [↓bO, go_sem, seval, hk, gM hp, Int.natCast_add, hw, hln, hb1, hb2, List.map_append, take_map_step (Ty.mark f) hp]
    refine q0 _ ?_
    clear q0 Q0
    simp only [go_sem]
    refine aops_chunk 1 fun Q0 q0 => ?_
    simp only [↓bO, go_sem, seval, hk, gM hp, Int.natCast_add, hw, hln, hb1, hb2, List.map_append, take_map_step (Ty.mark f) hp]
    refine APure.call (ih p (List.mem_of_getElem? hp) g caps f hd hφ (by omega)) ?_
    try simp only [bS, bA, thenQ, blockQ, noGotoQ]
    refine q0 _ ?_
    clear q0 Q0
    simp only [go_sem]
    simp only [↓bO, go_sem, seval, ↓bs1_1, ↓bs1_2, ↓bs1_3, ↓bs1_4, ↓bs1_5, ↓bs1_6, ↓bs1_7, ↓bs1_8, ↓bs1_9, ↓bs1_10, ↓bs1_11, ↓bs1_12, hk, gM hp, Int.natCast_add, hw, hln, hb1, hb2, List.map_append, take_map_step (Ty.mark f) hp]
    refine y1 _ ?_
    try clear y1 Y1
    refine AWp_region ?_
    simp only [↓bO, go_sem, seval, hk, gM hp, Int.natCast_add, hw, hln, hb1, hb2, List.map_append, take_map_step (Ty.mark f) hp]
    refine ⟨(s + 1), (by omega), by omega, ?_⟩
    simp only [maskL, setsL, putsO, putO, mB, List.set_cons_zero, List.set_cons_succ, seval, hk, gM hp, Int.natCast_add, Int.natCast_one, hw, hln, hb1, hb2, List.map_append, bL, take_map_step (Ty.mark f) hp]
    first | (refine Weak.drops 1 3 rfl rfl (by simp only; omega) (by simp only; omega) ?_ ?_ ?_) | (refine Weak.drops 0 3 rfl rfl (by simp only; omega) (by simp only; omega) ?_ ?_ ?_)
    · simp only [go_sem, Le.refl, Le.any, Int.natCast_add, Int.cast_ofNat_Int, Int.natCast_one]
    · simp only [UndL, UndOs, Ob.Und, and_true, true_and, and_self, Und.v, Und.any, Und.ptr, Und.map, Nat.reduceLT, Nat.zero_lt_succ, Und.tys, Und.tyAgg, Und.oslTys, Und.oslTys1, Und.clo0, Und.ty, Und.data (n := 3) (Data.clo (f := g) hd)]
    · simp only [UndL, UndOs, Ob.Und, and_true, true_and, and_self, Und.v, Und.any, Und.ptr, Und.map, Nat.reduceLT, Nat.zero_lt_succ, Und.tys, Und.tyAgg, Und.oslTys, Und.oslTys1, Und.clo0, Und.ty, Und.data (n := 3) (Data.clo (f := g) hd)]
   ·
    have hk : s = T.ps.length := by simp at hb24; omega
    refine AWp_exit ?_
    simp only [thenQ, blockQ, noGotoQ, bA, Nat.reduceEqDiff, ↓reduceIte]
    iterate 2 (refine y0 _ ?_; (try clear y0 Y0); refine AWp_seqK fun Y0 y0 => ?_; refine AWp_region ?_; simp only [↓bO, go_sem, seval])
    refine y0 _ ?_
    try clear y0 Y0
    refine AWp_ret ?_
    try simp only [thenQ, blockQ, noGotoQ, retQ, aRes, tupOf, bS, bA, aLoad, getO, pack, bL, Nat.reduceAdd, Nat.reduceLeDiff, Nat.reduceEqDiff, ↓reduceIte, ti25, tyX]
    refine Le.agg ?_
    rw [Ty.mark_no hno, Ty.cells_eq, hk, List.take_length]
    exact ⟨.refl _, .refl _, Le.oslL, trivial⟩
theorem Rigid1_pure (s : Sch) (hl : s.vs.length ≤ 1099511627776) (v : Int) : APure Tryd.prog 72 [.v (.int .i64 v), .eptr s.cells] (.v (.bool (!decide (v ∈ s.vs)))) := by
  refine APure.mkL (.cons (.v _) (.cons Sch.eptr .nil)) (.v _) ?_
  refine ACalls_intro Tryd.func72 (by kernel_rfl) rfl (by rw [Tryd.ntmps72]; simp) (fun hm => ?_)
  simp only [Tryd.ntmps72, Tryd.results72, List.length_cons, List.length_nil, Nat.reduceAdd, Nat.reduceSub, List.replicate_succ, List.replicate_zero, List.cons_append, List.nil_append]
  refine AWp_seqK fun Y0 y0 => ?_
  refine AWp_region ?_
  simp only [↓bO, go_sem, seval, Sch.cells]
  refine y0 _ ?_
  try clear y0 Y0
  refine AWp_seqK fun Y0 y0 => ?_
  refine AWp_region ?_
  iterate 3 (refine aops_chunk 1 fun Q0 q0 => ?_; simp only [↓bO, go_sem, seval, Sch.cells]; refine q0 _ ?_; clear q0 Q0; simp only [go_sem])
  refine aops_chunk 1 fun Q0 q0 => ?_
  simp only [↓bO, go_sem, seval, Sch.cells]
  refine APure.call (Cont_pure s.vs v hl) ?_
  try simp only [bS, bA, thenQ, blockQ, noGotoQ]
  refine q0 _ ?_
  clear q0 Q0
  simp only [go_sem]
  refine aops_chunk 1 fun Q0 q0 => ?_
  simp only [↓bO, go_sem, seval, Sch.cells]
  refine q0 _ ?_
  clear q0 Q0
  simp only [go_sem]
  simp only [↓bO, go_sem, seval, Sch.cells]
  refine y0 _ ?_
  try clear y0 Y0
  refine AWp_ret ?_
  try simp only [thenQ, blockQ, noGotoQ, retQ, aRes, tupOf, bS, bA]
  exact Le.refl _
theorem Rigid2_pure (v : Int) : APure Tryd.prog 73 [.v (.int .i64 v)] (.v (.bool true)) := by
  refine APure.mkL (.cons (.v _) .nil) (.v _) ?_
  refine ACalls_intro Tryd.func73 (by kernel_rfl) rfl (by rw [Tryd.ntmps73]; simp) (fun hm => ?_)
  simp only [Tryd.ntmps73, Tryd.results73, List.length_cons, List.length_nil, Nat.reduceAdd, Nat.reduceSub, List.replicate_succ, List.replicate_zero, List.cons_append, List.nil_append]
  iterate 2 (refine AWp_seqK fun Y0 y0 => ?_; refine AWp_region ?_; simp only [↓bO, go_sem, seval]; refine y0 _ ?_; (try clear y0 Y0))
  refine AWp_ret ?_
  try simp only [thenQ, blockQ, noGotoQ, retQ, aRes, tupOf, bS, bA]
  exact Le.refl _
theorem rigid_pure (s : Sch) (t : Ty) (hv : s.vs.length ≤ 1048576) (hc : s.t.cnt ≤ 1048576) (ht : t.cnt ≤ 1048576) : APure Tryd.prog 46 [.agg s.cells, .agg t.cells] (.tup [.agg (s.t.mark fun v => !decide (v ∈ s.vs)).cells, .agg (t.mark fun _ => true).cells]) := by
  refine APure.mkL (.cons Sch.agg (.cons (Ty.dataAgg _) .nil)) ((.tup (.cons (Ty.dataAgg _) (.cons (Ty.dataAgg _) .nil)))) ?_
  refine ACalls_intro Tryd.func46 (by kernel_rfl) rfl (by rw [Tryd.ntmps46]; simp) (fun hm => ?_)
  simp only [Tryd.ntmps46, Tryd.results46, List.length_cons, List.length_nil, Nat.reduceAdd, Nat.reduceSub, List.replicate_succ, List.replicate_zero, List.cons_append, List.nil_append]
  refine AWp_joinZ (mB 12 60) ([(2, .eptr s.cells), (3, .eptr t.cells), (4, .ptr 2 0), (5, .ptr 3 0)]) [(3, .cells 25 [.v (.int .i64 0), .v (.int .i64 0), .v (.slice none 0 0)]), (2, .cells 25 [.v (.int .i64 0), .v (.int .i64 0), .v (.slice none 0 0)])] 4 (True) ?_ (fun hC => ?_)
  ·
   refine AWp_region ?_
   iterate 3 (refine aops_chunk 1 fun Q0 q0 => ?_; simp only [↓bO, go_sem, seval, Sch.cells]; refine q0 _ ?_; clear q0 Q0; simp only [go_sem])
   simp only [↓bO, go_sem, seval, Sch.cells]
   try simp only [maskL, setsL, putsO, putO, mB, List.set_cons_zero, List.set_cons_succ, seval]
   first | refine ⟨trivial, ?_⟩ | skip
   refine Weak.freeze ?_ ⟨rfl, rfl, trivial⟩ (by first | omega | (simp only; omega)) (by first | omega | (simp only; omega)) ?_ ?_
   · repeat' first | trivial | exact .inr ⟨_, _, _, rfl, rfl, rfl, rfl⟩ | exact .inl (.refl _) | exact .inl (.any _) | (refine ⟨?_, ?_⟩)
   · repeat' first | exact trivial | exact .any _ | exact .v _ _ | exact .ptr (by omega) | exact Und.data (dataInts _) | exact Und.data Sch.eptr | exact Und.data Sch.agg | exact Und.data (Ty.dataSl _) | exact Und.data (.eptr (Ty.data _)) | exact Und.data (.eptr (.cons (dataInts _) .nil)) | exact .own (by omega) | (refine ⟨?_, ?_⟩)
   · repeat' first | exact trivial | (with_reducible omega) | exact Und.rowI (iD_data _) | exact UndL.data (Ty.data _) | exact UndL.data (Sch.data _) | exact .v _ _ | (refine ⟨?_, ?_⟩)
  simp only [maskL, setsL, putsO, putO, mB, List.set_cons_zero, List.set_cons_succ, seval]
  refine AWp_seqK fun Y0 y0 => ?_
  refine AWp_drawK 6 mixed (by kernel_rfl) fun J0 j0 => ?_
  iterate 3 (simp only [go_sem]; refine dRun_chunk 1 fun Q0 q0 => ?_; simp only [↓dRun, ↓dOp, ↓bO, go_sem, seval, Sch.cells]; refine q0 _ ?_; clear q0 Q0)
  simp only [go_sem]
  refine dRun_chunk 1 fun Q0 q0 => ?_
  simp only [↓dRun, ↓dOp, ↓bO, go_sem, seval, Sch.cells]
  refine ⟨_, mark_pure s.t 72 [.eptr s.cells] (fun v => !decide (v ∈ s.vs)) (.cons Sch.eptr .nil) (fun v => Rigid1_pure s (by omega) v) (by omega), ?_⟩
  try simp only [bS, bA, thenQ, blockQ, noGotoQ]
  refine q0 _ ?_
  clear q0 Q0
  simp only [go_sem]
  refine dRun_chunk 1 fun Q0 q0 => ?_
  simp only [↓dRun, ↓dOp, ↓bO, go_sem, seval, Sch.cells]
  refine q0 _ ?_
  clear q0 Q0
  simp only [go_sem]
  simp only [↓dRun, ↓dOp, ↓bO, go_sem, seval, Sch.cells]
  refine ⟨_, mark_pure t 73 [] (fun _ => true) (fun _ h => by cases h) (fun v => Rigid2_pure v) (by omega), ?_⟩
  try simp only [bS, bA, thenQ, blockQ, noGotoQ]
  refine j0 _ ?_
  clear j0 J0
  simp only [go_sem]
  refine aops_chunk 1 fun Q0 q0 => ?_
  simp only [↓bO, go_sem, seval, Sch.cells]
  refine q0 _ ?_
  clear q0 Q0
  simp only [go_sem]
  simp only [↓bO, go_sem, seval, Sch.cells]
  refine y0 _ ?_
  try clear y0 Y0
  refine AWp_ret ?_
  try simp only [thenQ, blockQ, noGotoQ, retQ, aRes, tupOf, bS, bA, aLoad, getO, pack, bL, Nat.reduceAdd, Nat.reduceLeDiff, Nat.reduceEqDiff, ↓reduceIte, ti25, tyX, Sch.cells, List.length_map]
  exact Le.refl _
theorem Ty.covL_append : ∀ (ps qs ps' qs' : List Ty) (m : List (Int × Ty)), ps.length = qs.length → Ty.covL (ps ++ ps') (qs ++ qs') m = if (Ty.covL ps qs m).1 then Ty.covL ps' qs' (Ty.covL ps qs m).2 else (false, (Ty.covL ps qs m).2)
  | [], [], ps', qs', m, _ => by simp [Ty.covL]
  | [], _ :: _, _, _, _, h => by simp at h
  | _ :: _, [], _, _, _, h => by simp at h
  | p :: ps, q :: qs, ps', qs', m, h => by
    simp only [List.cons_append, Ty.covL]
    by_cases h1 : (p.cov q m).1
    · simp only [h1, if_true]; exact Ty.covL_append ps qs ps' qs' _ (by simpa using h)
    · simp [h1]
theorem Ty.covL_one (p q : Ty) (m : List (Int × Ty)) : Ty.covL [p] [q] m = p.cov q m := by
  rw [Ty.covL]
  split
  · rename_i h; rw [Ty.covL]; exact Prod.ext h.symm rfl
  · rename_i h; exact Prod.ext (by simpa using (Bool.not_eq_true _ ▸ h : (p.cov q m).1 = false).symm) rfl
theorem Ty.covL_step {ps qs : List Ty} {s : Nat} {p q : Ty} (hp : ps[s]? = some p) (hq : qs[s]? = some q) (hl : ps.length = qs.length) (m : List (Int × Ty)) (h : (Ty.covL (ps.take s) (qs.take s) m).1 = true) :
    Ty.covL (ps.take (s + 1)) (qs.take (s + 1)) m = p.cov q (Ty.covL (ps.take s) (qs.take s) m).2 := by
  rw [List.take_add_one, List.take_add_one, hp, hq, Ty.covL_append _ _ _ _ _ (by simp [hl]), if_pos h]
  exact Ty.covL_one p q _
theorem Ty.covL_stop {ps qs : List Ty} {s : Nat} {p q : Ty} (hp : ps[s]? = some p) (hq : qs[s]? = some q) (hl : ps.length = qs.length) (m : List (Int × Ty)) (h : (Ty.covL (ps.take s) (qs.take s) m).1 = true)
    (h2 : (p.cov q (Ty.covL (ps.take s) (qs.take s) m).2).1 = false) : Ty.covL ps qs m = (false, (p.cov q (Ty.covL (ps.take s) (qs.take s) m).2).2) := by
  have e := Ty.covL_step hp hq hl m h
  conv => lhs; rw [← List.take_append_drop (s + 1) ps, ← List.take_append_drop (s + 1) qs]
  rw [Ty.covL_append _ _ _ _ _ (by simp [hl]), e, if_neg (by rw [h2]; simp)]
theorem cov_calls : ∀ (T U : Ty) (m : List (Int × Ty)), MCalls 47 [.map 0, .agg T.cells, .agg U.cells] m (.v (.bool (T.cov U m).1)) (T.cov U m).2 := by
  refine Ty.ind fun T ih U m => ?_
  refine ACalls.clean (C := fun r os => r = _ ∧ os = _) ?_
  refine ACalls_intro Tryd.func47 (by kernel_rfl) rfl (by rw [Tryd.ntmps47]; simp) (fun hm => ?_)
  simp only [Tryd.ntmps47, Tryd.results47, List.length_cons, List.length_nil, Nat.reduceAdd, Nat.reduceSub, List.replicate_succ, List.replicate_zero, List.cons_append, List.nil_append]
  obtain ⟨cs, hcs, hl3, hone, htk, hcx⟩ := lookTy m T.n
  have hm1 := hm.wide (t := T) (by simp)
  have hm2 := hm1.len
  have mSetU := mSet m T.n U
  rw [Ty.cells_eq U] at mSetU
  simp only [enumO, Nat.reduceAdd]
  simp only [Ty.cells_eq T, Ty.cells_eq U, List.cons_append, List.nil_append]
  refine AWp_seqK fun Y0 y0 => ?_
  refine AWp_region ?_
  refine aops_chunk 2 fun Q0 q0 => ?_
  simp only [↓bO, go_sem, seval, ↓valAV_ty, hcs, hl3, hone, htk, mSome, mSetU]
  refine q0 _ ?_
  clear q0 Q0
  simp only [go_sem]
  simp only [↓bO, go_sem, seval, ↓valAV_ty, hcs, hl3, hone, htk, mSome, mSetU]
  refine y0 _ ?_
  try clear y0 Y0
  refine AWp_seqK fun Y0 y0 => ?_
  refine AWp_seqK fun Y1 y1 => ?_
  refine AWp_region ?_
  refine aops_chunk 2 fun Q0 q0 => ?_
  simp only [↓bO, go_sem, seval, ↓valAV_ty, hcs, hl3, hone, htk, mSome, mSetU]
  refine q0 _ ?_
  clear q0 Q0
  simp only [go_sem]
  simp only [↓bO, go_sem, seval, ↓valAV_ty, hcs, hl3, hone, htk, mSome, mSetU]
  refine y1 _ ?_
  try clear y1 Y1
  refine AWp_cond rfl (fun hb12 => ?_) (fun hb12 => ?_)
  ·
   have hk1 : T.k = 1 := by simpa using hb12
   refine AWp_seqK fun Y1 y1 => ?_
   refine AWp_region ?_
   iterate 4 (refine aops_chunk 2 fun Q0 q0 => ?_; simp only [↓bO, go_sem, seval, ↓valAV_ty, hcs, hl3, hone, htk, mSome, mSetU]; refine q0 _ ?_; clear q0 Q0; simp only [go_sem])
   simp only [↓bO, go_sem, seval, ↓valAV_ty, hcs, hl3, hone, htk, mSome, mSetU]
   refine y1 _ ?_
   try clear y1 Y1
   refine AWp_seqK fun Y1 y1 => ?_
   refine AWp_region ?_
   iterate 2 (refine aops_chunk 2 fun Q0 q0 => ?_; simp only [↓bO, go_sem, seval, ↓valAV_ty, hcs, hl3, hone, htk, mSome, mSetU]; refine q0 _ ?_; clear q0 Q0; simp only [go_sem])
   simp only [↓bO, go_sem, seval, ↓valAV_ty, hcs, hl3, hone, htk, mSome, mSetU]
   refine y1 _ ?_
   try clear y1 Y1
   refine AWp_seqK fun Y1 y1 => ?_
   refine AWp_region ?_
   refine aops_chunk 2 fun Q0 q0 => ?_
   simp only [↓bO, go_sem, seval, ↓valAV_ty, hcs, hl3, hone, htk, mSome, mSetU]
   refine q0 _ ?_
   clear q0 Q0
   simp only [go_sem]
   refine aops_chunk 1 fun Q0 q0 => ?_
   simp only [↓bO, go_sem, seval, ↓valAV_ty, hcs, hl3, hone, htk, mSome, mSetU]
   refine q0 _ ?_
   clear q0 Q0
   simp only [go_sem]
   refine aops_case 26 rfl (fun hc26 => ?_) (fun hc26 => ?_)
   ·
    simp only [List.set_cons_zero, List.set_cons_succ]
    have hS : (pfind m T.n).isSome = false := by simpa using hc26
    have hfn : pfind m T.n = none := by cases hv : pfind m T.n with | none => rfl | some y => rw [hv] at hS; cases hS
    try simp only [hS]
    iterate 2 (refine aops_chunk 2 fun Q0 q0 => ?_; simp only [↓bO, go_sem, seval, ↓valAV_ty, hcs, hl3, hone, htk, mSome, mSetU]; refine q0 _ ?_; clear q0 Q0; simp only [go_sem])
    simp only [↓bO, go_sem, seval, ↓valAV_ty, hcs, hl3, hone, htk, mSome, mSetU]
    refine y1 _ ?_
    try clear y1 Y1
    refine AWp_ret ?_
    try simp only [thenQ, blockQ, noGotoQ, retQ, aRes, tupOf, bS, bA]
    have hg : T.cov U m = (true, pset m T.n U) := by rw [Ty.cov_var hk1, hfn]
    rw [hg]
    refine ⟨_, enumO 0 [.map (mTC (pset m T.n U))], ⟨rfl, rfl⟩, .v _ _, mUnd (by omega) _, ?_, ?_, by omega⟩
    ·
     refine Le.of_eq ?_
     rfl
    · first | (refine ⟨3, rfl, rfl⟩) | (refine ⟨2, rfl, rfl⟩) | (refine ⟨4, rfl, rfl⟩)
   ·
    simp only [List.set_cons_zero, List.set_cons_succ]
    have hS : (pfind m T.n).isSome = true := by simpa using hc26
    obtain ⟨x, hfx⟩ := Option.isSome_iff_exists.1 hS
    have hce := hcx x hfx
    subst hce
    try simp only [hS]
    refine aops_chunk 2 fun Q0 q0 => ?_
    simp only [↓bO, go_sem, seval, ↓valAV_ty, hcs, hl3, hone, htk, mSome, mSetU]
    refine q0 _ ?_
    clear q0 Q0
    simp only [go_sem]
    refine aops_chunk 1 fun Q0 q0 => ?_
    simp only [↓bO, go_sem, seval, ↓valAV_ty, hcs, hl3, hone, htk, mSome, mSetU]
    refine APure.call (by have h9 := TSame_pure x U; rw [Ty.cells_eq U] at h9; exact h9) ?_
    try simp only [bS, bA, thenQ, blockQ, noGotoQ]
    refine q0 _ ?_
    clear q0 Q0
    simp only [go_sem]
    simp only [↓bO, go_sem, seval, ↓valAV_ty, hcs, hl3, hone, htk, mSome, mSetU]
    refine y1 _ ?_
    try clear y1 Y1
    refine AWp_ret ?_
    try simp only [thenQ, blockQ, noGotoQ, retQ, aRes, tupOf, bS, bA]
    have hg : T.cov U m = (x.same U, pset m T.n U) := by rw [Ty.cov_var hk1, hfx]
    rw [hg]
    refine ⟨_, enumO 0 [.map (mTC (pset m T.n U))], ⟨rfl, rfl⟩, .v _ _, mUnd (by omega) _, ?_, ?_, by omega⟩
    ·
     refine Le.of_eq ?_
     rfl
    · first | (refine ⟨3, rfl, rfl⟩) | (refine ⟨2, rfl, rfl⟩) | (refine ⟨4, rfl, rfl⟩)
  ·
   have hk1 : ¬ T.k = 1 := by simpa using hb12
   refine AWp_skip ?_
   try simp only [thenQ, blockQ, noGotoQ]
   refine y0 _ ?_
   try clear y0 Y0
   refine AWp_seqK fun Y0 y0 => ?_
   refine AWp_seqK fun Y1 y1 => ?_
   refine AWp_region ?_
   iterate 3 (refine aops_chunk 2 fun Q0 q0 => ?_; simp only [↓bO, go_sem, seval, ↓valAV_ty, hcs, hl3, hone, htk, mSome, mSetU]; refine q0 _ ?_; clear q0 Q0; simp only [go_sem])
   refine aops_case 36 rfl (fun hc36 => ?_) (fun hc36 => ?_)
   ·
    simp only [List.set_cons_zero, List.set_cons_succ]
    have hno : ¬ (T.k = U.k ∧ T.n = U.n ∧ T.ps.length = U.ps.length) := fun h9 => by have h8 := h9.1; simp at hc36; exact hc36 h8
    iterate 7 (refine aops_chunk 2 fun Q0 q0 => ?_; simp only [↓bO, go_sem, seval, ↓valAV_ty, hcs, hl3, hone, htk, mSome, mSetU]; refine q0 _ ?_; clear q0 Q0; simp only [go_sem])
    simp only [↓bO, go_sem, seval, ↓valAV_ty, hcs, hl3, hone, htk, mSome, mSetU]
    refine y1 _ ?_
    try clear y1 Y1
    refine AWp_cond (b := true) (by first | exact rfl | exact congrArg (fun b => AV.v (.bool b)) hb51) (fun _ => ?_) (fun h => (by cases h))
    refine AWp_seqK fun Y1 y1 => ?_
    refine AWp_region ?_
    simp only [↓bO, go_sem, seval, ↓valAV_ty, hcs, hl3, hone, htk, mSome, mSetU]
    refine y1 _ ?_
    try clear y1 Y1
    refine AWp_ret ?_
    try simp only [thenQ, blockQ, noGotoQ, retQ, aRes, tupOf, bS, bA]
    have hg : T.cov U m = (false, m) := Ty.cov_no hk1 hno
    rw [hg]
    refine ⟨_, enumO 0 [.map (mTC (m))], ⟨rfl, rfl⟩, .v _ _, mUnd (by omega) _, ?_, ?_, by omega⟩
    ·
     refine Le.of_eq ?_
     rfl
    · first | (refine ⟨2, rfl, rfl⟩)
   ·
    simp only [List.set_cons_zero, List.set_cons_succ]
    have hkk : T.k = U.k := by simpa using hc36
    iterate 3 (refine aops_chunk 2 fun Q0 q0 => ?_; simp only [↓bO, go_sem, seval, ↓valAV_ty, hcs, hl3, hone, htk, mSome, mSetU]; refine q0 _ ?_; clear q0 Q0; simp only [go_sem])
    refine aops_chunk 1 fun Q0 q0 => ?_
    simp only [↓bO, go_sem, seval, ↓valAV_ty, hcs, hl3, hone, htk, mSome, mSetU]
    refine q0 _ ?_
    clear q0 Q0
    simp only [go_sem]
    refine aops_case 43 rfl (fun hc43 => ?_) (fun hc43 => ?_)
    ·
     simp only [List.set_cons_zero, List.set_cons_succ]
     have hno : ¬ (T.k = U.k ∧ T.n = U.n ∧ T.ps.length = U.ps.length) := fun h9 => by have h8 := h9.2.1; simp at hc43; exact hc43 h8
     iterate 3 (refine aops_chunk 2 fun Q0 q0 => ?_; simp only [↓bO, go_sem, seval, ↓valAV_ty, hcs, hl3, hone, htk, mSome, mSetU]; refine q0 _ ?_; clear q0 Q0; simp only [go_sem])
     simp only [↓bO, go_sem, seval, ↓valAV_ty, hcs, hl3, hone, htk, mSome, mSetU]
     refine y1 _ ?_
     try clear y1 Y1
     refine AWp_cond (b := true) (by first | exact rfl | exact congrArg (fun b => AV.v (.bool b)) hb51) (fun _ => ?_) (fun h => (by cases h))
     refine AWp_seqK fun Y1 y1 => ?_
     refine AWp_region ?_
     simp only [↓bO, go_sem, seval, ↓valAV_ty, hcs, hl3, hone, htk, mSome, mSetU]
     refine y1 _ ?_
     try clear y1 Y1
     refine AWp_ret ?_
     try simp only [thenQ, blockQ, noGotoQ, retQ, aRes, tupOf, bS, bA]
     have hg : T.cov U m = (false, m) := Ty.cov_no hk1 hno
     rw [hg]
     refine ⟨_, enumO 0 [.map (mTC (m))], ⟨rfl, rfl⟩, .v _ _, mUnd (by omega) _, ?_, ?_, by omega⟩
     ·
      refine Le.of_eq ?_
      rfl
     · first | (refine ⟨2, rfl, rfl⟩)
    ·
     simp only [List.set_cons_zero, List.set_cons_succ]
     have hnn : T.n = U.n := by simpa using hc43
     iterate 3 (refine aops_chunk 2 fun Q0 q0 => ?_; simp only [↓bO, go_sem, seval, ↓valAV_ty, hcs, hl3, hone, htk, mSome, mSetU]; refine q0 _ ?_; clear q0 Q0; simp only [go_sem])
     simp only [↓bO, go_sem, seval, ↓valAV_ty, hcs, hl3, hone, htk, mSome, mSetU]
     refine y1 _ ?_
     try clear y1 Y1
     refine AWp_cond rfl (fun hb51 => ?_) (fun hb51 => ?_)
     ·
      have hno : ¬ (T.k = U.k ∧ T.n = U.n ∧ T.ps.length = U.ps.length) := fun h9 => by have := h9.2.2; simp at hb51; omega
      refine AWp_seqK fun Y1 y1 => ?_
      refine AWp_region ?_
      simp only [↓bO, go_sem, seval, ↓valAV_ty, hcs, hl3, hone, htk, mSome, mSetU]
      refine y1 _ ?_
      try clear y1 Y1
      refine AWp_ret ?_
      try simp only [thenQ, blockQ, noGotoQ, retQ, aRes, tupOf, bS, bA]
      have hg : T.cov U m = (false, m) := Ty.cov_no hk1 hno
      rw [hg]
      refine ⟨_, enumO 0 [.map (mTC (m))], ⟨rfl, rfl⟩, .v _ _, mUnd (by omega) _, ?_, ?_, by omega⟩
      ·
       refine Le.of_eq ?_
       rfl
      · first | (refine ⟨2, rfl, rfl⟩)
     ·
      have hll : T.ps.length = U.ps.length := by simp at hb51; omega
      refine AWp_skip ?_
      try simp only [thenQ, blockQ, noGotoQ]
      refine y0 _ ?_
      try clear y0 Y0
      refine AWp_seqK fun Y0 y0 => ?_
      refine AWp_seqK fun Y1 y1 => ?_
      refine AWp_region ?_
      refine aops_chunk 2 fun Q0 q0 => ?_
      simp only [↓bO, go_sem, seval, ↓valAV_ty, hcs, hl3, hone, htk, mSome, mSetU]
      refine q0 _ ?_
      clear q0 Q0
      simp only [go_sem]
      simp only [↓bO, go_sem, seval, ↓valAV_ty, hcs, hl3, hone, htk, mSome, mSetU]
      refine y1 _ ?_
      try clear y1 Y1
      refine AWp_block ?_
      refine AWp_loopM (σ := Nat) (mB 72 54043195528446001) (fun s => s ≤ T.ps.length ∧ (Ty.covL (T.ps.take s) (U.ps.take s) m).1 = true) (fun s => [(55, .v (.int .i64 (s : Int)))]) (fun s => [(0, .map (mTC (Ty.covL (T.ps.take s) (U.ps.take s) m).2))]) (fun s => T.ps.length - s) 0 (⟨by omega, by simp [Ty.covL]⟩) ?_ (fun s hs => ?_)
      ·
       simp only [maskL, setsL, putsO, putO, mB, List.set_cons_zero, List.set_cons_succ, seval, bL, Ty.covL]
       exact Weak.mk (by simp only [go_sem, Le.refl, Le.any, Le.slNil, Int.natCast_add, Int.cast_ofNat_Int, Int.natCast_one]) (fun _ _ h => h) rfl rfl
      simp only [maskL, setsL, putsO, putO, mB, List.set_cons_zero, List.set_cons_succ, seval]
      refine AWp_seqK fun Y1 y1 => ?_
      refine AWp_region ?_
      simp only [↓bO, go_sem, seval, ↓valAV_ty, hcs, hl3, hone, htk, mSome, mSetU]
      refine y1 _ ?_
      try clear y1 Y1
      refine AWp_seqK fun Y1 y1 => ?_
      refine AWp_cond rfl (fun hb56 => ?_) (fun hb56 => ?_)
      ·
       have hk : s < T.ps.length := by (have h9 := hb56; simp at h9; omega)
       have hk2 : s < U.ps.length := by omega
       obtain ⟨p, hp⟩ : ∃ p, T.ps[s]? = some p := ⟨_, List.getElem?_eq_getElem hk⟩
       obtain ⟨q, hq⟩ : ∃ q, U.ps[s]? = some q := ⟨_, List.getElem?_eq_getElem hk2⟩
       have hst := Ty.covL_step hp hq hll m hs.2
       have hw : IntKind.i64.wrap ((s : Int) + 1) = (s : Int) + 1 := wrap_in (by omega) (by simp only [maxLen] at hm2; omega)
       refine AWp_skip ?_
       try simp only [thenQ, blockQ, noGotoQ]
       refine y1 _ ?_
       try clear y1 Y1
       refine AWp_seqK fun Y1 y1 => ?_
       refine AWp_block ?_
       refine AWp_seqK fun Y2 y2 => ?_
       refine AWp_region ?_
       simp only [↓bO, go_sem, seval, ↓valAV_ty, hcs, hl3, hone, htk, mSome, mSetU, hk, hk2, gM hp, gM hq, Int.natCast_add, hw, hst]
       refine y2 _ ?_
       try clear y2 Y2
       refine AWp_seqK fun Y2 y2 => ?_
       refine AWp_drawK 11 mixed (by kernel_rfl) fun J0 j0 => ?_
       iterate 5 (simp only [go_sem]; refine dRun_chunk 2 fun Q0 q0 => ?_; simp only [↓dRun, ↓dOp, ↓bO, go_sem, seval, ↓valAV_ty, hcs, hl3, hone, htk, mSome, mSetU, hk, hk2, gM hp, gM hq, Int.natCast_add, hw, hst]; refine q0 _ ?_; clear q0 Q0)
       simp only [go_sem]
       simp only [↓dRun, ↓dOp, ↓bO, go_sem, seval, ↓valAV_ty, hcs, hl3, hone, htk, mSome, mSetU, hk, hk2, gM hp, gM hq, Int.natCast_add, hw, hst]
       refine j0 _ ?_
       clear j0 J0
       simp only [go_sem]
       refine aops_chunk 1 fun Q0 q0 => ?_
       simp only [↓bO, go_sem, seval, ↓valAV_ty, hcs, hl3, hone, htk, mSome, mSetU, hk, hk2, gM hp, gM hq, Int.natCast_add, hw, hst]
       refine MCalls.at (ih p (List.mem_of_getElem? hp) q (Ty.covL (T.ps.take s) (U.ps.take s) m).2) (.cons (Ty.dataAgg p) (.cons (Ty.dataAgg q) .nil)) (.v _) (i := 0) rfl (by first | omega | (simp only; omega)) ?_
       simp only [putO, Nat.reduceEqDiff, ↓reduceIte]
       try simp only [bS, bA, thenQ, blockQ, noGotoQ]
       refine q0 _ ?_
       clear q0 Q0
       simp only [go_sem]
       simp only [↓bO, go_sem, seval, ↓valAV_ty, hcs, hl3, hone, htk, mSome, mSetU, hk, hk2, gM hp, gM hq, Int.natCast_add, hw, hst]
       refine y2 _ ?_
       try clear y2 Y2
       refine AWp_cond rfl (fun hb70 => ?_) (fun hb70 => ?_)
       ·
        refine AWp_seqK fun Y2 y2 => ?_
        refine AWp_region ?_
        simp only [↓bO, go_sem, seval, ↓valAV_ty, hcs, hl3, hone, htk, mSome, mSetU, hk, hk2, gM hp, gM hq, Int.natCast_add, hw, hst]
        refine y2 _ ?_
        try clear y2 Y2
        refine AWp_ret ?_
        try simp only [thenQ, blockQ, noGotoQ, retQ, aRes, tupOf, bS, bA]
        have hg : T.cov U m = (false, (p.cov q (Ty.covL (T.ps.take s) (U.ps.take s) m).2).2) := by rw [Ty.cov_more hk1 ⟨hkk, hnn, hll⟩]; exact Ty.covL_stop hp hq hll m hs.2 (by simpa using hb70)
        rw [hg]
        refine ⟨_, enumO 0 [.map (mTC ((p.cov q (Ty.covL (T.ps.take s) (U.ps.take s) m).2).2))], ⟨rfl, rfl⟩, .v _ _, mUnd (by omega) _, ?_, ?_, by omega⟩
        ·
         refine Le.of_eq ?_
         rfl
        · first | (refine ⟨2, rfl, rfl⟩)
       ·
        refine AWp_skip ?_
        try simp only [thenQ, blockQ, noGotoQ]
        refine y1 _ ?_
        try clear y1 Y1
        refine AWp_region ?_
        simp only [↓bO, go_sem, seval, ↓valAV_ty, hcs, hl3, hone, htk, mSome, mSetU, hk, hk2, gM hp, gM hq, Int.natCast_add, hw, hst]
        refine ⟨(s + 1), ⟨by omega, by rw [hst]; simpa using hb70⟩, by omega, ?_⟩
        simp only [maskL, setsL, putsO, putO, mB, List.set_cons_zero, List.set_cons_succ, seval, hk, hk2, gM hp, gM hq, Int.natCast_add, Int.natCast_one, hw, hst]
        exact Weak.mk (by simp only [go_sem, Le.refl, Le.any, Le.slNil, Int.natCast_add, Int.cast_ofNat_Int, Int.natCast_one]) (fun _ _ h => h) rfl rfl
      ·
       have hk : s = T.ps.length := by have := hs.1; simp at hb56; omega
       refine AWp_exit ?_
       simp only [thenQ, blockQ, noGotoQ, bA, Nat.reduceEqDiff, ↓reduceIte]
       refine y0 _ ?_
       try clear y0 Y0
       refine AWp_seqK fun Y0 y0 => ?_
       refine AWp_region ?_
       simp only [↓bO, go_sem, seval, ↓valAV_ty, hcs, hl3, hone, htk, mSome, mSetU]
       refine y0 _ ?_
       try clear y0 Y0
       refine AWp_ret ?_
       try simp only [thenQ, blockQ, noGotoQ, retQ, aRes, tupOf, bS, bA]
       have h8 := hs.2
       rw [hk, List.take_length, hll, List.take_length] at h8
       have hg : T.cov U m = (true, (Ty.covL T.ps U.ps m).2) := by rw [Ty.cov_more hk1 ⟨hkk, hnn, hll⟩]; exact Prod.ext h8 rfl
       rw [hg, hk, List.take_length, hll, List.take_length]
       refine ⟨_, enumO 0 [.map (mTC ((Ty.covL T.ps U.ps m).2))], ⟨rfl, rfl⟩, .v _ _, mUnd (by omega) _, ?_, ?_, by omega⟩
       ·
        refine Le.of_eq ?_
        rfl
       · first | (refine ⟨2, rfl, rfl⟩)
def Sch.rig (s : Sch) (v : Int) : Bool := !decide (v ∈ s.vs)
def instC (s : Sch) (t : Ty) : Bool := s.ok && t.right && (if s.free = [] then (s.t.match t []).1 else ((s.t.mark s.rig).cov (t.mark fun _ => true) []).1)
theorem instC_iff (s : Sch) (t : Ty) : instC s t = true ↔ s.ok = true ∧ t.right = true ∧ Inst s t := by
  unfold instC
  rw [Bool.and_eq_true, Bool.and_eq_true, and_assoc]
  constructor
  · rintro ⟨h1, h2, h3⟩
    refine ⟨h1, h2, ?_⟩
    split at h3
    · rename_i hf; exact (inst_match h1 hf h2).1 h3
    · exact (inst_cov h1 h2).1 h3
  · rintro ⟨h1, h2, h3⟩
    refine ⟨h1, h2, ?_⟩
    split
    · rename_i hf; exact (inst_match h1 hf h2).2 h3
    · exact (inst_cov h1 h2).2 h3
def moreC (a b : Sch) : Bool := a.ok && b.ok && instC a b.t && !(a.free.any fun v => decide (v ∈ b.vs))
theorem SClose_pure (t : Ty) (ar : List Ty) (hc : t.cnt ≤ 1048576) (har : Ty.cntL ar ≤ 1048576) : APure Tryd.prog 10 [.agg t.cells, .sl 3 (ar.map Ty.cells)] (.agg (closeS t ar).cells) := by
  refine APure.mkL (.cons (Ty.dataAgg _) (.cons (Ty.dataSl _) .nil)) (Sch.agg) ?_
  refine ACalls_intro Tryd.func10 (by kernel_rfl) rfl (by rw [Tryd.ntmps10]; simp) (fun hm => ?_)
  simp only [Tryd.ntmps10, Tryd.results10, List.length_cons, List.length_nil, Nat.reduceAdd, Nat.reduceSub, List.replicate_succ, List.replicate_zero, List.cons_append, List.nil_append]
  have hrl := Ty.rvarsL_len ar []
  have htl := Ty.rvarsL_len [t] []
  simp only [List.length_nil, Ty.cntL] at hrl htl
  refine AWp_joinZ (mB 20 22) ([(2, .eptr t.cells), (4, .ptr 1 0)]) [(1, .cells 31 [.v (.slice none 0 0), .v (.int .i64 0), .v (.int .i64 0), .v (.slice none 0 0)])] 2 (True) ?_ (fun hC => ?_)
  ·
   refine AWp_region ?_
   refine aops_chunk 1 fun Q0 q0 => ?_
   simp only [↓bO, go_sem, seval, Sch.cells]
   refine q0 _ ?_
   clear q0 Q0
   simp only [go_sem]
   simp only [↓bO, go_sem, seval, Sch.cells]
   try simp only [maskL, setsL, putsO, putO, mB, List.set_cons_zero, List.set_cons_succ, seval]
   first | refine ⟨trivial, ?_⟩ | skip
   refine Weak.freeze ?_ ⟨rfl, trivial⟩ (by first | omega | (simp only; omega)) (by first | omega | (simp only; omega)) ?_ ?_
   · repeat' first | trivial | exact .inr ⟨_, _, _, rfl, rfl, rfl, rfl⟩ | exact .inl (.refl _) | exact .inl (.any _) | (refine ⟨?_, ?_⟩)
   · repeat' first | exact trivial | exact .any _ | exact .v _ _ | exact .ptr (by omega) | exact Und.data (dataInts _) | exact Und.data Sch.eptr | exact Und.data Sch.agg | exact Und.data (Ty.dataSl _) | exact Und.data (.eptr (Ty.data _)) | exact Und.data (.eptr (.cons (dataInts _) .nil)) | exact .own (by omega) | (refine ⟨?_, ?_⟩)
   · repeat' first | exact trivial | (with_reducible omega) | exact Und.rowI (iD_data _) | exact UndL.data (Ty.data _) | exact UndL.data (Sch.data _) | exact .v _ _ | (refine ⟨?_, ?_⟩)
  simp only [maskL, setsL, putsO, putO, mB, List.set_cons_zero, List.set_cons_succ, seval]
  refine AWp_seqK fun Y0 y0 => ?_
  refine AWp_seqK fun Y1 y1 => ?_
  refine AWp_region ?_
  refine aops_chunk 1 fun Q0 q0 => ?_
  simp only [↓bO, go_sem, seval, Sch.cells]
  refine q0 _ ?_
  clear q0 Q0
  simp only [go_sem]
  refine aops_chunk 1 fun Q0 q0 => ?_
  simp only [↓bO, go_sem, seval, Sch.cells]
  refine APure.call (Right_pure t) ?_
  try simp only [bS, bA, thenQ, blockQ, noGotoQ]
  refine q0 _ ?_
  clear q0 Q0
  simp only [go_sem]
  simp only [↓bO, go_sem, seval, Sch.cells]
  refine y1 _ ?_
  try clear y1 Y1
  refine AWp_cond rfl (fun hb8 => ?_) (fun hb8 => ?_)
  ·
   have hr : t.right = false := by simpa using hb8
   refine AWp_seqK fun Y1 y1 => ?_
   refine AWp_region ?_
   refine aops_chunk 1 fun Q0 q0 => ?_
   simp only [↓bO, go_sem, seval, Sch.cells]
   refine q0 _ ?_
   clear q0 Q0
   simp only [go_sem]
   simp only [↓bO, go_sem, seval, Sch.cells]
   refine y1 _ ?_
   try clear y1 Y1
   refine AWp_ret ?_
   try simp only [thenQ, blockQ, noGotoQ, retQ, aRes, tupOf, bS, bA, aLoad, getO, pack, bL, Nat.reduceAdd, Nat.reduceLeDiff, Nat.reduceEqDiff, ↓reduceIte, ti31, tyX, Sch.cells, List.length_map]
   unfold closeS
   rw [hr, if_neg (by decide)]
   exact zSch_le
  ·
   have hr : t.right = true := by simpa using hb8
   refine AWp_skip ?_
   try simp only [thenQ, blockQ, noGotoQ]
   refine y0 _ ?_
   try clear y0 Y0
   refine AWp_joinZ (mB 20 52) ([(5, .eptr [.sl 1 ((Ty.rvarsL ar []).map intC)])]) [(1, .cells 31 [.v (.slice none 0 0), .v (.int .i64 0), .v (.int .i64 0), .v (.slice none 0 0)])] 2 (True) ?_ (fun hC => ?_)
   ·
    refine AWp_region ?_
    refine aops_chunk 1 fun Q0 q0 => ?_
    simp only [↓bO, go_sem, seval, Sch.cells]
    refine q0 _ ?_
    clear q0 Q0
    simp only [go_sem]
    refine aops_chunk 1 fun Q0 q0 => ?_
    simp only [↓bO, go_sem, seval, Sch.cells]
    refine APure.call (Vars_pure ar (by omega)) ?_
    try simp only [bS, bA, thenQ, blockQ, noGotoQ]
    refine q0 _ ?_
    clear q0 Q0
    simp only [go_sem]
    refine aops_chunk 1 fun Q0 q0 => ?_
    simp only [↓bO, go_sem, seval, Sch.cells]
    refine q0 _ ?_
    clear q0 Q0
    simp only [go_sem]
    simp only [↓bO, go_sem, seval, Sch.cells]
    try simp only [maskL, setsL, putsO, putO, mB, List.set_cons_zero, List.set_cons_succ, seval]
    first | refine ⟨trivial, ?_⟩ | skip
    refine Weak.freeze ?_ ⟨rfl, trivial⟩ (by first | omega | (simp only; omega)) (by first | omega | (simp only; omega)) ?_ ?_
    · repeat' first | trivial | exact .inr ⟨_, _, _, rfl, rfl, rfl, rfl⟩ | exact .inl (.refl _) | exact .inl (.any _) | (refine ⟨?_, ?_⟩)
    · repeat' first | exact trivial | exact .any _ | exact .v _ _ | exact .ptr (by omega) | exact Und.data (dataInts _) | exact Und.data Sch.eptr | exact Und.data Sch.agg | exact Und.data (Ty.dataSl _) | exact Und.data (.eptr (Ty.data _)) | exact Und.data (.eptr (.cons (dataInts _) .nil)) | exact .own (by omega) | (refine ⟨?_, ?_⟩)
    · repeat' first | exact trivial | (with_reducible omega) | exact Und.rowI (iD_data _) | exact UndL.data (Ty.data _) | exact UndL.data (Sch.data _) | exact .v _ _ | (refine ⟨?_, ?_⟩)
   simp only [maskL, setsL, putsO, putO, mB, List.set_cons_zero, List.set_cons_succ, seval]
   refine AWp_seqK fun Y0 y0 => ?_
   refine NAny_start 9 [2, 5] rfl mixed ?_
   dsimp only
   refine NAny_takeK 0 rfl (by kernel_rfl) (by kernel_rfl) (by kernel_rfl) (fun _ _ h => h) (by kernel_rfl) (fun d h => by cases h; rfl) (by kernel_rfl) (G' := [12, 2, 5]) (by kernel_rfl) fun Q0 q0 => ?_
   simp only [↓bO, go_sem, seval, nHead, isE, isSE, isV, Sch.cells]
   refine q0 _ ?_
   clear q0 Q0
   refine NAny_takeK 5 rfl (by kernel_rfl) (by kernel_rfl) (by kernel_rfl) (fun _ _ h => h) (by kernel_rfl) (fun d h => by cases h; rfl) (by kernel_rfl) (G' := [17, 12, 2, 5]) (by kernel_rfl) fun Q0 q0 => ?_
   simp only [↓bO, go_sem, seval, nHead, isE, isSE, isV, Sch.cells]
   refine q0 _ ?_
   clear q0 Q0
   refine NAny_all2 (i := 1) (j := 3) (by kernel_rfl) rfl rfl (fun d h => by cases h; rfl) (fun d h => by cases h; rfl) ?_ ?_
   ·
    refine aAt_op rfl rfl fun Q0 q0 => ?_
    simp only [↓bO, go_sem, seval, ↓bs1_1, ↓bs1_2, ↓bs1_3, ↓bs1_4, ↓bs1_5, ↓bs1_6, ↓bs1_7, ↓bs1_8, ↓bs1_9, ↓bs1_10, ↓bs1_11, ↓bs1_12, Sch.cells]
    refine q0 _ ⟨⟨rfl, rfl, rfl, rfl, trivial⟩, ?_⟩
    clear q0 Q0
    refine NAny_all2 (i := 2) (j := 3) (by kernel_rfl) rfl rfl (fun d h => by cases h; rfl) (fun d h => by cases h; rfl) ?_ ?_
    ·
     refine aAt_op rfl rfl fun Q0 q0 => ?_
     simp only [↓bO, go_sem, seval, Sch.cells]
     refine ACalls.fresh (R' := .own 2 (Ty.rvarsL [t] []).length) (os1' := [(2, .row 3 1 ((Ty.rvarsL [t] []).map intC))]) (OVars_calls [t] (by simp only [Ty.cntL]; omega)) (.cons (show Data (.sl 3 [t.cells]) from Ty.dataSl [t]) .nil) (.own rfl) (by simp) ⟨rfl, .row (iD_data _), trivial⟩ ?_
     simp only [List.cons_append, List.nil_append]
     try simp only [bS, bA]
     refine q0 _ ⟨⟨rfl, rfl, rfl, rfl, trivial⟩, ?_⟩
     clear q0 Q0
     refine NAny_all1 (i := 3) (by kernel_rfl) rfl (fun d h => by cases h; rfl) ?_
     refine aAt_op rfl rfl fun Q0 q0 => ?_
     simp only [↓bO, go_sem, seval, Sch.cells]
     refine q0 _ ⟨⟨rfl, rfl, rfl, rfl, trivial⟩, ?_⟩
     clear q0 Q0
     refine NAny_all1 (i := 4) (by kernel_rfl) rfl (fun d h => by cases h; rfl) ?_
     refine aAt_op rfl rfl fun Q0 q0 => ?_
     simp only [↓bO, go_sem, seval, Sch.cells]
     refine ACalls.eats (DelF_calls (Ty.rvarsL [t] []) 35 [.eptr [.sl 1 ((Ty.rvarsL ar []).map intC)]] (fun v => decide (v ∈ (Ty.rvarsL ar []))) (by omega) (.cons (.eptr (.cons (dataInts _) .nil)) .nil) (fun v _ => Close1_pure (Ty.rvarsL ar []) v (by omega))) (by first | omega | (simp only; omega)) ⟨.own rfl, .data (.clo (.cons (.eptr (.cons (dataInts _) .nil)) .nil)), trivial⟩ (dataInts _) rfl (.row (iD_data _)) ?_
     simp only [delO, List.filter_cons, List.filter_nil, Nat.reduceBEq, Bool.not_true, Bool.not_false, ↓reduceIte, Bool.false_eq_true]
     try simp only [bS, bA]
     refine q0 _ ⟨⟨rfl, rfl, rfl, rfl, trivial⟩, ?_⟩
     clear q0 Q0
     refine NAny_all1 (i := 6) (by kernel_rfl) rfl (fun d h => by cases h; rfl) ?_
     refine aAt_op rfl rfl fun Q0 q0 => ?_
     simp only [↓bO, go_sem, seval, Sch.cells]
     refine APure.call (Copy_pure t (by omega)) ?_
     try simp only [bS, bA]
     refine q0 _ ⟨⟨rfl, rfl, rfl, rfl, trivial⟩, ?_⟩
     clear q0 Q0
     refine NAny_all1 (i := 7) (by kernel_rfl) rfl (fun d h => by cases h; rfl) ?_
     refine aAt_op rfl rfl fun Q0 q0 => ?_
     simp only [↓bO, go_sem, seval, Sch.cells]
     refine q0 _ ⟨⟨rfl, rfl, rfl, rfl, trivial⟩, ?_⟩
     clear q0 Q0
     refine NAny_all1 (i := 8) (by kernel_rfl) rfl (fun d h => by cases h) ?_
     refine aAt_op rfl rfl fun Q0 q0 => ?_
     simp only [↓bO, go_sem, seval, Sch.cells]
     refine q0 _ ⟨⟨rfl, rfl, rfl, rfl, trivial⟩, ?_⟩
     clear q0 Q0
     refine NAny_done (by kernel_rfl) ?_
     simp only [thenQ, blockQ, noGotoQ]
     refine y0 _ ?_
     try clear y0 Y0
     refine AWp_ret ?_
     try simp only [thenQ, blockQ, noGotoQ, retQ, aRes, tupOf, bS, bA, aLoad, getO, pack, bL, Nat.reduceAdd, Nat.reduceLeDiff, Nat.reduceEqDiff, ↓reduceIte, ti31, tyX, Sch.cells, List.length_map]
     unfold closeS
     rw [if_pos hr]
     exact Le.refl _
    ·
     refine aAt_op rfl rfl fun Q0 q0 => ?_
     simp only [↓bO, go_sem, seval, Sch.cells]
     refine q0 _ ⟨⟨rfl, rfl, rfl, rfl, trivial⟩, ?_⟩
     clear q0 Q0
     refine NAny_all1 (i := 2) (by kernel_rfl) rfl (fun d h => by cases h; rfl) ?_
     refine aAt_op rfl rfl fun Q0 q0 => ?_
     simp only [↓bO, go_sem, seval, Sch.cells]
     refine ACalls.fresh (R' := .own 2 (Ty.rvarsL [t] []).length) (os1' := [(2, .row 3 1 ((Ty.rvarsL [t] []).map intC))]) (OVars_calls [t] (by simp only [Ty.cntL]; omega)) (.cons (show Data (.sl 3 [t.cells]) from Ty.dataSl [t]) .nil) (.own rfl) (by simp) ⟨rfl, .row (iD_data _), trivial⟩ ?_
     simp only [List.cons_append, List.nil_append]
     try simp only [bS, bA]
     refine q0 _ ⟨⟨rfl, rfl, rfl, rfl, trivial⟩, ?_⟩
     clear q0 Q0
     refine NAny_all1 (i := 4) (by kernel_rfl) rfl (fun d h => by cases h; rfl) ?_
     refine aAt_op rfl rfl fun Q0 q0 => ?_
     simp only [↓bO, go_sem, seval, Sch.cells]
     refine ACalls.eats (DelF_calls (Ty.rvarsL [t] []) 35 [.eptr [.sl 1 ((Ty.rvarsL ar []).map intC)]] (fun v => decide (v ∈ (Ty.rvarsL ar []))) (by omega) (.cons (.eptr (.cons (dataInts _) .nil)) .nil) (fun v _ => Close1_pure (Ty.rvarsL ar []) v (by omega))) (by first | omega | (simp only; omega)) ⟨.own rfl, .data (.clo (.cons (.eptr (.cons (dataInts _) .nil)) .nil)), trivial⟩ (dataInts _) rfl (.row (iD_data _)) ?_
     simp only [delO, List.filter_cons, List.filter_nil, Nat.reduceBEq, Bool.not_true, Bool.not_false, ↓reduceIte, Bool.false_eq_true]
     try simp only [bS, bA]
     refine q0 _ ⟨⟨rfl, rfl, rfl, rfl, trivial⟩, ?_⟩
     clear q0 Q0
     refine NAny_all1 (i := 6) (by kernel_rfl) rfl (fun d h => by cases h; rfl) ?_
     refine aAt_op rfl rfl fun Q0 q0 => ?_
     simp only [↓bO, go_sem, seval, Sch.cells]
     refine APure.call (Copy_pure t (by omega)) ?_
     try simp only [bS, bA]
     refine q0 _ ⟨⟨rfl, rfl, rfl, rfl, trivial⟩, ?_⟩
     clear q0 Q0
     refine NAny_all1 (i := 7) (by kernel_rfl) rfl (fun d h => by cases h; rfl) ?_
     refine aAt_op rfl rfl fun Q0 q0 => ?_
     simp only [↓bO, go_sem, seval, Sch.cells]
     refine q0 _ ⟨⟨rfl, rfl, rfl, rfl, trivial⟩, ?_⟩
     clear q0 Q0
     refine NAny_all1 (i := 8) (by kernel_rfl) rfl (fun d h => by cases h) ?_
     refine aAt_op rfl rfl fun Q0 q0 => ?_
     simp only [↓bO, go_sem, seval, Sch.cells]
     refine q0 _ ⟨⟨rfl, rfl, rfl, rfl, trivial⟩, ?_⟩
     clear q0 Q0
     refine NAny_done (by kernel_rfl) ?_
     simp only [thenQ, blockQ, noGotoQ]
     refine y0 _ ?_
     try clear y0 Y0
     refine AWp_ret ?_
     try simp only [thenQ, blockQ, noGotoQ, retQ, aRes, tupOf, bS, bA, aLoad, getO, pack, bL, Nat.reduceAdd, Nat.reduceLeDiff, Nat.reduceEqDiff, ↓reduceIte, ti31, tyX, Sch.cells, List.length_map]
     unfold closeS
     rw [if_pos hr]
     exact Le.refl _
   ·
    refine aAt_op rfl rfl fun Q0 q0 => ?_
    simp only [↓bO, go_sem, seval, Sch.cells]
    refine q0 _ ⟨⟨rfl, rfl, rfl, rfl, trivial⟩, ?_⟩
    clear q0 Q0
    refine NAny_all1 (i := 1) (by kernel_rfl) rfl (fun d h => by cases h; rfl) ?_
    refine aAt_op rfl rfl fun Q0 q0 => ?_
    simp only [↓bO, go_sem, seval, ↓bs1_1, ↓bs1_2, ↓bs1_3, ↓bs1_4, ↓bs1_5, ↓bs1_6, ↓bs1_7, ↓bs1_8, ↓bs1_9, ↓bs1_10, ↓bs1_11, ↓bs1_12, Sch.cells]
    refine q0 _ ⟨⟨rfl, rfl, rfl, rfl, trivial⟩, ?_⟩
    clear q0 Q0
    refine NAny_all1 (i := 2) (by kernel_rfl) rfl (fun d h => by cases h; rfl) ?_
    refine aAt_op rfl rfl fun Q0 q0 => ?_
    simp only [↓bO, go_sem, seval, Sch.cells]
    refine ACalls.fresh (R' := .own 2 (Ty.rvarsL [t] []).length) (os1' := [(2, .row 3 1 ((Ty.rvarsL [t] []).map intC))]) (OVars_calls [t] (by simp only [Ty.cntL]; omega)) (.cons (show Data (.sl 3 [t.cells]) from Ty.dataSl [t]) .nil) (.own rfl) (by simp) ⟨rfl, .row (iD_data _), trivial⟩ ?_
    simp only [List.cons_append, List.nil_append]
    try simp only [bS, bA]
    refine q0 _ ⟨⟨rfl, rfl, rfl, rfl, trivial⟩, ?_⟩
    clear q0 Q0
    refine NAny_all1 (i := 4) (by kernel_rfl) rfl (fun d h => by cases h; rfl) ?_
    refine aAt_op rfl rfl fun Q0 q0 => ?_
    simp only [↓bO, go_sem, seval, Sch.cells]
    refine ACalls.eats (DelF_calls (Ty.rvarsL [t] []) 35 [.eptr [.sl 1 ((Ty.rvarsL ar []).map intC)]] (fun v => decide (v ∈ (Ty.rvarsL ar []))) (by omega) (.cons (.eptr (.cons (dataInts _) .nil)) .nil) (fun v _ => Close1_pure (Ty.rvarsL ar []) v (by omega))) (by first | omega | (simp only; omega)) ⟨.own rfl, .data (.clo (.cons (.eptr (.cons (dataInts _) .nil)) .nil)), trivial⟩ (dataInts _) rfl (.row (iD_data _)) ?_
    simp only [delO, List.filter_cons, List.filter_nil, Nat.reduceBEq, Bool.not_true, Bool.not_false, ↓reduceIte, Bool.false_eq_true]
    try simp only [bS, bA]
    refine q0 _ ⟨⟨rfl, rfl, rfl, rfl, trivial⟩, ?_⟩
    clear q0 Q0
    refine NAny_all1 (i := 6) (by kernel_rfl) rfl (fun d h => by cases h; rfl) ?_
    refine aAt_op rfl rfl fun Q0 q0 => ?_
    simp only [↓bO, go_sem, seval, Sch.cells]
    refine APure.call (Copy_pure t (by omega)) ?_
    try simp only [bS, bA]
    refine q0 _ ⟨⟨rfl, rfl, rfl, rfl, trivial⟩, ?_⟩
    clear q0 Q0
    refine NAny_all1 (i := 7) (by kernel_rfl) rfl (fun d h => by cases h; rfl) ?_
    refine aAt_op rfl rfl fun Q0 q0 => ?_
    simp only [↓bO, go_sem, seval, Sch.cells]
    refine q0 _ ⟨⟨rfl, rfl, rfl, rfl, trivial⟩, ?_⟩
    clear q0 Q0
    refine NAny_all1 (i := 8) (by kernel_rfl) rfl (fun d h => by cases h) ?_
    refine aAt_op rfl rfl fun Q0 q0 => ?_
    simp only [↓bO, go_sem, seval, Sch.cells]
    refine q0 _ ⟨⟨rfl, rfl, rfl, rfl, trivial⟩, ?_⟩
    clear q0 Q0
    refine NAny_done (by kernel_rfl) ?_
    simp only [thenQ, blockQ, noGotoQ]
    refine y0 _ ?_
    try clear y0 Y0
    refine AWp_ret ?_
    try simp only [thenQ, blockQ, noGotoQ, retQ, aRes, tupOf, bS, bA, aLoad, getO, pack, bL, Nat.reduceAdd, Nat.reduceLeDiff, Nat.reduceEqDiff, ↓reduceIte, ti31, tyX, Sch.cells, List.length_map]
    unfold closeS
    rw [if_pos hr]
    exact Le.refl _
theorem mRes_iff {T U : Ty} (h1 : T.right = true) (h2 : U.right = true) : decide ((mRes T U).2 = 0) = (T.match U []).1 := by
  unfold mRes
  rw [h1, h2]
  cases (T.match U []).1 <;> rfl
theorem SInst_pure (s : Sch) (t : Ty) (hc : s.t.cnt ≤ 1048576) (hv : s.vs.length ≤ 1048576) (ht : t.cnt ≤ 1048576) : APure Tryd.prog 22 [.agg s.cells, .agg t.cells] (.v (.bool (instC s t))) := by
  refine APure.mkL (.cons Sch.agg (.cons (Ty.dataAgg _) .nil)) (.v _) ?_
  refine ACalls_intro Tryd.func22 (by kernel_rfl) rfl (by rw [Tryd.ntmps22]; simp) (fun hm => ?_)
  simp only [Tryd.ntmps22, Tryd.results22, List.length_cons, List.length_nil, Nat.reduceAdd, Nat.reduceSub, List.replicate_succ, List.replicate_zero, List.cons_append, List.nil_append]
  refine AWp_joinZ (mB 40 12) ([(2, .eptr s.cells), (3, .eptr t.cells)]) [] 0 (True) ?_ (fun hC => ?_)
  ·
   refine AWp_region ?_
   iterate 2 (refine aops_chunk 1 fun Q0 q0 => ?_; simp only [↓bO, go_sem, seval, Sch.cells]; refine q0 _ ?_; clear q0 Q0; simp only [go_sem])
   simp only [↓bO, go_sem, seval, Sch.cells]
   try simp only [maskL, setsL, putsO, putO, mB, List.set_cons_zero, List.set_cons_succ, seval]
   first | refine ⟨trivial, ?_⟩ | skip
   refine Weak.freeze ?_ trivial (by first | omega | (simp only; omega)) (by first | omega | (simp only; omega)) ?_ ?_
   · repeat' first | trivial | exact .inr ⟨_, _, _, rfl, rfl, rfl, rfl⟩ | exact .inl (.refl _) | exact .inl (.any _) | (refine ⟨?_, ?_⟩)
   · repeat' first | exact trivial | exact .any _ | exact .v _ _ | exact .ptr (by omega) | exact Und.data (dataInts _) | exact Und.data Sch.eptr | exact Und.data Sch.agg | exact Und.data (Ty.dataSl _) | exact Und.data (.eptr (Ty.data _)) | exact Und.data (.eptr (.cons (dataInts _) .nil)) | exact .own (by omega) | (refine ⟨?_, ?_⟩)
   · repeat' first | exact trivial | (with_reducible omega) | exact Und.rowI (iD_data _) | exact UndL.data (Ty.data _) | exact UndL.data (Sch.data _) | exact .v _ _ | (refine ⟨?_, ?_⟩)
  simp only [maskL, setsL, putsO, putO, mB, List.set_cons_zero, List.set_cons_succ, seval]
  refine AWp_seqK fun Y0 y0 => ?_
  refine AWp_seqK fun Y1 y1 => ?_
  refine AWp_region ?_
  refine aops_chunk 1 fun Q0 q0 => ?_
  simp only [↓bO, go_sem, seval, Sch.cells]
  refine q0 _ ?_
  clear q0 Q0
  simp only [go_sem]
  refine aops_chunk 1 fun Q0 q0 => ?_
  simp only [↓bO, go_sem, seval, Sch.cells]
  refine APure.call (SRight_pure s hc (by omega)) ?_
  try simp only [bS, bA, thenQ, blockQ, noGotoQ]
  iterate 2 (refine q0 _ ?_; clear q0 Q0; simp only [go_sem]; refine aops_chunk 1 fun Q0 q0 => ?_; simp only [↓bO, go_sem, seval, Sch.cells])
  refine q0 _ ?_
  clear q0 Q0
  simp only [go_sem]
  refine aops_case 12 rfl (fun hc12 => ?_) (fun hc12 => ?_)
  ·
   simp only [List.set_cons_zero, List.set_cons_succ]
   have hok : s.ok = false := by (have h9 := hc12; simpa using h9)
   iterate 3 (refine aops_chunk 1 fun Q0 q0 => ?_; simp only [↓bO, go_sem, seval, Sch.cells]; refine q0 _ ?_; clear q0 Q0; simp only [go_sem])
   simp only [↓bO, go_sem, seval, Sch.cells]
   refine y1 _ ?_
   try clear y1 Y1
   refine AWp_cond (b := true) (by first | exact rfl | exact congrArg (fun b => AV.v (.bool b)) hb16) (fun _ => ?_) (fun h => (by cases h))
   refine AWp_seqK fun Y1 y1 => ?_
   refine AWp_region ?_
   simp only [↓bO, go_sem, seval, Sch.cells]
   refine y1 _ ?_
   try clear y1 Y1
   refine AWp_ret ?_
   try simp only [thenQ, blockQ, noGotoQ, retQ, aRes, tupOf, bS, bA]
   refine Le.of_eq (congrArg (fun b => AV.v (.bool b)) ?_)
   unfold instC
   rw [hok]; rfl
  ·
   simp only [List.set_cons_zero, List.set_cons_succ]
   have hok : s.ok = true := by (have h9 := hc12; simpa using h9)
   refine aops_chunk 1 fun Q0 q0 => ?_
   simp only [↓bO, go_sem, seval, Sch.cells]
   refine q0 _ ?_
   clear q0 Q0
   simp only [go_sem]
   refine aops_chunk 1 fun Q0 q0 => ?_
   simp only [↓bO, go_sem, seval, Sch.cells]
   refine APure.call (Right_pure t) ?_
   try simp only [bS, bA, thenQ, blockQ, noGotoQ]
   refine q0 _ ?_
   clear q0 Q0
   simp only [go_sem]
   refine aops_chunk 1 fun Q0 q0 => ?_
   simp only [↓bO, go_sem, seval, Sch.cells]
   refine q0 _ ?_
   clear q0 Q0
   simp only [go_sem]
   simp only [↓bO, go_sem, seval, Sch.cells]
   refine y1 _ ?_
   try clear y1 Y1
   refine AWp_cond rfl (fun hb16 => ?_) (fun hb16 => ?_)
   ·
    have htr : t.right = false := by (have h9 := hb16; simpa using h9)
    refine AWp_seqK fun Y1 y1 => ?_
    refine AWp_region ?_
    simp only [↓bO, go_sem, seval, Sch.cells]
    refine y1 _ ?_
    try clear y1 Y1
    refine AWp_ret ?_
    try simp only [thenQ, blockQ, noGotoQ, retQ, aRes, tupOf, bS, bA]
    refine Le.of_eq (congrArg (fun b => AV.v (.bool b)) ?_)
    unfold instC
    rw [hok, htr]; rfl
   ·
    have htr : t.right = true := by (have h9 := hb16; simpa using h9)
    refine AWp_skip ?_
    try simp only [thenQ, blockQ, noGotoQ]
    refine y0 _ ?_
    try clear y0 Y0
    refine AWp_seqK fun Y0 y0 => ?_
    refine AWp_seqK fun Y1 y1 => ?_
    refine AWp_region ?_
    refine aops_chunk 1 fun Q0 q0 => ?_
    simp only [↓bO, go_sem, seval, Sch.cells]
    refine q0 _ ?_
    clear q0 Q0
    simp only [go_sem]
    refine aops_chunk 1 fun Q0 q0 => ?_
    simp only [↓bO, go_sem, seval, Sch.cells]
    refine APure.call ((show APure Tryd.prog 19 [.agg s.cells] (.sl 1 (s.free.map intC)) from by have h9 := SFree_pure s hc (by omega); rw [if_pos hok] at h9; exact h9)) ?_
    try simp only [bS, bA, thenQ, blockQ, noGotoQ]
    refine q0 _ ?_
    clear q0 Q0
    simp only [go_sem]
    refine aops_chunk 1 fun Q0 q0 => ?_
    simp only [↓bO, go_sem, seval, Sch.cells]
    refine q0 _ ?_
    clear q0 Q0
    simp only [go_sem]
    simp only [↓bO, go_sem, seval, Sch.cells]
    refine y1 _ ?_
    try clear y1 Y1
    refine AWp_cond rfl (fun hb20 => ?_) (fun hb20 => ?_)
    ·
     have hfr : s.free = [] := by (have h9 := hb20; simp at h9; exact h9)
     refine AWp_seqK fun Y1 y1 => ?_
     refine AWp_region ?_
     iterate 3 (refine aops_chunk 1 fun Q0 q0 => ?_; simp only [↓bO, go_sem, seval, Sch.cells]; refine q0 _ ?_; clear q0 Q0; simp only [go_sem])
     refine aops_chunk 1 fun Q0 q0 => ?_
     simp only [↓bO, go_sem, seval, Sch.cells]
     refine APure.call (Match_pure s.t t (by omega) (by omega)) ?_
     try simp only [bS, bA, thenQ, blockQ, noGotoQ]
     iterate 4 (refine q0 _ ?_; clear q0 Q0; simp only [go_sem]; refine aops_chunk 1 fun Q0 q0 => ?_; simp only [↓bO, go_sem, seval, Sch.cells])
     refine q0 _ ?_
     clear q0 Q0
     simp only [go_sem]
     simp only [↓bO, go_sem, seval, Sch.cells]
     refine y1 _ ?_
     try clear y1 Y1
     refine AWp_seqK fun Y1 y1 => ?_
     refine AWp_region ?_
     iterate 2 (refine aops_chunk 1 fun Q0 q0 => ?_; simp only [↓bO, go_sem, seval, Sch.cells]; refine q0 _ ?_; clear q0 Q0; simp only [go_sem])
     simp only [↓bO, go_sem, seval, Sch.cells]
     refine y1 _ ?_
     try clear y1 Y1
     refine AWp_ret ?_
     try simp only [thenQ, blockQ, noGotoQ, retQ, aRes, tupOf, bS, bA]
     refine Le.of_eq (congrArg (fun b => AV.v (.bool b)) ?_)
     unfold instC
     rw [hok, htr, if_pos hfr, ← mRes_iff (Sch.ok_iff.1 hok).1 htr]; rfl
    ·
     have hfr : ¬ s.free = [] := by (have h9 := hb20; simp at h9; exact h9)
     refine AWp_skip ?_
     try simp only [thenQ, blockQ, noGotoQ]
     refine y0 _ ?_
     try clear y0 Y0
     refine AWp_joinZ (mB 40 384) ([(7, .eptr (s.t.mark s.rig).cells), (8, .eptr (t.mark fun _ => true).cells)]) [] 0 (True) ?_ (fun hC => ?_)
     ·
      refine AWp_region ?_
      iterate 2 (refine aops_chunk 1 fun Q0 q0 => ?_; simp only [↓bO, go_sem, seval, Sch.cells]; refine q0 _ ?_; clear q0 Q0; simp only [go_sem])
      refine aops_chunk 1 fun Q0 q0 => ?_
      simp only [↓bO, go_sem, seval, Sch.cells]
      refine APure.call ((show APure Tryd.prog 46 [.agg s.cells, .agg t.cells] (.tup [.agg (s.t.mark s.rig).cells, .agg (t.mark fun _ => true).cells]) from rigid_pure s t hv hc ht)) ?_
      try simp only [bS, bA, thenQ, blockQ, noGotoQ]
      iterate 6 (refine q0 _ ?_; clear q0 Q0; simp only [go_sem]; refine aops_chunk 1 fun Q0 q0 => ?_; simp only [↓bO, go_sem, seval, Sch.cells])
      refine q0 _ ?_
      clear q0 Q0
      simp only [go_sem]
      simp only [↓bO, go_sem, seval, Sch.cells]
      try simp only [maskL, setsL, putsO, putO, mB, List.set_cons_zero, List.set_cons_succ, seval]
      first | refine ⟨trivial, ?_⟩ | skip
      refine Weak.freeze ?_ trivial (by first | omega | (simp only; omega)) (by first | omega | (simp only; omega)) ?_ ?_
      · repeat' first | trivial | exact .inr ⟨_, _, _, rfl, rfl, rfl, rfl⟩ | exact .inl (.refl _) | exact .inl (.any _) | (refine ⟨?_, ?_⟩)
      · repeat' first | exact trivial | exact .any _ | exact .v _ _ | exact .ptr (by omega) | exact Und.data (dataInts _) | exact Und.data Sch.eptr | exact Und.data Sch.agg | exact Und.data (Ty.dataSl _) | exact Und.data (.eptr (Ty.data _)) | exact Und.data (.eptr (.cons (dataInts _) .nil)) | exact .own (by omega) | (refine ⟨?_, ?_⟩)
      · repeat' first | exact trivial | (with_reducible omega) | exact Und.rowI (iD_data _) | exact UndL.data (Ty.data _) | exact UndL.data (Sch.data _) | exact .v _ _ | (refine ⟨?_, ?_⟩)
     simp only [maskL, setsL, putsO, putO, mB, List.set_cons_zero, List.set_cons_succ, seval]
     refine AWp_seqK fun Y0 y0 => ?_
     refine AWp_region ?_
     iterate 3 (refine aops_chunk 1 fun Q0 q0 => ?_; simp only [↓bO, go_sem, seval, Sch.cells]; refine q0 _ ?_; clear q0 Q0; simp only [go_sem])
     refine aops_chunk 1 fun Q0 q0 => ?_
     simp only [↓bO, go_sem, seval, Sch.cells]
     refine MCalls.at (m := []) (cov_calls (s.t.mark s.rig) (t.mark fun _ => true) []) (.cons (Ty.dataAgg _) (.cons (Ty.dataAgg _) .nil)) (.v _) (i := 0) rfl (by first | omega | (simp only; omega)) ?_
     simp only [putO, Nat.reduceEqDiff, ↓reduceIte]
     try simp only [bS, bA, thenQ, blockQ, noGotoQ]
     refine q0 _ ?_
     clear q0 Q0
     simp only [go_sem]
     simp only [↓bO, go_sem, seval, Sch.cells]
     refine y0 _ ?_
     try clear y0 Y0
     refine AWp_ret ?_
     try simp only [thenQ, blockQ, noGotoQ, retQ, aRes, tupOf, bS, bA]
     refine Le.of_eq (congrArg (fun b => AV.v (.bool b)) ?_)
     unfold instC
     rw [hok, htr, if_neg hfr]; rfl
theorem SMore_pure (a b : Sch) (hca : a.t.cnt ≤ 1048576) (hva : a.vs.length ≤ 1048576) (hcb : b.t.cnt ≤ 1048576) (hvb : b.vs.length ≤ 1048576) : APure Tryd.prog 23 [.agg a.cells, .agg b.cells] (.v (.bool (moreC a b))) := by
  refine APure.mkL (.cons Sch.agg (.cons Sch.agg .nil)) (.v _) ?_
  refine ACalls_intro Tryd.func23 (by kernel_rfl) rfl (by rw [Tryd.ntmps23]; simp) (fun hm => ?_)
  simp only [Tryd.ntmps23, Tryd.results23, List.length_cons, List.length_nil, Nat.reduceAdd, Nat.reduceSub, List.replicate_succ, List.replicate_zero, List.cons_append, List.nil_append]
  refine AWp_joinZ (mB 24 12) ([(2, .eptr a.cells), (3, .eptr b.cells)]) [] 0 (True) ?_ (fun hC => ?_)
  ·
   refine AWp_region ?_
   iterate 2 (refine aops_chunk 1 fun Q0 q0 => ?_; simp only [↓bO, go_sem, seval, Sch.cells]; refine q0 _ ?_; clear q0 Q0; simp only [go_sem])
   simp only [↓bO, go_sem, seval, Sch.cells]
   try simp only [maskL, setsL, putsO, putO, mB, List.set_cons_zero, List.set_cons_succ, seval]
   first | refine ⟨trivial, ?_⟩ | skip
   refine Weak.freeze ?_ trivial (by first | omega | (simp only; omega)) (by first | omega | (simp only; omega)) ?_ ?_
   · repeat' first | trivial | exact .inr ⟨_, _, _, rfl, rfl, rfl, rfl⟩ | exact .inl (.refl _) | exact .inl (.any _) | (refine ⟨?_, ?_⟩)
   · repeat' first | exact trivial | exact .any _ | exact .v _ _ | exact .ptr (by omega) | exact Und.data (dataInts _) | exact Und.data Sch.eptr | exact Und.data Sch.agg | exact Und.data (Ty.dataSl _) | exact Und.data (.eptr (Ty.data _)) | exact Und.data (.eptr (.cons (dataInts _) .nil)) | exact .own (by omega) | (refine ⟨?_, ?_⟩)
   · repeat' first | exact trivial | (with_reducible omega) | exact Und.rowI (iD_data _) | exact UndL.data (Ty.data _) | exact UndL.data (Sch.data _) | exact .v _ _ | (refine ⟨?_, ?_⟩)
  simp only [maskL, setsL, putsO, putO, mB, List.set_cons_zero, List.set_cons_succ, seval]
  refine AWp_seqK fun Y0 y0 => ?_
  refine AWp_region ?_
  refine aops_chunk 1 fun Q0 q0 => ?_
  simp only [↓bO, go_sem, seval, Sch.cells]
  refine q0 _ ?_
  clear q0 Q0
  simp only [go_sem]
  refine aops_chunk 1 fun Q0 q0 => ?_
  simp only [↓bO, go_sem, seval, Sch.cells]
  refine APure.call (SRight_pure a hca (by omega)) ?_
  try simp only [bS, bA, thenQ, blockQ, noGotoQ]
  refine q0 _ ?_
  clear q0 Q0
  simp only [go_sem]
  refine aops_chunk 1 fun Q0 q0 => ?_
  simp only [↓bO, go_sem, seval, Sch.cells]
  refine q0 _ ?_
  clear q0 Q0
  simp only [go_sem]
  refine aops_case 7 rfl (fun hc7 => ?_) (fun hc7 => ?_)
  ·
   simp only [List.set_cons_zero, List.set_cons_succ]
   have hoa : a.ok = true := by (have h9 := hc7; simpa using h9)
   refine aops_chunk 1 fun Q0 q0 => ?_
   simp only [↓bO, go_sem, seval, Sch.cells]
   refine q0 _ ?_
   clear q0 Q0
   simp only [go_sem]
   refine aops_chunk 1 fun Q0 q0 => ?_
   simp only [↓bO, go_sem, seval, Sch.cells]
   refine APure.call (SRight_pure b hcb (by omega)) ?_
   try simp only [bS, bA, thenQ, blockQ, noGotoQ]
   iterate 2 (refine q0 _ ?_; clear q0 Q0; simp only [go_sem]; refine aops_chunk 1 fun Q0 q0 => ?_; simp only [↓bO, go_sem, seval, Sch.cells])
   refine q0 _ ?_
   clear q0 Q0
   simp only [go_sem]
   refine aops_case 11 rfl (fun hc11 => ?_) (fun hc11 => ?_)
   ·
    simp only [List.set_cons_zero, List.set_cons_succ]
    have hob : b.ok = true := by (have h9 := hc11; simpa using h9)
    iterate 3 (refine aops_chunk 1 fun Q0 q0 => ?_; simp only [↓bO, go_sem, seval, Sch.cells]; refine q0 _ ?_; clear q0 Q0; simp only [go_sem])
    refine aops_chunk 1 fun Q0 q0 => ?_
    simp only [↓bO, go_sem, seval, Sch.cells]
    refine APure.call (SInst_pure a b.t hca hva hcb) ?_
    try simp only [bS, bA, thenQ, blockQ, noGotoQ]
    iterate 2 (refine q0 _ ?_; clear q0 Q0; simp only [go_sem]; refine aops_chunk 1 fun Q0 q0 => ?_; simp only [↓bO, go_sem, seval, Sch.cells])
    refine q0 _ ?_
    clear q0 Q0
    simp only [go_sem]
    refine aops_case 17 rfl (fun hc17 => ?_) (fun hc17 => ?_)
    ·
     simp only [List.set_cons_zero, List.set_cons_succ]
     have hin : instC a b.t = true := by (have h9 := hc17; simpa using h9)
     refine aops_chunk 1 fun Q0 q0 => ?_
     simp only [↓bO, go_sem, seval, Sch.cells]
     refine q0 _ ?_
     clear q0 Q0
     simp only [go_sem]
     refine aops_chunk 1 fun Q0 q0 => ?_
     simp only [↓bO, go_sem, seval, Sch.cells]
     refine APure.call ((show APure Tryd.prog 19 [.agg a.cells] (.sl 1 (a.free.map intC)) from by have h9 := SFree_pure a hca (by omega); rw [if_pos hoa] at h9; exact h9)) ?_
     try simp only [bS, bA, thenQ, blockQ, noGotoQ]
     iterate 2 (refine q0 _ ?_; clear q0 Q0; simp only [go_sem]; refine aops_chunk 1 fun Q0 q0 => ?_; simp only [↓bO, go_sem, seval, Sch.cells])
     refine ACalls.mono (ContainsGIn a.free 49 [.eptr b.cells] (fun v => decide (v ∈ b.vs)) _ _ trivial (fun p hp => (More1_pure b p (by omega)).call ⟨⟨rfl, rfl⟩, rfl⟩)) ?_
     rintro z os2 nx2 ⟨⟨rfl, rfl⟩, rfl⟩
     try simp only [bS, bA, thenQ, blockQ, noGotoQ]
     iterate 2 (refine q0 _ ?_; clear q0 Q0; simp only [go_sem]; refine aops_chunk 1 fun Q0 q0 => ?_; simp only [↓bO, go_sem, seval, Sch.cells])
     refine q0 _ ?_
     clear q0 Q0
     simp only [go_sem]
     simp only [↓bO, go_sem, seval, Sch.cells]
     refine y0 _ ?_
     try clear y0 Y0
     refine AWp_ret ?_
     try simp only [thenQ, blockQ, noGotoQ, retQ, aRes, tupOf, bS, bA]
     refine Le.of_eq (congrArg (fun b => AV.v (.bool b)) ?_)
     unfold moreC
     rw [hoa, hob, hin]; rfl
    ·
     simp only [List.set_cons_zero, List.set_cons_succ]
     have hin : instC a b.t = false := by (have h9 := hc17; simpa using h9)
     iterate 6 (refine aops_chunk 1 fun Q0 q0 => ?_; simp only [↓bO, go_sem, seval, Sch.cells]; refine q0 _ ?_; clear q0 Q0; simp only [go_sem])
     simp only [↓bO, go_sem, seval, Sch.cells]
     refine y0 _ ?_
     try clear y0 Y0
     refine AWp_ret ?_
     try simp only [thenQ, blockQ, noGotoQ, retQ, aRes, tupOf, bS, bA]
     refine Le.of_eq (congrArg (fun b => AV.v (.bool b)) ?_)
     unfold moreC
     rw [hoa, hob, hin]; rfl
   ·
    simp only [List.set_cons_zero, List.set_cons_succ]
    have hob : b.ok = false := by (have h9 := hc11; simpa using h9)
    iterate 12 (refine aops_chunk 1 fun Q0 q0 => ?_; simp only [↓bO, go_sem, seval, Sch.cells]; refine q0 _ ?_; clear q0 Q0; simp only [go_sem])
    simp only [↓bO, go_sem, seval, Sch.cells]
    refine y0 _ ?_
    try clear y0 Y0
    refine AWp_ret ?_
    try simp only [thenQ, blockQ, noGotoQ, retQ, aRes, tupOf, bS, bA]
    refine Le.of_eq (congrArg (fun b => AV.v (.bool b)) ?_)
    unfold moreC
    rw [hoa, hob]; rfl
  ·
   simp only [List.set_cons_zero, List.set_cons_succ]
   have hoa : a.ok = false := by (have h9 := hc7; simpa using h9)
   iterate 16 (refine aops_chunk 1 fun Q0 q0 => ?_; simp only [↓bO, go_sem, seval, Sch.cells]; refine q0 _ ?_; clear q0 Q0; simp only [go_sem])
   simp only [↓bO, go_sem, seval, Sch.cells]
   refine y0 _ ?_
   try clear y0 Y0
   refine AWp_ret ?_
   try simp only [thenQ, blockQ, noGotoQ, retQ, aRes, tupOf, bS, bA]
   refine Le.of_eq (congrArg (fun b => AV.v (.bool b)) ?_)
   unfold moreC
   rw [hoa]; rfl
theorem Sch.great_spec {s : Sch} (h : s.great = false) : s.t.cnt ≤ 300 ∧ s.vs.length ≤ 40 := by
  unfold Sch.great at h
  rw [Bool.or_eq_false_iff, decide_eq_false_iff_not] at h
  exact ⟨Ty.great_cnt h.1, by omega⟩
def refI (s : Sch) (t : Ty) : Bool := (s.t.sub (instB s t)).same t
theorem instC_ref (s : Sch) (t : Ty) : instC s t = (s.ok && t.right && refI s t) := by
  rw [Bool.eq_iff_iff, instC_iff, Bool.and_eq_true, Bool.and_eq_true, and_assoc]
  exact ⟨fun ⟨h1, h2, h3⟩ => ⟨h1, h2, (inst_ref h1).2 h3⟩, fun ⟨h1, h2, h3⟩ => ⟨h1, h2, (inst_ref h1).1 h3⟩⟩
def moreM (a b : Sch) : Bool := a.ok && b.ok && refI a b.t
def moreZ (a b : Sch) (z : Nat) : Bool := moreM a b && !((b.vs.take z).any fun v => decide (v ∈ a.free))
theorem moreZ_zero (a b : Sch) : moreZ a b 0 = moreM a b := by simp [moreZ]
theorem moreZ_step {a b : Sch} {z : Nat} {v : Int} (h : b.vs[z]? = some v) (hm : moreZ a b z = true) : moreZ a b (z + 1) = !decide (v ∈ a.free) := by
  unfold moreZ at hm ⊢
  rw [Bool.and_eq_true, Bool.not_eq_true'] at hm
  rw [List.take_add_one, h, List.any_append, hm.1, hm.2]
  simp
theorem moreZ_no {a b : Sch} {z : Nat} (h : moreZ a b z = false) : moreZ a b b.vs.length = false := by
  unfold moreZ at h ⊢
  cases hm : moreM a b with
  | false => rfl
  | true =>
    rw [hm, Bool.true_and, Bool.not_eq_false'] at h
    rw [Bool.true_and, Bool.not_eq_false', List.take_length]
    obtain ⟨x, hx, h2⟩ := List.any_eq_true.1 h
    exact List.any_eq_true.2 ⟨x, List.mem_of_mem_take hx, h2⟩
theorem moreC_eq (a b : Sch) : moreC a b = moreZ a b b.vs.length := by
  unfold moreC moreZ moreM
  rw [List.take_length, instC_ref]
  have h : (a.free.any fun v => decide (v ∈ b.vs)) = (b.vs.any fun v => decide (v ∈ a.free)) := by
    rw [Bool.eq_iff_iff, List.any_eq_true, List.any_eq_true]
    exact ⟨fun ⟨x, h1, h2⟩ => ⟨x, by simpa using h2, by simpa using h1⟩, fun ⟨x, h1, h2⟩ => ⟨x, by simpa using h2, by simpa using h1⟩⟩
  rw [h]
  cases ha : a.ok <;> cases hb : b.ok <;> simp
  have := (Sch.ok_iff.1 hb).1
  rw [this]; simp
theorem instC_self (s : Sch) (h : s.ok = true) : instC s s.t = true := (instC_iff s s.t).2 ⟨h, (Sch.ok_iff.1 h).1, inst_self s h⟩
theorem SchemeInstances_pure (a b : Sch) (t : Ty) (hA : APure Tryd.prog 8 [] (.v (.bool true))) : APure Tryd.prog 4 [.agg a.cells, .agg b.cells, .agg t.cells] (.v (.bool true)) := by
  refine APure.mkL (.cons Sch.agg (.cons Sch.agg (.cons (Ty.dataAgg _) .nil))) (.v _) ?_
  refine ACalls_intro Tryd.func4 (by kernel_rfl) rfl (by rw [Tryd.ntmps4]; simp) (fun hm => ?_)
  simp only [Tryd.ntmps4, Tryd.results4, List.length_cons, List.length_nil, Nat.reduceAdd, Nat.reduceSub, List.replicate_succ, List.replicate_zero, List.cons_append, List.nil_append]
  refine AWp_joinZ (mB 93 56) ([(3, .eptr a.cells), (4, .eptr b.cells), (5, .eptr t.cells)]) [] 0 (True) ?_ (fun hC => ?_)
  ·
   refine AWp_region ?_
   iterate 3 (refine aops_chunk 1 fun Q0 q0 => ?_; simp only [↓bO, go_sem, seval, Sch.cells]; refine q0 _ ?_; clear q0 Q0; simp only [go_sem])
   simp only [↓bO, go_sem, seval, Sch.cells]
   try simp only [maskL, setsL, putsO, putO, mB, List.set_cons_zero, List.set_cons_succ, seval]
   first | refine ⟨trivial, ?_⟩ | skip
   refine Weak.freeze ?_ trivial (by first | omega | (simp only; omega)) (by first | omega | (simp only; omega)) ?_ ?_
   · repeat' first | trivial | exact .inr ⟨_, _, _, rfl, rfl, rfl, rfl⟩ | exact .inl (.refl _) | exact .inl (.any _) | (refine ⟨?_, ?_⟩)
   · repeat' first | exact trivial | exact .any _ | exact .v _ _ | exact .ptr (by omega) | exact Und.data (dataInts _) | exact Und.data Sch.eptr | exact Und.data Sch.agg | exact Und.data (Ty.dataSl _) | exact Und.data (.eptr (Ty.data _)) | exact Und.data (.eptr (.cons (dataInts _) .nil)) | exact .own (by omega) | (refine ⟨?_, ?_⟩)
   · repeat' first | exact trivial | (with_reducible omega) | exact Und.rowI (iD_data _) | exact UndL.data (Ty.data _) | exact UndL.data (Sch.data _) | exact .v _ _ | (refine ⟨?_, ?_⟩)
  simp only [maskL, setsL, putsO, putO, mB, List.set_cons_zero, List.set_cons_succ, seval]
  refine AWp_seqK fun Y0 y0 => ?_
  refine AWp_seqK fun Y1 y1 => ?_
  refine AWp_region ?_
  refine aops_chunk 1 fun Q0 q0 => ?_
  simp only [↓bO, go_sem, seval, Sch.cells]
  refine q0 _ ?_
  clear q0 Q0
  simp only [go_sem]
  refine aops_chunk 1 fun Q0 q0 => ?_
  simp only [↓bO, go_sem, seval, Sch.cells]
  refine APure.call (Great16_pure a) ?_
  try simp only [bS, bA, thenQ, blockQ, noGotoQ]
  refine q0 _ ?_
  clear q0 Q0
  simp only [go_sem]
  refine aops_chunk 1 fun Q0 q0 => ?_
  simp only [↓bO, go_sem, seval, Sch.cells]
  refine q0 _ ?_
  clear q0 Q0
  simp only [go_sem]
  refine aops_case 13 rfl (fun hc13 => ?_) (fun hc13 => ?_)
  ·
   simp only [List.set_cons_zero, List.set_cons_succ]
   iterate 6 (refine aops_chunk 1 fun Q0 q0 => ?_; simp only [↓bO, go_sem, seval, Sch.cells]; refine q0 _ ?_; clear q0 Q0; simp only [go_sem])
   simp only [↓bO, go_sem, seval, Sch.cells]
   refine y1 _ ?_
   try clear y1 Y1
   refine AWp_cond (b := true) (by first | exact rfl | exact congrArg (fun b => AV.v (.bool b)) hb20) (fun _ => ?_) (fun h => (by cases h))
   refine AWp_seqK fun Y1 y1 => ?_
   refine AWp_region ?_
   refine aops_chunk 1 fun Q0 q0 => ?_
   simp only [↓bO, go_sem, seval, Sch.cells]
   refine APure.call (hA) ?_
   try simp only [bS, bA, thenQ, blockQ, noGotoQ]
   refine q0 _ ?_
   clear q0 Q0
   simp only [go_sem]
   simp only [↓bO, go_sem, seval, Sch.cells]
   refine y1 _ ?_
   try clear y1 Y1
   refine AWp_ret ?_
   try simp only [thenQ, blockQ, noGotoQ, retQ, aRes, tupOf, bS, bA]
   exact Le.refl _
  ·
   simp only [List.set_cons_zero, List.set_cons_succ]
   have hga := Sch.great_spec (by first | exact hc13 | simpa using hc13)
   refine aops_chunk 1 fun Q0 q0 => ?_
   simp only [↓bO, go_sem, seval, Sch.cells]
   refine q0 _ ?_
   clear q0 Q0
   simp only [go_sem]
   refine aops_chunk 1 fun Q0 q0 => ?_
   simp only [↓bO, go_sem, seval, Sch.cells]
   refine APure.call (Great16_pure b) ?_
   try simp only [bS, bA, thenQ, blockQ, noGotoQ]
   iterate 2 (refine q0 _ ?_; clear q0 Q0; simp only [go_sem]; refine aops_chunk 1 fun Q0 q0 => ?_; simp only [↓bO, go_sem, seval, Sch.cells])
   refine q0 _ ?_
   clear q0 Q0
   simp only [go_sem]
   refine aops_case 17 rfl (fun hc17 => ?_) (fun hc17 => ?_)
   ·
    simp only [List.set_cons_zero, List.set_cons_succ]
    iterate 2 (refine aops_chunk 1 fun Q0 q0 => ?_; simp only [↓bO, go_sem, seval, Sch.cells]; refine q0 _ ?_; clear q0 Q0; simp only [go_sem])
    simp only [↓bO, go_sem, seval, Sch.cells]
    refine y1 _ ?_
    try clear y1 Y1
    refine AWp_cond (b := true) (by first | exact rfl | exact congrArg (fun b => AV.v (.bool b)) hb20) (fun _ => ?_) (fun h => (by cases h))
    refine AWp_seqK fun Y1 y1 => ?_
    refine AWp_region ?_
    refine aops_chunk 1 fun Q0 q0 => ?_
    simp only [↓bO, go_sem, seval, Sch.cells]
    refine APure.call (hA) ?_
    try simp only [bS, bA, thenQ, blockQ, noGotoQ]
    refine q0 _ ?_
    clear q0 Q0
    simp only [go_sem]
    simp only [↓bO, go_sem, seval, Sch.cells]
    refine y1 _ ?_
    try clear y1 Y1
    refine AWp_ret ?_
    try simp only [thenQ, blockQ, noGotoQ, retQ, aRes, tupOf, bS, bA]
    exact Le.refl _
   ·
    simp only [List.set_cons_zero, List.set_cons_succ]
    have hgb := Sch.great_spec (by first | exact hc17 | simpa using hc17)
    refine aops_chunk 1 fun Q0 q0 => ?_
    simp only [↓bO, go_sem, seval, Sch.cells]
    refine q0 _ ?_
    clear q0 Q0
    simp only [go_sem]
    refine aops_chunk 1 fun Q0 q0 => ?_
    simp only [↓bO, go_sem, seval, Sch.cells]
    refine APure.call (Great3_pure t) ?_
    try simp only [bS, bA, thenQ, blockQ, noGotoQ]
    refine q0 _ ?_
    clear q0 Q0
    simp only [go_sem]
    simp only [↓bO, go_sem, seval, Sch.cells]
    refine y1 _ ?_
    try clear y1 Y1
    refine AWp_cond rfl (fun hb20 => ?_) (fun hb20 => ?_)
    ·
     refine AWp_seqK fun Y1 y1 => ?_
     refine AWp_region ?_
     refine aops_chunk 1 fun Q0 q0 => ?_
     simp only [↓bO, go_sem, seval, Sch.cells]
     refine APure.call (hA) ?_
     try simp only [bS, bA, thenQ, blockQ, noGotoQ]
     refine q0 _ ?_
     clear q0 Q0
     simp only [go_sem]
     simp only [↓bO, go_sem, seval, Sch.cells]
     refine y1 _ ?_
     try clear y1 Y1
     refine AWp_ret ?_
     try simp only [thenQ, blockQ, noGotoQ, retQ, aRes, tupOf, bS, bA]
     exact Le.refl _
    ·
     have hgt := Ty.great_cnt (by first | exact hb20 | simpa using hb20)
     refine AWp_skip ?_
     try simp only [thenQ, blockQ, noGotoQ]
     refine y0 _ ?_
     try clear y0 Y0
     refine AWp_seqK fun Y0 y0 => ?_
     refine AWp_region ?_
     refine aops_chunk 1 fun Q0 q0 => ?_
     simp only [↓bO, go_sem, seval, Sch.cells]
     refine q0 _ ?_
     clear q0 Q0
     simp only [go_sem]
     refine aops_chunk 1 fun Q0 q0 => ?_
     simp only [↓bO, go_sem, seval, Sch.cells]
     refine APure.call (Right16_pure a (by omega)) ?_
     try simp only [bS, bA, thenQ, blockQ, noGotoQ]
     refine q0 _ ?_
     clear q0 Q0
     simp only [go_sem]
     simp only [↓bO, go_sem, seval, Sch.cells]
     refine y0 _ ?_
     try clear y0 Y0
     refine AWp_joinM (mB 93 440) ([(8, .v (.bool (instC a t)))]) ([]) ?_ ?_
     ·
      refine AWp_region ?_
      iterate 2 (refine aops_chunk 1 fun Q0 q0 => ?_; simp only [↓bO, go_sem, seval, Sch.cells]; refine q0 _ ?_; clear q0 Q0; simp only [go_sem])
      refine aops_case 25 rfl (fun hc25 => ?_) (fun hc25 => ?_)
      ·
       simp only [List.set_cons_zero, List.set_cons_succ]
       have hao : a.ok = true := by (have h9 := hc25; simpa using h9)
       refine aops_chunk 1 fun Q0 q0 => ?_
       simp only [↓bO, go_sem, seval, Sch.cells]
       refine q0 _ ?_
       clear q0 Q0
       simp only [go_sem]
       refine aops_chunk 1 fun Q0 q0 => ?_
       simp only [↓bO, go_sem, seval, Sch.cells]
       refine APure.call (RefRight_pure t) ?_
       try simp only [bS, bA, thenQ, blockQ, noGotoQ]
       iterate 2 (refine q0 _ ?_; clear q0 Q0; simp only [go_sem]; refine aops_chunk 1 fun Q0 q0 => ?_; simp only [↓bO, go_sem, seval, Sch.cells])
       refine q0 _ ?_
       clear q0 Q0
       simp only [go_sem]
       refine aops_case 29 rfl (fun hc29 => ?_) (fun hc29 => ?_)
       ·
        simp only [List.set_cons_zero, List.set_cons_succ]
        have htr : t.right = true := by (have h9 := hc29; simpa using h9)
        iterate 2 (refine aops_chunk 1 fun Q0 q0 => ?_; simp only [↓bO, go_sem, seval, Sch.cells]; refine q0 _ ?_; clear q0 Q0; simp only [go_sem])
        refine aops_chunk 1 fun Q0 q0 => ?_
        simp only [↓bO, go_sem, seval, Sch.cells]
        refine APure.call ((show APure Tryd.prog 20 [.agg a.cells, .agg t.cells] (.v (.bool (refI a t))) from Inst16_pure a t (by omega) (by omega))) ?_
        try simp only [bS, bA, thenQ, blockQ, noGotoQ]
        refine q0 _ ?_
        clear q0 Q0
        simp only [go_sem]
        refine aops_chunk 1 fun Q0 q0 => ?_
        simp only [↓bO, go_sem, seval, Sch.cells]
        refine q0 _ ?_
        clear q0 Q0
        simp only [go_sem]
        simp only [↓bO, go_sem, seval, Sch.cells]
        try simp only [maskL, setsL, putsO, putO, mB, List.set_cons_zero, List.set_cons_succ, seval]
        refine Weak.mk ?_ (fun _ _ h => h) rfl rfl
        repeat' first | exact trivial | exact .refl _ | exact .any _ | exact Le.of_eq (congrArg (fun b => AV.v (.bool b)) (by rw [instC_ref]; first | (rw [hao, htr]; rfl) | (rw [hao, htr]; simp) | (rw [hao]; rfl))) | (refine ⟨?_, ?_⟩)
       ·
        simp only [List.set_cons_zero, List.set_cons_succ]
        have htr : t.right = false := by (have h9 := hc29; simpa using h9)
        iterate 4 (refine aops_chunk 1 fun Q0 q0 => ?_; simp only [↓bO, go_sem, seval, Sch.cells]; refine q0 _ ?_; clear q0 Q0; simp only [go_sem])
        simp only [↓bO, go_sem, seval, Sch.cells]
        try simp only [maskL, setsL, putsO, putO, mB, List.set_cons_zero, List.set_cons_succ, seval]
        refine Weak.mk ?_ (fun _ _ h => h) rfl rfl
        repeat' first | exact trivial | exact .refl _ | exact .any _ | exact Le.of_eq (congrArg (fun b => AV.v (.bool b)) (by rw [instC_ref]; first | (rw [hao, htr]; rfl) | (rw [hao, htr]; simp) | (rw [hao]; rfl))) | (refine ⟨?_, ?_⟩)
      ·
       simp only [List.set_cons_zero, List.set_cons_succ]
       have hao : a.ok = false := by (have h9 := hc25; simpa using h9)
       iterate 8 (refine aops_chunk 1 fun Q0 q0 => ?_; simp only [↓bO, go_sem, seval, Sch.cells]; refine q0 _ ?_; clear q0 Q0; simp only [go_sem])
       simp only [↓bO, go_sem, seval, Sch.cells]
       try simp only [maskL, setsL, putsO, putO, mB, List.set_cons_zero, List.set_cons_succ, seval]
       refine Weak.mk ?_ (fun _ _ h => h) rfl rfl
       repeat' first | exact trivial | exact .refl _ | exact .any _ | exact Le.of_eq (congrArg (fun b => AV.v (.bool b)) (by rw [instC_ref]; first | (rw [hao, htr]; rfl) | (rw [hao, htr]; simp) | (rw [hao]; rfl))) | (refine ⟨?_, ?_⟩)
     simp only [maskL, setsL, putsO, putO, mB, List.set_cons_zero, List.set_cons_succ, seval]
     refine AWp_joinM (mB 93 952) ([(9, .v (.bool (moreM a b)))]) ([]) ?_ ?_
     ·
      refine AWp_region ?_
      iterate 2 (refine aops_chunk 1 fun Q0 q0 => ?_; simp only [↓bO, go_sem, seval, Sch.cells]; refine q0 _ ?_; clear q0 Q0; simp only [go_sem])
      refine aops_case 35 rfl (fun hc35 => ?_) (fun hc35 => ?_)
      ·
       simp only [List.set_cons_zero, List.set_cons_succ]
       have hao : a.ok = true := by (have h9 := hc35; simpa using h9)
       refine aops_chunk 1 fun Q0 q0 => ?_
       simp only [↓bO, go_sem, seval, Sch.cells]
       refine q0 _ ?_
       clear q0 Q0
       simp only [go_sem]
       refine aops_chunk 1 fun Q0 q0 => ?_
       simp only [↓bO, go_sem, seval, Sch.cells]
       refine APure.call (Right16_pure b (by omega)) ?_
       try simp only [bS, bA, thenQ, blockQ, noGotoQ]
       iterate 2 (refine q0 _ ?_; clear q0 Q0; simp only [go_sem]; refine aops_chunk 1 fun Q0 q0 => ?_; simp only [↓bO, go_sem, seval, Sch.cells])
       refine q0 _ ?_
       clear q0 Q0
       simp only [go_sem]
       refine aops_case 39 rfl (fun hc39 => ?_) (fun hc39 => ?_)
       ·
        simp only [List.set_cons_zero, List.set_cons_succ]
        have hbo : b.ok = true := by (have h9 := hc39; simpa using h9)
        iterate 3 (refine aops_chunk 1 fun Q0 q0 => ?_; simp only [↓bO, go_sem, seval, Sch.cells]; refine q0 _ ?_; clear q0 Q0; simp only [go_sem])
        refine aops_chunk 1 fun Q0 q0 => ?_
        simp only [↓bO, go_sem, seval, Sch.cells]
        refine APure.call ((show APure Tryd.prog 20 [.agg a.cells, .agg b.t.cells] (.v (.bool (refI a b.t))) from Inst16_pure a b.t (by omega) (by omega))) ?_
        try simp only [bS, bA, thenQ, blockQ, noGotoQ]
        refine q0 _ ?_
        clear q0 Q0
        simp only [go_sem]
        refine aops_chunk 1 fun Q0 q0 => ?_
        simp only [↓bO, go_sem, seval, Sch.cells]
        refine q0 _ ?_
        clear q0 Q0
        simp only [go_sem]
        simp only [↓bO, go_sem, seval, Sch.cells]
        try simp only [maskL, setsL, putsO, putO, mB, List.set_cons_zero, List.set_cons_succ, seval]
        refine Weak.mk ?_ (fun _ _ h => h) rfl rfl
        repeat' first | exact trivial | exact .refl _ | exact .any _ | exact Le.of_eq (congrArg (fun b => AV.v (.bool b)) (by unfold moreM; first | (rw [hao, hbo]; rfl) | (rw [hao, hbo]; simp) | (rw [hao]; rfl))) | (refine ⟨?_, ?_⟩)
       ·
        simp only [List.set_cons_zero, List.set_cons_succ]
        have hbo : b.ok = false := by (have h9 := hc39; simpa using h9)
        iterate 5 (refine aops_chunk 1 fun Q0 q0 => ?_; simp only [↓bO, go_sem, seval, Sch.cells]; refine q0 _ ?_; clear q0 Q0; simp only [go_sem])
        simp only [↓bO, go_sem, seval, Sch.cells]
        try simp only [maskL, setsL, putsO, putO, mB, List.set_cons_zero, List.set_cons_succ, seval]
        refine Weak.mk ?_ (fun _ _ h => h) rfl rfl
        repeat' first | exact trivial | exact .refl _ | exact .any _ | exact Le.of_eq (congrArg (fun b => AV.v (.bool b)) (by unfold moreM; first | (rw [hao, hbo]; rfl) | (rw [hao, hbo]; simp) | (rw [hao]; rfl))) | (refine ⟨?_, ?_⟩)
      ·
       simp only [List.set_cons_zero, List.set_cons_succ]
       have hao : a.ok = false := by (have h9 := hc35; simpa using h9)
       iterate 9 (refine aops_chunk 1 fun Q0 q0 => ?_; simp only [↓bO, go_sem, seval, Sch.cells]; refine q0 _ ?_; clear q0 Q0; simp only [go_sem])
       simp only [↓bO, go_sem, seval, Sch.cells]
       try simp only [maskL, setsL, putsO, putO, mB, List.set_cons_zero, List.set_cons_succ, seval]
       refine Weak.mk ?_ (fun _ _ h => h) rfl rfl
       repeat' first | exact trivial | exact .refl _ | exact .any _ | exact Le.of_eq (congrArg (fun b => AV.v (.bool b)) (by unfold moreM; first | (rw [hao, hbo]; rfl) | (rw [hao, hbo]; simp) | (rw [hao]; rfl))) | (refine ⟨?_, ?_⟩)
     simp only [maskL, setsL, putsO, putO, mB, List.set_cons_zero, List.set_cons_succ, seval]
     refine AWp_seqK fun Y0 y0 => ?_
     refine AWp_seqK fun Y1 y1 => ?_
     refine AWp_region ?_
     simp only [↓bO, go_sem, seval, Sch.cells]
     refine y1 _ ?_
     try clear y1 Y1
     refine AWp_block ?_
     refine AWp_loopM (σ := Nat) (mB 93 1976) (fun z => z ≤ b.vs.length) (fun z => [(9, .v (.bool (moreZ a b z))), (10, .v (.int .i64 (z : Int)))]) (fun z => []) (fun z => b.vs.length - z) 0 (Nat.zero_le _) ?_ (fun z hz => ?_)
     ·
      simp only [maskL, setsL, putsO, putO, mB, List.set_cons_zero, List.set_cons_succ, seval, moreZ_zero]
      exact Weak.mk (by simp only [go_sem, Le.refl, Le.any, Le.slNil, Int.natCast_add, Int.cast_ofNat_Int, Int.natCast_one]) (fun _ _ h => h) rfl rfl
     simp only [maskL, setsL, putsO, putO, mB, List.set_cons_zero, List.set_cons_succ, seval]
     refine AWp_seqK fun Y1 y1 => ?_
     refine AWp_joinM (mB 93 4503599627372472) ([(52, .v (.bool (moreZ a b z && decide (z < b.vs.length))))]) ([]) ?_ ?_
     ·
      refine AWp_region ?_
      iterate 2 (refine aops_chunk 1 fun Q0 q0 => ?_; simp only [↓bO, go_sem, seval, Sch.cells]; refine q0 _ ?_; clear q0 Q0; simp only [go_sem])
      refine aops_case 46 rfl (fun hc46 => ?_) (fun hc46 => ?_)
      ·
       simp only [List.set_cons_zero, List.set_cons_succ]
       have hmz : moreZ a b z = true := by (first | exact hc46 | simpa using hc46)
       iterate 5 (refine aops_chunk 1 fun Q0 q0 => ?_; simp only [↓bO, go_sem, seval, Sch.cells]; refine q0 _ ?_; clear q0 Q0; simp only [go_sem])
       simp only [↓bO, go_sem, seval, Sch.cells]
       try simp only [maskL, setsL, putsO, putO, mB, List.set_cons_zero, List.set_cons_succ, seval]
       refine Weak.mk ?_ (fun _ _ h => h) rfl rfl
       repeat' first | exact trivial | exact .refl _ | exact .any _ | exact Le.of_eq (congrArg (fun b => AV.v (.bool b)) (by rw [hmz]; simp)) | (refine ⟨?_, ?_⟩)
      ·
       simp only [List.set_cons_zero, List.set_cons_succ]
       have hmz : moreZ a b z = false := by (first | exact hc46 | simpa using hc46)
       iterate 5 (refine aops_chunk 1 fun Q0 q0 => ?_; simp only [↓bO, go_sem, seval, Sch.cells]; refine q0 _ ?_; clear q0 Q0; simp only [go_sem])
       simp only [↓bO, go_sem, seval, Sch.cells]
       try simp only [maskL, setsL, putsO, putO, mB, List.set_cons_zero, List.set_cons_succ, seval]
       refine Weak.mk ?_ (fun _ _ h => h) rfl rfl
       repeat' first | exact trivial | exact .refl _ | exact .any _ | exact Le.of_eq (congrArg (fun b => AV.v (.bool b)) (by rw [hmz]; simp)) | (refine ⟨?_, ?_⟩)
     simp only [maskL, setsL, putsO, putO, mB, List.set_cons_zero, List.set_cons_succ, seval]
     refine AWp_cond rfl (fun hb52 => ?_) (fun hb52 => ?_)
     ·
      obtain ⟨hmz, hk⟩ : moreZ a b z = true ∧ z < b.vs.length := by simpa using hb52
      obtain ⟨v, hv⟩ : ∃ v, b.vs[z]? = some v := ⟨_, List.getElem?_eq_getElem hk⟩
      have hw : IntKind.i64.wrap ((z : Int) + 1) = (z : Int) + 1 := wrap_in (by omega) (by omega)
      have hst := moreZ_step hv hmz
      refine AWp_skip ?_
      try simp only [thenQ, blockQ, noGotoQ]
      refine y1 _ ?_
      try clear y1 Y1
      refine AWp_seqK fun Y1 y1 => ?_
      refine AWp_block ?_
      refine AWp_drawK 9 mixed (by kernel_rfl) fun J0 j0 => ?_
      simp only [go_sem]
      refine dRun_chunk 1 fun Q0 q0 => ?_
      simp only [↓dRun, ↓dOp, ↓bO, go_sem, seval, Sch.cells, hk, gM hv, hw, hst, intC, Int.natCast_add]
      refine q0 _ ?_
      clear q0 Q0
      simp only [go_sem]
      refine dRun_chunk 1 fun Q0 q0 => ?_
      simp only [↓dRun, ↓dOp, ↓bO, go_sem, seval, Sch.cells, hk, gM hv, hw, hst, intC, Int.natCast_add]
      refine ⟨_, Free16_pure a (by omega), ?_⟩
      try simp only [bS, bA, thenQ, blockQ, noGotoQ]
      iterate 6 (refine q0 _ ?_; clear q0 Q0; simp only [go_sem]; refine dRun_chunk 1 fun Q0 q0 => ?_; simp only [↓dRun, ↓dOp, ↓bO, go_sem, seval, Sch.cells, hk, gM hv, hw, hst, intC, Int.natCast_add])
      refine ⟨_, (show APure Tryd.prog 21 [.sl 1 (a.free.map intC), .v (.int .i64 v)] (.v (.bool (decide (v ∈ a.free)))) from by have h9 := In_pure a.free v; rw [any_mem] at h9; exact h9), ?_⟩
      try simp only [bS, bA, thenQ, blockQ, noGotoQ]
      refine q0 _ ?_
      clear q0 Q0
      simp only [go_sem]
      simp only [↓dRun, ↓dOp, ↓bO, go_sem, seval, Sch.cells, hk, gM hv, hw, hst, intC, Int.natCast_add]
      refine j0 _ ?_
      clear j0 J0
      simp only [go_sem]
      simp only [↓bO, go_sem, seval, Sch.cells, hk, gM hv, hw, hst, intC, Int.natCast_add]
      refine y1 _ ?_
      try clear y1 Y1
      refine AWp_region ?_
      iterate 2 (refine aops_chunk 1 fun Q0 q0 => ?_; simp only [↓bO, go_sem, seval, Sch.cells, hk, gM hv, hw, hst, intC, Int.natCast_add]; refine q0 _ ?_; clear q0 Q0; simp only [go_sem])
      simp only [↓bO, go_sem, seval, Sch.cells, hk, gM hv, hw, hst, intC, Int.natCast_add]
      refine ⟨z + 1, (by omega), (by omega), ?_⟩
      simp only [maskL, setsL, putsO, putO, mB, List.set_cons_zero, List.set_cons_succ, seval, hk, gM hv, hw, hst, intC, Int.natCast_add, Int.natCast_one]
      exact Weak.mk (by simp only [go_sem, Le.refl, Le.any, Le.slNil, Int.natCast_add, Int.cast_ofNat_Int, Int.natCast_one]) (fun _ _ h => h) rfl rfl
     ·
      have hmz2 : moreZ a b b.vs.length = moreZ a b z := (by cases hc9 : moreZ a b z with | false => exact moreZ_no hc9 | true => (have h9 := hb52; simp [hc9] at h9; rw [show z = b.vs.length from by omega] at hc9; exact hc9))
      refine AWp_exit ?_
      simp only [thenQ, blockQ, noGotoQ, bA, Nat.reduceEqDiff, ↓reduceIte]
      refine y0 _ ?_
      try clear y0 Y0
      refine AWp_seqK fun Y0 y0 => ?_
      refine AWp_drawK 29 mixed (by kernel_rfl) fun J0 j0 => ?_
      simp only [go_sem]
      refine dRun_chunk 1 fun Q0 q0 => ?_
      simp only [↓dRun, ↓dOp, ↓bO, go_sem, seval, Sch.cells]
      refine q0 _ ?_
      clear q0 Q0
      simp only [go_sem]
      refine dRun_chunk 1 fun Q0 q0 => ?_
      simp only [↓dRun, ↓dOp, ↓bO, go_sem, seval, Sch.cells]
      refine ⟨_, Own16_pure a, ?_⟩
      try simp only [bS, bA, thenQ, blockQ, noGotoQ]
      iterate 2 (refine q0 _ ?_; clear q0 Q0; simp only [go_sem]; refine dRun_chunk 1 fun Q0 q0 => ?_; simp only [↓dRun, ↓dOp, ↓bO, go_sem, seval, Sch.cells])
      refine ⟨_, SInst_pure a t (by omega) (by omega) (by omega), ?_⟩
      try simp only [bS, bA, thenQ, blockQ, noGotoQ]
      iterate 3 (refine q0 _ ?_; clear q0 Q0; simp only [go_sem]; refine dRun_chunk 1 fun Q0 q0 => ?_; simp only [↓dRun, ↓dOp, ↓bO, go_sem, seval, Sch.cells])
      refine q0 _ ?_
      clear q0 Q0
      simp only [go_sem]
      refine dRun_case 70 rfl (fun hc70 => ?_) (fun hc70 => ?_)
      ·
       simp only [List.set_cons_zero, List.set_cons_succ]
       refine dRun_chunk 1 fun Q0 q0 => ?_
       simp only [↓dRun, ↓dOp, ↓bO, go_sem, seval, Sch.cells]
       refine q0 _ ?_
       clear q0 Q0
       simp only [go_sem]
       refine dRun_chunk 1 fun Q0 q0 => ?_
       simp only [↓dRun, ↓dOp, ↓bO, go_sem, seval, Sch.cells]
       refine ⟨_, Own16_pure a, ?_⟩
       try simp only [bS, bA, thenQ, blockQ, noGotoQ]
       iterate 2 (refine q0 _ ?_; clear q0 Q0; simp only [go_sem]; refine dRun_chunk 1 fun Q0 q0 => ?_; simp only [↓dRun, ↓dOp, ↓bO, go_sem, seval, Sch.cells])
       refine ⟨_, Own16_pure b, ?_⟩
       try simp only [bS, bA, thenQ, blockQ, noGotoQ]
       refine q0 _ ?_
       clear q0 Q0
       simp only [go_sem]
       refine dRun_chunk 1 fun Q0 q0 => ?_
       simp only [↓dRun, ↓dOp, ↓bO, go_sem, seval, Sch.cells]
       refine ⟨_, SMore_pure a b (by omega) (by omega) (by omega) (by omega), ?_⟩
       try simp only [bS, bA, thenQ, blockQ, noGotoQ]
       iterate 4 (refine q0 _ ?_; clear q0 Q0; simp only [go_sem]; refine dRun_chunk 1 fun Q0 q0 => ?_; simp only [↓dRun, ↓dOp, ↓bO, go_sem, seval, Sch.cells])
       refine q0 _ ?_
       clear q0 Q0
       simp only [go_sem]
       refine dRun_case 79 rfl (fun hc79 => ?_) (fun hc79 => ?_)
       ·
        simp only [List.set_cons_zero, List.set_cons_succ]
        iterate 3 (refine dRun_chunk 1 fun Q0 q0 => ?_; simp only [↓dRun, ↓dOp, ↓bO, go_sem, seval, Sch.cells]; refine q0 _ ?_; clear q0 Q0; simp only [go_sem])
        refine dRun_case 82 rfl (fun hc82 => ?_) (fun hc82 => ?_)
        ·
         simp only [List.set_cons_zero, List.set_cons_succ]
         iterate 8 (refine dRun_chunk 1 fun Q0 q0 => ?_; simp only [↓dRun, ↓dOp, ↓bO, go_sem, seval, Sch.cells]; refine q0 _ ?_; clear q0 Q0; simp only [go_sem])
         refine dRun_chunk 1 fun Q0 q0 => ?_
         simp only [↓dRun, ↓dOp, ↓bO, go_sem, seval, Sch.cells]
         refine ⟨_, hA, ?_⟩
         try simp only [bS, bA, thenQ, blockQ, noGotoQ]
         refine q0 _ ?_
         clear q0 Q0
         simp only [go_sem]
         simp only [↓dRun, ↓dOp, ↓bO, go_sem, seval, Sch.cells]
         refine j0 _ ?_
         clear j0 J0
         simp only [go_sem]
         simp only [↓bO, go_sem, seval, Sch.cells]
         refine y0 _ ?_
         try clear y0 Y0
         refine AWp_ret ?_
         try simp only [thenQ, blockQ, noGotoQ, retQ, aRes, tupOf, bS, bA]
         exact Le.refl _
        ·
         simp only [List.set_cons_zero, List.set_cons_succ]
         have hao : a.ok = true := by simpa using hc82
         refine dRun_chunk 1 fun Q0 q0 => ?_
         simp only [↓dRun, ↓dOp, ↓bO, go_sem, seval, Sch.cells]
         refine q0 _ ?_
         clear q0 Q0
         simp only [go_sem]
         refine dRun_chunk 1 fun Q0 q0 => ?_
         simp only [↓dRun, ↓dOp, ↓bO, go_sem, seval, Sch.cells]
         refine ⟨_, Own16_pure a, ?_⟩
         try simp only [bS, bA, thenQ, blockQ, noGotoQ]
         iterate 3 (refine q0 _ ?_; clear q0 Q0; simp only [go_sem]; refine dRun_chunk 1 fun Q0 q0 => ?_; simp only [↓dRun, ↓dOp, ↓bO, go_sem, seval, Sch.cells])
         refine ⟨_, SInst_pure a a.t (by omega) (by omega) (by omega), ?_⟩
         try simp only [bS, bA, thenQ, blockQ, noGotoQ]
         iterate 3 (refine q0 _ ?_; clear q0 Q0; simp only [go_sem]; refine dRun_chunk 1 fun Q0 q0 => ?_; simp only [↓dRun, ↓dOp, ↓bO, go_sem, seval, Sch.cells])
         refine q0 _ ?_
         clear q0 Q0
         simp only [go_sem]
         refine dRun_case 90 rfl (fun hc90 => ?_) (fun hc90 => ?_)
         ·
          simp only [List.set_cons_zero, List.set_cons_succ]
          refine dRun_chunk 1 fun Q0 q0 => ?_
          simp only [↓dRun, ↓dOp, ↓bO, go_sem, seval, Sch.cells]
          refine ⟨_, hA, ?_⟩
          try simp only [bS, bA, thenQ, blockQ, noGotoQ]
          refine q0 _ ?_
          clear q0 Q0
          simp only [go_sem]
          simp only [↓dRun, ↓dOp, ↓bO, go_sem, seval, Sch.cells]
          refine j0 _ ?_
          clear j0 J0
          simp only [go_sem]
          simp only [↓bO, go_sem, seval, Sch.cells]
          refine y0 _ ?_
          try clear y0 Y0
          refine AWp_ret ?_
          try simp only [thenQ, blockQ, noGotoQ, retQ, aRes, tupOf, bS, bA]
          exact Le.refl _
         ·
          simp only [List.set_cons_zero, List.set_cons_succ]
          exact absurd hc90 (by rw [instC_self a hao]; decide)
       ·
        simp only [List.set_cons_zero, List.set_cons_succ]
        exact absurd hc79 (by rw [moreC_eq, hmz2]; simp)
      ·
       simp only [List.set_cons_zero, List.set_cons_succ]
       exact absurd hc70 (by simp)
end Go.Proofs.YtheacaigeidflaaDoor
