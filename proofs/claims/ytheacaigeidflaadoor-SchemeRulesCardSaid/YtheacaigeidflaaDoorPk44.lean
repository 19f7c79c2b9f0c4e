/- Texts of the abstract walk, of the contracts and of the plain laws, packed (part 44 of 44): Sc19 Sruls. Conditions: none. -/
import Derived.Test.YtheacaigeidflaaDoorPk43
import Derived.Test.YtheacaigeidflaaDoorCards
import Derived.Test.YtheacaigeidflaaDoorTie
import Derived.OpenShut
import Derived.ChangeOld
import Derived.Below
import Derived.LaidMore
import Derived.Lay
import Derived.SevenTiedAt
namespace Go.Proofs.YtheacaigeidflaaDoor
open Go Go.RowKit
set_option maxRecDepth 100000
set_option maxHeartbeats 4000000
set_option linter.unusedSimpArgs false
set_option linter.unusedVariables false
attribute [local irreducible] aops dRun
theorem Name_e : ePure Tryd.prog [] 60 30 55 [.v (.int .i64 0)] (.v (.string ⟨#[39, 97]⟩)) = true := by kernel_rfl
theorem Trim_e : ePure Tryd.prog [] 60 30 56 [.v (.string ⟨#[39, 97, 32]⟩), .v (.string ⟨#[32]⟩)] (.v (.string ⟨#[39, 97]⟩)) = true := by kernel_rfl
theorem PrintT_e : ePure Tryd.prog [] 60 30 58 [.agg [.v (.int .i64 4), .v (.int .i64 0), .sl 3 [[.v (.int .i64 1), .v (.int .i64 0), .sl 3 []], [.v (.int .i64 1), .v (.int .i64 1), .sl 3 []]]]] (.v (.string ⟨#[39, 97, 32, 45, 62, 32, 39, 98]⟩)) = true := by kernel_rfl
def aw16T : Ty := .mk 4 0 [.mk 1 0 [], .mk 1 1 []]
def aw16S : Sch := ⟨[0], aw16T⟩
def aw16U : Ty := .mk 4 0 [.mk 2 0 [], .mk 1 1 []]
theorem aw16_cells : aw16T.cells = [.v (.int .i64 4), .v (.int .i64 0), .sl 3 [[.v (.int .i64 1), .v (.int .i64 0), .sl 3 []], [.v (.int .i64 1), .v (.int .i64 1), .sl 3 []]]] := by simp [aw16T, Ty.cells_eq, Ty.k, Ty.n, Ty.ps]
theorem aw16_ok : aw16S.ok = true := by decide
theorem aw16_close : closeS aw16T [.mk 1 1 []] = aw16S := by
  unfold closeS closeR
  rw [if_pos (by decide)]
  unfold aw16S
  congr 1
theorem aw16_canon : canonS aw16S = aw16S := by
  unfold canonS
  rw [if_pos aw16_ok]
  unfold aw16S
  congr 1
theorem aw16_inst : instC aw16S aw16U = true := by decide
theorem awClose : APure Tryd.prog 10 [.agg aw16T.cells, .sl 3 [(Ty.mk 1 1 []).cells]] (.agg aw16S.cells) := by
  have h := SClose_pure aw16T [.mk 1 1 []] (by decide) (by decide)
  rw [aw16_close] at h; exact h
theorem awRight : APure Tryd.prog 13 [.agg aw16S.cells] (.v (.bool true)) := by
  have h := SRight_pure aw16S (by decide) (by decide)
  rw [aw16_ok] at h; exact h
theorem awInst : APure Tryd.prog 22 [.agg aw16S.cells, .agg aw16U.cells] (.v (.bool true)) := by
  have h := SInst_pure aw16S aw16U (by decide) (by decide) (by decide)
  rw [aw16_inst] at h; exact h
theorem awArrow : APure Tryd.prog 28 [.sl 3 [(Ty.mk 1 0 []).cells, (Ty.mk 1 1 []).cells]] (.agg aw16T.cells) := Arrow_pure 2 [.mk 1 0 [], .mk 1 1 []] rfl (by decide)
theorem awArrow2 : APure Tryd.prog 28 [.sl 3 [[.v (.int .i64 2), .v (.int .i64 0), .v (.slice none 0 0)], (Ty.mk 1 1 []).cells]] (.agg aw16U.cells) := by
  have h := Arrow_pure 2 [.mk 2 0 [], .mk 1 1 []] rfl (by decide)
  refine h.le ⟨Le.slC2 rfl (by intro y hy; simp at hy; rcases hy with rfl | rfl <;> simp [Ty.cells_len]) ⟨.refl _, .refl _, Le.slNil 3, .refl _, .refl _, .refl _, trivial⟩, trivial⟩ (.cons (.sl fun x hx => ?_) .nil)
  simp only [List.mem_cons, List.not_mem_nil, or_false] at hx
  rcases hx with rfl | rfl
  · exact .cons (.v _) (.cons (.v _) (.cons (.v _) .nil))
  · exact Ty.data _
theorem awPrint : APure Tryd.prog 30 [.agg aw16S.cells] (.v (.string ⟨#[39, 97, 46, 32, 39, 97, 32, 45, 62, 32, 39, 98]⟩)) := by
  have hc : APure Tryd.prog 50 [.agg aw16S.cells] (.agg aw16S.cells) := by
    have h := SCanon_pure aw16S (by decide) (by decide)
    rw [aw16_canon] at h; exact h
  have h := SPrint_c aw16S aw16S (fun _ => ⟨#[39, 97]⟩) ⟨#[39, 97]⟩ ⟨#[39, 97, 32, 45, 62, 32, 39, 98]⟩ hc (fun v hv => by
    have : v = 0 := by simpa [aw16S] using hv
    subst this; exact ePure_sound mixed Name_e) (fun _ _ => by decide) (by decide) (fun _ => ePure_sound mixed Trim_e) (by rw [show aw16S.t = aw16T from rfl, aw16_cells]; exact ePure_sound mixed PrintT_e) (by decide) (by decide)
  exact h
theorem awake16_pure : APure Tryd.prog 8 [] (.v (.bool true)) := by
  refine APure.mkL (.nil) (.v _) ?_
  refine ACalls_intro Tryd.func8 (by kernel_rfl) rfl (by rw [Tryd.ntmps8]; simp) (fun hm => ?_)
  simp only [Tryd.ntmps8, Tryd.results8, List.length_cons, List.length_nil, Nat.reduceAdd, Nat.reduceSub, List.replicate_succ, List.replicate_zero, List.cons_append, List.nil_append]
  refine AWp_seqK fun Y0 y0 => ?_
  refine AWp_region ?_
  simp only [↓bO, go_sem, seval, Sch.cells]
  refine y0 _ ?_
  try clear y0 Y0
  refine AWp_joinZ (mB 24 2) ([(1, .eptr aw16S.cells)]) [] 0 (True) ?_ (fun hC => ?_)
  ·
   refine AWp_region ?_
   refine aops_chunk 1 fun Q0 q0 => ?_
   simp only [↓bO, go_sem, seval, Sch.cells]
   refine APure.call (TVar_pure 0) ?_
   try simp only [bS, bA, thenQ, blockQ, noGotoQ]
   refine q0 _ ?_
   clear q0 Q0
   simp only [go_sem]
   refine aops_chunk 1 fun Q0 q0 => ?_
   simp only [↓bO, go_sem, seval, Sch.cells]
   refine APure.call (TVar_pure 1) ?_
   try simp only [bS, bA, thenQ, blockQ, noGotoQ]
   refine q0 _ ?_
   clear q0 Q0
   simp only [go_sem]
   refine aops_chunk 1 fun Q0 q0 => ?_
   simp only [↓bO, go_sem, seval, ↓bs2_1, ↓bs2_2, ↓bs2_3, ↓bs2_4, ↓bs2_5, ↓bs2_6, ↓bs2_7, ↓bs2_8, ↓bs2_9, ↓bs2_10, ↓bs2_11, ↓bs2_12, Sch.cells]
   refine q0 _ ?_
   clear q0 Q0
   simp only [go_sem]
   refine aops_chunk 1 fun Q0 q0 => ?_
   simp only [↓bO, go_sem, seval, Sch.cells]
   refine APure.call (awArrow) ?_
   try simp only [bS, bA, thenQ, blockQ, noGotoQ]
   refine q0 _ ?_
   clear q0 Q0
   simp only [go_sem]
   refine aops_chunk 1 fun Q0 q0 => ?_
   simp only [↓bO, go_sem, seval, Sch.cells]
   refine APure.call (TVar_pure 1) ?_
   try simp only [bS, bA, thenQ, blockQ, noGotoQ]
   refine q0 _ ?_
   clear q0 Q0
   simp only [go_sem]
   refine aops_chunk 1 fun Q0 q0 => ?_
   simp only [↓bO, go_sem, seval, ↓bs1_1, ↓bs1_2, ↓bs1_3, ↓bs1_4, ↓bs1_5, ↓bs1_6, ↓bs1_7, ↓bs1_8, ↓bs1_9, ↓bs1_10, ↓bs1_11, ↓bs1_12, Sch.cells]
   refine q0 _ ?_
   clear q0 Q0
   simp only [go_sem]
   refine aops_chunk 1 fun Q0 q0 => ?_
   simp only [↓bO, go_sem, seval, Sch.cells]
   refine APure.call (awClose) ?_
   try simp only [bS, bA, thenQ, blockQ, noGotoQ]
   refine q0 _ ?_
   clear q0 Q0
   simp only [go_sem]
   refine aops_chunk 1 fun Q0 q0 => ?_
   simp only [↓bO, go_sem, seval, Sch.cells]
   refine q0 _ ?_
   clear q0 Q0
   simp only [go_sem]
   simp only [↓bO, go_sem, seval, Sch.cells]
   try simp only [maskL, setsL, putsO, putO, mB, List.set_cons_zero, List.set_cons_succ, seval]
   first | refine ⟨trivial, ?_⟩ | skip
   refine Weak.freeze ?_ trivial (by first | omega | (simp only; omega)) (by first | omega | (simp only; omega)) ?_ ?_
   · repeat' first | trivial | exact .inr ⟨_, _, _, rfl, rfl, rfl, rfl⟩ | exact .inl (.refl _) | exact .inl (.any _) | (refine ⟨?_, ?_⟩)
   · repeat' first | exact trivial | exact .any _ | exact .v _ _ | exact .ptr (by omega) | exact Und.data (dataInts _) | exact Und.data Sch.eptr | exact Und.data Sch.agg | exact Und.data (Ty.dataSl _) | exact Und.data (.eptr (Ty.data _)) | exact Und.data (.eptr (.cons (dataInts _) .nil)) | exact .own (by omega) | (refine ⟨?_, ?_⟩)
   · repeat' first | exact trivial | (with_reducible omega) | exact Und.rowI (iD_data _) | exact UndL.data (Ty.data _) | exact UndL.data (Sch.data _) | exact .v _ _ | (refine ⟨?_, ?_⟩)
  simp only [maskL, setsL, putsO, putO, mB, List.set_cons_zero, List.set_cons_succ, seval]
  refine AWp_seqK fun Y0 y0 => ?_
  refine NAny_start 16 [1] rfl mixed ?_
  dsimp only
  refine NAny_takeK 0 rfl (by kernel_rfl) (by kernel_rfl) (by kernel_rfl) (fun _ _ h => h) (by kernel_rfl) (fun d h => by cases h; rfl) (by kernel_rfl) (G' := [9, 1]) (by kernel_rfl) fun Q0 q0 => ?_
  simp only [↓bO, go_sem, seval, nHead, isE, isSE, isV, Sch.cells]
  refine q0 _ ?_
  clear q0 Q0
  refine NAny_all1 (i := 1) (by kernel_rfl) rfl (fun d h => by cases h; rfl) ?_
  refine aAt_op rfl rfl fun Q0 q0 => ?_
  simp only [↓bO, go_sem, seval, Sch.cells]
  refine APure.call (awRight) ?_
  try simp only [bS, bA]
  refine q0 _ ⟨⟨rfl, rfl, trivial⟩, ?_⟩
  clear q0 Q0
  refine NAny_takeK 2 rfl (by kernel_rfl) (by kernel_rfl) (by kernel_rfl) (fun _ _ h => h) (by kernel_rfl) (fun d h => by cases h; rfl) (by kernel_rfl) (G' := [9, 1]) (by kernel_rfl) fun Q0 q0 => ?_
  simp only [↓bO, go_sem, seval, nHead, isE, isSE, isV, Sch.cells]
  refine q0 _ ?_
  clear q0 Q0
  refine NAny_case 11 rfl (fun hc11 => ?_) (fun hc11 => ?_)
  ·
   simp only [List.set_cons_zero, List.set_cons_succ]
   refine NAny_takeK 3 rfl (by kernel_rfl) (by kernel_rfl) (by kernel_rfl) (fun _ _ h => h) (by kernel_rfl) (fun d h => by cases h; rfl) (by kernel_rfl) (G' := [12, 9, 1]) (by kernel_rfl) fun Q0 q0 => ?_
   simp only [↓bO, go_sem, seval, nHead, isE, isSE, isV, Sch.cells]
   refine q0 _ ?_
   clear q0 Q0
   refine NAny_all1 (i := 4) (by kernel_rfl) rfl (fun d h => by cases h; rfl) ?_
   refine aAt_if rfl fun Q0 q0 => ?_
   simp only [↓bO, go_sem, seval, Sch.cells]
   refine APure.call (awPrint) ?_
   try simp only [bS, bA]
   refine q0 _ ⟨⟨rfl, rfl, rfl, trivial⟩, ?_⟩
   clear q0 Q0
   refine NAny_all1 (i := 5) (by kernel_rfl) rfl (fun d h => by cases h; rfl) ?_
   refine aAt_if rfl fun Q0 q0 => ?_
   simp only [↓bO, go_sem, seval, Sch.cells]
   refine q0 _ ⟨⟨rfl, rfl, rfl, trivial⟩, ?_⟩
   clear q0 Q0
   refine NAny_all1 (i := 6) (by kernel_rfl) rfl (fun d h => by cases h; rfl) ?_
   refine aAt_op rfl rfl fun Q0 q0 => ?_
   simp only [↓bO, go_sem, seval, Sch.cells]
   refine q0 _ ⟨⟨rfl, rfl, rfl, trivial⟩, ?_⟩
   clear q0 Q0
   refine NAny_takeK 7 rfl (by kernel_rfl) (by kernel_rfl) (by kernel_rfl) (fun _ _ h => h) (by kernel_rfl) (fun d h => by cases h; rfl) (by kernel_rfl) (G' := [12, 9, 1]) (by kernel_rfl) fun Q0 q0 => ?_
   simp only [↓bO, go_sem, seval, nHead, isE, isSE, isV, Sch.cells]
   refine q0 _ ?_
   clear q0 Q0
   refine NAny_case 16 rfl (fun hc16 => ?_) (fun hc16 => ?_)
   ·
    simp only [List.set_cons_zero, List.set_cons_succ]
    refine NAny_takeK 8 rfl (by kernel_rfl) (by kernel_rfl) (by kernel_rfl) (fun _ _ h => h) (by kernel_rfl) (fun d h => by cases h; rfl) (by kernel_rfl) (G' := [17, 12, 9, 1]) (by kernel_rfl) fun Q0 q0 => ?_
    simp only [↓bO, go_sem, seval, nHead, isE, isSE, isV, Sch.cells]
    refine q0 _ ?_
    clear q0 Q0
    refine NAny_all2 (i := 9) (j := 10) (by kernel_rfl) rfl rfl (fun d h => by cases h; rfl) (fun d h => by cases h; rfl) ?_ ?_
    ·
     refine aAt_if rfl fun Q0 q0 => ?_
     simp only [↓bO, go_sem, seval, Sch.cells]
     refine q0 _ ⟨⟨rfl, rfl, rfl, rfl, trivial⟩, ?_⟩
     clear q0 Q0
     refine NAny_all1 (i := 10) (by kernel_rfl) rfl (fun d h => by cases h; rfl) ?_
     refine aAt_if rfl fun Q0 q0 => ?_
     simp only [↓bO, go_sem, seval, Sch.cells]
     refine APure.call (TVar_pure 1) ?_
     try simp only [bS, bA]
     refine q0 _ ⟨⟨rfl, rfl, rfl, rfl, trivial⟩, ?_⟩
     clear q0 Q0
     refine NAny_all1 (i := 11) (by kernel_rfl) rfl (fun d h => by cases h; rfl) ?_
     refine aAt_if rfl fun Q0 q0 => ?_
     simp only [↓bO, go_sem, seval, ↓bs2_1, ↓bs2_2, ↓bs2_3, ↓bs2_4, ↓bs2_5, ↓bs2_6, ↓bs2_7, ↓bs2_8, ↓bs2_9, ↓bs2_10, ↓bs2_11, ↓bs2_12, Sch.cells]
     refine q0 _ ⟨⟨rfl, rfl, rfl, rfl, trivial⟩, ?_⟩
     clear q0 Q0
     refine NAny_all1 (i := 12) (by kernel_rfl) rfl (fun d h => by cases h; rfl) ?_
     refine aAt_if rfl fun Q0 q0 => ?_
     simp only [↓bO, go_sem, seval, Sch.cells]
     refine APure.call (awArrow2) ?_
     try simp only [bS, bA]
     refine q0 _ ⟨⟨rfl, rfl, rfl, rfl, trivial⟩, ?_⟩
     clear q0 Q0
     refine NAny_all1 (i := 13) (by kernel_rfl) rfl (fun d h => by cases h; rfl) ?_
     refine aAt_if rfl fun Q0 q0 => ?_
     simp only [↓bO, go_sem, seval, Sch.cells]
     refine APure.call (awInst) ?_
     try simp only [bS, bA]
     refine q0 _ ⟨⟨rfl, rfl, rfl, rfl, trivial⟩, ?_⟩
     clear q0 Q0
     refine NAny_all1 (i := 14) (by kernel_rfl) rfl (fun d h => by cases h; rfl) ?_
     refine aAt_op rfl rfl fun Q0 q0 => ?_
     simp only [↓bO, go_sem, seval, Sch.cells]
     refine q0 _ ⟨⟨rfl, rfl, rfl, rfl, trivial⟩, ?_⟩
     clear q0 Q0
     refine NAny_all1 (i := 15) (by kernel_rfl) rfl (fun d h => by cases h; rfl) ?_
     refine aAt_op rfl rfl fun Q0 q0 => ?_
     simp only [↓bO, go_sem, seval, Sch.cells]
     refine q0 _ ⟨⟨rfl, rfl, rfl, rfl, trivial⟩, ?_⟩
     clear q0 Q0
     refine NAny_done (by kernel_rfl) ?_
     simp only [thenQ, blockQ, noGotoQ]
     refine y0 _ ?_
     try clear y0 Y0
     refine AWp_ret ?_
     try simp only [thenQ, blockQ, noGotoQ, retQ, aRes, tupOf, bS, bA]
     exact Le.refl _
    ·
     refine aAt_if rfl fun Q0 q0 => ?_
     simp only [↓bO, go_sem, seval, Sch.cells]
     refine APure.call (TVar_pure 1) ?_
     try simp only [bS, bA]
     refine q0 _ ⟨⟨rfl, rfl, rfl, rfl, trivial⟩, ?_⟩
     clear q0 Q0
     refine NAny_all1 (i := 9) (by kernel_rfl) rfl (fun d h => by cases h; rfl) ?_
     refine aAt_if rfl fun Q0 q0 => ?_
     simp only [↓bO, go_sem, seval, Sch.cells]
     refine q0 _ ⟨⟨rfl, rfl, rfl, rfl, trivial⟩, ?_⟩
     clear q0 Q0
     refine NAny_all1 (i := 11) (by kernel_rfl) rfl (fun d h => by cases h; rfl) ?_
     refine aAt_if rfl fun Q0 q0 => ?_
     simp only [↓bO, go_sem, seval, ↓bs2_1, ↓bs2_2, ↓bs2_3, ↓bs2_4, ↓bs2_5, ↓bs2_6, ↓bs2_7, ↓bs2_8, ↓bs2_9, ↓bs2_10, ↓bs2_11, ↓bs2_12, Sch.cells]
     refine q0 _ ⟨⟨rfl, rfl, rfl, rfl, trivial⟩, ?_⟩
     clear q0 Q0
     refine NAny_all1 (i := 12) (by kernel_rfl) rfl (fun d h => by cases h; rfl) ?_
     refine aAt_if rfl fun Q0 q0 => ?_
     simp only [↓bO, go_sem, seval, Sch.cells]
     refine APure.call (awArrow2) ?_
     try simp only [bS, bA]
     refine q0 _ ⟨⟨rfl, rfl, rfl, rfl, trivial⟩, ?_⟩
     clear q0 Q0
     refine NAny_all1 (i := 13) (by kernel_rfl) rfl (fun d h => by cases h; rfl) ?_
     refine aAt_if rfl fun Q0 q0 => ?_
     simp only [↓bO, go_sem, seval, Sch.cells]
     refine APure.call (awInst) ?_
     try simp only [bS, bA]
     refine q0 _ ⟨⟨rfl, rfl, rfl, rfl, trivial⟩, ?_⟩
     clear q0 Q0
     refine NAny_all1 (i := 14) (by kernel_rfl) rfl (fun d h => by cases h; rfl) ?_
     refine aAt_op rfl rfl fun Q0 q0 => ?_
     simp only [↓bO, go_sem, seval, Sch.cells]
     refine q0 _ ⟨⟨rfl, rfl, rfl, rfl, trivial⟩, ?_⟩
     clear q0 Q0
     refine NAny_all1 (i := 15) (by kernel_rfl) rfl (fun d h => by cases h; rfl) ?_
     refine aAt_op rfl rfl fun Q0 q0 => ?_
     simp only [↓bO, go_sem, seval, Sch.cells]
     refine q0 _ ⟨⟨rfl, rfl, rfl, rfl, trivial⟩, ?_⟩
     clear q0 Q0
     refine NAny_done (by kernel_rfl) ?_
     simp only [thenQ, blockQ, noGotoQ]
     refine y0 _ ?_
     try clear y0 Y0
     refine AWp_ret ?_
     try simp only [thenQ, blockQ, noGotoQ, retQ, aRes, tupOf, bS, bA]
     exact Le.refl _
   ·
    simp only [List.set_cons_zero, List.set_cons_succ]
    exact absurd hc16 (by simp)
  ·
   simp only [List.set_cons_zero, List.set_cons_succ]
   exact absurd hc11 (by simp)
end Go.Proofs.YtheacaigeidflaaDoor
namespace Go.Proofs.YtheacaigeidflaaDoor.schemeRules
open Go Go.ChangeShapes Go.WideShapes Go.ChangeAt Go.RowKit
set_option linter.unusedVariables false
theorem own : ownKnob Tryd.prog.godebug = none := by kernel_rfl
theorem laidOut : laidOutB Tryd.prog = true := by kernel_rfl
theorem cT : Tryd.prog.cellsOf 25 = 3 := by kernel_rfl
theorem cI : Tryd.prog.cellsOf 3 = 1 := by kernel_rfl
theorem cS : Tryd.prog.cellsOf 23 = 1 := by kernel_rfl
section
variable {H : Type} {enc : TypeId × Value → H} {w : World} {base : Nat} {spare : Nat → Bool} {held : Bool}
theorem rdT (fuel : Nat) : Rd enc Tryd.prog w base spare held Env.none fuel 25 Ty.cells :=
  rd_ty Tryd.underlying25 cT rfl rfl rfl rfl rfl rfl Tryd.underlying3 cI Tryd.underlying23 cS fuel
theorem rdS (fuel : Nat) : Rd enc Tryd.prog w base spare held Env.none fuel 23 (fun xs : List Ty => [.sl 3 (xs.map Ty.cells)]) :=
  rd_slice Tryd.underlying23 cT (by omega) Ty.cells_len fun n _ => rdT n
theorem cSch : Tryd.prog.cellsOf 27 = 4 := by kernel_rfl
theorem cIL : Tryd.prog.cellsOf 22 = 1 := by kernel_rfl
theorem rdSch (fuel : Nat) : Rd enc Tryd.prog w base spare held Env.none fuel 27 Sch.cells :=
  rd_sch Tryd.underlying27 cSch cT rfl rfl rfl rfl cIL Tryd.underlying22 Tryd.underlying3 cI rdT fuel
end
set_option maxRecDepth 100000 in
theorem lifted (os : Go.Os) (started : os.Started) (H : Type) (enc : TypeId × Value → H) :
    ReturnsInHanded {} Tryd.checked os 5 .any (fun w args => (Rows.schemeRulesSpec.pre enc Tryd.prog Tryd.f5 Rows.schemeRulesRow.domain false w args ∧ laidMetH Tryd.prog Rows.schemeRulesRow.laid w) ∧ sizedMet enc Tryd.prog Tryd.f5 (OpenSpec.ofChange Rows.schemeRulesSpec) false w args)
      (Rows.schemeRulesSpec.post enc Tryd.prog Tryd.f5 false true false false) := by
  refine returnsInHanded_of_change_and (C := Tryd.checked) (X := fun w _ => laidMetH Tryd.prog Rows.schemeRulesRow.laid w) (fun _ _ _ hh h => h.of_heap hh) own started (by kernel_rfl) Tryd.func5
    (ChangeSpec.witness_shaped (enc := enc) (C := Tryd.checked) (os := os) (X := fun w _ => laidMetH Tryd.prog Rows.schemeRulesRow.laid w) false (World.laidAll Tryd.prog os Rows.schemeRulesRow.laid) #[.agg #[.slice none 0 0, .int .i64 0, .int .i64 0, .slice none 0 0], .agg #[.slice none 0 0, .int .i64 0, .int .i64 0, .slice none 0 0], .agg #[.int .i64 0, .int .i64 0, .slice none 0 0]] 8 (World.laidAll_os _ _ _)
      (World.shaped_of_ZipB (by kernel_rfl) (by kernel_rfl)) (by kernel_rfl) (by kernel_rfl) (by kernel_rfl)
      (by rw [MakeChecks.laidMetH_plain _ _ _ (by kernel_rfl)]; exact laidMet_laidAll _ (by kernel_rfl) (by kernel_rfl))) ?_
  intro W base args ds gs before hval0 hW hcnd _ hL _
  have hval : ∀ (j : Nat) t v, Tryd.f5.params[j]? = some t → args[j]? = some v → Value.okWide Tryd.prog W .any base t v := hval0
  have hW' := hW
  obtain ⟨p, q, hA0, hV, rfl, hfz, hnd⟩ := hW
  have hA : DataW.TrodAll enc Tryd.prog W 0 (fun _ => true) true Tryd.f5.params.toList args.toList ds p := hA0
  rw [Tryd.params5] at hA hval
  obtain ⟨v0, vs0, d0, ds0, p0, q0, hargs, rfl, rfl, h0, r0⟩ := trodAll_cons hA
  obtain ⟨v1, vs1, d1, ds1, p1, q1, rfl, rfl, rfl, h1, r1⟩ := trodAll_cons r0
  obtain ⟨v2, vs2, d2, ds2, p2, q2, rfl, rfl, rfl, h2, r2⟩ := trodAll_cons r1
  obtain ⟨rfl, rfl, rfl⟩ := trodAll_nil r2
  obtain rfl : args = #[v0, v1, v2] := by cases args; simp_all
  obtain ⟨rfl, rfl⟩ := trodVars_none hV
  have k0 := h0
  have lt0 : ∀ x ∈ p0, x.block < W.heap.size := by obtain ⟨m, hm⟩ := k0; exact DataW.trod_lt m _ _ _ hm
  obtain ⟨us0, hus0⟩ : ∃ us, v0 = .agg us := (by obtain ⟨cs, h, _⟩ := okWide_struct Tryd.underlying27 (hval 0 27 v0 rfl rfl); exact ⟨cs, h⟩)
  subst hus0
  obtain ⟨T0, hr0⟩ : ∃ T : Sch, Rp Env.none (fun _ _ => False) W (.agg T.cells) (.agg us0) := by
    obtain ⟨m, hm⟩ := h0
    obtain ⟨T, hl, hr⟩ := rdSch m _ _ hm
    exact ⟨T, .agg (by simpa [Value.cells] using hl) fun i c u hc hu => hr i c u hc (by simpa [Value.cells] using hu)⟩
  have k1 := h1
  have lt1 : ∀ x ∈ p1, x.block < W.heap.size := by obtain ⟨m, hm⟩ := k1; exact DataW.trod_lt m _ _ _ hm
  obtain ⟨us1, hus1⟩ : ∃ us, v1 = .agg us := (by obtain ⟨cs, h, _⟩ := okWide_struct Tryd.underlying27 (hval 1 27 v1 rfl rfl); exact ⟨cs, h⟩)
  subst hus1
  obtain ⟨T1, hr1⟩ : ∃ T : Sch, Rp Env.none (fun _ _ => False) W (.agg T.cells) (.agg us1) := by
    obtain ⟨m, hm⟩ := h1
    obtain ⟨T, hl, hr⟩ := rdSch m _ _ hm
    exact ⟨T, .agg (by simpa [Value.cells] using hl) fun i c u hc hu => hr i c u hc (by simpa [Value.cells] using hu)⟩
  have k2 := h2
  have lt2 : ∀ x ∈ p2, x.block < W.heap.size := by obtain ⟨m, hm⟩ := k2; exact DataW.trod_lt m _ _ _ hm
  obtain ⟨us2, hus2⟩ : ∃ us, v2 = .agg us := (by obtain ⟨cs, h, _⟩ := okWide_struct Tryd.underlying25 (hval 2 25 v2 rfl rfl); exact ⟨cs, h⟩)
  subst hus2
  obtain ⟨T2, hr2⟩ : ∃ T : Ty, Rp Env.none (fun _ _ => False) W (.agg T.cells) (.agg us2) := by
    obtain ⟨m, hm⟩ := h2
    obtain ⟨T, hl, hr⟩ := rdT m _ _ hm
    exact ⟨T, .agg (by simpa [Value.cells] using hl) fun i c u hc hu => hr i c u hc (by simpa [Value.cells] using hu)⟩
  clear hA0 hval0
  refine ((SchemeRules_pure T0 T1 T2 awake16_pure).calls (w := W) rfl ?_).mono fun e W' ⟨he, bel⟩ => ?_
  · intro i c u hc hu
    match i with
    | 0 => simp at hc hu; subst hc; subst hu; exact hr0
    | 1 => simp at hc hu; subst hc; subst hu; exact hr1
    | 2 => simp at hc hu; subst hc; subst hu; exact hr2
    | i + 3 => simp at hc
  subst he
  exact ⟨_, rfl, _, _, _, [], _, [], hW', trodAll_mk1 (shut_bool Tryd.underlying4 _), (trodAll_cons_mk (Below.trod laidOut (by kernel_rfl) (of_decide_eq_true (by kernel_rfl)) k0 bel lt0) (trodAll_cons_mk (Below.trod laidOut (by kernel_rfl) (of_decide_eq_true (by kernel_rfl)) k1 bel lt1) (trodAll_cons_mk (Below.trod laidOut (by kernel_rfl) (of_decide_eq_true (by kernel_rfl)) k2 bel lt2) trodAll_mk0))), rfl, bel.frame _, fun h => by cases h⟩
theorem over : Rows.schemeRulesRow.holds Tryd.pinned (OpenSpec.ofChange Rows.schemeRulesSpec) :=
  OpenClaim.holds_of_wide 5 Tryd.f5 rfl rfl rfl rfl rfl rfl rfl ⟨rfl, rfl, rfl, rfl, rfl⟩ rfl rfl rfl rfl rfl (by kernel_rfl) Tryd.func5 (by kernel_rfl)
    (of_decide_eq_true (by kernel_rfl)) (by unfold Func.isWrapper; first | (rw [if_pos (by decide +kernel)]; kernel_rfl) | (rw [if_neg (by decide +kernel)]; exact ⟨rfl, rfl⟩))
    (fun os started H enc _ => lifted os started H enc)
end Go.Proofs.YtheacaigeidflaaDoor.schemeRules
namespace Go.Proofs.YtheacaigeidflaaDoor
theorem schemeRules_proved : Rows.SchemeRulesCardSaid :=
  Claim7.holds_tied_plain_at .later [] _ _ _ _ schemeRules.over (fun _ h => by cases h) (by kernel_rfl) (fun _ h => by cases h) schemeRules_row_tie rfl ⟨rfl, rfl⟩ (by kernel_rfl) rfl
    (fun f fn hf hfn => by
      obtain rfl : f = 5 := Option.some.inj ((show Tryd.prog.funcNamed "pangram/pangramlaw16.SchemeRules" = some 5 by kernel_rfl).symm.trans hf) |>.symm
      obtain rfl : fn = Tryd.f5 := (Option.some.inj (Tryd.func5.symm.trans hfn)).symm
      refine ⟨by kernel_rfl, fun j t ht => ?_⟩
      rw [Tryd.params5] at ht
      have hm : t ∈ [27, 27, 25] := by simpa using Array.mem_of_getElem? ht
      have hall : ([27, 27, 25].all fun u => !Tryd.prog.wantsStandIn u) = true := by kernel_rfl
      have := List.all_eq_true.1 hall t hm
      have h9 : Tryd.prog.wantsStandIn t = false := by simpa using this
      exact h9)
    (by kernel_rfl)
#print axioms schemeRules_proved
end Go.Proofs.YtheacaigeidflaaDoor
