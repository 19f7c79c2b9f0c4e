/- Texts of the abstract walk, of the contracts and of the plain laws, packed (part 41 of 43): Tq13 Tq14 Tq15 LsW Hsh Ftparses. Conditions: none. -/
import Derived.Test.YtmepcmphcghbeaaDoorPk40
import Derived.Shelf.LaysM
import Derived.Shelf.LaysC
import Derived.Shelf.Strings.FieldsAny
import Derived.Test.YtmepcmphcghbeaaDoorProg
import Derived.Handed
import Derived.HandedShaped
import Derived.Test.YtmepcmphcghbeaaDoorCards
import Derived.Test.YtmepcmphcghbeaaDoorTie
import Derived.ChangeMaps5
import Derived.LaidSub
import Derived.Lib.LaidTab
import Derived.Stop.LaidErr
import Derived.OpenShut
import Derived.ChangeOld
import Derived.Below
import Derived.Lib.LaidU8
import Derived.Shelf.Vars
import Derived.LaidMore
import Derived.Lay
import Derived.SevenTiedAt
namespace Go.Proofs.YtmepcmphcghbeaaDoor
open Go Go.RowKit
set_option maxRecDepth 100000
set_option maxHeartbeats 4000000
set_option linter.unusedSimpArgs false
set_option linter.unnecessarySimpa false
set_option linter.unusedVariables false
attribute [local irreducible] aops dRun
def docW0 (s : ByteArray) : List (List UInt8) := if kindOf (cutW s) = 0 ∨ kindOf (cutW s) = 7 then [] else wordsL (mOf (kindOf (cutW s))) (tb s)
def docG0 (s : ByteArray) : Bool := if kindOf (cutW s) = 0 then false else docG1 s (kindOf (cutW s)) (docW s (kindOf (cutW s)))
theorem lenB (l : List (List UInt8)) (n : Nat) : decide (l.length = n) = ((l.length : Int) == (n : Int)) := by
  rw [Bool.eq_iff_iff, decide_eq_true_eq, beq_iff_eq]; omega
theorem head_word (s : ByteArray) : (List.map wC (wordsL 1 (tb s))).getD 0 [] = [.v (.string (cutW s))] := by
  have h := wordsL_head 0 (tb s)
  cases hw : wordsL 1 (tb s) with
  | nil => exact absurd hw (wordsL_ne _ _)
  | cons x r =>
    rw [hw] at h
    have h : x = _ := h
    rw [h]; rfl
theorem head_pos (s : ByteArray) : ((0 : Int) < ((wordsL 1 (tb s)).length : Int)) = True := by
  have := List.length_pos_iff.2 (wordsL_ne 1 (tb s))
  exact eq_true (by omega)
theorem wC_at {w : List (List UInt8)} {i : Nat} (h : i < w.length) : (w.map wC).getD i [] = [.v (.string (wAt w i))] := by
  unfold wAt
  rw [List.getD_eq_getElem?_getD, List.getElem?_map, List.getD_eq_getElem?_getD, List.getElem?_eq_getElem h]; rfl
theorem wordsL_sz : ∀ (m : Nat) (l : List UInt8), ∀ x ∈ wordsL m l, x.length ≤ l.length
  | 0, l, x, hx => by simp [wordsL] at hx; rw [hx]; exact Nat.le_refl _
  | m + 1, l, x, hx => by
    rcases cut1_or 32 l with h | ⟨y, r, rfl, h⟩
    · rw [wordsL_no h] at hx
      have hx : x = l := by simpa using hx
      rw [hx]; exact Nat.le_refl _
    · rw [wordsL_at h] at hx
      rcases List.mem_cons.1 hx with rfl | hx
      · simp only [List.length_append, List.length_cons]; omega
      · have := wordsL_sz m r x hx
        simp only [List.length_append, List.length_cons]; omega
theorem docW_sz (s : ByteArray) (k : Int) (i : Nat) : (wAt (docW s k) i).size ≤ s.size := by
  unfold wAt
  rw [ofL_size, List.getD_eq_getElem?_getD]
  cases h : (docW s k)[i]? with
  | none => simp
  | some x =>
    have hm := List.mem_of_getElem? h
    unfold docW at hm
    split at hm
    · cases hm
    · have := wordsL_sz _ _ x hm
      rw [tb_len] at this
      simpa using this
theorem wrap_I64 (n : Int) : I64 (IntKind.i64.wrap n) := by
  unfold I64
  rw [IntKind.wrap_i64]
  constructor <;> omega
theorem nuR_I64 (l : List UInt8) : I64 (nuR l).1 := by
  unfold nuR
  split
  · exact .zero
  · split
    · exact .zero
    · unfold nuV
      split
      · exact wrap_I64 _
      · exact wrap_I64 _
theorem docQ_fits (k : Int) (w : List (List UInt8)) : (docQ k w).fits := by
  refine ⟨?_, ?_, ?_, ?_, ?_, ?_⟩ <;> simp only [docQ] <;> split <;> first | exact nuR_I64 _ | exact .zero
theorem docQ_sz (s : ByteArray) (k : Int) : (docQ k (docW s k)).name.size ≤ s.size ∧ (docQ k (docW s k)).text.size ≤ s.size := by
  have h0 : ByteArray.empty.size = 0 := rfl
  simp only [docQ]
  constructor
  · split
    · exact docW_sz s k 1
    · omega
  · split
    · exact Nat.le_trans (unqS_size _) (docW_sz s k _)
    · omega
def nF (k : Int) : Nat := if k = 2 then 2 else if k = 5 then 2 else if k = 6 then 1 else 0
def nM (k : Int) : Nat := if k = 2 then 2 else if k = 5 then 1 else if k = 6 then 3 else 0
def nV (w : List (List UInt8)) (f i j : Nat) : Int := if j < i then (nuR (w.getD (f + j) [])).1 else 0
def nO (w : List (List UInt8)) (f : Nat) (g : Bool) : Nat → Bool
  | 0 => g
  | i + 1 => nO w f g i && (nuR (w.getD (f + i) [])).2
theorem nO_all {k : Int} (h : kndB k = true) (w : List (List UInt8)) : nO w (nF k) (docG2 k w) (nM k) = (docG2 k w && docG3 k w) := by
  rcases kinds h with rfl | rfl | rfl | rfl | rfl | rfl | rfl
  · show docG2 1 w = (docG2 1 w && true); rw [Bool.and_true]
  · show (docG2 2 w && _ && _) = (docG2 2 w && (_ && _)); rw [Bool.and_assoc]; rfl
  · show docG2 3 w = (docG2 3 w && true); rw [Bool.and_true]
  · show docG2 4 w = (docG2 4 w && true); rw [Bool.and_true]
  · rfl
  · show (docG2 6 w && _ && _ && _) = (docG2 6 w && (_ && _ && _)); rw [Bool.and_assoc, Bool.and_assoc, Bool.and_assoc]; rfl
  · show docG2 7 w = (docG2 7 w && true); rw [Bool.and_true]
theorem doc_bad {s : ByteArray} (h : ¬ docOk s) : docA s = ActT.none 0 ∧ docB s = false := by
  unfold docA docB
  exact ⟨@if_neg _ (Classical.propDecidable _) h _ _ _, @decide_eq_false _ (Classical.propDecidable _) h⟩
theorem doc_good {s : ByteArray} (h : docOk s) : docA s = docQ (docK s) (docW s (docK s)) ∧ docB s = true := by
  unfold docA docB
  exact ⟨@if_pos _ (Classical.propDecidable _) h _ _ _, @decide_eq_true _ (Classical.propDecidable _) h⟩
theorem wd_eq {s x : ByteArray} (h : (s.toList == x.toList) = true) : s = x := eqL_iff.1 h
theorem kindOf_none {f : ByteArray} (h1 : f ≠ wdS 1) (h2 : f ≠ wdS 2) (h3 : f ≠ wdS 3) (h4 : f ≠ wdS 4) (h5 : f ≠ wdS 5) (h6 : f ≠ wdS 6) (h7 : f ≠ wdS 7) : kindOf f = 0 := by
  unfold kindOf
  rw [if_neg h7, if_neg h6, if_neg h5, if_neg h4, if_neg h3, if_neg h2, if_neg h1]
theorem wd_ne {s x : ByteArray} (h : (s.toList == x.toList) = false) : s ≠ x := fun e => by rw [eqL_iff.2 e] at h; cases h
theorem docG0_no {s : ByteArray} (h : docG0 s = false) : ¬ docOk s := by
  rintro ⟨h1, h2, _⟩
  rw [docK_eq] at h1 h2
  unfold docG0 at h
  split at h
  · rename_i h0
    rw [h0] at h1; cases h1
  · rw [h2] at h; cases h
theorem kindOf_or (f : ByteArray) : kindOf f = 0 ∨ kndB (kindOf f) = true := by
  unfold kindOf
  repeat' split
  all_goals first | exact .inr (by decide) | exact .inl rfl
theorem docG0_yes {s : ByteArray} (h : docG0 s = true) : kndB (kindOf (cutW s)) = true ∧ docG1 s (kindOf (cutW s)) (docW s (kindOf (cutW s))) = true ∧ docW0 s = docW s (kindOf (cutW s)) := by
  unfold docG0 at h
  split at h
  · cases h
  · rename_i h0
    refine ⟨(kindOf_or _).resolve_left h0, h, ?_⟩
    unfold docW0 docW
    by_cases h7 : kindOf (cutW s) = 7
    · rw [if_pos (.inr h7), if_pos h7]
    · rw [if_neg (by omega), if_neg h7]
theorem docG1_len {s : ByteArray} {k : Int} {w : List (List UInt8)} (hk : kndB k = true) (h : docG1 s k w = true) (h7 : k ≠ 7) : w.length = lenOf k ∧ 2 ≤ w.length ∧ (k = 2 → w.length = 5) ∧ (k = 5 → w.length = 3) ∧ (k = 6 → w.length = 4) ∧ w.length ≤ 5 := by
  unfold docG1 at h
  rw [if_neg h7, decide_eq_true_eq] at h
  rw [h]
  refine ⟨rfl, ?_, ?_, ?_, ?_, ?_⟩
  · unfold lenOf; repeat' split
    all_goals omega
  · rintro rfl; rfl
  · rintro rfl; rfl
  · rintro rfl; rfl
  · unfold lenOf; repeat' split
    all_goals omega
theorem doc_iff {s : ByteArray} (hk : kndB (kindOf (cutW s)) = true) (hg : docG1 s (kindOf (cutW s)) (docW s (kindOf (cutW s))) = true) :
    docOk s ↔ (docG2 (kindOf (cutW s)) (docW s (kindOf (cutW s))) && docG3 (kindOf (cutW s)) (docW s (kindOf (cutW s)))) = true ∧ (docQ (kindOf (cutW s)) (docW s (kindOf (cutW s)))).err = 0 := by
  unfold docOk
  rw [docK_eq, Bool.and_eq_true]
  exact ⟨fun ⟨_, _, h2, h3, h4⟩ => ⟨⟨h2, h3⟩, h4⟩, fun ⟨⟨h2, h3⟩, h4⟩ => ⟨hk, hg, h2, h3, h4⟩⟩
theorem RParse28_pure (s : ByteArray) (hs : s.size ≤ 600000) : APure Tryd.prog 15 [.v (.string s)] (.tup [.agg (docA s).cells, .v (.bool (docB s))]) := by
  refine APure.mkL (.cons (.v _) .nil) ((.tup (.cons (ActT.dataAgg _) (.cons (.v _) .nil)))) ?_
  refine ACalls_intro Tryd.func15 (by kernel_rfl) rfl (by rw [Tryd.ntmps15]; simp) (fun hm => ?_)
  simp only [Tryd.ntmps15, Tryd.results15, List.length_cons, List.length_nil, Nat.reduceAdd, Nat.reduceSub, List.replicate_succ, List.replicate_zero, List.cons_append, List.nil_append]
  have hhw := head_word s
  have hhp := head_pos s
  refine AWp_seqK fun Y0 y0 => ?_
  refine AWp_region ?_
  refine aops_chunk 1 fun Q0 q0 => ?_
  simp only [↓bO, go_sem, seval, hhw, hhp, ActT.cells, ActT.none, unqA, lineA]
  refine q0 _ ?_
  clear q0 Q0
  simp only [go_sem]
  simp only [↓bO, go_sem, seval, hhw, hhp, ActT.cells, ActT.none, unqA, lineA]
  refine y0 _ ?_
  try clear y0 Y0
  refine AWp_seqK fun Y0 y0 => ?_
  refine AWp_region ?_
  iterate 2 (refine aops_chunk 1 fun Q0 q0 => ?_; simp only [↓bO, go_sem, seval, hhw, hhp, ActT.cells, ActT.none, unqA, lineA]; refine q0 _ ?_; clear q0 Q0; simp only [go_sem])
  simp only [↓bO, go_sem, seval, hhw, hhp, ActT.cells, ActT.none, unqA, lineA]
  refine y0 _ ?_
  try clear y0 Y0
  refine AWp_seqK fun Y0 y0 => ?_
  refine AWp_region ?_
  iterate 2 (refine aops_chunk 1 fun Q0 q0 => ?_; simp only [↓bO, go_sem, seval, hhw, hhp, ActT.cells, ActT.none, unqA, lineA]; refine q0 _ ?_; clear q0 Q0; simp only [go_sem])
  iterate 2 (simp only [↓bO, go_sem, seval, hhw, hhp, ActT.cells, ActT.none, unqA, lineA]; refine y0 _ ?_; (try clear y0 Y0); refine AWp_seqK fun Y0 y0 => ?_; refine AWp_region ?_)
  refine aops_chunk 1 fun Q0 q0 => ?_
  simp only [↓bO, go_sem, seval, hhw, hhp, ActT.cells, ActT.none, unqA, lineA]
  refine q0 _ ?_
  clear q0 Q0
  simp only [go_sem]
  refine aops_chunk 1 fun Q0 q0 => ?_
  simp only [↓bO, go_sem, seval, hhw, hhp, ActT.cells, ActT.none, unqA, lineA]
  refine APure.call (by have h9 := RWd_pure s 1 (by omega) (by omega); exact h9) ?_
  try simp only [bS, bA, thenQ, blockQ, noGotoQ]
  refine q0 _ ?_
  clear q0 Q0
  simp only [go_sem]
  simp only [↓bO, go_sem, seval, hhw, hhp, ActT.cells, ActT.none, unqA, lineA]
  refine y0 _ ?_
  try clear y0 Y0
  refine AWp_seqK fun Y0 y0 => ?_
  refine AWp_region ?_
  refine aops_chunk 1 fun Q0 q0 => ?_
  simp only [↓bO, go_sem, seval, ↓bs0_1, ↓bs0_2, ↓bs0_3, ↓bs0_4, ↓bs0_5, ↓bs0_6, ↓bs0_7, ↓bs0_8, ↓bs0_9, ↓bs0_10, ↓bs0_11, ↓bs0_12, hhw, hhp, ActT.cells, ActT.none, unqA, lineA]
  refine q0 _ ?_
  clear q0 Q0
  simp only [go_sem]
  simp only [↓bO, go_sem, seval, hhw, hhp, ActT.cells, ActT.none, unqA, lineA]
  refine y0 _ ?_
  try clear y0 Y0
  refine AWp_joinM (mB 172 372) ([(6, .v (.bool (docG0 s))), (8, .sl 1 ((docW0 s).map wC))]) ([(2, .cells 30 (ActT.none (kindOf (cutW s))).cells)]) ?_ ?_
  ·
   refine AWp_seqK fun Y0 y0 => ?_
   refine AWp_region ?_
   iterate 2 (refine aops_chunk 1 fun Q0 q0 => ?_; simp only [↓bO, go_sem, seval, hhw, hhp, ActT.cells, ActT.none, unqA, lineA]; refine q0 _ ?_; clear q0 Q0; simp only [go_sem])
   simp only [↓bO, go_sem, seval, hhw, hhp, ActT.cells, ActT.none, unqA, lineA]
   refine y0 _ ?_
   try clear y0 Y0
   refine AWp_block ?_
   refine AWp_seqK fun Y0 y0 => ?_
   refine AWp_region ?_
   refine aops_chunk 1 fun Q0 q0 => ?_
   simp only [↓bO, go_sem, seval, hhw, hhp, ActT.cells, ActT.none, unqA, lineA]
   refine q0 _ ?_
   clear q0 Q0
   simp only [go_sem]
   simp only [↓bO, go_sem, seval, hhw, hhp, ActT.cells, ActT.none, unqA, lineA]
   refine y0 _ ?_
   try clear y0 Y0
   refine AWp_cond rfl (fun hb27 => ?_) (fun hb27 => ?_)
   ·
    have hF : cutW s = wdS 1 := wd_eq hb27
    have hK : kindOf (cutW s) = 1 := by (rw [hF]; decide)
    have hW : docW0 s = wordsL 2 (tb s) := by (unfold docW0; rw [hK]; rfl)
    have hG : docG0 s = (((wordsL 2 (tb s)).length : Int) == 3) := by (unfold docG0 docG1 docW; rw [hK]; exact lenB _ 3)
    have hN : (ActT.none (kindOf (cutW s))).cells = (ActT.none 1).cells := by rw [hK]
    refine AWp_seqK fun Y0 y0 => ?_
    refine AWp_region ?_
    refine aops_chunk 1 fun Q0 q0 => ?_
    simp only [↓bO, go_sem, seval, hhw, hhp, ActT.cells, ActT.none, unqA, lineA]
    refine q0 _ ?_
    clear q0 Q0
    simp only [go_sem]
    simp only [↓bO, go_sem, seval, hhw, hhp, ActT.cells, ActT.none, unqA, lineA]
    refine y0 _ ?_
    try clear y0 Y0
    refine AWp_seqK fun Y0 y0 => ?_
    refine AWp_region ?_
    refine aops_chunk 1 fun Q0 q0 => ?_
    simp only [↓bO, go_sem, seval, hhw, hhp, ActT.cells, ActT.none, unqA, lineA]
    refine q0 _ ?_
    clear q0 Q0
    simp only [go_sem]
    refine aops_chunk 1 fun Q0 q0 => ?_
    simp only [↓bO, go_sem, seval, hhw, hhp, ActT.cells, ActT.none, unqA, lineA]
    refine APure.call (by have h9 := RWd_pure s 2 (by omega) (by omega); exact h9) ?_
    try simp only [bS, bA, thenQ, blockQ, noGotoQ]
    refine q0 _ ?_
    clear q0 Q0
    simp only [go_sem]
    simp only [↓bO, go_sem, seval, hhw, hhp, ActT.cells, ActT.none, unqA, lineA]
    refine y0 _ ?_
    try clear y0 Y0
    refine AWp_region ?_
    iterate 3 (refine aops_chunk 1 fun Q0 q0 => ?_; simp only [↓bO, go_sem, seval, hhw, hhp, ActT.cells, ActT.none, unqA, lineA]; refine q0 _ ?_; clear q0 Q0; simp only [go_sem])
    simp only [↓bO, go_sem, seval, hhw, hhp, ActT.cells, ActT.none, unqA, lineA]
    try simp only [maskL, setsL, putsO, putO, mB, List.set_cons_zero, List.set_cons_succ, seval]
    simp only [hG, hW, hK, List.map_nil]
    exact Weak.mk (by simp only [go_sem, Le.refl, Le.any, Le.osl]) (fun _ _ h => h) rfl rfl
   ·
    have hF1 : cutW s ≠ wdS 1 := wd_ne hb27
    refine AWp_seqK fun Y0 y0 => ?_
    refine AWp_region ?_
    refine aops_chunk 1 fun Q0 q0 => ?_
    simp only [↓bO, go_sem, seval, hhw, hhp, ActT.cells, ActT.none, unqA, lineA]
    refine q0 _ ?_
    clear q0 Q0
    simp only [go_sem]
    simp only [↓bO, go_sem, seval, hhw, hhp, ActT.cells, ActT.none, unqA, lineA]
    refine y0 _ ?_
    try clear y0 Y0
    refine AWp_cond rfl (fun hb35 => ?_) (fun hb35 => ?_)
    ·
     have hF : cutW s = wdS 2 := wd_eq hb35
     have hK : kindOf (cutW s) = 2 := by (rw [hF]; decide)
     have hW : docW0 s = wordsL 4 (tb s) := by (unfold docW0; rw [hK]; rfl)
     have hG : docG0 s = (((wordsL 4 (tb s)).length : Int) == 5) := by (unfold docG0 docG1 docW; rw [hK]; exact lenB _ 5)
     have hN : (ActT.none (kindOf (cutW s))).cells = (ActT.none 2).cells := by rw [hK]
     refine AWp_seqK fun Y0 y0 => ?_
     refine AWp_region ?_
     refine aops_chunk 1 fun Q0 q0 => ?_
     simp only [↓bO, go_sem, seval, hhw, hhp, ActT.cells, ActT.none, unqA, lineA]
     refine q0 _ ?_
     clear q0 Q0
     simp only [go_sem]
     simp only [↓bO, go_sem, seval, hhw, hhp, ActT.cells, ActT.none, unqA, lineA]
     refine y0 _ ?_
     try clear y0 Y0
     refine AWp_seqK fun Y0 y0 => ?_
     refine AWp_region ?_
     refine aops_chunk 1 fun Q0 q0 => ?_
     simp only [↓bO, go_sem, seval, hhw, hhp, ActT.cells, ActT.none, unqA, lineA]
     refine q0 _ ?_
     clear q0 Q0
     simp only [go_sem]
     refine aops_chunk 1 fun Q0 q0 => ?_
     simp only [↓bO, go_sem, seval, hhw, hhp, ActT.cells, ActT.none, unqA, lineA]
     refine APure.call (by have h9 := RWd_pure s 4 (by omega) (by omega); exact h9) ?_
     try simp only [bS, bA, thenQ, blockQ, noGotoQ]
     refine q0 _ ?_
     clear q0 Q0
     simp only [go_sem]
     simp only [↓bO, go_sem, seval, hhw, hhp, ActT.cells, ActT.none, unqA, lineA]
     refine y0 _ ?_
     try clear y0 Y0
     refine AWp_region ?_
     iterate 3 (refine aops_chunk 1 fun Q0 q0 => ?_; simp only [↓bO, go_sem, seval, hhw, hhp, ActT.cells, ActT.none, unqA, lineA]; refine q0 _ ?_; clear q0 Q0; simp only [go_sem])
     simp only [↓bO, go_sem, seval, hhw, hhp, ActT.cells, ActT.none, unqA, lineA]
     try simp only [maskL, setsL, putsO, putO, mB, List.set_cons_zero, List.set_cons_succ, seval]
     simp only [hG, hW, hK, List.map_nil]
     exact Weak.mk (by simp only [go_sem, Le.refl, Le.any, Le.osl]) (fun _ _ h => h) rfl rfl
    ·
     have hF2 : cutW s ≠ wdS 2 := wd_ne hb35
     refine AWp_seqK fun Y0 y0 => ?_
     refine AWp_seqK fun Y1 y1 => ?_
     refine AWp_region ?_
     refine aops_chunk 1 fun Q0 q0 => ?_
     simp only [↓bO, go_sem, seval, hhw, hhp, ActT.cells, ActT.none, unqA, lineA]
     refine q0 _ ?_
     clear q0 Q0
     simp only [go_sem]
     simp only [↓bO, go_sem, seval, hhw, hhp, ActT.cells, ActT.none, unqA, lineA]
     refine y1 _ ?_
     try clear y1 Y1
     refine AWp_cond rfl (fun hb43 => ?_) (fun hb43 => ?_)
     ·
      have hF34 : cutW s = wdS 3 ∨ cutW s = wdS 4 := by (first | exact .inl (wd_eq hb43) | exact .inr (wd_eq hb43))
      refine AWp_skip ?_
      try simp only [thenQ, blockQ, noGotoQ]
      refine y0 _ ?_
      try clear y0 Y0
      refine AWp_cond (b := true) (by first | exact rfl | exact congrArg (fun b => AV.v (.bool b)) hb43) (fun _ => ?_) (fun h => (by cases h))
      refine AWp_seqK fun Y0 y0 => ?_
      refine AWp_region ?_
      refine aops_chunk 1 fun Q0 q0 => ?_
      simp only [↓bO, go_sem, seval, hhw, hhp, ActT.cells, ActT.none, unqA, lineA]
      refine q0 _ ?_
      clear q0 Q0
      simp only [go_sem]
      simp only [↓bO, go_sem, seval, hhw, hhp, ActT.cells, ActT.none, unqA, lineA]
      refine y0 _ ?_
      try clear y0 Y0
      refine AWp_seqK fun Y0 y0 => ?_
      refine AWp_seqK fun Y1 y1 => ?_
      refine AWp_region ?_
      iterate 3 (refine aops_chunk 1 fun Q0 q0 => ?_; simp only [↓bO, go_sem, seval, hhw, hhp, ActT.cells, ActT.none, unqA, lineA]; refine q0 _ ?_; clear q0 Q0; simp only [go_sem])
      simp only [↓bO, go_sem, seval, hhw, hhp, ActT.cells, ActT.none, unqA, lineA]
      refine y1 _ ?_
      try clear y1 Y1
      refine AWp_cond rfl (fun hb50 => ?_) (fun hb50 => ?_)
      ·
       have hF : cutW s = wdS 4 := wd_eq hb50
       have hK : kindOf (cutW s) = 4 := by (rw [hF]; decide)
       have hW : docW0 s = wordsL 8 (tb s) := by (unfold docW0; rw [hK]; rfl)
       have hG : docG0 s = (((wordsL 8 (tb s)).length : Int) == 2) := by (unfold docG0 docG1 docW; rw [hK]; exact lenB _ 2)
       have hN : (ActT.none (kindOf (cutW s))).cells = (ActT.none 4).cells := by rw [hK]
       refine AWp_region ?_
       refine aops_chunk 1 fun Q0 q0 => ?_
       simp only [↓bO, go_sem, seval, hhw, hhp, ActT.cells, ActT.none, unqA, lineA]
       refine q0 _ ?_
       clear q0 Q0
       simp only [go_sem]
       simp only [↓bO, go_sem, seval, hhw, hhp, ActT.cells, ActT.none, unqA, lineA]
       refine y0 _ ?_
       try clear y0 Y0
       refine AWp_seqK fun Y0 y0 => ?_
       refine AWp_region ?_
       refine aops_chunk 1 fun Q0 q0 => ?_
       simp only [↓bO, go_sem, seval, hhw, hhp, ActT.cells, ActT.none, unqA, lineA]
       refine q0 _ ?_
       clear q0 Q0
       simp only [go_sem]
       refine aops_chunk 1 fun Q0 q0 => ?_
       simp only [↓bO, go_sem, seval, hhw, hhp, ActT.cells, ActT.none, unqA, lineA]
       refine APure.call (by have h9 := RWd_pure s 8 (by omega) (by omega); exact h9) ?_
       try simp only [bS, bA, thenQ, blockQ, noGotoQ]
       refine q0 _ ?_
       clear q0 Q0
       simp only [go_sem]
       simp only [↓bO, go_sem, seval, hhw, hhp, ActT.cells, ActT.none, unqA, lineA]
       refine y0 _ ?_
       try clear y0 Y0
       refine AWp_region ?_
       iterate 3 (refine aops_chunk 1 fun Q0 q0 => ?_; simp only [↓bO, go_sem, seval, hhw, hhp, ActT.cells, ActT.none, unqA, lineA]; refine q0 _ ?_; clear q0 Q0; simp only [go_sem])
       simp only [↓bO, go_sem, seval, hhw, hhp, ActT.cells, ActT.none, unqA, lineA]
       try simp only [maskL, setsL, putsO, putO, mB, List.set_cons_zero, List.set_cons_succ, seval]
       simp only [hG, hW, hK, List.map_nil]
       exact Weak.mk (by simp only [go_sem, Le.refl, Le.any, Le.osl]) (fun _ _ h => h) rfl rfl
      ·
       have hF : cutW s = wdS 3 := hF34.resolve_right (wd_ne hb50)
       have hK : kindOf (cutW s) = 3 := by (rw [hF]; decide)
       have hW : docW0 s = wordsL 8 (tb s) := by (unfold docW0; rw [hK]; rfl)
       have hG : docG0 s = (((wordsL 8 (tb s)).length : Int) == 2) := by (unfold docG0 docG1 docW; rw [hK]; exact lenB _ 2)
       have hN : (ActT.none (kindOf (cutW s))).cells = (ActT.none 3).cells := by rw [hK]
       refine AWp_skip ?_
       try simp only [thenQ, blockQ, noGotoQ]
       refine y0 _ ?_
       try clear y0 Y0
       refine AWp_seqK fun Y0 y0 => ?_
       refine AWp_region ?_
       refine aops_chunk 1 fun Q0 q0 => ?_
       simp only [↓bO, go_sem, seval, hhw, hhp, ActT.cells, ActT.none, unqA, lineA]
       refine q0 _ ?_
       clear q0 Q0
       simp only [go_sem]
       refine aops_chunk 1 fun Q0 q0 => ?_
       simp only [↓bO, go_sem, seval, hhw, hhp, ActT.cells, ActT.none, unqA, lineA]
       refine APure.call (by have h9 := RWd_pure s 8 (by omega) (by omega); exact h9) ?_
       try simp only [bS, bA, thenQ, blockQ, noGotoQ]
       refine q0 _ ?_
       clear q0 Q0
       simp only [go_sem]
       simp only [↓bO, go_sem, seval, hhw, hhp, ActT.cells, ActT.none, unqA, lineA]
       refine y0 _ ?_
       try clear y0 Y0
       refine AWp_region ?_
       iterate 3 (refine aops_chunk 1 fun Q0 q0 => ?_; simp only [↓bO, go_sem, seval, hhw, hhp, ActT.cells, ActT.none, unqA, lineA]; refine q0 _ ?_; clear q0 Q0; simp only [go_sem])
       simp only [↓bO, go_sem, seval, hhw, hhp, ActT.cells, ActT.none, unqA, lineA]
       try simp only [maskL, setsL, putsO, putO, mB, List.set_cons_zero, List.set_cons_succ, seval]
       simp only [hG, hW, hK, List.map_nil]
       exact Weak.mk (by simp only [go_sem, Le.refl, Le.any, Le.osl]) (fun _ _ h => h) rfl rfl
     ·
      first | have hF3 : cutW s ≠ wdS 3 := wd_ne hb43 | have hF4 : cutW s ≠ wdS 4 := wd_ne hb43
      refine AWp_region ?_
      refine aops_chunk 1 fun Q0 q0 => ?_
      simp only [↓bO, go_sem, seval, hhw, hhp, ActT.cells, ActT.none, unqA, lineA]
      refine q0 _ ?_
      clear q0 Q0
      simp only [go_sem]
      simp only [↓bO, go_sem, seval, hhw, hhp, ActT.cells, ActT.none, unqA, lineA]
      refine y0 _ ?_
      try clear y0 Y0
      refine AWp_cond rfl (fun hb43 => ?_) (fun hb43 => ?_)
      ·
       have hF34 : cutW s = wdS 3 ∨ cutW s = wdS 4 := by (first | exact .inl (wd_eq hb43) | exact .inr (wd_eq hb43))
       refine AWp_seqK fun Y0 y0 => ?_
       refine AWp_region ?_
       refine aops_chunk 1 fun Q0 q0 => ?_
       simp only [↓bO, go_sem, seval, hhw, hhp, ActT.cells, ActT.none, unqA, lineA]
       refine q0 _ ?_
       clear q0 Q0
       simp only [go_sem]
       simp only [↓bO, go_sem, seval, hhw, hhp, ActT.cells, ActT.none, unqA, lineA]
       refine y0 _ ?_
       try clear y0 Y0
       refine AWp_seqK fun Y0 y0 => ?_
       refine AWp_seqK fun Y1 y1 => ?_
       refine AWp_region ?_
       iterate 3 (refine aops_chunk 1 fun Q0 q0 => ?_; simp only [↓bO, go_sem, seval, hhw, hhp, ActT.cells, ActT.none, unqA, lineA]; refine q0 _ ?_; clear q0 Q0; simp only [go_sem])
       simp only [↓bO, go_sem, seval, hhw, hhp, ActT.cells, ActT.none, unqA, lineA]
       refine y1 _ ?_
       try clear y1 Y1
       refine AWp_cond rfl (fun hb50 => ?_) (fun hb50 => ?_)
       ·
        have hF : cutW s = wdS 4 := wd_eq hb50
        have hK : kindOf (cutW s) = 4 := by (rw [hF]; decide)
        have hW : docW0 s = wordsL 8 (tb s) := by (unfold docW0; rw [hK]; rfl)
        have hG : docG0 s = (((wordsL 8 (tb s)).length : Int) == 2) := by (unfold docG0 docG1 docW; rw [hK]; exact lenB _ 2)
        have hN : (ActT.none (kindOf (cutW s))).cells = (ActT.none 4).cells := by rw [hK]
        refine AWp_region ?_
        refine aops_chunk 1 fun Q0 q0 => ?_
        simp only [↓bO, go_sem, seval, hhw, hhp, ActT.cells, ActT.none, unqA, lineA]
        refine q0 _ ?_
        clear q0 Q0
        simp only [go_sem]
        simp only [↓bO, go_sem, seval, hhw, hhp, ActT.cells, ActT.none, unqA, lineA]
        refine y0 _ ?_
        try clear y0 Y0
        refine AWp_seqK fun Y0 y0 => ?_
        refine AWp_region ?_
        refine aops_chunk 1 fun Q0 q0 => ?_
        simp only [↓bO, go_sem, seval, hhw, hhp, ActT.cells, ActT.none, unqA, lineA]
        refine q0 _ ?_
        clear q0 Q0
        simp only [go_sem]
        refine aops_chunk 1 fun Q0 q0 => ?_
        simp only [↓bO, go_sem, seval, hhw, hhp, ActT.cells, ActT.none, unqA, lineA]
        refine APure.call (by have h9 := RWd_pure s 8 (by omega) (by omega); exact h9) ?_
        try simp only [bS, bA, thenQ, blockQ, noGotoQ]
        refine q0 _ ?_
        clear q0 Q0
        simp only [go_sem]
        simp only [↓bO, go_sem, seval, hhw, hhp, ActT.cells, ActT.none, unqA, lineA]
        refine y0 _ ?_
        try clear y0 Y0
        refine AWp_region ?_
        iterate 3 (refine aops_chunk 1 fun Q0 q0 => ?_; simp only [↓bO, go_sem, seval, hhw, hhp, ActT.cells, ActT.none, unqA, lineA]; refine q0 _ ?_; clear q0 Q0; simp only [go_sem])
        simp only [↓bO, go_sem, seval, hhw, hhp, ActT.cells, ActT.none, unqA, lineA]
        try simp only [maskL, setsL, putsO, putO, mB, List.set_cons_zero, List.set_cons_succ, seval]
        simp only [hG, hW, hK, List.map_nil]
        exact Weak.mk (by simp only [go_sem, Le.refl, Le.any, Le.osl]) (fun _ _ h => h) rfl rfl
       ·
        have hF : cutW s = wdS 3 := hF34.resolve_right (wd_ne hb50)
        have hK : kindOf (cutW s) = 3 := by (rw [hF]; decide)
        have hW : docW0 s = wordsL 8 (tb s) := by (unfold docW0; rw [hK]; rfl)
        have hG : docG0 s = (((wordsL 8 (tb s)).length : Int) == 2) := by (unfold docG0 docG1 docW; rw [hK]; exact lenB _ 2)
        have hN : (ActT.none (kindOf (cutW s))).cells = (ActT.none 3).cells := by rw [hK]
        refine AWp_skip ?_
        try simp only [thenQ, blockQ, noGotoQ]
        refine y0 _ ?_
        try clear y0 Y0
        refine AWp_seqK fun Y0 y0 => ?_
        refine AWp_region ?_
        refine aops_chunk 1 fun Q0 q0 => ?_
        simp only [↓bO, go_sem, seval, hhw, hhp, ActT.cells, ActT.none, unqA, lineA]
        refine q0 _ ?_
        clear q0 Q0
        simp only [go_sem]
        refine aops_chunk 1 fun Q0 q0 => ?_
        simp only [↓bO, go_sem, seval, hhw, hhp, ActT.cells, ActT.none, unqA, lineA]
        refine APure.call (by have h9 := RWd_pure s 8 (by omega) (by omega); exact h9) ?_
        try simp only [bS, bA, thenQ, blockQ, noGotoQ]
        refine q0 _ ?_
        clear q0 Q0
        simp only [go_sem]
        simp only [↓bO, go_sem, seval, hhw, hhp, ActT.cells, ActT.none, unqA, lineA]
        refine y0 _ ?_
        try clear y0 Y0
        refine AWp_region ?_
        iterate 3 (refine aops_chunk 1 fun Q0 q0 => ?_; simp only [↓bO, go_sem, seval, hhw, hhp, ActT.cells, ActT.none, unqA, lineA]; refine q0 _ ?_; clear q0 Q0; simp only [go_sem])
        simp only [↓bO, go_sem, seval, hhw, hhp, ActT.cells, ActT.none, unqA, lineA]
        try simp only [maskL, setsL, putsO, putO, mB, List.set_cons_zero, List.set_cons_succ, seval]
        simp only [hG, hW, hK, List.map_nil]
        exact Weak.mk (by simp only [go_sem, Le.refl, Le.any, Le.osl]) (fun _ _ h => h) rfl rfl
      ·
       first | have hF3 : cutW s ≠ wdS 3 := wd_ne hb43 | have hF4 : cutW s ≠ wdS 4 := wd_ne hb43
       refine AWp_seqK fun Y0 y0 => ?_
       refine AWp_region ?_
       refine aops_chunk 1 fun Q0 q0 => ?_
       simp only [↓bO, go_sem, seval, hhw, hhp, ActT.cells, ActT.none, unqA, lineA]
       refine q0 _ ?_
       clear q0 Q0
       simp only [go_sem]
       simp only [↓bO, go_sem, seval, hhw, hhp, ActT.cells, ActT.none, unqA, lineA]
       refine y0 _ ?_
       try clear y0 Y0
       refine AWp_cond rfl (fun hb57 => ?_) (fun hb57 => ?_)
       ·
        have hF : cutW s = wdS 5 := wd_eq hb57
        have hK : kindOf (cutW s) = 5 := by (rw [hF]; decide)
        have hW : docW0 s = wordsL 8 (tb s) := by (unfold docW0; rw [hK]; rfl)
        have hG : docG0 s = (((wordsL 8 (tb s)).length : Int) == 3) := by (unfold docG0 docG1 docW; rw [hK]; exact lenB _ 3)
        have hN : (ActT.none (kindOf (cutW s))).cells = (ActT.none 5).cells := by rw [hK]
        refine AWp_seqK fun Y0 y0 => ?_
        refine AWp_region ?_
        refine aops_chunk 1 fun Q0 q0 => ?_
        simp only [↓bO, go_sem, seval, hhw, hhp, ActT.cells, ActT.none, unqA, lineA]
        refine q0 _ ?_
        clear q0 Q0
        simp only [go_sem]
        simp only [↓bO, go_sem, seval, hhw, hhp, ActT.cells, ActT.none, unqA, lineA]
        refine y0 _ ?_
        try clear y0 Y0
        refine AWp_seqK fun Y0 y0 => ?_
        refine AWp_region ?_
        refine aops_chunk 1 fun Q0 q0 => ?_
        simp only [↓bO, go_sem, seval, hhw, hhp, ActT.cells, ActT.none, unqA, lineA]
        refine q0 _ ?_
        clear q0 Q0
        simp only [go_sem]
        refine aops_chunk 1 fun Q0 q0 => ?_
        simp only [↓bO, go_sem, seval, hhw, hhp, ActT.cells, ActT.none, unqA, lineA]
        refine APure.call (by have h9 := RWd_pure s 8 (by omega) (by omega); exact h9) ?_
        try simp only [bS, bA, thenQ, blockQ, noGotoQ]
        refine q0 _ ?_
        clear q0 Q0
        simp only [go_sem]
        simp only [↓bO, go_sem, seval, hhw, hhp, ActT.cells, ActT.none, unqA, lineA]
        refine y0 _ ?_
        try clear y0 Y0
        refine AWp_region ?_
        iterate 3 (refine aops_chunk 1 fun Q0 q0 => ?_; simp only [↓bO, go_sem, seval, hhw, hhp, ActT.cells, ActT.none, unqA, lineA]; refine q0 _ ?_; clear q0 Q0; simp only [go_sem])
        simp only [↓bO, go_sem, seval, hhw, hhp, ActT.cells, ActT.none, unqA, lineA]
        try simp only [maskL, setsL, putsO, putO, mB, List.set_cons_zero, List.set_cons_succ, seval]
        simp only [hG, hW, hK, List.map_nil]
        exact Weak.mk (by simp only [go_sem, Le.refl, Le.any, Le.osl]) (fun _ _ h => h) rfl rfl
       ·
        have hF5 : cutW s ≠ wdS 5 := wd_ne hb57
        refine AWp_seqK fun Y0 y0 => ?_
        refine AWp_region ?_
        refine aops_chunk 1 fun Q0 q0 => ?_
        simp only [↓bO, go_sem, seval, hhw, hhp, ActT.cells, ActT.none, unqA, lineA]
        refine q0 _ ?_
        clear q0 Q0
        simp only [go_sem]
        simp only [↓bO, go_sem, seval, hhw, hhp, ActT.cells, ActT.none, unqA, lineA]
        refine y0 _ ?_
        try clear y0 Y0
        refine AWp_cond rfl (fun hb65 => ?_) (fun hb65 => ?_)
        ·
         have hF : cutW s = wdS 6 := wd_eq hb65
         have hK : kindOf (cutW s) = 6 := by (rw [hF]; decide)
         have hW : docW0 s = wordsL 8 (tb s) := by (unfold docW0; rw [hK]; rfl)
         have hG : docG0 s = (((wordsL 8 (tb s)).length : Int) == 4) := by (unfold docG0 docG1 docW; rw [hK]; exact lenB _ 4)
         have hN : (ActT.none (kindOf (cutW s))).cells = (ActT.none 6).cells := by rw [hK]
         refine AWp_seqK fun Y0 y0 => ?_
         refine AWp_region ?_
         refine aops_chunk 1 fun Q0 q0 => ?_
         simp only [↓bO, go_sem, seval, hhw, hhp, ActT.cells, ActT.none, unqA, lineA]
         refine q0 _ ?_
         clear q0 Q0
         simp only [go_sem]
         simp only [↓bO, go_sem, seval, hhw, hhp, ActT.cells, ActT.none, unqA, lineA]
         refine y0 _ ?_
         try clear y0 Y0
         refine AWp_seqK fun Y0 y0 => ?_
         refine AWp_region ?_
         refine aops_chunk 1 fun Q0 q0 => ?_
         simp only [↓bO, go_sem, seval, hhw, hhp, ActT.cells, ActT.none, unqA, lineA]
         refine q0 _ ?_
         clear q0 Q0
         simp only [go_sem]
         refine aops_chunk 1 fun Q0 q0 => ?_
         simp only [↓bO, go_sem, seval, hhw, hhp, ActT.cells, ActT.none, unqA, lineA]
         refine APure.call (by have h9 := RWd_pure s 8 (by omega) (by omega); exact h9) ?_
         try simp only [bS, bA, thenQ, blockQ, noGotoQ]
         refine q0 _ ?_
         clear q0 Q0
         simp only [go_sem]
         simp only [↓bO, go_sem, seval, hhw, hhp, ActT.cells, ActT.none, unqA, lineA]
         refine y0 _ ?_
         try clear y0 Y0
         refine AWp_region ?_
         iterate 3 (refine aops_chunk 1 fun Q0 q0 => ?_; simp only [↓bO, go_sem, seval, hhw, hhp, ActT.cells, ActT.none, unqA, lineA]; refine q0 _ ?_; clear q0 Q0; simp only [go_sem])
         simp only [↓bO, go_sem, seval, hhw, hhp, ActT.cells, ActT.none, unqA, lineA]
         try simp only [maskL, setsL, putsO, putO, mB, List.set_cons_zero, List.set_cons_succ, seval]
         simp only [hG, hW, hK, List.map_nil]
         exact Weak.mk (by simp only [go_sem, Le.refl, Le.any, Le.osl]) (fun _ _ h => h) rfl rfl
        ·
         have hF6 : cutW s ≠ wdS 6 := wd_ne hb65
         refine AWp_seqK fun Y0 y0 => ?_
         refine AWp_region ?_
         refine aops_chunk 1 fun Q0 q0 => ?_
         simp only [↓bO, go_sem, seval, hhw, hhp, ActT.cells, ActT.none, unqA, lineA]
         refine q0 _ ?_
         clear q0 Q0
         simp only [go_sem]
         simp only [↓bO, go_sem, seval, hhw, hhp, ActT.cells, ActT.none, unqA, lineA]
         refine y0 _ ?_
         try clear y0 Y0
         refine AWp_cond rfl (fun hb73 => ?_) (fun hb73 => ?_)
         ·
          have hF : cutW s = wdS 7 := wd_eq hb73
          have hK : kindOf (cutW s) = 7 := by (rw [hF]; decide)
          have hW : docW0 s = [] := by (unfold docW0; rw [hK]; rfl)
          have hG : docG0 s = (s.toList == (⟨#[108, 105, 115, 116]⟩ : ByteArray).toList) := by (unfold docG0 docG1; rw [hK]; rw [Bool.eq_iff_iff, eqL_iff]; exact (decide_eq_true_iff (p := tb s = tb (wdS 7))).trans ⟨fun h => tb_inj h, fun h => congrArg tb h⟩)
          have hN : (ActT.none (kindOf (cutW s))).cells = (ActT.none 7).cells := by rw [hK]
          refine AWp_seqK fun Y0 y0 => ?_
          refine AWp_region ?_
          refine aops_chunk 1 fun Q0 q0 => ?_
          simp only [↓bO, go_sem, seval, hhw, hhp, ActT.cells, ActT.none, unqA, lineA]
          refine q0 _ ?_
          clear q0 Q0
          simp only [go_sem]
          simp only [↓bO, go_sem, seval, hhw, hhp, ActT.cells, ActT.none, unqA, lineA]
          refine y0 _ ?_
          try clear y0 Y0
          refine AWp_region ?_
          iterate 2 (refine aops_chunk 1 fun Q0 q0 => ?_; simp only [↓bO, go_sem, seval, hhw, hhp, ActT.cells, ActT.none, unqA, lineA]; refine q0 _ ?_; clear q0 Q0; simp only [go_sem])
          simp only [↓bO, go_sem, seval, hhw, hhp, ActT.cells, ActT.none, unqA, lineA]
          try simp only [maskL, setsL, putsO, putO, mB, List.set_cons_zero, List.set_cons_succ, seval]
          simp only [hG, hW, hK, List.map_nil]
          exact Weak.mk (by simp only [go_sem, Le.refl, Le.any, Le.osl]) (fun _ _ h => h) rfl rfl
         ·
          have hF7 : cutW s ≠ wdS 7 := wd_ne hb73
          have hK : kindOf (cutW s) = 0 := kindOf_none hF1 hF2 hF3 hF4 hF5 hF6 hF7
          have hW : docW0 s = [] := by (unfold docW0; rw [hK]; rfl)
          have hG : docG0 s = false := by (unfold docG0; rw [hK]; rfl)
          have hN : (ActT.none (kindOf (cutW s))).cells = (ActT.none 0).cells := by rw [hK]
          refine AWp_region ?_
          simp only [↓bO, go_sem, seval, hhw, hhp, ActT.cells, ActT.none, unqA, lineA]
          try simp only [maskL, setsL, putsO, putO, mB, List.set_cons_zero, List.set_cons_succ, seval]
          simp only [hG, hW, hK, List.map_nil]
          exact Weak.mk (by simp only [go_sem, Le.refl, Le.any, Le.osl]) (fun _ _ h => h) rfl rfl
  simp only [maskL, setsL, putsO, putO, mB, List.set_cons_zero, List.set_cons_succ, seval]
  refine AWp_seqK fun Y0 y0 => ?_
  refine AWp_seqK fun Y1 y1 => ?_
  refine AWp_region ?_
  refine aops_chunk 1 fun Q0 q0 => ?_
  simp only [↓bO, go_sem, seval, hhw, hhp, ActT.cells, ActT.none, unqA, lineA]
  refine q0 _ ?_
  clear q0 Q0
  simp only [go_sem]
  simp only [↓bO, go_sem, seval, hhw, hhp, ActT.cells, ActT.none, unqA, lineA]
  refine y1 _ ?_
  try clear y1 Y1
  refine AWp_cond rfl (fun hb79 => ?_) (fun hb79 => ?_)
  ·
   have hg0 : docG0 s = false := (by have h9 := hb79; simpa using h9)
   have hno := doc_bad (docG0_no hg0)
   refine AWp_seqK fun Y1 y1 => ?_
   refine AWp_region ?_
   iterate 2 (refine aops_chunk 1 fun Q0 q0 => ?_; simp only [↓bO, go_sem, seval, hhw, hhp, ActT.cells, ActT.none, unqA, lineA]; refine q0 _ ?_; clear q0 Q0; simp only [go_sem])
   simp only [↓bO, go_sem, seval, hhw, hhp, ActT.cells, ActT.none, unqA, lineA]
   refine y1 _ ?_
   try clear y1 Y1
   refine AWp_ret ?_
   try simp only [thenQ, blockQ, noGotoQ, retQ, aRes, tupOf, bS, bA, aLoad, getO, pack, bL, Nat.reduceAdd, Nat.reduceLeDiff, Nat.reduceEqDiff, ↓reduceIte, ti30, hhw, hhp, List.length_map, ActT.cells, ActT.none, unqA, lineA]
   rw [hno.1, hno.2]
   exact Le.refl _
  ·
   have hg0 : docG0 s = true := (by have h9 := hb79; simpa using h9)
   obtain ⟨hkn, hg1, hww⟩ := docG0_yes hg0
   have hkk := kinds hkn
   have hlen : kindOf (cutW s) ≠ 7 → _ := docG1_len hkn hg1
   simp only [hww, hg0]
   refine AWp_skip ?_
   try simp only [thenQ, blockQ, noGotoQ]
   refine y0 _ ?_
   try clear y0 Y0
   refine AWp_joinM (mB 172 372) ([]) ([(2, .cells 30 [.v (.int .i64 (kindOf (cutW s))), .v (.string (if kindOf (cutW s) < 6 then wAt (docW s (kindOf (cutW s))) 1 else ByteArray.empty)), .v (.int .i64 (0)), .v (.int .i64 (0)), .v (.string (ByteArray.empty)), .v (.int .i64 (0)), .v (.int .i64 (0)), .v (.int .i64 (0)), .v (.int .i64 (0))])]) ?_ ?_
   ·
    refine AWp_seqK fun Y0 y0 => ?_
    refine AWp_region ?_
    iterate 2 (refine aops_chunk 1 fun Q0 q0 => ?_; simp only [↓bO, go_sem, seval, hhw, hhp, ActT.cells, ActT.none, unqA, lineA]; refine q0 _ ?_; clear q0 Q0; simp only [go_sem])
    simp only [↓bO, go_sem, seval, hhw, hhp, ActT.cells, ActT.none, unqA, lineA]
    refine y0 _ ?_
    try clear y0 Y0
    refine AWp_cond rfl (fun hb83 => ?_) (fun hb83 => ?_)
    ·
     have hk6 : kindOf (cutW s) < 6 := (by have h9 := hb83; simp at h9; omega)
     have hl := (hlen (by omega)).2.1
     have hl9 := (hlen (by omega)).2.2.2.2.2
     have hl1 : ((1 : Int) < ((docW s (kindOf (cutW s))).length : Int)) = True := eq_true (by omega)
     have hx1 := wC_at (w := docW s (kindOf (cutW s))) (i := 1) (by omega)
     have hnm : (if kindOf (cutW s) < 6 then wAt (docW s (kindOf (cutW s))) 1 else ByteArray.empty) = wAt (docW s (kindOf (cutW s))) 1 := if_pos hk6
     refine AWp_region ?_
     iterate 4 (refine aops_chunk 1 fun Q0 q0 => ?_; simp only [↓bO, go_sem, seval, hhw, hhp, ActT.cells, ActT.none, unqA, lineA, hl1, hx1]; refine q0 _ ?_; clear q0 Q0; simp only [go_sem])
     simp only [↓bO, go_sem, seval, hhw, hhp, ActT.cells, ActT.none, unqA, lineA, hl1, hx1]
     try simp only [maskL, setsL, putsO, putO, mB, List.set_cons_zero, List.set_cons_succ, seval]
     rw [hnm]
     exact Weak.mk (by simp only [go_sem, Le.refl, Le.any]) (fun _ _ h => h) rfl rfl
    ·
     have hk6 : ¬ kindOf (cutW s) < 6 := (by have h9 := hb83; simp at h9; omega)
     have hnm : (if kindOf (cutW s) < 6 then wAt (docW s (kindOf (cutW s))) 1 else ByteArray.empty) = ByteArray.empty := if_neg hk6
     refine AWp_skip ?_
     try simp only [thenQ, blockQ, noGotoQ]
     try simp only [maskL, setsL, putsO, putO, mB, List.set_cons_zero, List.set_cons_succ, seval]
     rw [hnm]
     exact Weak.mk (by simp only [go_sem, Le.refl, Le.any]) (fun _ _ h => h) rfl rfl
   simp only [maskL, setsL, putsO, putO, mB, List.set_cons_zero, List.set_cons_succ, seval]
   refine AWp_joinM (mB 172 372) ([(6, .v (.bool (docG2 (kindOf (cutW s)) (docW s (kindOf (cutW s))))))]) ([(2, .cells 30 [.v (.int .i64 (kindOf (cutW s))), .v (.string (if kindOf (cutW s) < 6 then wAt (docW s (kindOf (cutW s))) 1 else ByteArray.empty)), .v (.int .i64 (0)), .v (.int .i64 (0)), .v (.string (if kindOf (cutW s) < 3 then unqS (wAt (docW s (kindOf (cutW s))) ((docW s (kindOf (cutW s))).length - 1)) else ByteArray.empty)), .v (.int .i64 (0)), .v (.int .i64 (0)), .v (.int .i64 (0)), .v (.int .i64 (0))])]) ?_ ?_
   ·
    refine AWp_seqK fun Y0 y0 => ?_
    refine AWp_region ?_
    iterate 2 (refine aops_chunk 1 fun Q0 q0 => ?_; simp only [↓bO, go_sem, seval, hhw, hhp, ActT.cells, ActT.none, unqA, lineA]; refine q0 _ ?_; clear q0 Q0; simp only [go_sem])
    simp only [↓bO, go_sem, seval, hhw, hhp, ActT.cells, ActT.none, unqA, lineA]
    refine y0 _ ?_
    try clear y0 Y0
    refine AWp_cond rfl (fun hb90 => ?_) (fun hb90 => ?_)
    ·
     have hk3 : kindOf (cutW s) < 3 := (by have h9 := hb90; simp at h9; omega)
     have hl := (hlen (by omega)).2.1
     have hl9 := (hlen (by omega)).2.2.2.2.2
     have hw1 : IntKind.i64.wrap (((docW s (kindOf (cutW s))).length : Int) - 1) = (((docW s (kindOf (cutW s))).length - 1 : Nat) : Int) := by (rw [wrap_in (by omega) (by omega)]; omega)
     have hl2 : ((((docW s (kindOf (cutW s))).length - 1 : Nat) : Int) < ((docW s (kindOf (cutW s))).length : Int)) = True := eq_true (by omega)
     have hl3 : ((docW s (kindOf (cutW s))).length - 1 < (docW s (kindOf (cutW s))).length) = True := eq_true (by omega)
     have hx2 := wC_at (w := docW s (kindOf (cutW s))) (i := (docW s (kindOf (cutW s))).length - 1) (by omega)
     have htx : (if kindOf (cutW s) < 3 then unqS (wAt (docW s (kindOf (cutW s))) ((docW s (kindOf (cutW s))).length - 1)) else ByteArray.empty) = unqS (wAt (docW s (kindOf (cutW s))) ((docW s (kindOf (cutW s))).length - 1)) := if_pos hk3
     have hg2 : docG2 (kindOf (cutW s)) (docW s (kindOf (cutW s))) = (unqL (wAt (docW s (kindOf (cutW s))) ((docW s (kindOf (cutW s))).length - 1)).data.toList).isSome := if_pos hk3
     have hwz := docW_sz s (kindOf (cutW s)) ((docW s (kindOf (cutW s))).length - 1)
     refine AWp_seqK fun Y0 y0 => ?_
     refine AWp_region ?_
     iterate 6 (refine aops_chunk 1 fun Q0 q0 => ?_; simp only [↓bO, go_sem, seval, hhw, hhp, ActT.cells, ActT.none, unqA, lineA, hw1, hl2, hl3, hx2]; refine q0 _ ?_; clear q0 Q0; simp only [go_sem])
     refine aops_chunk 1 fun Q0 q0 => ?_
     simp only [↓bO, go_sem, seval, hhw, hhp, ActT.cells, ActT.none, unqA, lineA, hw1, hl2, hl3, hx2]
     refine APure.call (RUnquote_pure (wAt (docW s (kindOf (cutW s))) ((docW s (kindOf (cutW s))).length - 1)) (by omega)) ?_
     try simp only [bS, bA, thenQ, blockQ, noGotoQ]
     refine q0 _ ?_
     clear q0 Q0
     simp only [go_sem]
     refine aops_chunk 1 fun Q0 q0 => ?_
     simp only [↓bO, go_sem, seval, hhw, hhp, ActT.cells, ActT.none, unqA, lineA, hw1, hl2, hl3, hx2]
     iterate 2 (refine q0 _ ?_; clear q0 Q0; simp only [go_sem]; refine aops_chunk 1 fun Q0 q0 => ?_; simp only [↓bO, go_sem, seval, aExtract_tup, hhw, hhp, ActT.cells, ActT.none, unqA, lineA, hw1, hl2, hl3, hx2])
     refine q0 _ ?_
     clear q0 Q0
     simp only [go_sem]
     refine aops_chunk 1 fun Q0 q0 => ?_
     simp only [↓bO, go_sem, seval, hhw, hhp, ActT.cells, ActT.none, unqA, lineA, hw1, hl2, hl3, hx2]
     refine q0 _ ?_
     clear q0 Q0
     simp only [go_sem]
     simp only [↓bO, go_sem, seval, hhw, hhp, ActT.cells, ActT.none, unqA, lineA, hw1, hl2, hl3, hx2]
     refine y0 _ ?_
     try clear y0 Y0
     refine AWp_region ?_
     iterate 4 (refine aops_chunk 1 fun Q0 q0 => ?_; simp only [↓bO, go_sem, seval, hhw, hhp, ActT.cells, ActT.none, unqA, lineA, hw1, hl2, hl3, hx2]; refine q0 _ ?_; clear q0 Q0; simp only [go_sem])
     simp only [↓bO, go_sem, seval, hhw, hhp, ActT.cells, ActT.none, unqA, lineA, hw1, hl2, hl3, hx2]
     try simp only [maskL, setsL, putsO, putO, mB, List.set_cons_zero, List.set_cons_succ, seval]
     rw [htx, hg2]
     exact Weak.mk (by simp only [go_sem, Le.refl, Le.any]) (fun _ _ h => h) rfl rfl
    ·
     have hk3 : ¬ kindOf (cutW s) < 3 := (by have h9 := hb90; simp at h9; omega)
     have htx : (if kindOf (cutW s) < 3 then unqS (wAt (docW s (kindOf (cutW s))) ((docW s (kindOf (cutW s))).length - 1)) else ByteArray.empty) = ByteArray.empty := if_neg hk3
     have hg2 : docG2 (kindOf (cutW s)) (docW s (kindOf (cutW s))) = true := if_neg hk3
     refine AWp_skip ?_
     try simp only [thenQ, blockQ, noGotoQ]
     try simp only [maskL, setsL, putsO, putO, mB, List.set_cons_zero, List.set_cons_succ, seval]
     rw [htx, hg2]
     exact Weak.mk (by simp only [go_sem, Le.refl, Le.any]) (fun _ _ h => h) rfl rfl
   simp only [maskL, setsL, putsO, putO, mB, List.set_cons_zero, List.set_cons_succ, seval]
   refine AWp_seqK fun Y0 y0 => ?_
   refine AWp_region ?_
   simp only [↓bO, go_sem, seval, hhw, hhp, ActT.cells, ActT.none, unqA, lineA]
   refine y0 _ ?_
   try clear y0 Y0
   refine AWp_seqK fun Y0 y0 => ?_
   refine AWp_region ?_
   refine aops_chunk 1 fun Q0 q0 => ?_
   simp only [↓bO, go_sem, seval, hhw, hhp, ActT.cells, ActT.none, unqA, lineA]
   refine q0 _ ?_
   clear q0 Q0
   simp only [go_sem]
   simp only [↓bO, go_sem, seval, hhw, hhp, ActT.cells, ActT.none, unqA, lineA]
   refine y0 _ ?_
   try clear y0 Y0
   refine AWp_joinM (mB 172 14708) ([(12, .v (.int .i64 ((nF (kindOf (cutW s)) : Nat) : Int))), (13, .v (.int .i64 ((nM (kindOf (cutW s)) : Nat) : Int)))]) ([]) ?_ ?_
   ·
    refine AWp_seqK fun Y0 y0 => ?_
    refine AWp_region ?_
    refine aops_chunk 1 fun Q0 q0 => ?_
    simp only [↓bO, go_sem, seval, hhw, hhp, ActT.cells, ActT.none, unqA, lineA]
    refine q0 _ ?_
    clear q0 Q0
    simp only [go_sem]
    simp only [↓bO, go_sem, seval, hhw, hhp, ActT.cells, ActT.none, unqA, lineA]
    refine y0 _ ?_
    try clear y0 Y0
    refine AWp_block ?_
    refine AWp_seqK fun Y0 y0 => ?_
    refine AWp_region ?_
    refine aops_chunk 1 fun Q0 q0 => ?_
    simp only [↓bO, go_sem, seval, hhw, hhp, ActT.cells, ActT.none, unqA, lineA]
    refine q0 _ ?_
    clear q0 Q0
    simp only [go_sem]
    simp only [↓bO, go_sem, seval, hhw, hhp, ActT.cells, ActT.none, unqA, lineA]
    refine y0 _ ?_
    try clear y0 Y0
    refine AWp_cond rfl (fun hb106 => ?_) (fun hb106 => ?_)
    ·
     have hk2 : kindOf (cutW s) = 2 := (by have h9 := hb106; simp at h9; omega)
     have hnf : nF (kindOf (cutW s)) = 2 := by (rw [hk2]; rfl)
     have hnm2 : nM (kindOf (cutW s)) = 2 := by (rw [hk2]; rfl)
     refine AWp_region ?_
     refine aops_chunk 1 fun Q0 q0 => ?_
     simp only [↓bO, go_sem, seval, hhw, hhp, ActT.cells, ActT.none, unqA, lineA]
     refine q0 _ ?_
     clear q0 Q0
     simp only [go_sem]
     simp only [↓bO, go_sem, seval, hhw, hhp, ActT.cells, ActT.none, unqA, lineA]
     try simp only [maskL, setsL, putsO, putO, mB, List.set_cons_zero, List.set_cons_succ, seval]
     rw [hnf, hnm2]
     exact Weak.mk (by simp only [go_sem, Le.refl, Le.any]) (fun _ _ h => h) rfl rfl
    ·
     have hk2 : ¬ kindOf (cutW s) = 2 := (by have h9 := hb106; simp at h9; omega)
     refine AWp_seqK fun Y0 y0 => ?_
     refine AWp_region ?_
     refine aops_chunk 1 fun Q0 q0 => ?_
     simp only [↓bO, go_sem, seval, hhw, hhp, ActT.cells, ActT.none, unqA, lineA]
     refine q0 _ ?_
     clear q0 Q0
     simp only [go_sem]
     simp only [↓bO, go_sem, seval, hhw, hhp, ActT.cells, ActT.none, unqA, lineA]
     refine y0 _ ?_
     try clear y0 Y0
     refine AWp_cond rfl (fun hb108 => ?_) (fun hb108 => ?_)
     ·
      have hk5 : kindOf (cutW s) = 5 := (by have h9 := hb108; simp at h9; omega)
      have hnf : nF (kindOf (cutW s)) = 2 := by (rw [hk5]; rfl)
      have hnm2 : nM (kindOf (cutW s)) = 1 := by (rw [hk5]; rfl)
      refine AWp_region ?_
      refine aops_chunk 1 fun Q0 q0 => ?_
      simp only [↓bO, go_sem, seval, hhw, hhp, ActT.cells, ActT.none, unqA, lineA]
      refine q0 _ ?_
      clear q0 Q0
      simp only [go_sem]
      simp only [↓bO, go_sem, seval, hhw, hhp, ActT.cells, ActT.none, unqA, lineA]
      try simp only [maskL, setsL, putsO, putO, mB, List.set_cons_zero, List.set_cons_succ, seval]
      rw [hnf, hnm2]
      exact Weak.mk (by simp only [go_sem, Le.refl, Le.any]) (fun _ _ h => h) rfl rfl
     ·
      have hk5 : ¬ kindOf (cutW s) = 5 := (by have h9 := hb108; simp at h9; omega)
      refine AWp_seqK fun Y0 y0 => ?_
      refine AWp_region ?_
      refine aops_chunk 1 fun Q0 q0 => ?_
      simp only [↓bO, go_sem, seval, hhw, hhp, ActT.cells, ActT.none, unqA, lineA]
      refine q0 _ ?_
      clear q0 Q0
      simp only [go_sem]
      simp only [↓bO, go_sem, seval, hhw, hhp, ActT.cells, ActT.none, unqA, lineA]
      refine y0 _ ?_
      try clear y0 Y0
      refine AWp_cond rfl (fun hb110 => ?_) (fun hb110 => ?_)
      ·
       have hk6 : kindOf (cutW s) = 6 := (by have h9 := hb110; simp at h9; omega)
       have hnf : nF (kindOf (cutW s)) = 1 := by (rw [hk6]; rfl)
       have hnm2 : nM (kindOf (cutW s)) = 3 := by (rw [hk6]; rfl)
       refine AWp_region ?_
       refine aops_chunk 1 fun Q0 q0 => ?_
       simp only [↓bO, go_sem, seval, hhw, hhp, ActT.cells, ActT.none, unqA, lineA]
       refine q0 _ ?_
       clear q0 Q0
       simp only [go_sem]
       simp only [↓bO, go_sem, seval, hhw, hhp, ActT.cells, ActT.none, unqA, lineA]
       try simp only [maskL, setsL, putsO, putO, mB, List.set_cons_zero, List.set_cons_succ, seval]
       rw [hnf, hnm2]
       exact Weak.mk (by simp only [go_sem, Le.refl, Le.any]) (fun _ _ h => h) rfl rfl
      ·
       have hk6 : ¬ kindOf (cutW s) = 6 := (by have h9 := hb110; simp at h9; omega)
       have hnf : nF (kindOf (cutW s)) = 0 := by (unfold nF; rw [if_neg hk2, if_neg hk5, if_neg hk6])
       have hnm2 : nM (kindOf (cutW s)) = 0 := by (unfold nM; rw [if_neg hk2, if_neg hk5, if_neg hk6])
       refine AWp_skip ?_
       try simp only [thenQ, blockQ, noGotoQ]
       try simp only [maskL, setsL, putsO, putO, mB, List.set_cons_zero, List.set_cons_succ, seval]
       rw [hnf, hnm2]
       exact Weak.mk (by simp only [go_sem, Le.refl, Le.any]) (fun _ _ h => h) rfl rfl
   simp only [maskL, setsL, putsO, putO, mB, List.set_cons_zero, List.set_cons_succ, seval]
   have hnb : nM (kindOf (cutW s)) ≤ 3 ∧ (0 < nM (kindOf (cutW s)) → kindOf (cutW s) ≠ 7 ∧ nF (kindOf (cutW s)) + nM (kindOf (cutW s)) ≤ (docW s (kindOf (cutW s))).length) := by (rcases hkk with h | h | h | h | h | h | h <;> rw [h] at hlen ⊢ <;> simp only [nM, nF, Int.reduceEq, ↓reduceIte] <;> (first | omega | (have h8 := hlen (by decide); refine ⟨by decide, fun _ => ⟨by decide, ?_⟩⟩; rw [h] at *; have := h8.2.2.1; have := h8.2.2.2.1; have := h8.2.2.2.2.1; omega)))
   generalize hNF : nF (kindOf (cutW s)) = f at *
   generalize hNM : nM (kindOf (cutW s)) = m at *
   refine AWp_seqK fun Y0 y0 => ?_
   refine AWp_seqK fun Y1 y1 => ?_
   refine AWp_region ?_
   simp only [↓bO, go_sem, seval, hhw, hhp, ActT.cells, ActT.none, unqA, lineA]
   refine y1 _ ?_
   try clear y1 Y1
   refine AWp_block ?_
   refine AWp_loopM (σ := Nat) (mB 172 31092) (fun i => i ≤ m) (fun i => [(14, .v (.int .i64 (i : Int))), (6, .v (.bool (nO (docW s (kindOf (cutW s))) f (docG2 (kindOf (cutW s)) (docW s (kindOf (cutW s)))) i)))]) (fun i => [(4, .cells 67 [.v (.int .i64 (nV (docW s (kindOf (cutW s))) f (i) 0)), .v (.int .i64 (nV (docW s (kindOf (cutW s))) f (i) 1)), .v (.int .i64 (nV (docW s (kindOf (cutW s))) f (i) 2))])]) (fun i => m - i) 0 ((by omega)) ?_ (fun i hi => ?_)
   ·
    try simp only [maskL, setsL, putsO, putO, mB, List.set_cons_zero, List.set_cons_succ, seval, nV, nO, Int.natCast_zero, Nat.not_lt_zero]
    exact Weak.mk (by simp only [go_sem, Le.refl, Le.any, Le.slNil, Int.natCast_add, Int.cast_ofNat_Int, Int.natCast_one]) (fun _ _ h => h) rfl rfl
   simp only [maskL, setsL, putsO, putO, mB, List.set_cons_zero, List.set_cons_succ, seval]
   have hw0 : IntKind.i64.wrap ((i : Int) + 1) = ((i + 1 : Nat) : Int) := by (rw [wrap_in (by omega) (by omega)]; omega)
   refine AWp_seqK fun Y1 y1 => ?_
   refine AWp_seqK fun Y2 y2 => ?_
   refine AWp_region ?_
   iterate 2 (refine aops_chunk 1 fun Q0 q0 => ?_; simp only [↓bO, go_sem, seval, hhw, hhp, ActT.cells, ActT.none, unqA, lineA, hw0]; refine q0 _ ?_; clear q0 Q0; simp only [go_sem])
   simp only [↓bO, go_sem, seval, hhw, hhp, ActT.cells, ActT.none, unqA, lineA, hw0]
   refine y2 _ ?_
   try clear y2 Y2
   refine AWp_cond rfl (fun hb114 => ?_) (fun hb114 => ?_)
   ·
    have hlt : i < m := (by have h9 := hb114; simpa using h9)
    have hfm := hnb.2 (by omega)
    have hl9 := (hlen hfm.1).2.2.2.2.2
    have hi3 : i = 0 ∨ i = 1 ∨ i = 2 := by omega
    have hw2 : IntKind.i64.wrap ((f : Int) + (i : Int)) = ((f + i : Nat) : Int) := by (rw [wrap_in (by omega) (by omega)]; omega)
    have hl4 : (((f + i : Nat) : Int) < ((docW s (kindOf (cutW s))).length : Int)) = True := eq_true (by omega)
    have hl5 : (f + i < (docW s (kindOf (cutW s))).length) = True := eq_true (by omega)
    have hx3 := wC_at (w := docW s (kindOf (cutW s))) (i := f + i) (by omega)
    have hwz := docW_sz s (kindOf (cutW s)) (f + i)
    have hl6 : ((i : Int) < 3) = True := eq_true (by omega)
    have hl7 : (i + 1 ≤ 3) = True := eq_true (by omega)
    have hl8 : (i < 3) = True := eq_true (by omega)
    refine AWp_skip ?_
    try simp only [thenQ, blockQ, noGotoQ]
    refine y1 _ ?_
    try clear y1 Y1
    refine AWp_seqK fun Y1 y1 => ?_
    refine AWp_block ?_
    refine AWp_seqK fun Y2 y2 => ?_
    refine AWp_region ?_
    iterate 6 (refine aops_chunk 1 fun Q0 q0 => ?_; simp only [↓bO, go_sem, seval, hhw, hhp, ActT.cells, ActT.none, unqA, lineA, hw0, hw2, hl4, hl5, hx3, hl6, hl7, hl8]; refine q0 _ ?_; clear q0 Q0; simp only [go_sem])
    refine aops_chunk 1 fun Q0 q0 => ?_
    simp only [↓bO, go_sem, seval, hhw, hhp, ActT.cells, ActT.none, unqA, lineA, hw0, hw2, hl4, hl5, hx3, hl6, hl7, hl8]
    refine APure.call (RNum_pure (wAt (docW s (kindOf (cutW s))) (f + i)) (by omega)) ?_
    try simp only [bS, bA, thenQ, blockQ, noGotoQ]
    refine q0 _ ?_
    clear q0 Q0
    simp only [go_sem]
    refine aops_chunk 1 fun Q0 q0 => ?_
    simp only [↓bO, go_sem, seval, hhw, hhp, ActT.cells, ActT.none, unqA, lineA, hw0, hw2, hl4, hl5, hx3, hl6, hl7, hl8]
    iterate 2 (refine q0 _ ?_; clear q0 Q0; simp only [go_sem]; refine aops_chunk 1 fun Q0 q0 => ?_; simp only [↓bO, go_sem, seval, aExtract_tup, hhw, hhp, ActT.cells, ActT.none, unqA, lineA, hw0, hw2, hl4, hl5, hx3, hl6, hl7, hl8])
    refine q0 _ ?_
    clear q0 Q0
    simp only [go_sem]
    refine aops_chunk 1 fun Q0 q0 => ?_
    simp only [↓bO, go_sem, seval, hhw, hhp, ActT.cells, ActT.none, unqA, lineA, hw0, hw2, hl4, hl5, hx3, hl6, hl7, hl8]
    refine q0 _ ?_
    clear q0 Q0
    simp only [go_sem]
    simp only [↓bO, go_sem, seval, hhw, hhp, ActT.cells, ActT.none, unqA, lineA, hw0, hw2, hl4, hl5, hx3, hl6, hl7, hl8]
    refine y2 _ ?_
    try clear y2 Y2
    refine AWp_region ?_
    iterate 4 (refine aops_chunk 1 fun Q0 q0 => ?_; simp only [↓bO, go_sem, seval, hhw, hhp, ActT.cells, ActT.none, unqA, lineA, hw0, hw2, hl4, hl5, hx3, hl6, hl7, hl8]; refine q0 _ ?_; clear q0 Q0; simp only [go_sem])
    refine aops_case 130 rfl (fun hc130 => ?_) (fun hc130 => ?_)
    ·
     simp only [List.set_cons_zero, List.set_cons_succ]
     iterate 4 (refine aops_chunk 1 fun Q0 q0 => ?_; simp only [↓bO, go_sem, seval, hhw, hhp, ActT.cells, ActT.none, unqA, lineA, hw0, hw2, hl4, hl5, hx3, hl6, hl7, hl8]; refine q0 _ ?_; clear q0 Q0; simp only [go_sem])
     simp only [↓bO, go_sem, seval, hhw, hhp, ActT.cells, ActT.none, unqA, lineA, hw0, hw2, hl4, hl5, hx3, hl6, hl7, hl8]
     refine y1 _ ?_
     try clear y1 Y1
     refine AWp_region ?_
     iterate 2 (refine aops_chunk 1 fun Q0 q0 => ?_; simp only [↓bO, go_sem, seval, hhw, hhp, ActT.cells, ActT.none, unqA, lineA, hw0, hw2, hl4, hl5, hx3, hl6, hl7, hl8]; refine q0 _ ?_; clear q0 Q0; simp only [go_sem])
     simp only [↓bO, go_sem, seval, hhw, hhp, ActT.cells, ActT.none, unqA, lineA, hw0, hw2, hl4, hl5, hx3, hl6, hl7, hl8]
     refine ⟨(i + 1), (by omega), (by omega), ?_⟩
     try simp only [maskL, setsL, putsO, putO, mB, List.set_cons_zero, List.set_cons_succ, seval, mB, seval, hw0]
     have hnu : (nuR (tb (wAt (docW s (kindOf (cutW s))) (f + i)))) = nuR ((docW s (kindOf (cutW s))).getD (f + i) []) := rfl
     have hno2 : ∀ i, nO (docW s (kindOf (cutW s))) f (docG2 (kindOf (cutW s)) (docW s (kindOf (cutW s)))) (i + 1) = (nO (docW s (kindOf (cutW s))) f (docG2 (kindOf (cutW s)) (docW s (kindOf (cutW s)))) i && (nuR ((docW s (kindOf (cutW s))).getD (f + i) [])).2) := fun i => rfl
     try simp only [hno2, hc130, hnu]
     rcases hi3 with rfl | rfl | rfl
     all_goals (simp only [nV, hno2, hc130, Bool.true_and, Bool.false_and, go_sem, seval]; try exact Weak.mk (by simp only [go_sem, Le.refl, Le.any]) (fun _ _ h => h) rfl rfl)
    ·
     simp only [List.set_cons_zero, List.set_cons_succ]
     iterate 4 (refine aops_chunk 1 fun Q0 q0 => ?_; simp only [↓bO, go_sem, seval, hhw, hhp, ActT.cells, ActT.none, unqA, lineA, hw0, hw2, hl4, hl5, hx3, hl6, hl7, hl8]; refine q0 _ ?_; clear q0 Q0; simp only [go_sem])
     simp only [↓bO, go_sem, seval, hhw, hhp, ActT.cells, ActT.none, unqA, lineA, hw0, hw2, hl4, hl5, hx3, hl6, hl7, hl8]
     refine y1 _ ?_
     try clear y1 Y1
     refine AWp_region ?_
     iterate 2 (refine aops_chunk 1 fun Q0 q0 => ?_; simp only [↓bO, go_sem, seval, hhw, hhp, ActT.cells, ActT.none, unqA, lineA, hw0, hw2, hl4, hl5, hx3, hl6, hl7, hl8]; refine q0 _ ?_; clear q0 Q0; simp only [go_sem])
     simp only [↓bO, go_sem, seval, hhw, hhp, ActT.cells, ActT.none, unqA, lineA, hw0, hw2, hl4, hl5, hx3, hl6, hl7, hl8]
     refine ⟨(i + 1), (by omega), (by omega), ?_⟩
     try simp only [maskL, setsL, putsO, putO, mB, List.set_cons_zero, List.set_cons_succ, seval, mB, seval, hw0]
     have hnu : (nuR (tb (wAt (docW s (kindOf (cutW s))) (f + i)))) = nuR ((docW s (kindOf (cutW s))).getD (f + i) []) := rfl
     have hno2 : ∀ i, nO (docW s (kindOf (cutW s))) f (docG2 (kindOf (cutW s)) (docW s (kindOf (cutW s)))) (i + 1) = (nO (docW s (kindOf (cutW s))) f (docG2 (kindOf (cutW s)) (docW s (kindOf (cutW s)))) i && (nuR ((docW s (kindOf (cutW s))).getD (f + i) [])).2) := fun i => rfl
     try simp only [hno2, hc130, hnu]
     rcases hi3 with rfl | rfl | rfl
     all_goals (simp only [nV, hno2, hc130, Bool.true_and, Bool.false_and, go_sem, seval]; try exact Weak.mk (by simp only [go_sem, Le.refl, Le.any]) (fun _ _ h => h) rfl rfl)
   ·
    have hge : ¬ i < m := (by have h9 := hb114; simpa using h9)
    obtain rfl : i = m := by omega
    subst hNF hNM
    have hno1 := nO_all hkn (docW s (kindOf (cutW s)))
    simp only [hno1]
    refine AWp_exit ?_
    simp only [thenQ, blockQ, noGotoQ, bA, Nat.reduceEqDiff, ↓reduceIte]
    refine y0 _ ?_
    try clear y0 Y0
    refine AWp_joinM (mB 172 116) ([]) ([(2, .cells 30 (docQ (kindOf (cutW s)) (docW s (kindOf (cutW s)))).cells)]) ?_ ?_
    ·
     refine AWp_seqK fun Y0 y0 => ?_
     refine AWp_region ?_
     refine aops_chunk 1 fun Q0 q0 => ?_
     simp only [↓bO, go_sem, seval, hhw, hhp, ActT.cells, ActT.none, unqA, lineA]
     refine q0 _ ?_
     clear q0 Q0
     simp only [go_sem]
     simp only [↓bO, go_sem, seval, hhw, hhp, ActT.cells, ActT.none, unqA, lineA]
     refine y0 _ ?_
     try clear y0 Y0
     refine AWp_block ?_
     refine AWp_seqK fun Y0 y0 => ?_
     refine AWp_region ?_
     refine aops_chunk 1 fun Q0 q0 => ?_
     simp only [↓bO, go_sem, seval, hhw, hhp, ActT.cells, ActT.none, unqA, lineA]
     refine q0 _ ?_
     clear q0 Q0
     simp only [go_sem]
     simp only [↓bO, go_sem, seval, hhw, hhp, ActT.cells, ActT.none, unqA, lineA]
     refine y0 _ ?_
     try clear y0 Y0
     refine AWp_cond rfl (fun hb136 => ?_) (fun hb136 => ?_)
     ·
      have hq2 : kindOf (cutW s) = 2 := (by have h9 := hb136; simp at h9; omega)
      have hQ : (docQ (kindOf (cutW s)) (docW s (kindOf (cutW s)))).cells = [.v (.int .i64 (kindOf (cutW s))), .v (.string (if kindOf (cutW s) < 6 then wAt (docW s (kindOf (cutW s))) 1 else ByteArray.empty)), .v (.int .i64 (nV (docW s (kindOf (cutW s))) (nF (kindOf (cutW s))) (nM (kindOf (cutW s))) 0)), .v (.int .i64 (nV (docW s (kindOf (cutW s))) (nF (kindOf (cutW s))) (nM (kindOf (cutW s))) 1)), .v (.string (if kindOf (cutW s) < 3 then unqS (wAt (docW s (kindOf (cutW s))) ((docW s (kindOf (cutW s))).length - 1)) else ByteArray.empty)), .v (.int .i64 (0)), .v (.int .i64 (0)), .v (.int .i64 (0)), .v (.int .i64 (0))] := by (simp only [docQ, ActT.cells, if_pos hq2, if_neg (show ¬ kindOf (cutW s) = 5 by omega), if_neg (show ¬ kindOf (cutW s) = 6 by omega)]; simp only [nV, nF, nM, if_pos hq2]; rfl)
      refine AAny_start [] 8 rfl mixed (trivial) rfl ?_
      dsimp only
      refine AAny_all2 (i := 0) (j := 2) (by kernel_rfl) ?_ ?_
      ·
       refine aAt_op rfl rfl fun Q0 q0 => ?_
       simp only [↓bO, go_sem, seval, hhw, hhp, ActT.cells, ActT.none, unqA, lineA]
       refine q0 _ ⟨trivial, ?_⟩
       clear q0 Q0
       refine AAny_all2 (i := 1) (j := 2) (by kernel_rfl) ?_ ?_
       ·
        refine aAt_op rfl rfl fun Q0 q0 => ?_
        simp only [↓bO, go_sem, seval, hhw, hhp, ActT.cells, ActT.none, unqA, lineA]
        refine q0 _ ⟨trivial, ?_⟩
        clear q0 Q0
        refine AAny_takeK 4 rfl (by kernel_rfl) (by kernel_rfl) (by kernel_rfl) (fun _ _ h => h) fun Q0 q0 => ?_
        simp only [↓bO, go_sem, seval, hhw, hhp, ActT.cells, ActT.none, unqA, lineA]
        refine q0 _ ?_
        clear q0 Q0
        refine AAny_all2 (i := 2) (j := 5) (by kernel_rfl) ?_ ?_
        ·
         refine aAt_op rfl rfl fun Q0 q0 => ?_
         simp only [↓bO, go_sem, seval, hhw, hhp, ActT.cells, ActT.none, unqA, lineA]
         refine q0 _ ⟨trivial, ?_⟩
         clear q0 Q0
         refine AAny_all2 (i := 3) (j := 5) (by kernel_rfl) ?_ ?_
         ·
          refine aAt_op rfl rfl fun Q0 q0 => ?_
          simp only [↓bO, go_sem, seval, hhw, hhp, ActT.cells, ActT.none, unqA, lineA]
          refine q0 _ ⟨trivial, ?_⟩
          clear q0 Q0
          refine AAny_all1 (i := 5) (by kernel_rfl) ?_
          ·
           refine aAt_op rfl rfl fun Q0 q0 => ?_
           simp only [↓bO, go_sem, seval, hhw, hhp, ActT.cells, ActT.none, unqA, lineA]
           refine q0 _ ⟨trivial, ?_⟩
           clear q0 Q0
           refine AAny_takeK 6 rfl (by kernel_rfl) (by kernel_rfl) (by kernel_rfl) (fun _ _ h => h) fun Q0 q0 => ?_
           simp only [↓bO, go_sem, seval, hhw, hhp, ActT.cells, ActT.none, unqA, lineA]
           refine q0 _ ?_
           clear q0 Q0
           refine AAny_all1 (i := 7) (by kernel_rfl) ?_
           ·
            refine aAt_op rfl rfl fun Q0 q0 => ?_
            simp only [↓bO, go_sem, seval, hhw, hhp, ActT.cells, ActT.none, unqA, lineA]
            refine q0 _ ⟨trivial, ?_⟩
            clear q0 Q0
            refine AAny_done (by kernel_rfl) ?_
            simp only [thenQ, blockQ, noGotoQ]
            try simp only [maskL, setsL, putsO, putO, mB, List.set_cons_zero, List.set_cons_succ, seval]
            first | rw [hQ] | simp only [docQ, nV, nF, nM, hqq, Int.reduceEq, Nat.reduceLT, ↓reduceIte]
            exact Weak.mk (by simp only [go_sem, Le.refl, Le.any]) (fun _ _ h => h) rfl rfl
         ·
          refine aAt_op rfl rfl fun Q0 q0 => ?_
          simp only [↓bO, go_sem, seval, hhw, hhp, ActT.cells, ActT.none, unqA, lineA]
          refine q0 _ ⟨trivial, ?_⟩
          clear q0 Q0
          refine AAny_all1 (i := 3) (by kernel_rfl) ?_
          ·
           refine aAt_op rfl rfl fun Q0 q0 => ?_
           simp only [↓bO, go_sem, seval, hhw, hhp, ActT.cells, ActT.none, unqA, lineA]
           refine q0 _ ⟨trivial, ?_⟩
           clear q0 Q0
           refine AAny_takeK 6 rfl (by kernel_rfl) (by kernel_rfl) (by kernel_rfl) (fun _ _ h => h) fun Q0 q0 => ?_
           simp only [↓bO, go_sem, seval, hhw, hhp, ActT.cells, ActT.none, unqA, lineA]
           refine q0 _ ?_
           clear q0 Q0
           refine AAny_all1 (i := 7) (by kernel_rfl) ?_
           ·
            refine aAt_op rfl rfl fun Q0 q0 => ?_
            simp only [↓bO, go_sem, seval, hhw, hhp, ActT.cells, ActT.none, unqA, lineA]
            refine q0 _ ⟨trivial, ?_⟩
            clear q0 Q0
            refine AAny_done (by kernel_rfl) ?_
            simp only [thenQ, blockQ, noGotoQ]
            try simp only [maskL, setsL, putsO, putO, mB, List.set_cons_zero, List.set_cons_succ, seval]
            first | rw [hQ] | simp only [docQ, nV, nF, nM, hqq, Int.reduceEq, Nat.reduceLT, ↓reduceIte]
            exact Weak.mk (by simp only [go_sem, Le.refl, Le.any]) (fun _ _ h => h) rfl rfl
        ·
         refine aAt_op rfl rfl fun Q0 q0 => ?_
         simp only [↓bO, go_sem, seval, hhw, hhp, ActT.cells, ActT.none, unqA, lineA]
         refine q0 _ ⟨trivial, ?_⟩
         clear q0 Q0
         refine AAny_all1 (i := 2) (by kernel_rfl) ?_
         ·
          refine aAt_op rfl rfl fun Q0 q0 => ?_
          simp only [↓bO, go_sem, seval, hhw, hhp, ActT.cells, ActT.none, unqA, lineA]
          refine q0 _ ⟨trivial, ?_⟩
          clear q0 Q0
          refine AAny_all1 (i := 3) (by kernel_rfl) ?_
          ·
           refine aAt_op rfl rfl fun Q0 q0 => ?_
           simp only [↓bO, go_sem, seval, hhw, hhp, ActT.cells, ActT.none, unqA, lineA]
           refine q0 _ ⟨trivial, ?_⟩
           clear q0 Q0
           refine AAny_takeK 6 rfl (by kernel_rfl) (by kernel_rfl) (by kernel_rfl) (fun _ _ h => h) fun Q0 q0 => ?_
           simp only [↓bO, go_sem, seval, hhw, hhp, ActT.cells, ActT.none, unqA, lineA]
           refine q0 _ ?_
           clear q0 Q0
           refine AAny_all1 (i := 7) (by kernel_rfl) ?_
           ·
            refine aAt_op rfl rfl fun Q0 q0 => ?_
            simp only [↓bO, go_sem, seval, hhw, hhp, ActT.cells, ActT.none, unqA, lineA]
            refine q0 _ ⟨trivial, ?_⟩
            clear q0 Q0
            refine AAny_done (by kernel_rfl) ?_
            simp only [thenQ, blockQ, noGotoQ]
            try simp only [maskL, setsL, putsO, putO, mB, List.set_cons_zero, List.set_cons_succ, seval]
            first | rw [hQ] | simp only [docQ, nV, nF, nM, hqq, Int.reduceEq, Nat.reduceLT, ↓reduceIte]
            exact Weak.mk (by simp only [go_sem, Le.refl, Le.any]) (fun _ _ h => h) rfl rfl
       ·
        refine aAt_op rfl rfl fun Q0 q0 => ?_
        simp only [↓bO, go_sem, seval, hhw, hhp, ActT.cells, ActT.none, unqA, lineA]
        refine q0 _ ⟨trivial, ?_⟩
        clear q0 Q0
        refine AAny_all2 (i := 1) (j := 3) (by kernel_rfl) ?_ ?_
        ·
         refine aAt_op rfl rfl fun Q0 q0 => ?_
         simp only [↓bO, go_sem, seval, hhw, hhp, ActT.cells, ActT.none, unqA, lineA]
         refine q0 _ ⟨trivial, ?_⟩
         clear q0 Q0
         refine AAny_takeK 4 rfl (by kernel_rfl) (by kernel_rfl) (by kernel_rfl) (fun _ _ h => h) fun Q0 q0 => ?_
         simp only [↓bO, go_sem, seval, hhw, hhp, ActT.cells, ActT.none, unqA, lineA]
         refine q0 _ ?_
         clear q0 Q0
         refine AAny_all2 (i := 3) (j := 5) (by kernel_rfl) ?_ ?_
         ·
          refine aAt_op rfl rfl fun Q0 q0 => ?_
          simp only [↓bO, go_sem, seval, hhw, hhp, ActT.cells, ActT.none, unqA, lineA]
          refine q0 _ ⟨trivial, ?_⟩
          clear q0 Q0
          refine AAny_all1 (i := 5) (by kernel_rfl) ?_
          ·
           refine aAt_op rfl rfl fun Q0 q0 => ?_
           simp only [↓bO, go_sem, seval, hhw, hhp, ActT.cells, ActT.none, unqA, lineA]
           refine q0 _ ⟨trivial, ?_⟩
           clear q0 Q0
           refine AAny_takeK 6 rfl (by kernel_rfl) (by kernel_rfl) (by kernel_rfl) (fun _ _ h => h) fun Q0 q0 => ?_
           simp only [↓bO, go_sem, seval, hhw, hhp, ActT.cells, ActT.none, unqA, lineA]
           refine q0 _ ?_
           clear q0 Q0
           refine AAny_all1 (i := 7) (by kernel_rfl) ?_
           ·
            refine aAt_op rfl rfl fun Q0 q0 => ?_
            simp only [↓bO, go_sem, seval, hhw, hhp, ActT.cells, ActT.none, unqA, lineA]
            refine q0 _ ⟨trivial, ?_⟩
            clear q0 Q0
            refine AAny_done (by kernel_rfl) ?_
            simp only [thenQ, blockQ, noGotoQ]
            try simp only [maskL, setsL, putsO, putO, mB, List.set_cons_zero, List.set_cons_succ, seval]
            first | rw [hQ] | simp only [docQ, nV, nF, nM, hqq, Int.reduceEq, Nat.reduceLT, ↓reduceIte]
            exact Weak.mk (by simp only [go_sem, Le.refl, Le.any]) (fun _ _ h => h) rfl rfl
         ·
          refine aAt_op rfl rfl fun Q0 q0 => ?_
          simp only [↓bO, go_sem, seval, hhw, hhp, ActT.cells, ActT.none, unqA, lineA]
          refine q0 _ ⟨trivial, ?_⟩
          clear q0 Q0
          refine AAny_all1 (i := 3) (by kernel_rfl) ?_
          ·
           refine aAt_op rfl rfl fun Q0 q0 => ?_
           simp only [↓bO, go_sem, seval, hhw, hhp, ActT.cells, ActT.none, unqA, lineA]
           refine q0 _ ⟨trivial, ?_⟩
           clear q0 Q0
           refine AAny_takeK 6 rfl (by kernel_rfl) (by kernel_rfl) (by kernel_rfl) (fun _ _ h => h) fun Q0 q0 => ?_
           simp only [↓bO, go_sem, seval, hhw, hhp, ActT.cells, ActT.none, unqA, lineA]
           refine q0 _ ?_
           clear q0 Q0
           refine AAny_all1 (i := 7) (by kernel_rfl) ?_
           ·
            refine aAt_op rfl rfl fun Q0 q0 => ?_
            simp only [↓bO, go_sem, seval, hhw, hhp, ActT.cells, ActT.none, unqA, lineA]
            refine q0 _ ⟨trivial, ?_⟩
            clear q0 Q0
            refine AAny_done (by kernel_rfl) ?_
            simp only [thenQ, blockQ, noGotoQ]
            try simp only [maskL, setsL, putsO, putO, mB, List.set_cons_zero, List.set_cons_succ, seval]
            first | rw [hQ] | simp only [docQ, nV, nF, nM, hqq, Int.reduceEq, Nat.reduceLT, ↓reduceIte]
            exact Weak.mk (by simp only [go_sem, Le.refl, Le.any]) (fun _ _ h => h) rfl rfl
        ·
         refine aAt_op rfl rfl fun Q0 q0 => ?_
         simp only [↓bO, go_sem, seval, hhw, hhp, ActT.cells, ActT.none, unqA, lineA]
         refine q0 _ ⟨trivial, ?_⟩
         clear q0 Q0
         refine AAny_all1 (i := 1) (by kernel_rfl) ?_
         ·
          refine aAt_op rfl rfl fun Q0 q0 => ?_
          simp only [↓bO, go_sem, seval, hhw, hhp, ActT.cells, ActT.none, unqA, lineA]
          refine q0 _ ⟨trivial, ?_⟩
          clear q0 Q0
          refine AAny_takeK 4 rfl (by kernel_rfl) (by kernel_rfl) (by kernel_rfl) (fun _ _ h => h) fun Q0 q0 => ?_
          simp only [↓bO, go_sem, seval, hhw, hhp, ActT.cells, ActT.none, unqA, lineA]
          refine q0 _ ?_
          clear q0 Q0
          refine AAny_all1 (i := 5) (by kernel_rfl) ?_
          ·
           refine aAt_op rfl rfl fun Q0 q0 => ?_
           simp only [↓bO, go_sem, seval, hhw, hhp, ActT.cells, ActT.none, unqA, lineA]
           refine q0 _ ⟨trivial, ?_⟩
           clear q0 Q0
           refine AAny_takeK 6 rfl (by kernel_rfl) (by kernel_rfl) (by kernel_rfl) (fun _ _ h => h) fun Q0 q0 => ?_
           simp only [↓bO, go_sem, seval, hhw, hhp, ActT.cells, ActT.none, unqA, lineA]
           refine q0 _ ?_
           clear q0 Q0
           refine AAny_all1 (i := 7) (by kernel_rfl) ?_
           ·
            refine aAt_op rfl rfl fun Q0 q0 => ?_
            simp only [↓bO, go_sem, seval, hhw, hhp, ActT.cells, ActT.none, unqA, lineA]
            refine q0 _ ⟨trivial, ?_⟩
            clear q0 Q0
            refine AAny_done (by kernel_rfl) ?_
            simp only [thenQ, blockQ, noGotoQ]
            try simp only [maskL, setsL, putsO, putO, mB, List.set_cons_zero, List.set_cons_succ, seval]
            first | rw [hQ] | simp only [docQ, nV, nF, nM, hqq, Int.reduceEq, Nat.reduceLT, ↓reduceIte]
            exact Weak.mk (by simp only [go_sem, Le.refl, Le.any]) (fun _ _ h => h) rfl rfl
      ·
       refine aAt_op rfl rfl fun Q0 q0 => ?_
       simp only [↓bO, go_sem, seval, hhw, hhp, ActT.cells, ActT.none, unqA, lineA]
       refine q0 _ ⟨trivial, ?_⟩
       clear q0 Q0
       refine AAny_all2 (i := 0) (j := 3) (by kernel_rfl) ?_ ?_
       ·
        refine aAt_op rfl rfl fun Q0 q0 => ?_
        simp only [↓bO, go_sem, seval, hhw, hhp, ActT.cells, ActT.none, unqA, lineA]
        refine q0 _ ⟨trivial, ?_⟩
        clear q0 Q0
        refine AAny_all2 (i := 1) (j := 3) (by kernel_rfl) ?_ ?_
        ·
         refine aAt_op rfl rfl fun Q0 q0 => ?_
         simp only [↓bO, go_sem, seval, hhw, hhp, ActT.cells, ActT.none, unqA, lineA]
         refine q0 _ ⟨trivial, ?_⟩
         clear q0 Q0
         refine AAny_takeK 4 rfl (by kernel_rfl) (by kernel_rfl) (by kernel_rfl) (fun _ _ h => h) fun Q0 q0 => ?_
         simp only [↓bO, go_sem, seval, hhw, hhp, ActT.cells, ActT.none, unqA, lineA]
         refine q0 _ ?_
         clear q0 Q0
         refine AAny_all2 (i := 3) (j := 5) (by kernel_rfl) ?_ ?_
         ·
          refine aAt_op rfl rfl fun Q0 q0 => ?_
          simp only [↓bO, go_sem, seval, hhw, hhp, ActT.cells, ActT.none, unqA, lineA]
          refine q0 _ ⟨trivial, ?_⟩
          clear q0 Q0
          refine AAny_all1 (i := 5) (by kernel_rfl) ?_
          ·
           refine aAt_op rfl rfl fun Q0 q0 => ?_
           simp only [↓bO, go_sem, seval, hhw, hhp, ActT.cells, ActT.none, unqA, lineA]
           refine q0 _ ⟨trivial, ?_⟩
           clear q0 Q0
           refine AAny_takeK 6 rfl (by kernel_rfl) (by kernel_rfl) (by kernel_rfl) (fun _ _ h => h) fun Q0 q0 => ?_
           simp only [↓bO, go_sem, seval, hhw, hhp, ActT.cells, ActT.none, unqA, lineA]
           refine q0 _ ?_
           clear q0 Q0
           refine AAny_all1 (i := 7) (by kernel_rfl) ?_
           ·
            refine aAt_op rfl rfl fun Q0 q0 => ?_
            simp only [↓bO, go_sem, seval, hhw, hhp, ActT.cells, ActT.none, unqA, lineA]
            refine q0 _ ⟨trivial, ?_⟩
            clear q0 Q0
            refine AAny_done (by kernel_rfl) ?_
            simp only [thenQ, blockQ, noGotoQ]
            try simp only [maskL, setsL, putsO, putO, mB, List.set_cons_zero, List.set_cons_succ, seval]
            first | rw [hQ] | simp only [docQ, nV, nF, nM, hqq, Int.reduceEq, Nat.reduceLT, ↓reduceIte]
            exact Weak.mk (by simp only [go_sem, Le.refl, Le.any]) (fun _ _ h => h) rfl rfl
         ·
          refine aAt_op rfl rfl fun Q0 q0 => ?_
          simp only [↓bO, go_sem, seval, hhw, hhp, ActT.cells, ActT.none, unqA, lineA]
          refine q0 _ ⟨trivial, ?_⟩
          clear q0 Q0
          refine AAny_all1 (i := 3) (by kernel_rfl) ?_
          ·
           refine aAt_op rfl rfl fun Q0 q0 => ?_
           simp only [↓bO, go_sem, seval, hhw, hhp, ActT.cells, ActT.none, unqA, lineA]
           refine q0 _ ⟨trivial, ?_⟩
           clear q0 Q0
           refine AAny_takeK 6 rfl (by kernel_rfl) (by kernel_rfl) (by kernel_rfl) (fun _ _ h => h) fun Q0 q0 => ?_
           simp only [↓bO, go_sem, seval, hhw, hhp, ActT.cells, ActT.none, unqA, lineA]
           refine q0 _ ?_
           clear q0 Q0
           refine AAny_all1 (i := 7) (by kernel_rfl) ?_
           ·
            refine aAt_op rfl rfl fun Q0 q0 => ?_
            simp only [↓bO, go_sem, seval, hhw, hhp, ActT.cells, ActT.none, unqA, lineA]
            refine q0 _ ⟨trivial, ?_⟩
            clear q0 Q0
            refine AAny_done (by kernel_rfl) ?_
            simp only [thenQ, blockQ, noGotoQ]
            try simp only [maskL, setsL, putsO, putO, mB, List.set_cons_zero, List.set_cons_succ, seval]
            first | rw [hQ] | simp only [docQ, nV, nF, nM, hqq, Int.reduceEq, Nat.reduceLT, ↓reduceIte]
            exact Weak.mk (by simp only [go_sem, Le.refl, Le.any]) (fun _ _ h => h) rfl rfl
        ·
         refine aAt_op rfl rfl fun Q0 q0 => ?_
         simp only [↓bO, go_sem, seval, hhw, hhp, ActT.cells, ActT.none, unqA, lineA]
         refine q0 _ ⟨trivial, ?_⟩
         clear q0 Q0
         refine AAny_all1 (i := 1) (by kernel_rfl) ?_
         ·
          refine aAt_op rfl rfl fun Q0 q0 => ?_
          simp only [↓bO, go_sem, seval, hhw, hhp, ActT.cells, ActT.none, unqA, lineA]
          refine q0 _ ⟨trivial, ?_⟩
          clear q0 Q0
          refine AAny_takeK 4 rfl (by kernel_rfl) (by kernel_rfl) (by kernel_rfl) (fun _ _ h => h) fun Q0 q0 => ?_
          simp only [↓bO, go_sem, seval, hhw, hhp, ActT.cells, ActT.none, unqA, lineA]
          refine q0 _ ?_
          clear q0 Q0
          refine AAny_all1 (i := 5) (by kernel_rfl) ?_
          ·
           refine aAt_op rfl rfl fun Q0 q0 => ?_
           simp only [↓bO, go_sem, seval, hhw, hhp, ActT.cells, ActT.none, unqA, lineA]
           refine q0 _ ⟨trivial, ?_⟩
           clear q0 Q0
           refine AAny_takeK 6 rfl (by kernel_rfl) (by kernel_rfl) (by kernel_rfl) (fun _ _ h => h) fun Q0 q0 => ?_
           simp only [↓bO, go_sem, seval, hhw, hhp, ActT.cells, ActT.none, unqA, lineA]
           refine q0 _ ?_
           clear q0 Q0
           refine AAny_all1 (i := 7) (by kernel_rfl) ?_
           ·
            refine aAt_op rfl rfl fun Q0 q0 => ?_
            simp only [↓bO, go_sem, seval, hhw, hhp, ActT.cells, ActT.none, unqA, lineA]
            refine q0 _ ⟨trivial, ?_⟩
            clear q0 Q0
            refine AAny_done (by kernel_rfl) ?_
            simp only [thenQ, blockQ, noGotoQ]
            try simp only [maskL, setsL, putsO, putO, mB, List.set_cons_zero, List.set_cons_succ, seval]
            first | rw [hQ] | simp only [docQ, nV, nF, nM, hqq, Int.reduceEq, Nat.reduceLT, ↓reduceIte]
            exact Weak.mk (by simp only [go_sem, Le.refl, Le.any]) (fun _ _ h => h) rfl rfl
       ·
        refine aAt_op rfl rfl fun Q0 q0 => ?_
        simp only [↓bO, go_sem, seval, hhw, hhp, ActT.cells, ActT.none, unqA, lineA]
        refine q0 _ ⟨trivial, ?_⟩
        clear q0 Q0
        refine AAny_all1 (i := 0) (by kernel_rfl) ?_
        ·
         refine aAt_op rfl rfl fun Q0 q0 => ?_
         simp only [↓bO, go_sem, seval, hhw, hhp, ActT.cells, ActT.none, unqA, lineA]
         refine q0 _ ⟨trivial, ?_⟩
         clear q0 Q0
         refine AAny_all1 (i := 1) (by kernel_rfl) ?_
         ·
          refine aAt_op rfl rfl fun Q0 q0 => ?_
          simp only [↓bO, go_sem, seval, hhw, hhp, ActT.cells, ActT.none, unqA, lineA]
          refine q0 _ ⟨trivial, ?_⟩
          clear q0 Q0
          refine AAny_takeK 4 rfl (by kernel_rfl) (by kernel_rfl) (by kernel_rfl) (fun _ _ h => h) fun Q0 q0 => ?_
          simp only [↓bO, go_sem, seval, hhw, hhp, ActT.cells, ActT.none, unqA, lineA]
          refine q0 _ ?_
          clear q0 Q0
          refine AAny_all1 (i := 5) (by kernel_rfl) ?_
          ·
           refine aAt_op rfl rfl fun Q0 q0 => ?_
           simp only [↓bO, go_sem, seval, hhw, hhp, ActT.cells, ActT.none, unqA, lineA]
           refine q0 _ ⟨trivial, ?_⟩
           clear q0 Q0
           refine AAny_takeK 6 rfl (by kernel_rfl) (by kernel_rfl) (by kernel_rfl) (fun _ _ h => h) fun Q0 q0 => ?_
           simp only [↓bO, go_sem, seval, hhw, hhp, ActT.cells, ActT.none, unqA, lineA]
           refine q0 _ ?_
           clear q0 Q0
           refine AAny_all1 (i := 7) (by kernel_rfl) ?_
           ·
            refine aAt_op rfl rfl fun Q0 q0 => ?_
            simp only [↓bO, go_sem, seval, hhw, hhp, ActT.cells, ActT.none, unqA, lineA]
            refine q0 _ ⟨trivial, ?_⟩
            clear q0 Q0
            refine AAny_done (by kernel_rfl) ?_
            simp only [thenQ, blockQ, noGotoQ]
            try simp only [maskL, setsL, putsO, putO, mB, List.set_cons_zero, List.set_cons_succ, seval]
            first | rw [hQ] | simp only [docQ, nV, nF, nM, hqq, Int.reduceEq, Nat.reduceLT, ↓reduceIte]
            exact Weak.mk (by simp only [go_sem, Le.refl, Le.any]) (fun _ _ h => h) rfl rfl
     ·
      have hq2 : ¬ kindOf (cutW s) = 2 := (by have h9 := hb136; simp at h9; omega)
      refine AWp_seqK fun Y0 y0 => ?_
      refine AWp_region ?_
      refine aops_chunk 1 fun Q0 q0 => ?_
      simp only [↓bO, go_sem, seval, hhw, hhp, ActT.cells, ActT.none, unqA, lineA]
      refine q0 _ ?_
      clear q0 Q0
      simp only [go_sem]
      simp only [↓bO, go_sem, seval, hhw, hhp, ActT.cells, ActT.none, unqA, lineA]
      refine y0 _ ?_
      try clear y0 Y0
      refine AWp_cond rfl (fun hb144 => ?_) (fun hb144 => ?_)
      ·
       have hq5 : kindOf (cutW s) = 5 := (by have h9 := hb144; simp at h9; omega)
       have hqq := hq5
       have hQ : (docQ (kindOf (cutW s)) (docW s (kindOf (cutW s)))).cells = [.v (.int .i64 (kindOf (cutW s))), .v (.string (if kindOf (cutW s) < 6 then wAt (docW s (kindOf (cutW s))) 1 else ByteArray.empty)), .v (.int .i64 (0)), .v (.int .i64 (0)), .v (.string (if kindOf (cutW s) < 3 then unqS (wAt (docW s (kindOf (cutW s))) ((docW s (kindOf (cutW s))).length - 1)) else ByteArray.empty)), .v (.int .i64 (nV (docW s (kindOf (cutW s))) (nF (kindOf (cutW s))) (nM (kindOf (cutW s))) 0)), .v (.int .i64 (0)), .v (.int .i64 (0)), .v (.int .i64 (0))] := by (simp only [docQ, ActT.cells, if_neg hq2, if_pos hq5, if_neg (show ¬ kindOf (cutW s) = 6 by omega)]; simp only [nV, nF, nM, if_neg hq2, if_pos hq5]; rfl)
       refine AWp_region ?_
       iterate 3 (refine aops_chunk 1 fun Q0 q0 => ?_; simp only [↓bO, go_sem, seval, hhw, hhp, ActT.cells, ActT.none, unqA, lineA]; refine q0 _ ?_; clear q0 Q0; simp only [go_sem])
       simp only [↓bO, go_sem, seval, hhw, hhp, ActT.cells, ActT.none, unqA, lineA]
       try simp only [maskL, setsL, putsO, putO, mB, List.set_cons_zero, List.set_cons_succ, seval]
       first | rw [hQ] | simp only [docQ, nV, nF, nM, hqq, Int.reduceEq, Nat.reduceLT, ↓reduceIte]
       exact Weak.mk (by simp only [go_sem, Le.refl, Le.any]) (fun _ _ h => h) rfl rfl
      ·
       have hq5 : ¬ kindOf (cutW s) = 5 := (by have h9 := hb144; simp at h9; omega)
       refine AWp_seqK fun Y0 y0 => ?_
       refine AWp_region ?_
       refine aops_chunk 1 fun Q0 q0 => ?_
       simp only [↓bO, go_sem, seval, hhw, hhp, ActT.cells, ActT.none, unqA, lineA]
       refine q0 _ ?_
       clear q0 Q0
       simp only [go_sem]
       simp only [↓bO, go_sem, seval, hhw, hhp, ActT.cells, ActT.none, unqA, lineA]
       refine y0 _ ?_
       try clear y0 Y0
       refine AWp_cond rfl (fun hb149 => ?_) (fun hb149 => ?_)
       ·
        have hq6 : kindOf (cutW s) = 6 := (by have h9 := hb149; simp at h9; omega)
        have hqq := hq6
        have hQ : (docQ (kindOf (cutW s)) (docW s (kindOf (cutW s)))).cells = [.v (.int .i64 (kindOf (cutW s))), .v (.string (if kindOf (cutW s) < 6 then wAt (docW s (kindOf (cutW s))) 1 else ByteArray.empty)), .v (.int .i64 (0)), .v (.int .i64 (0)), .v (.string (if kindOf (cutW s) < 3 then unqS (wAt (docW s (kindOf (cutW s))) ((docW s (kindOf (cutW s))).length - 1)) else ByteArray.empty)), .v (.int .i64 (0)), .v (.int .i64 (nV (docW s (kindOf (cutW s))) (nF (kindOf (cutW s))) (nM (kindOf (cutW s))) 0)), .v (.int .i64 (nV (docW s (kindOf (cutW s))) (nF (kindOf (cutW s))) (nM (kindOf (cutW s))) 1)), .v (.int .i64 (nV (docW s (kindOf (cutW s))) (nF (kindOf (cutW s))) (nM (kindOf (cutW s))) 2))] := by (simp only [docQ, ActT.cells, if_neg hq2, if_neg hq5, if_pos hq6]; simp only [nV, nF, nM, if_neg hq2, if_neg hq5, if_pos hq6]; rfl)
        refine AWp_region ?_
        iterate 8 (refine aops_chunk 1 fun Q0 q0 => ?_; simp only [↓bO, go_sem, seval, hhw, hhp, ActT.cells, ActT.none, unqA, lineA]; refine q0 _ ?_; clear q0 Q0; simp only [go_sem])
        simp only [↓bO, go_sem, seval, hhw, hhp, ActT.cells, ActT.none, unqA, lineA]
        try simp only [maskL, setsL, putsO, putO, mB, List.set_cons_zero, List.set_cons_succ, seval]
        first | rw [hQ] | simp only [docQ, nV, nF, nM, hqq, Int.reduceEq, Nat.reduceLT, ↓reduceIte]
        exact Weak.mk (by simp only [go_sem, Le.refl, Le.any]) (fun _ _ h => h) rfl rfl
       ·
        have hq6 : ¬ kindOf (cutW s) = 6 := (by have h9 := hb149; simp at h9; omega)
        have hQ : (docQ (kindOf (cutW s)) (docW s (kindOf (cutW s)))).cells = [.v (.int .i64 (kindOf (cutW s))), .v (.string (if kindOf (cutW s) < 6 then wAt (docW s (kindOf (cutW s))) 1 else ByteArray.empty)), .v (.int .i64 (0)), .v (.int .i64 (0)), .v (.string (if kindOf (cutW s) < 3 then unqS (wAt (docW s (kindOf (cutW s))) ((docW s (kindOf (cutW s))).length - 1)) else ByteArray.empty)), .v (.int .i64 (0)), .v (.int .i64 (0)), .v (.int .i64 (0)), .v (.int .i64 (0))] := by (simp only [docQ, ActT.cells, if_neg hq2, if_neg hq5, if_neg hq6]; try rfl)
        refine AWp_skip ?_
        try simp only [thenQ, blockQ, noGotoQ]
        try simp only [maskL, setsL, putsO, putO, mB, List.set_cons_zero, List.set_cons_succ, seval]
        first | rw [hQ] | simp only [docQ, nV, nF, nM, hqq, Int.reduceEq, Nat.reduceLT, ↓reduceIte]
        exact Weak.mk (by simp only [go_sem, Le.refl, Le.any]) (fun _ _ h => h) rfl rfl
    simp only [maskL, setsL, putsO, putO, mB, List.set_cons_zero, List.set_cons_succ, seval]
    have hqs := docQ_sz s (kindOf (cutW s))
    have hiff := doc_iff hkn hg1
    refine AWp_seqK fun Y0 y0 => ?_
    refine AWp_seqK fun Y1 y1 => ?_
    refine AWp_region ?_
    refine aops_chunk 1 fun Q0 q0 => ?_
    simp only [↓bO, go_sem, seval, hhw, hhp, ActT.cells, ActT.none, unqA, lineA]
    refine q0 _ ?_
    clear q0 Q0
    simp only [go_sem]
    refine aops_chunk 1 fun Q0 q0 => ?_
    simp only [↓bO, go_sem, seval, hhw, hhp, ActT.cells, ActT.none, unqA, lineA]
    refine APure.call (RLine_pure (docQ (kindOf (cutW s)) (docW s (kindOf (cutW s)))) (docQ_fits _ _) (by have := hqs.1; omega) (by have := hqs.2; omega)) ?_
    try simp only [bS, bA, thenQ, blockQ, noGotoQ]
    refine q0 _ ?_
    clear q0 Q0
    simp only [go_sem]
    refine aops_chunk 1 fun Q0 q0 => ?_
    simp only [↓bO, go_sem, seval, hhw, hhp, ActT.cells, ActT.none, unqA, lineA]
    iterate 2 (refine q0 _ ?_; clear q0 Q0; simp only [go_sem]; refine aops_chunk 1 fun Q0 q0 => ?_; simp only [↓bO, go_sem, seval, aExtract_tup, hhw, hhp, ActT.cells, ActT.none, unqA, lineA])
    refine q0 _ ?_
    clear q0 Q0
    simp only [go_sem]
    refine aops_chunk 1 fun Q0 q0 => ?_
    simp only [↓bO, go_sem, seval, hhw, hhp, ActT.cells, ActT.none, unqA, lineA]
    refine q0 _ ?_
    clear q0 Q0
    simp only [go_sem]
    simp only [↓bO, go_sem, seval, hhw, hhp, ActT.cells, ActT.none, unqA, lineA]
    refine y1 _ ?_
    try clear y1 Y1
    refine AWp_seqK fun Y1 y1 => ?_
    refine AWp_region ?_
    iterate 3 (refine aops_chunk 1 fun Q0 q0 => ?_; simp only [↓bO, go_sem, seval, hhw, hhp, ActT.cells, ActT.none, unqA, lineA]; refine q0 _ ?_; clear q0 Q0; simp only [go_sem])
    refine aops_case 166 rfl (fun hc166 => ?_) (fun hc166 => ?_)
    ·
     simp only [List.set_cons_zero, List.set_cons_succ]
     have hb : (docG2 (kindOf (cutW s)) (docW s (kindOf (cutW s))) && docG3 (kindOf (cutW s)) (docW s (kindOf (cutW s)))) = false := by (have h9 := hc166; simpa only [Bool.not_eq_true'] using h9)
     have hno := doc_bad (s := s) (fun h => by rw [(hiff.1 h).1] at hb; cases hb)
     iterate 2 (refine aops_chunk 1 fun Q0 q0 => ?_; simp only [↓bO, go_sem, seval, hhw, hhp, ActT.cells, ActT.none, unqA, lineA]; refine q0 _ ?_; clear q0 Q0; simp only [go_sem])
     simp only [↓bO, go_sem, seval, hhw, hhp, ActT.cells, ActT.none, unqA, lineA]
     refine y1 _ ?_
     try clear y1 Y1
     refine AWp_cond (b := true) (by first | exact rfl | exact congrArg (fun b => AV.v (.bool b)) hb169) (fun _ => ?_) (fun h => (by cases h))
     refine AWp_seqK fun Y1 y1 => ?_
     refine AWp_region ?_
     iterate 2 (refine aops_chunk 1 fun Q0 q0 => ?_; simp only [↓bO, go_sem, seval, hhw, hhp, ActT.cells, ActT.none, unqA, lineA]; refine q0 _ ?_; clear q0 Q0; simp only [go_sem])
     simp only [↓bO, go_sem, seval, hhw, hhp, ActT.cells, ActT.none, unqA, lineA]
     refine y1 _ ?_
     try clear y1 Y1
     refine AWp_ret ?_
     try simp only [thenQ, blockQ, noGotoQ, retQ, aRes, tupOf, bS, bA, aLoad, getO, pack, bL, Nat.reduceAdd, Nat.reduceLeDiff, Nat.reduceEqDiff, ↓reduceIte, ti30, hhw, hhp, List.length_map, ActT.cells, ActT.none, unqA, lineA]
     rw [hno.1, hno.2]
     exact Le.refl _
    ·
     simp only [List.set_cons_zero, List.set_cons_succ]
     have hb : (docG2 (kindOf (cutW s)) (docW s (kindOf (cutW s))) && docG3 (kindOf (cutW s)) (docW s (kindOf (cutW s)))) = true := by (have h9 := hc166; simpa only [Bool.not_eq_false'] using h9)
     iterate 2 (refine aops_chunk 1 fun Q0 q0 => ?_; simp only [↓bO, go_sem, seval, hhw, hhp, ActT.cells, ActT.none, unqA, lineA]; refine q0 _ ?_; clear q0 Q0; simp only [go_sem])
     simp only [↓bO, go_sem, seval, hhw, hhp, ActT.cells, ActT.none, unqA, lineA]
     refine y1 _ ?_
     try clear y1 Y1
     refine AWp_cond rfl (fun hb169 => ?_) (fun hb169 => ?_)
     ·
      have hno := doc_bad (s := s) (fun h => by (have h9 := hb169; rw [(hiff.1 h).2] at h9; simp at h9))
      refine AWp_seqK fun Y1 y1 => ?_
      refine AWp_region ?_
      iterate 2 (refine aops_chunk 1 fun Q0 q0 => ?_; simp only [↓bO, go_sem, seval, hhw, hhp, ActT.cells, ActT.none, unqA, lineA]; refine q0 _ ?_; clear q0 Q0; simp only [go_sem])
      simp only [↓bO, go_sem, seval, hhw, hhp, ActT.cells, ActT.none, unqA, lineA]
      refine y1 _ ?_
      try clear y1 Y1
      refine AWp_ret ?_
      try simp only [thenQ, blockQ, noGotoQ, retQ, aRes, tupOf, bS, bA, aLoad, getO, pack, bL, Nat.reduceAdd, Nat.reduceLeDiff, Nat.reduceEqDiff, ↓reduceIte, ti30, hhw, hhp, List.length_map, ActT.cells, ActT.none, unqA, lineA]
      rw [hno.1, hno.2]
      exact Le.refl _
     ·
      have herr : (docQ (kindOf (cutW s)) (docW s (kindOf (cutW s)))).err = 0 := (by have h9 := hb169; simpa using h9)
      have hok := doc_good (hiff.2 ⟨hb, herr⟩)
      rw [docK_eq] at hok
      refine AWp_skip ?_
      try simp only [thenQ, blockQ, noGotoQ]
      refine y0 _ ?_
      try clear y0 Y0
      refine AWp_seqK fun Y0 y0 => ?_
      refine AWp_region ?_
      iterate 2 (refine aops_chunk 1 fun Q0 q0 => ?_; simp only [↓bO, go_sem, seval, hhw, hhp, ActT.cells, ActT.none, unqA, lineA]; refine q0 _ ?_; clear q0 Q0; simp only [go_sem])
      simp only [↓bO, go_sem, seval, hhw, hhp, ActT.cells, ActT.none, unqA, lineA]
      refine y0 _ ?_
      try clear y0 Y0
      refine AWp_ret ?_
      try simp only [thenQ, blockQ, noGotoQ, retQ, aRes, tupOf, bS, bA, aLoad, getO, pack, bL, Nat.reduceAdd, Nat.reduceLeDiff, Nat.reduceEqDiff, ↓reduceIte, ti30, hhw, hhp, List.length_map, ActT.cells, ActT.none, unqA, lineA]
      rw [hok.1, hok.2]
      exact Le.refl _
theorem dataActs (l : List ActT) : Data (.sl 9 (l.map ActT.cells)) := .sl fun x hx => by
  obtain ⟨a, _, rfl⟩ := List.mem_map.1 hx
  exact a.data
def gN (l : List ActT) : Nat → Int
  | 0 => 0
  | i + 1 => match l[i]? with
    | some a => IntKind.i64.wrap (IntKind.i64.wrap (gN l i + (a.name.size : Int)) + (a.text.size : Int))
    | none => gN l i
theorem gN_at {l : List ActT} {i : Nat} {a : ActT} (h : l[i]? = some a) : gN l (i + 1) = IntKind.i64.wrap (IntKind.i64.wrap (gN l i + (a.name.size : Int)) + (a.text.size : Int)) := by
  rw [gN, h]
def grB (l : List ActT) : Bool := decide (30 < l.length) || decide (gN l (min 40 l.length) > 2000)
theorem getD_act {l : List ActT} {i : Nat} {a : ActT} (h : l[i]? = some a) : (l.map ActT.cells).getD i [] = a.cells := getD_map_at h _
theorem great28_pure (l : List ActT) (hl : l.length ≤ 9223372036854775807) : APure Tryd.prog 17 [.sl 9 (l.map ActT.cells)] (.v (.bool (grB l))) := by
  refine APure.mkL (.cons (dataActs l) .nil) (.v _) ?_
  refine ACalls_intro Tryd.func17 (by kernel_rfl) rfl (by rw [Tryd.ntmps17]; simp) (fun hm => ?_)
  simp only [Tryd.ntmps17, Tryd.results17, List.length_cons, List.length_nil, Nat.reduceAdd, Nat.reduceSub, List.replicate_succ, List.replicate_zero, List.cons_append, List.nil_append]
  iterate 2 (refine AWp_seqK fun Y0 y0 => ?_; refine AWp_region ?_; simp only [↓bO, go_sem, seval, ActT.cells]; refine y0 _ ?_; (try clear y0 Y0))
  refine AWp_seqK fun Y0 y0 => ?_
  refine AWp_seqK fun Y1 y1 => ?_
  refine AWp_region ?_
  simp only [↓bO, go_sem, seval, ActT.cells]
  refine y1 _ ?_
  try clear y1 Y1
  refine AWp_block ?_
  refine AWp_loopM (σ := Nat) (mB 37 25) (fun i => i ≤ l.length ∧ i ≤ 40) (fun i => [(3, .v (.int .i64 (gN l i))), (4, .v (.int .i64 (i : Int)))]) (fun i => []) (fun i => l.length - i) 0 (⟨Nat.zero_le _, Nat.zero_le _⟩) ?_ (fun i hi => ?_)
  ·
   try simp only [maskL, setsL, putsO, putO, mB, List.set_cons_zero, List.set_cons_succ, seval, gN, Int.natCast_zero]
   exact Weak.mk (by simp only [go_sem, Le.refl, Le.any, Le.slNil, Int.natCast_add, Int.cast_ofNat_Int, Int.natCast_one]) (fun _ _ h => h) rfl rfl
  simp only [maskL, setsL, putsO, putO, mB, List.set_cons_zero, List.set_cons_succ, seval]
  have hw0 : IntKind.i64.wrap ((i : Int) + 1) = ((i + 1 : Nat) : Int) := by (rw [wrap_in (by omega) (by omega)]; omega)
  refine AWp_seqK fun Y1 y1 => ?_
  refine AWp_seqK fun Y2 y2 => ?_
  refine AWp_region ?_
  iterate 5 (refine aops_chunk 1 fun Q0 q0 => ?_; simp only [↓bO, go_sem, seval, ActT.cells, hw0]; refine q0 _ ?_; clear q0 Q0; simp only [go_sem])
  refine aops_case 9 rfl (fun hc9 => ?_) (fun hc9 => ?_)
  ·
   simp only [List.set_cons_zero, List.set_cons_succ]
   have hlt : i < l.length := (by have h9 := hc9; simpa using h9)
   obtain ⟨a, ha⟩ : ∃ a, l[i]? = some a := ⟨_, List.getElem?_eq_getElem hlt⟩
   have hga := getD_act ha
   have hgn := gN_at ha
   iterate 2 (refine aops_chunk 1 fun Q0 q0 => ?_; simp only [↓bO, go_sem, seval, ActT.cells, hw0, hlt, hga, hgn]; refine q0 _ ?_; clear q0 Q0; simp only [go_sem])
   simp only [↓bO, go_sem, seval, ActT.cells, hw0, hlt, hga, hgn]
   refine y2 _ ?_
   try clear y2 Y2
   refine AWp_cond rfl (fun hb12 => ?_) (fun hb12 => ?_)
   ·
    have h40 : i < 40 := (by have h9 := hb12; simp at h9; omega)
    refine AWp_skip ?_
    try simp only [thenQ, blockQ, noGotoQ]
    refine y1 _ ?_
    try clear y1 Y1
    refine AWp_seqK fun Y1 y1 => ?_
    refine AWp_block ?_
    refine AWp_drawK 15 mixed (by kernel_rfl) fun J0 j0 => ?_
    iterate 14 (simp only [go_sem]; refine dRun_chunk 1 fun Q0 q0 => ?_; simp only [↓dRun, ↓dOp, ↓bO, go_sem, seval, ActT.cells, hw0, hlt, hga, hgn]; refine q0 _ ?_; clear q0 Q0)
    simp only [go_sem]
    simp only [↓dRun, ↓dOp, ↓bO, go_sem, seval, ActT.cells, hw0, hlt, hga, hgn]
    refine j0 _ ?_
    clear j0 J0
    simp only [go_sem]
    simp only [↓bO, go_sem, seval, ActT.cells, hw0, hlt, hga, hgn]
    refine y1 _ ?_
    try clear y1 Y1
    refine AWp_region ?_
    iterate 2 (refine aops_chunk 1 fun Q0 q0 => ?_; simp only [↓bO, go_sem, seval, ActT.cells, hw0, hlt, hga, hgn]; refine q0 _ ?_; clear q0 Q0; simp only [go_sem])
    simp only [↓bO, go_sem, seval, ActT.cells, hw0, hlt, hga, hgn]
    refine ⟨(i + 1), ⟨by omega, by omega⟩, (by omega), ?_⟩
    try simp only [maskL, setsL, putsO, putO, mB, List.set_cons_zero, List.set_cons_succ, seval, hw0, ActT.cells, hlt, hga, hgn]
    exact Weak.mk (by simp only [go_sem, Le.refl, Le.any, Le.slNil, Int.natCast_add, Int.cast_ofNat_Int, Int.natCast_one]) (fun _ _ h => h) rfl rfl
   ·
    have hi2 : i = min 40 l.length := by (first | exact hi2 | (have h9 := hb12; simp at h9; omega))
    refine AWp_exit ?_
    simp only [thenQ, blockQ, noGotoQ, bA, Nat.reduceEqDiff, ↓reduceIte]
    refine y0 _ ?_
    try clear y0 Y0
    refine AWp_seqK fun Y0 y0 => ?_
    refine AWp_region ?_
    iterate 4 (refine aops_chunk 1 fun Q0 q0 => ?_; simp only [↓bO, go_sem, seval, ActT.cells, hlt, hga, hgn]; refine q0 _ ?_; clear q0 Q0; simp only [go_sem])
    refine aops_case 33 rfl (fun hc33 => ?_) (fun hc33 => ?_)
    ·
     simp only [List.set_cons_zero, List.set_cons_succ]
     have h30 : l.length > 30 := (by have h9 := hc33; simp at h9; omega)
     iterate 3 (refine aops_chunk 1 fun Q0 q0 => ?_; simp only [↓bO, go_sem, seval, ActT.cells, hlt, hga, hgn]; refine q0 _ ?_; clear q0 Q0; simp only [go_sem])
     simp only [↓bO, go_sem, seval, ActT.cells, hlt, hga, hgn]
     refine y0 _ ?_
     try clear y0 Y0
     refine AWp_ret ?_
     try simp only [thenQ, blockQ, noGotoQ, retQ, aRes, tupOf, bS, bA]
     refine Le.of_eq (congrArg (fun b => AV.v (.bool b)) ?_)
     unfold grB
     rw [← hi2]
     try simp only [hc33]
     grind
    ·
     simp only [List.set_cons_zero, List.set_cons_succ]
     have h30 : ¬ l.length > 30 := (by have h9 := hc33; simp at h9; omega)
     iterate 3 (refine aops_chunk 1 fun Q0 q0 => ?_; simp only [↓bO, go_sem, seval, ActT.cells, hlt, hga, hgn]; refine q0 _ ?_; clear q0 Q0; simp only [go_sem])
     simp only [↓bO, go_sem, seval, ActT.cells, hlt, hga, hgn]
     refine y0 _ ?_
     try clear y0 Y0
     refine AWp_ret ?_
     try simp only [thenQ, blockQ, noGotoQ, retQ, aRes, tupOf, bS, bA]
     refine Le.of_eq (congrArg (fun b => AV.v (.bool b)) ?_)
     unfold grB
     rw [← hi2]
     try simp only [hc33]
     grind
  ·
   simp only [List.set_cons_zero, List.set_cons_succ]
   have hge : ¬ i < l.length := (by have h9 := hc9; simpa using h9)
   have hi2 : i = min 40 l.length := by omega
   iterate 2 (refine aops_chunk 1 fun Q0 q0 => ?_; simp only [↓bO, go_sem, seval, ActT.cells]; refine q0 _ ?_; clear q0 Q0; simp only [go_sem])
   simp only [↓bO, go_sem, seval, ActT.cells]
   refine y2 _ ?_
   try clear y2 Y2
   refine AWp_cond (b := false) (by first | exact rfl | exact congrArg (fun b => AV.v (.bool b)) hb12) (fun h => (by cases h)) (fun _ => ?_)
   refine AWp_exit ?_
   simp only [thenQ, blockQ, noGotoQ, bA, Nat.reduceEqDiff, ↓reduceIte]
   refine y0 _ ?_
   try clear y0 Y0
   refine AWp_seqK fun Y0 y0 => ?_
   refine AWp_region ?_
   iterate 4 (refine aops_chunk 1 fun Q0 q0 => ?_; simp only [↓bO, go_sem, seval, ActT.cells]; refine q0 _ ?_; clear q0 Q0; simp only [go_sem])
   refine aops_case 33 rfl (fun hc33 => ?_) (fun hc33 => ?_)
   ·
    simp only [List.set_cons_zero, List.set_cons_succ]
    have h30 : l.length > 30 := (by have h9 := hc33; simp at h9; omega)
    iterate 3 (refine aops_chunk 1 fun Q0 q0 => ?_; simp only [↓bO, go_sem, seval, ActT.cells]; refine q0 _ ?_; clear q0 Q0; simp only [go_sem])
    simp only [↓bO, go_sem, seval, ActT.cells]
    refine y0 _ ?_
    try clear y0 Y0
    refine AWp_ret ?_
    try simp only [thenQ, blockQ, noGotoQ, retQ, aRes, tupOf, bS, bA]
    refine Le.of_eq (congrArg (fun b => AV.v (.bool b)) ?_)
    unfold grB
    rw [← hi2]
    try simp only [hc33]
    grind
   ·
    simp only [List.set_cons_zero, List.set_cons_succ]
    have h30 : ¬ l.length > 30 := (by have h9 := hc33; simp at h9; omega)
    iterate 3 (refine aops_chunk 1 fun Q0 q0 => ?_; simp only [↓bO, go_sem, seval, ActT.cells]; refine q0 _ ?_; clear q0 Q0; simp only [go_sem])
    simp only [↓bO, go_sem, seval, ActT.cells]
    refine y0 _ ?_
    try clear y0 Y0
    refine AWp_ret ?_
    try simp only [thenQ, blockQ, noGotoQ, retQ, aRes, tupOf, bS, bA]
    refine Le.of_eq (congrArg (fun b => AV.v (.bool b)) ?_)
    unfold grB
    rw [← hi2]
    try simp only [hc33]
    grind
theorem text_size {a : ActT} (hf : a.fits) (h0 : a.err = 0) : a.text'.size ≤ 13000 := by
  obtain ⟨hk, h1, h2, h3⟩ := ActT.ok_of h0
  have hn := ActT.name20e h1
  obtain ⟨f1, f2, f3, f4, f5, f6⟩ := hf
  have e1 := itS_size a.p1 f1.1 f1.2
  have e2 := itS_size a.p2 f2.1 f2.2
  have e3 := itS_size a.n f3.1 f3.2
  have e4 := itS_size a.lb f4.1 f4.2
  have e5 := itS_size a.ld f5.1 f5.2
  have e6 := itS_size a.le f6.1 f6.2
  have e7 := quS_size a.text
  have z0 : (⟨#[111, 112, 101, 110, 32]⟩ : ByteArray).size = 5 := rfl
  have z1 : (⟨#[101, 100, 105, 116, 32]⟩ : ByteArray).size = 5 := rfl
  have z2 : (⟨#[99, 108, 111, 115, 101, 32]⟩ : ByteArray).size = 6 := rfl
  have z3 : (⟨#[99, 104, 101, 99, 107, 32]⟩ : ByteArray).size = 6 := rfl
  have z4 : (⟨#[114, 117, 110, 32]⟩ : ByteArray).size = 4 := rfl
  have z5 : (⟨#[108, 105, 109, 105, 116, 32]⟩ : ByteArray).size = 6 := rfl
  have z6 : (⟨#[32]⟩ : ByteArray).size = 1 := rfl
  rcases kinds hk with h | h | h | h | h | h | h
  · rw [← rl1 h]; simp only [size_add]; omega
  · rw [← rl2 h]; simp only [size_add]; omega
  · rw [← rl3 h]; simp only [size_add]; omega
  · rw [← rl4 h]; simp only [size_add]; omega
  · rw [← rl5 h]; simp only [size_add]; omega
  · rw [← rl6 h]; simp only [size_add]; omega
  · rw [← rl7 h]; decide
theorem TP_yes (s : ByteArray) (a : ActT) (hl : IsLine s a) (hA : prgA s = a) (hE : prgE s = 0) (hD : docA s = a) (hO : docB s = true) : APure Tryd.prog 4 [.v (.string s)] (.v (.bool true)) := by
  refine APure.mkL (.cons (.v _) .nil) (.v _) ?_
  refine ACalls_intro Tryd.func4 (by kernel_rfl) rfl (by rw [Tryd.ntmps4]; simp) (fun hm => ?_)
  simp only [Tryd.ntmps4, Tryd.results4, List.length_cons, List.length_nil, Nat.reduceAdd, Nat.reduceSub, List.replicate_succ, List.replicate_zero, List.cons_append, List.nil_append]
  refine AWp_seqK fun Y0 y0 => ?_
  refine AWp_region ?_
  simp only [↓bO, go_sem, seval, hA, hE, hD, hO, lineA, ActT.cells, beq_self_eq_true]
  refine y0 _ ?_
  try clear y0 Y0
  refine AWp_seqK fun Y0 y0 => ?_
  refine AWp_seqK fun Y1 y1 => ?_
  refine AWp_region ?_
  iterate 2 (refine aops_chunk 1 fun Q0 q0 => ?_; simp only [↓bO, go_sem, seval, hA, hE, hD, hO, lineA, ActT.cells, beq_self_eq_true]; refine q0 _ ?_; clear q0 Q0; simp only [go_sem])
  simp only [↓bO, go_sem, seval, hA, hE, hD, hO, lineA, ActT.cells, beq_self_eq_true]
  refine y1 _ ?_
  try clear y1 Y1
  refine AWp_cond rfl (fun hb11 => ?_) (fun hb11 => ?_)
  ·
   refine AWp_seqK fun Y1 y1 => ?_
   refine AWp_region ?_
   refine aops_chunk 1 fun Q0 q0 => ?_
   simp only [↓bO, go_sem, seval, hA, hE, hD, hO, lineA, ActT.cells, beq_self_eq_true]
   refine APure.call (awake28_pure) ?_
   try simp only [bS, bA, thenQ, blockQ, noGotoQ]
   refine q0 _ ?_
   clear q0 Q0
   simp only [go_sem]
   simp only [↓bO, go_sem, seval, hA, hE, hD, hO, lineA, ActT.cells, beq_self_eq_true]
   refine y1 _ ?_
   try clear y1 Y1
   refine AWp_ret ?_
   try simp only [thenQ, blockQ, noGotoQ, retQ, aRes, tupOf, bS, bA]
   exact Le.refl _
  ·
   have hs : s.size ≤ 500 := (by have h9 := hb11; simp at h9; omega)
   have hln := ActT.line_ok hl.2.1
   rw [hl.2.2] at hln
   have her := hl.2.1
   have hnb := ActT.name20e (ActT.ok_of her).2.1
   have htb := (ActT.ok_of her).2.2.2
   refine AWp_skip ?_
   try simp only [thenQ, blockQ, noGotoQ]
   refine y0 _ ?_
   try clear y0 Y0
   refine AWp_seqK fun Y0 y0 => ?_
   refine AWp_region ?_
   refine aops_chunk 1 fun Q0 q0 => ?_
   simp only [↓bO, go_sem, seval, hA, hE, hD, hO, lineA, ActT.cells, beq_self_eq_true, hln, her]
   refine q0 _ ?_
   clear q0 Q0
   simp only [go_sem]
   refine aops_chunk 1 fun Q0 q0 => ?_
   simp only [↓bO, go_sem, seval, hA, hE, hD, hO, lineA, ActT.cells, beq_self_eq_true, hln, her]
   refine APure.call (TParse_pure s (by omega)) ?_
   try simp only [bS, bA, thenQ, blockQ, noGotoQ]
   refine q0 _ ?_
   clear q0 Q0
   simp only [go_sem]
   refine aops_chunk 1 fun Q0 q0 => ?_
   simp only [↓bO, go_sem, seval, hA, hE, hD, hO, lineA, ActT.cells, beq_self_eq_true, hln, her]
   iterate 2 (refine q0 _ ?_; clear q0 Q0; simp only [go_sem]; refine aops_chunk 1 fun Q0 q0 => ?_; simp only [↓bO, go_sem, seval, aExtract_tup, hA, hE, hD, hO, lineA, ActT.cells, beq_self_eq_true, hln, her])
   iterate 2 (refine q0 _ ?_; clear q0 Q0; simp only [go_sem]; refine aops_chunk 1 fun Q0 q0 => ?_; simp only [↓bO, go_sem, seval, hA, hE, hD, hO, lineA, ActT.cells, beq_self_eq_true, hln, her])
   refine q0 _ ?_
   clear q0 Q0
   simp only [go_sem]
   simp only [↓bO, go_sem, seval, hA, hE, hD, hO, lineA, ActT.cells, beq_self_eq_true, hln, her]
   refine y0 _ ?_
   try clear y0 Y0
   refine AWp_seqK fun Y0 y0 => ?_
   refine AWp_region ?_
   refine aops_chunk 1 fun Q0 q0 => ?_
   simp only [↓bO, go_sem, seval, hA, hE, hD, hO, lineA, ActT.cells, beq_self_eq_true, hln, her]
   refine q0 _ ?_
   clear q0 Q0
   simp only [go_sem]
   refine aops_chunk 1 fun Q0 q0 => ?_
   simp only [↓bO, go_sem, seval, hA, hE, hD, hO, lineA, ActT.cells, beq_self_eq_true, hln, her]
   refine APure.call (RParse28_pure s (by omega)) ?_
   try simp only [bS, bA, thenQ, blockQ, noGotoQ]
   refine q0 _ ?_
   clear q0 Q0
   simp only [go_sem]
   refine aops_chunk 1 fun Q0 q0 => ?_
   simp only [↓bO, go_sem, seval, hA, hE, hD, hO, lineA, ActT.cells, beq_self_eq_true, hln, her]
   iterate 2 (refine q0 _ ?_; clear q0 Q0; simp only [go_sem]; refine aops_chunk 1 fun Q0 q0 => ?_; simp only [↓bO, go_sem, seval, aExtract_tup, hA, hE, hD, hO, lineA, ActT.cells, beq_self_eq_true, hln, her])
   iterate 2 (refine q0 _ ?_; clear q0 Q0; simp only [go_sem]; refine aops_chunk 1 fun Q0 q0 => ?_; simp only [↓bO, go_sem, seval, hA, hE, hD, hO, lineA, ActT.cells, beq_self_eq_true, hln, her])
   refine q0 _ ?_
   clear q0 Q0
   simp only [go_sem]
   simp only [↓bO, go_sem, seval, hA, hE, hD, hO, lineA, ActT.cells, beq_self_eq_true, hln, her]
   refine y0 _ ?_
   try clear y0 Y0
   refine AWp_seqK fun Y0 y0 => ?_
   refine AWp_seqK fun Y1 y1 => ?_
   refine AWp_region ?_
   iterate 5 (refine aops_chunk 1 fun Q0 q0 => ?_; simp only [↓bO, go_sem, seval, hA, hE, hD, hO, lineA, ActT.cells, beq_self_eq_true, hln, her]; refine q0 _ ?_; clear q0 Q0; simp only [go_sem])
   refine aops_case 27 rfl (fun hc27 => ?_) (fun hc27 => ?_)
   ·
    simp only [List.set_cons_zero, List.set_cons_succ]
    exact absurd hc27 (by simp)
   ·
    simp only [List.set_cons_zero, List.set_cons_succ]
    iterate 3 (refine aops_chunk 1 fun Q0 q0 => ?_; simp only [↓bO, go_sem, seval, hA, hE, hD, hO, lineA, ActT.cells, beq_self_eq_true, hln, her]; refine q0 _ ?_; clear q0 Q0; simp only [go_sem])
    refine aops_case 30 rfl (fun hc30 => ?_) (fun hc30 => ?_)
    ·
     simp only [List.set_cons_zero, List.set_cons_succ]
     exact absurd hc30 (by simp)
    ·
     simp only [List.set_cons_zero, List.set_cons_succ]
     iterate 7 (refine aops_chunk 1 fun Q0 q0 => ?_; simp only [↓bO, go_sem, seval, hA, hE, hD, hO, lineA, ActT.cells, beq_self_eq_true, hln, her]; refine q0 _ ?_; clear q0 Q0; simp only [go_sem])
     refine aops_chunk 1 fun Q0 q0 => ?_
     simp only [↓bO, go_sem, seval, i2t30, aEq2, eqt30, hA, hE, hD, hO, lineA, ActT.cells, beq_self_eq_true, hln, her]
     refine q0 _ ?_
     clear q0 Q0
     simp only [go_sem]
     simp only [↓bO, go_sem, seval, hA, hE, hD, hO, lineA, ActT.cells, beq_self_eq_true, hln, her]
     refine y1 _ ?_
     try clear y1 Y1
     refine AWp_cond rfl (fun hb39 => ?_) (fun hb39 => ?_)
     ·
      exact absurd hb39 (by simp)
     ·
      refine AWp_skip ?_
      try simp only [thenQ, blockQ, noGotoQ]
      refine y0 _ ?_
      try clear y0 Y0
      refine AWp_seqK fun Y0 y0 => ?_
      refine AWp_seqK fun Y1 y1 => ?_
      refine AWp_region ?_
      refine aops_chunk 1 fun Q0 q0 => ?_
      simp only [↓bO, go_sem, seval, hA, hE, hD, hO, lineA, ActT.cells, beq_self_eq_true, hln, her]
      refine q0 _ ?_
      clear q0 Q0
      simp only [go_sem]
      simp only [↓bO, go_sem, seval, hA, hE, hD, hO, lineA, ActT.cells, beq_self_eq_true, hln, her]
      refine y1 _ ?_
      try clear y1 Y1
      refine AWp_cond rfl (fun hb41 => ?_) (fun hb41 => ?_)
      ·
       exact absurd hb41 (by simp)
      ·
       refine AWp_skip ?_
       try simp only [thenQ, blockQ, noGotoQ]
       refine y0 _ ?_
       try clear y0 Y0
       refine AWp_seqK fun Y0 y0 => ?_
       refine AWp_region ?_
       refine aops_chunk 1 fun Q0 q0 => ?_
       simp only [↓bO, go_sem, seval, hA, hE, hD, hO, lineA, ActT.cells, beq_self_eq_true, hln, her]
       refine q0 _ ?_
       clear q0 Q0
       simp only [go_sem]
       refine aops_chunk 1 fun Q0 q0 => ?_
       simp only [↓bO, go_sem, seval, hA, hE, hD, hO, lineA, ActT.cells, beq_self_eq_true, hln, her]
       refine APure.call (TLine_pure a hl.1 (by omega) (by omega)) ?_
       try simp only [bS, bA, thenQ, blockQ, noGotoQ]
       refine q0 _ ?_
       clear q0 Q0
       simp only [go_sem]
       refine aops_chunk 1 fun Q0 q0 => ?_
       simp only [↓bO, go_sem, seval, hA, hE, hD, hO, lineA, ActT.cells, beq_self_eq_true, hln, her]
       iterate 2 (refine q0 _ ?_; clear q0 Q0; simp only [go_sem]; refine aops_chunk 1 fun Q0 q0 => ?_; simp only [↓bO, go_sem, seval, aExtract_tup, hA, hE, hD, hO, lineA, ActT.cells, beq_self_eq_true, hln, her])
       refine q0 _ ?_
       clear q0 Q0
       simp only [go_sem]
       refine aops_chunk 1 fun Q0 q0 => ?_
       simp only [↓bO, go_sem, seval, hA, hE, hD, hO, lineA, ActT.cells, beq_self_eq_true, hln, her]
       refine q0 _ ?_
       clear q0 Q0
       simp only [go_sem]
       simp only [↓bO, go_sem, seval, hA, hE, hD, hO, lineA, ActT.cells, beq_self_eq_true, hln, her]
       refine y0 _ ?_
       try clear y0 Y0
       refine AWp_seqK fun Y0 y0 => ?_
       refine AWp_region ?_
       iterate 3 (refine aops_chunk 1 fun Q0 q0 => ?_; simp only [↓bO, go_sem, seval, hA, hE, hD, hO, lineA, ActT.cells, beq_self_eq_true, hln, her]; refine q0 _ ?_; clear q0 Q0; simp only [go_sem])
       refine aops_case 50 rfl (fun hc50 => ?_) (fun hc50 => ?_)
       ·
        simp only [List.set_cons_zero, List.set_cons_succ]
        iterate 5 (refine aops_chunk 1 fun Q0 q0 => ?_; simp only [↓bO, go_sem, seval, hA, hE, hD, hO, lineA, ActT.cells, beq_self_eq_true, hln, her]; refine q0 _ ?_; clear q0 Q0; simp only [go_sem])
        refine aops_case 55 rfl (fun hc55 => ?_) (fun hc55 => ?_)
        ·
         simp only [List.set_cons_zero, List.set_cons_succ]
         refine aops_chunk 1 fun Q0 q0 => ?_
         simp only [↓bO, go_sem, seval, hA, hE, hD, hO, lineA, ActT.cells, beq_self_eq_true, hln, her]
         refine APure.call (awake28_pure) ?_
         try simp only [bS, bA, thenQ, blockQ, noGotoQ]
         refine q0 _ ?_
         clear q0 Q0
         simp only [go_sem]
         refine aops_chunk 1 fun Q0 q0 => ?_
         simp only [↓bO, go_sem, seval, hA, hE, hD, hO, lineA, ActT.cells, beq_self_eq_true, hln, her]
         refine q0 _ ?_
         clear q0 Q0
         simp only [go_sem]
         simp only [↓bO, go_sem, seval, hA, hE, hD, hO, lineA, ActT.cells, beq_self_eq_true, hln, her]
         refine y0 _ ?_
         try clear y0 Y0
         refine AWp_ret ?_
         try simp only [thenQ, blockQ, noGotoQ, retQ, aRes, tupOf, bS, bA]
         exact Le.refl _
        ·
         simp only [List.set_cons_zero, List.set_cons_succ]
         exact absurd hc55 (by simp)
       ·
        simp only [List.set_cons_zero, List.set_cons_succ]
        exact absurd hc50 (by simp)
theorem TP_no (s : ByteArray) (hA : prgA s = ActT.none 0) (hE : prgE s = 3) (hD : docA s = ActT.none 0) (hO : docB s = false) : APure Tryd.prog 4 [.v (.string s)] (.v (.bool true)) := by
  refine APure.mkL (.cons (.v _) .nil) (.v _) ?_
  refine ACalls_intro Tryd.func4 (by kernel_rfl) rfl (by rw [Tryd.ntmps4]; simp) (fun hm => ?_)
  simp only [Tryd.ntmps4, Tryd.results4, List.length_cons, List.length_nil, Nat.reduceAdd, Nat.reduceSub, List.replicate_succ, List.replicate_zero, List.cons_append, List.nil_append]
  refine AWp_seqK fun Y0 y0 => ?_
  refine AWp_region ?_
  simp only [↓bO, go_sem, seval, hA, hE, hD, hO, lineA, ActT.cells, beq_self_eq_true, ActT.none]
  refine y0 _ ?_
  try clear y0 Y0
  refine AWp_seqK fun Y0 y0 => ?_
  refine AWp_seqK fun Y1 y1 => ?_
  refine AWp_region ?_
  iterate 2 (refine aops_chunk 1 fun Q0 q0 => ?_; simp only [↓bO, go_sem, seval, hA, hE, hD, hO, lineA, ActT.cells, beq_self_eq_true, ActT.none]; refine q0 _ ?_; clear q0 Q0; simp only [go_sem])
  simp only [↓bO, go_sem, seval, hA, hE, hD, hO, lineA, ActT.cells, beq_self_eq_true, ActT.none]
  refine y1 _ ?_
  try clear y1 Y1
  refine AWp_cond rfl (fun hb11 => ?_) (fun hb11 => ?_)
  ·
   refine AWp_seqK fun Y1 y1 => ?_
   refine AWp_region ?_
   refine aops_chunk 1 fun Q0 q0 => ?_
   simp only [↓bO, go_sem, seval, hA, hE, hD, hO, lineA, ActT.cells, beq_self_eq_true, ActT.none]
   refine APure.call (awake28_pure) ?_
   try simp only [bS, bA, thenQ, blockQ, noGotoQ]
   refine q0 _ ?_
   clear q0 Q0
   simp only [go_sem]
   simp only [↓bO, go_sem, seval, hA, hE, hD, hO, lineA, ActT.cells, beq_self_eq_true, ActT.none]
   refine y1 _ ?_
   try clear y1 Y1
   refine AWp_ret ?_
   try simp only [thenQ, blockQ, noGotoQ, retQ, aRes, tupOf, bS, bA]
   exact Le.refl _
  ·
   have hs : s.size ≤ 500 := (by have h9 := hb11; simp at h9; omega)
   refine AWp_skip ?_
   try simp only [thenQ, blockQ, noGotoQ]
   refine y0 _ ?_
   try clear y0 Y0
   refine AWp_seqK fun Y0 y0 => ?_
   refine AWp_region ?_
   refine aops_chunk 1 fun Q0 q0 => ?_
   simp only [↓bO, go_sem, seval, hA, hE, hD, hO, lineA, ActT.cells, beq_self_eq_true, ActT.none]
   refine q0 _ ?_
   clear q0 Q0
   simp only [go_sem]
   refine aops_chunk 1 fun Q0 q0 => ?_
   simp only [↓bO, go_sem, seval, hA, hE, hD, hO, lineA, ActT.cells, beq_self_eq_true, ActT.none]
   refine APure.call (TParse_pure s (by omega)) ?_
   try simp only [bS, bA, thenQ, blockQ, noGotoQ]
   refine q0 _ ?_
   clear q0 Q0
   simp only [go_sem]
   refine aops_chunk 1 fun Q0 q0 => ?_
   simp only [↓bO, go_sem, seval, hA, hE, hD, hO, lineA, ActT.cells, beq_self_eq_true, ActT.none]
   iterate 2 (refine q0 _ ?_; clear q0 Q0; simp only [go_sem]; refine aops_chunk 1 fun Q0 q0 => ?_; simp only [↓bO, go_sem, seval, aExtract_tup, hA, hE, hD, hO, lineA, ActT.cells, beq_self_eq_true, ActT.none])
   iterate 2 (refine q0 _ ?_; clear q0 Q0; simp only [go_sem]; refine aops_chunk 1 fun Q0 q0 => ?_; simp only [↓bO, go_sem, seval, hA, hE, hD, hO, lineA, ActT.cells, beq_self_eq_true, ActT.none])
   refine q0 _ ?_
   clear q0 Q0
   simp only [go_sem]
   simp only [↓bO, go_sem, seval, hA, hE, hD, hO, lineA, ActT.cells, beq_self_eq_true, ActT.none]
   refine y0 _ ?_
   try clear y0 Y0
   refine AWp_seqK fun Y0 y0 => ?_
   refine AWp_region ?_
   refine aops_chunk 1 fun Q0 q0 => ?_
   simp only [↓bO, go_sem, seval, hA, hE, hD, hO, lineA, ActT.cells, beq_self_eq_true, ActT.none]
   refine q0 _ ?_
   clear q0 Q0
   simp only [go_sem]
   refine aops_chunk 1 fun Q0 q0 => ?_
   simp only [↓bO, go_sem, seval, hA, hE, hD, hO, lineA, ActT.cells, beq_self_eq_true, ActT.none]
   refine APure.call (RParse28_pure s (by omega)) ?_
   try simp only [bS, bA, thenQ, blockQ, noGotoQ]
   refine q0 _ ?_
   clear q0 Q0
   simp only [go_sem]
   refine aops_chunk 1 fun Q0 q0 => ?_
   simp only [↓bO, go_sem, seval, hA, hE, hD, hO, lineA, ActT.cells, beq_self_eq_true, ActT.none]
   iterate 2 (refine q0 _ ?_; clear q0 Q0; simp only [go_sem]; refine aops_chunk 1 fun Q0 q0 => ?_; simp only [↓bO, go_sem, seval, aExtract_tup, hA, hE, hD, hO, lineA, ActT.cells, beq_self_eq_true, ActT.none])
   iterate 2 (refine q0 _ ?_; clear q0 Q0; simp only [go_sem]; refine aops_chunk 1 fun Q0 q0 => ?_; simp only [↓bO, go_sem, seval, hA, hE, hD, hO, lineA, ActT.cells, beq_self_eq_true, ActT.none])
   refine q0 _ ?_
   clear q0 Q0
   simp only [go_sem]
   simp only [↓bO, go_sem, seval, hA, hE, hD, hO, lineA, ActT.cells, beq_self_eq_true, ActT.none]
   refine y0 _ ?_
   try clear y0 Y0
   refine AWp_seqK fun Y0 y0 => ?_
   refine AWp_seqK fun Y1 y1 => ?_
   refine AWp_region ?_
   iterate 5 (refine aops_chunk 1 fun Q0 q0 => ?_; simp only [↓bO, go_sem, seval, hA, hE, hD, hO, lineA, ActT.cells, beq_self_eq_true, ActT.none]; refine q0 _ ?_; clear q0 Q0; simp only [go_sem])
   refine aops_case 27 rfl (fun hc27 => ?_) (fun hc27 => ?_)
   ·
    simp only [List.set_cons_zero, List.set_cons_succ]
    exact absurd hc27 (by simp)
   ·
    simp only [List.set_cons_zero, List.set_cons_succ]
    iterate 3 (refine aops_chunk 1 fun Q0 q0 => ?_; simp only [↓bO, go_sem, seval, hA, hE, hD, hO, lineA, ActT.cells, beq_self_eq_true, ActT.none]; refine q0 _ ?_; clear q0 Q0; simp only [go_sem])
    refine aops_case 30 rfl (fun hc30 => ?_) (fun hc30 => ?_)
    ·
     simp only [List.set_cons_zero, List.set_cons_succ]
     iterate 5 (refine aops_chunk 1 fun Q0 q0 => ?_; simp only [↓bO, go_sem, seval, hA, hE, hD, hO, lineA, ActT.cells, beq_self_eq_true, ActT.none]; refine q0 _ ?_; clear q0 Q0; simp only [go_sem])
     refine aops_case 35 rfl (fun hc35 => ?_) (fun hc35 => ?_)
     ·
      simp only [List.set_cons_zero, List.set_cons_succ]
      exact absurd hc35 (by simp)
     ·
      simp only [List.set_cons_zero, List.set_cons_succ]
      iterate 2 (refine aops_chunk 1 fun Q0 q0 => ?_; simp only [↓bO, go_sem, seval, hA, hE, hD, hO, lineA, ActT.cells, beq_self_eq_true, ActT.none]; refine q0 _ ?_; clear q0 Q0; simp only [go_sem])
      refine aops_chunk 1 fun Q0 q0 => ?_
      simp only [↓bO, go_sem, seval, i2t30, aEq2, eqt30, hA, hE, hD, hO, lineA, ActT.cells, beq_self_eq_true, ActT.none]
      refine q0 _ ?_
      clear q0 Q0
      simp only [go_sem]
      simp only [↓bO, go_sem, seval, hA, hE, hD, hO, lineA, ActT.cells, beq_self_eq_true, ActT.none]
      refine y1 _ ?_
      try clear y1 Y1
      refine AWp_cond rfl (fun hb39 => ?_) (fun hb39 => ?_)
      ·
       exact absurd hb39 (by simp)
      ·
       refine AWp_skip ?_
       try simp only [thenQ, blockQ, noGotoQ]
       refine y0 _ ?_
       try clear y0 Y0
       refine AWp_seqK fun Y0 y0 => ?_
       refine AWp_seqK fun Y1 y1 => ?_
       refine AWp_region ?_
       refine aops_chunk 1 fun Q0 q0 => ?_
       simp only [↓bO, go_sem, seval, hA, hE, hD, hO, lineA, ActT.cells, beq_self_eq_true, ActT.none]
       refine q0 _ ?_
       clear q0 Q0
       simp only [go_sem]
       simp only [↓bO, go_sem, seval, hA, hE, hD, hO, lineA, ActT.cells, beq_self_eq_true, ActT.none]
       refine y1 _ ?_
       try clear y1 Y1
       refine AWp_cond rfl (fun hb41 => ?_) (fun hb41 => ?_)
       ·
        refine AWp_seqK fun Y1 y1 => ?_
        refine AWp_region ?_
        refine aops_chunk 1 fun Q0 q0 => ?_
        simp only [↓bO, go_sem, seval, hA, hE, hD, hO, lineA, ActT.cells, beq_self_eq_true, ActT.none]
        refine APure.call (awake28_pure) ?_
        try simp only [bS, bA, thenQ, blockQ, noGotoQ]
        refine q0 _ ?_
        clear q0 Q0
        simp only [go_sem]
        simp only [↓bO, go_sem, seval, hA, hE, hD, hO, lineA, ActT.cells, beq_self_eq_true, ActT.none]
        refine y1 _ ?_
        try clear y1 Y1
        refine AWp_ret ?_
        try simp only [thenQ, blockQ, noGotoQ, retQ, aRes, tupOf, bS, bA]
        exact Le.refl _
       ·
        exact absurd hb41 (by simp)
    ·
     simp only [List.set_cons_zero, List.set_cons_succ]
     exact absurd hc30 (by simp)
theorem TapeParses_pure (s : ByteArray) : APure Tryd.prog 4 [.v (.string s)] (.v (.bool true)) := by
  rcases parse_alike s with ⟨a, hl, h1, h2, h3, h4⟩ | ⟨_, h1, h2, h3, h4⟩
  · exact TP_yes s a hl h1 h2 h3 h4
  · exact TP_no s h1 h2 h3 h4
theorem TapeLines_pure (a o : ActT) (hf : a.fits) (hn : a.name.size ≤ 9223372036854775807) (ht : a.text.size ≤ 9223372036854775807) : APure Tryd.prog 5 [.agg a.cells, .agg o.cells] (.v (.bool true)) := by
  refine APure.mkL (.cons a.dataAgg (.cons o.dataAgg .nil)) (.v _) ?_
  refine ACalls_intro Tryd.func5 (by kernel_rfl) rfl (by rw [Tryd.ntmps5]; simp) (fun hm => ?_)
  simp only [Tryd.ntmps5, Tryd.results5, List.length_cons, List.length_nil, Nat.reduceAdd, Nat.reduceSub, List.replicate_succ, List.replicate_zero, List.cons_append, List.nil_append]
  have hfold : (a.k == o.k && (a.name.toList == o.name.toList && (a.p1 == o.p1 && (a.p2 == o.p2 && (a.text.toList == o.text.toList && (a.n == o.n && (a.lb == o.lb && (a.ld == o.ld && a.le == o.le)))))))) = a.eqB o := rfl
  refine AWp_seqK fun Y0 y0 => ?_
  refine AWp_region ?_
  iterate 2 (refine aops_chunk 1 fun Q0 q0 => ?_; simp only [↓bO, go_sem, seval, lineA, ActT.cells, beq_self_eq_true, hfold]; refine q0 _ ?_; clear q0 Q0; simp only [go_sem])
  simp only [↓bO, go_sem, seval, lineA, ActT.cells, beq_self_eq_true, hfold]
  refine y0 _ ?_
  try clear y0 Y0
  refine AWp_seqK fun Y0 y0 => ?_
  refine AWp_seqK fun Y1 y1 => ?_
  refine AWp_region ?_
  iterate 2 (refine aops_chunk 1 fun Q0 q0 => ?_; simp only [↓bO, go_sem, seval, lineA, ActT.cells, beq_self_eq_true, hfold]; refine q0 _ ?_; clear q0 Q0; simp only [go_sem])
  refine aops_chunk 1 fun Q0 q0 => ?_
  simp only [↓bO, go_sem, seval, ↓bs2_1, ↓bs2_2, ↓bs2_3, ↓bs2_4, ↓bs2_5, ↓bs2_6, ↓bs2_7, ↓bs2_8, ↓bs2_9, ↓bs2_10, ↓bs2_11, ↓bs2_12, lineA, ActT.cells, beq_self_eq_true, hfold]
  refine q0 _ ?_
  clear q0 Q0
  simp only [go_sem]
  simp only [↓bO, go_sem, seval, lineA, ActT.cells, beq_self_eq_true, hfold]
  refine APure.call (great28_pure [a, o] (by simp)) ?_
  try simp only [bS, bA, thenQ, blockQ, noGotoQ]
  refine y1 _ ?_
  try clear y1 Y1
  refine AWp_cond rfl (fun hb14 => ?_) (fun hb14 => ?_)
  ·
   refine AWp_seqK fun Y1 y1 => ?_
   refine AWp_region ?_
   refine aops_chunk 1 fun Q0 q0 => ?_
   simp only [↓bO, go_sem, seval, lineA, ActT.cells, beq_self_eq_true, hfold]
   refine APure.call (awake28_pure) ?_
   try simp only [bS, bA, thenQ, blockQ, noGotoQ]
   refine q0 _ ?_
   clear q0 Q0
   simp only [go_sem]
   simp only [↓bO, go_sem, seval, lineA, ActT.cells, beq_self_eq_true, hfold]
   refine y1 _ ?_
   try clear y1 Y1
   refine AWp_ret ?_
   try simp only [thenQ, blockQ, noGotoQ, retQ, aRes, tupOf, bS, bA]
   exact Le.refl _
  ·
   refine AWp_skip ?_
   try simp only [thenQ, blockQ, noGotoQ]
   refine y0 _ ?_
   try clear y0 Y0
   refine AWp_seqK fun Y0 y0 => ?_
   refine AWp_region ?_
   refine aops_chunk 1 fun Q0 q0 => ?_
   simp only [↓bO, go_sem, seval, lineA, ActT.cells, beq_self_eq_true, hfold]
   refine q0 _ ?_
   clear q0 Q0
   simp only [go_sem]
   refine aops_chunk 1 fun Q0 q0 => ?_
   simp only [↓bO, go_sem, seval, lineA, ActT.cells, beq_self_eq_true, hfold]
   refine APure.call (TLine_pure a hf hn ht) ?_
   try simp only [bS, bA, thenQ, blockQ, noGotoQ]
   refine q0 _ ?_
   clear q0 Q0
   simp only [go_sem]
   refine aops_chunk 1 fun Q0 q0 => ?_
   simp only [↓bO, go_sem, seval, lineA, ActT.cells, beq_self_eq_true, hfold]
   iterate 2 (refine q0 _ ?_; clear q0 Q0; simp only [go_sem]; refine aops_chunk 1 fun Q0 q0 => ?_; simp only [↓bO, go_sem, seval, aExtract_tup, lineA, ActT.cells, beq_self_eq_true, hfold])
   refine q0 _ ?_
   clear q0 Q0
   simp only [go_sem]
   refine aops_chunk 1 fun Q0 q0 => ?_
   simp only [↓bO, go_sem, seval, lineA, ActT.cells, beq_self_eq_true, hfold]
   refine q0 _ ?_
   clear q0 Q0
   simp only [go_sem]
   simp only [↓bO, go_sem, seval, lineA, ActT.cells, beq_self_eq_true, hfold]
   refine y0 _ ?_
   try clear y0 Y0
   refine AWp_seqK fun Y0 y0 => ?_
   refine AWp_region ?_
   refine aops_chunk 1 fun Q0 q0 => ?_
   simp only [↓bO, go_sem, seval, lineA, ActT.cells, beq_self_eq_true, hfold]
   refine q0 _ ?_
   clear q0 Q0
   simp only [go_sem]
   refine aops_chunk 1 fun Q0 q0 => ?_
   simp only [↓bO, go_sem, seval, lineA, ActT.cells, beq_self_eq_true, hfold]
   refine APure.call (RLine_pure a hf hn ht) ?_
   try simp only [bS, bA, thenQ, blockQ, noGotoQ]
   refine q0 _ ?_
   clear q0 Q0
   simp only [go_sem]
   refine aops_chunk 1 fun Q0 q0 => ?_
   simp only [↓bO, go_sem, seval, lineA, ActT.cells, beq_self_eq_true, hfold]
   iterate 2 (refine q0 _ ?_; clear q0 Q0; simp only [go_sem]; refine aops_chunk 1 fun Q0 q0 => ?_; simp only [↓bO, go_sem, seval, aExtract_tup, lineA, ActT.cells, beq_self_eq_true, hfold])
   refine q0 _ ?_
   clear q0 Q0
   simp only [go_sem]
   refine aops_chunk 1 fun Q0 q0 => ?_
   simp only [↓bO, go_sem, seval, lineA, ActT.cells, beq_self_eq_true, hfold]
   refine q0 _ ?_
   clear q0 Q0
   simp only [go_sem]
   simp only [↓bO, go_sem, seval, lineA, ActT.cells, beq_self_eq_true, hfold]
   refine y0 _ ?_
   try clear y0 Y0
   refine AWp_seqK fun Y0 y0 => ?_
   refine AWp_seqK fun Y1 y1 => ?_
   refine AWp_drawK 17 mixed (by kernel_rfl) fun J0 j0 => ?_
   iterate 4 (simp only [go_sem]; refine dRun_chunk 1 fun Q0 q0 => ?_; simp only [↓dRun, ↓dOp, ↓bO, go_sem, seval, lineA, ActT.cells, beq_self_eq_true, hfold]; refine q0 _ ?_; clear q0 Q0)
   simp only [go_sem]
   refine dRun_case 29 rfl (fun hc29 => ?_) (fun hc29 => ?_)
   ·
    simp only [List.set_cons_zero, List.set_cons_succ]
    exact absurd hc29 (by simp)
   ·
    simp only [List.set_cons_zero, List.set_cons_succ]
    iterate 5 (refine dRun_chunk 1 fun Q0 q0 => ?_; simp only [↓dRun, ↓dOp, ↓bO, go_sem, seval, lineA, ActT.cells, beq_self_eq_true, hfold]; refine q0 _ ?_; clear q0 Q0; simp only [go_sem])
    refine dRun_case 34 rfl (fun hc34 => ?_) (fun hc34 => ?_)
    ·
     simp only [List.set_cons_zero, List.set_cons_succ]
     exact absurd hc34 (by simp)
    ·
     simp only [List.set_cons_zero, List.set_cons_succ]
     iterate 2 (refine dRun_chunk 1 fun Q0 q0 => ?_; simp only [↓dRun, ↓dOp, ↓bO, go_sem, seval, lineA, ActT.cells, beq_self_eq_true, hfold]; refine q0 _ ?_; clear q0 Q0; simp only [go_sem])
     refine dRun_chunk 1 fun Q0 q0 => ?_
     simp only [↓dRun, ↓dOp, ↓bO, go_sem, seval, lineA, ActT.cells, beq_self_eq_true, hfold]
     refine ⟨_, TSame28_pure a o, ?_⟩
     try simp only [bS, bA, thenQ, blockQ, noGotoQ]
     iterate 2 (refine q0 _ ?_; clear q0 Q0; simp only [go_sem]; refine dRun_chunk 1 fun Q0 q0 => ?_; simp only [↓dRun, ↓dOp, ↓bO, go_sem, seval, lineA, ActT.cells, beq_self_eq_true, hfold])
     refine q0 _ ?_
     clear q0 Q0
     simp only [go_sem]
     refine dRun_chunk 1 fun Q0 q0 => ?_
     simp only [↓dRun, ↓dOp, ↓bO, go_sem, seval, i2t30, aEq2, eqt30, lineA, ActT.cells, beq_self_eq_true, hfold]
     refine q0 _ ?_
     clear q0 Q0
     simp only [go_sem]
     refine dRun_chunk 1 fun Q0 q0 => ?_
     simp only [↓dRun, ↓dOp, ↓bO, go_sem, seval, lineA, ActT.cells, beq_self_eq_true, hfold]
     refine q0 _ ?_
     clear q0 Q0
     simp only [go_sem]
     simp only [↓dRun, ↓dOp, ↓bO, go_sem, seval, lineA, ActT.cells, beq_self_eq_true, hfold]
     refine j0 _ ?_
     clear j0 J0
     simp only [bL, aops, thenQ, blockQ, noGotoQ]
     refine y1 _ ?_
     try clear y1 Y1
     refine AWp_cond rfl (fun hb42 => ?_) (fun hb42 => ?_)
     ·
      exact absurd hb42 (by simp)
     ·
      refine AWp_skip ?_
      try simp only [thenQ, blockQ, noGotoQ]
      refine y0 _ ?_
      try clear y0 Y0
      refine AWp_seqK fun Y0 y0 => ?_
      refine AWp_seqK fun Y1 y1 => ?_
      refine AWp_region ?_
      refine aops_chunk 1 fun Q0 q0 => ?_
      simp only [↓bO, go_sem, seval, lineA, ActT.cells, beq_self_eq_true, hfold]
      refine q0 _ ?_
      clear q0 Q0
      simp only [go_sem]
      simp only [↓bO, go_sem, seval, lineA, ActT.cells, beq_self_eq_true, hfold]
      refine y1 _ ?_
      try clear y1 Y1
      refine AWp_cond rfl (fun hb44 => ?_) (fun hb44 => ?_)
      ·
       refine AWp_seqK fun Y1 y1 => ?_
       refine AWp_region ?_
       refine aops_chunk 1 fun Q0 q0 => ?_
       simp only [↓bO, go_sem, seval, lineA, ActT.cells, beq_self_eq_true, hfold]
       refine APure.call (awake28_pure) ?_
       try simp only [bS, bA, thenQ, blockQ, noGotoQ]
       refine q0 _ ?_
       clear q0 Q0
       simp only [go_sem]
       simp only [↓bO, go_sem, seval, lineA, ActT.cells, beq_self_eq_true, hfold]
       refine y1 _ ?_
       try clear y1 Y1
       refine AWp_ret ?_
       try simp only [thenQ, blockQ, noGotoQ, retQ, aRes, tupOf, bS, bA]
       exact Le.refl _
      ·
       have h0 : a.err = 0 := (by have h9 := hb44; simpa using h9)
       have hln := ActT.line_ok h0
       have hp := prg_yes (s := a.line) ⟨hf, h0, hln.symm⟩
       have hp1 := hp.1
       have hp2 := hp.2
       refine AWp_skip ?_
       try simp only [thenQ, blockQ, noGotoQ]
       refine y0 _ ?_
       try clear y0 Y0
       refine AWp_seqK fun Y0 y0 => ?_
       refine AWp_region ?_
       refine aops_chunk 1 fun Q0 q0 => ?_
       simp only [↓bO, go_sem, seval, lineA, ActT.cells, beq_self_eq_true, hfold, hp1, hp2]
       refine q0 _ ?_
       clear q0 Q0
       simp only [go_sem]
       refine aops_chunk 1 fun Q0 q0 => ?_
       simp only [↓bO, go_sem, seval, lineA, ActT.cells, beq_self_eq_true, hfold, hp1, hp2]
       refine APure.call (TParse_pure a.line (by rw [hln]; have := text_size hf h0; omega)) ?_
       try simp only [bS, bA, thenQ, blockQ, noGotoQ]
       refine q0 _ ?_
       clear q0 Q0
       simp only [go_sem]
       refine aops_chunk 1 fun Q0 q0 => ?_
       simp only [↓bO, go_sem, seval, lineA, ActT.cells, beq_self_eq_true, hfold, hp1, hp2]
       iterate 2 (refine q0 _ ?_; clear q0 Q0; simp only [go_sem]; refine aops_chunk 1 fun Q0 q0 => ?_; simp only [↓bO, go_sem, seval, aExtract_tup, lineA, ActT.cells, beq_self_eq_true, hfold, hp1, hp2])
       iterate 2 (refine q0 _ ?_; clear q0 Q0; simp only [go_sem]; refine aops_chunk 1 fun Q0 q0 => ?_; simp only [↓bO, go_sem, seval, lineA, ActT.cells, beq_self_eq_true, hfold, hp1, hp2])
       refine q0 _ ?_
       clear q0 Q0
       simp only [go_sem]
       simp only [↓bO, go_sem, seval, lineA, ActT.cells, beq_self_eq_true, hfold, hp1, hp2]
       refine y0 _ ?_
       try clear y0 Y0
       refine AWp_seqK fun Y0 y0 => ?_
       refine AWp_region ?_
       iterate 3 (refine aops_chunk 1 fun Q0 q0 => ?_; simp only [↓bO, go_sem, seval, lineA, ActT.cells, beq_self_eq_true, hfold, hp1, hp2]; refine q0 _ ?_; clear q0 Q0; simp only [go_sem])
       refine aops_case 53 rfl (fun hc53 => ?_) (fun hc53 => ?_)
       ·
        simp only [List.set_cons_zero, List.set_cons_succ]
        iterate 2 (refine aops_chunk 1 fun Q0 q0 => ?_; simp only [↓bO, go_sem, seval, lineA, ActT.cells, beq_self_eq_true, hfold, hp1, hp2]; refine q0 _ ?_; clear q0 Q0; simp only [go_sem])
        refine aops_chunk 1 fun Q0 q0 => ?_
        simp only [↓bO, go_sem, seval, i2t30, aEq2, eqt30, lineA, ActT.cells, beq_self_eq_true, hfold, hp1, hp2]
        iterate 2 (refine q0 _ ?_; clear q0 Q0; simp only [go_sem]; refine aops_chunk 1 fun Q0 q0 => ?_; simp only [↓bO, go_sem, seval, lineA, ActT.cells, beq_self_eq_true, hfold, hp1, hp2])
        refine q0 _ ?_
        clear q0 Q0
        simp only [go_sem]
        refine aops_case 58 rfl (fun hc58 => ?_) (fun hc58 => ?_)
        ·
         simp only [List.set_cons_zero, List.set_cons_succ]
         refine aops_chunk 1 fun Q0 q0 => ?_
         simp only [↓bO, go_sem, seval, lineA, ActT.cells, beq_self_eq_true, hfold, hp1, hp2]
         refine APure.call (awake28_pure) ?_
         try simp only [bS, bA, thenQ, blockQ, noGotoQ]
         refine q0 _ ?_
         clear q0 Q0
         simp only [go_sem]
         refine aops_chunk 1 fun Q0 q0 => ?_
         simp only [↓bO, go_sem, seval, lineA, ActT.cells, beq_self_eq_true, hfold, hp1, hp2]
         refine q0 _ ?_
         clear q0 Q0
         simp only [go_sem]
         simp only [↓bO, go_sem, seval, lineA, ActT.cells, beq_self_eq_true, hfold, hp1, hp2]
         refine y0 _ ?_
         try clear y0 Y0
         refine AWp_ret ?_
         try simp only [thenQ, blockQ, noGotoQ, retQ, aRes, tupOf, bS, bA]
         exact Le.refl _
        ·
         simp only [List.set_cons_zero, List.set_cons_succ]
         exact absurd hc58 (by simp)
       ·
        simp only [List.set_cons_zero, List.set_cons_succ]
        exact absurd hc53 (by simp)
end Go.Proofs.YtmepcmphcghbeaaDoor
namespace Go.Proofs.YtmepcmphcghbeaaDoor
open Go Go.Shelf
def Tryd.lays157_ren : Go.Shelf.Ren := ⟨fun | 157 => 60 | 229 => 70 | 199 => 71 | 261 => 82 | 311 => 91 | 312 => 92 | n => n, fun | 9 => 9 | 31 => 65 | 3 => 3 | 5 => 5 | 4 => 4 | 119 => 98 | 0 => 0 | 40 => 100 | 152 => 115 | 21 => 21 | 154 => 117 | 51 => 112 | 141 => 119 | 196 => 132 | 193 => 129 | 198 => 135 | 49 => 133 | 194 => 130 | 201 => 138 | 226 => 145 | 46 => 52 | 227 => 146 | n => n, fun | 0 => 2 | 6 => 3 | n => n⟩
theorem Tryd.lays157 : Go.Proofs.Lays.n157 Tryd.prog Tryd.lays157_ren := {
  mixed := by kernel_rfl
  f157 := Tryd.func60.trans (congrArg some (by kernel_rfl))
  f199 := Tryd.func71.trans (congrArg some (by kernel_rfl))
  f229 := Tryd.func70.trans (congrArg some (by kernel_rfl))
  f261 := Tryd.func82.trans (congrArg some (by kernel_rfl))
  f311 := Tryd.func91.trans (congrArg some (by kernel_rfl))
  f312 := Tryd.func92.trans (congrArg some (by kernel_rfl))
  t0 := Tryd.underlying0
  a0 := Tryd.isAgg0
  z0 := Tryd.sizeOf0
  v0 := Tryd.zeroValue0
  t3 := Tryd.underlying3
  a3 := Tryd.isAgg3
  z3 := Tryd.sizeOf3
  v3 := Tryd.zeroValue3
  t4 := Tryd.underlying4
  a4 := Tryd.isAgg4
  z4 := Tryd.sizeOf4
  v4 := Tryd.zeroValue4
  t5 := Tryd.underlying5
  a5 := Tryd.isAgg5
  z5 := Tryd.sizeOf5
  v5 := Tryd.zeroValue5
  t9 := Tryd.underlying9
  a9 := Tryd.isAgg9
  z9 := Tryd.sizeOf9
  v9 := Tryd.zeroValue9
  t21 := Tryd.underlying21
  a21 := Tryd.isAgg21
  z21 := Tryd.sizeOf21
  v21 := Tryd.zeroValue21
  t31 := Tryd.underlying65
  a31 := Tryd.isAgg65
  z31 := Tryd.sizeOf65
  v31 := Tryd.zeroValue65
  t40 := Tryd.underlying100
  a40 := Tryd.isAgg100
  z40 := Tryd.sizeOf100
  v40 := Tryd.zeroValue100
  t46 := Tryd.underlying52
  a46 := Tryd.isAgg52
  z46 := Tryd.sizeOf52
  v46 := Tryd.zeroValue52
  t49 := Tryd.underlying133
  a49 := Tryd.isAgg133
  z49 := Tryd.sizeOf133
  v49 := Tryd.zeroValue133
  t51 := Tryd.underlying112
  a51 := Tryd.isAgg112
  z51 := Tryd.sizeOf112
  v51 := Tryd.zeroValue112
  t119 := Tryd.underlying98
  a119 := Tryd.isAgg98
  z119 := Tryd.sizeOf98
  t141 := Tryd.underlying119
  a141 := Tryd.isAgg119
  z141 := Tryd.sizeOf119
  v141 := Tryd.zeroValue119
  t152 := Tryd.underlying115
  a152 := Tryd.isAgg115
  z152 := Tryd.sizeOf115
  v152 := Tryd.zeroValue115
  t154 := Tryd.underlying117
  a154 := Tryd.isAgg117
  z154 := Tryd.sizeOf117
  v154 := Tryd.zeroValue117
  t193 := Tryd.underlying129
  a193 := Tryd.isAgg129
  z193 := Tryd.sizeOf129
  v193 := Tryd.zeroValue129
  t194 := Tryd.underlying130
  a194 := Tryd.isAgg130
  z194 := Tryd.sizeOf130
  v194 := Tryd.zeroValue130
  t196 := Tryd.underlying132
  a196 := Tryd.isAgg132
  z196 := Tryd.sizeOf132
  v196 := Tryd.zeroValue132
  t198 := Tryd.underlying135
  a198 := Tryd.isAgg135
  z198 := Tryd.sizeOf135
  v198 := Tryd.zeroValue135
  t201 := Tryd.underlying138
  a201 := Tryd.isAgg138
  z201 := Tryd.sizeOf138
  v201 := Tryd.zeroValue138
  t226 := Tryd.underlying145
  a226 := Tryd.isAgg145
  z226 := Tryd.sizeOf145
  v226 := Tryd.zeroValue145
  t227 := Tryd.underlying146
  a227 := Tryd.isAgg146
  z227 := Tryd.sizeOf146
  v227 := Tryd.zeroValue146
  g0 := by kernel_rfl
  g6 := by kernel_rfl }
end Go.Proofs.YtmepcmphcghbeaaDoor
namespace Go.Proofs.YtmepcmphcghbeaaDoor
open Go
variable {H : Type} {enc : TypeId × Value → H}
theorem handed_laid_shaped {a : Assume} {C : Checked} {os : Go.Os} {f : FuncId} {fn : Func} {s : ChangeSpec} {conds : List PathCond} {apart fresh handsOn again : Bool} {X : World → Array Value → Prop}
    (hX : ∀ (w w' : World) (args : Array Value), w.heap = w'.heap → X w args → X w' args)
    (own : ownKnob C.prog.godebug = none) (started : os.Started) (noInit : C.prog.inits.idxOf? f = none) (hfn : C.prog.funcs[f]? = some fn)
    (witness : ∃ (w : World) (tape : Tape) (i : Input), w.os = os ∧ (w.forCall tape i).Shaped C.prog ∧ i.vars = [] ∧ Input.okWide C.prog (w.forCall tape i) .any w.heap.size f i ∧
      ((s.pre enc C.prog fn conds apart (w.forCall tape i).memory i.args ∧ X (w.forCall tape i).memory i.args) ∧ sizedMet enc C.prog fn (OpenSpec.ofChange s) apart (w.forCall tape i).memory i.args) ∧ a.holds C.prog (lone (Frame.enter C.prog f i.args .normal) [] (w.forCall tape i)))
    (contract : ∀ (W : World) (base : Nat) (args : Array Value) (ds gs : List (DataW H)) (before : List MemPlace),
      (∀ (j : Nat) t v, fn.params[j]? = some t → args[j]? = some v → Value.okWide C.prog W .any base t v) →
      DataW.Whole enc C.prog fn.params.toList s.vars apart W args.toList ds gs before →
      conds.all (PathCond.test C.prog ⟨fn.params.toList, ds, s.plain.varTypes C.prog, gs⟩) = true →
      X W args → W.ShapedOpen C.prog →
      Calls C.prog f args W fun e W' => ∃ v, e = .returned v ∧ s.post enc C.prog fn apart fresh handsOn again W args v W') :
    ReturnsInHanded a C os f .any (fun w args => (s.pre enc C.prog fn conds apart w args ∧ X w args) ∧ sizedMet enc C.prog fn (OpenSpec.ofChange s) apart w args) (s.post enc C.prog fn apart fresh handsOn again) :=
  returnsInHanded_of_calls own started noInit witness fun w tape i _ hsh _ hok hpre _ => by
    obtain ⟨_, _, _, fn1, hf1, _, _, _, _, hval⟩ := hok
    obtain rfl : fn1 = fn := Option.some.inj (hf1.symm.trans hfn)
    obtain ⟨⟨⟨ds, gs, before, hw, hc⟩, hx⟩, _⟩ := hpre
    refine (contract (w.forCall tape i) w.heap.size i.args ds gs before hval (DataW.Whole.of_heap (w' := w.forCall tape i) (by rfl) hw) hc (hX _ _ _ (by rfl) hx) hsh).mono fun e W' ⟨v, he, hp⟩ => ?_
    subst he
    exact ChangeSpec.post_blind hp
end Go.Proofs.YtmepcmphcghbeaaDoor
namespace Go.Proofs.YtmepcmphcghbeaaDoor.tapeParses
open Go Go.ChangeShapes Go.WideShapes Go.ChangeAt Go.RowKit
set_option linter.unusedVariables false
theorem own : ownKnob Tryd.prog.godebug = none := by kernel_rfl
theorem laidOut : laidOutB Tryd.prog = true := by kernel_rfl
section
variable {H : Type} {enc : TypeId × Value → H} {w : World} {base : Nat} {spare : Nat → Bool} {held : Bool}
end
set_option maxRecDepth 100000 in
theorem lifted (os : Go.Os) (started : os.Started) (H : Type) (enc : TypeId × Value → H) :
    ReturnsInHanded {} Tryd.checked os 4 .any (fun w args => (Rows.tapeParsesSpec.pre enc Tryd.prog Tryd.f4 Rows.tapeParsesRow.domain false w args ∧ laidMetH Tryd.prog Rows.tapeParsesRow.laid w) ∧ sizedMet enc Tryd.prog Tryd.f4 (OpenSpec.ofChange Rows.tapeParsesSpec) false w args)
      (Rows.tapeParsesSpec.post enc Tryd.prog Tryd.f4 false true false false) := by
  refine handed_laid_shaped (C := Tryd.checked) (X := fun w _ => laidMetH Tryd.prog Rows.tapeParsesRow.laid w) (fun _ _ _ hh h => h.of_heap hh) own started (by kernel_rfl) Tryd.func4
    (ChangeSpec.witness_shaped (enc := enc) (C := Tryd.checked) (os := os) (X := fun w _ => laidMetH Tryd.prog Rows.tapeParsesRow.laid w) false (World.laidAll Tryd.prog os Rows.tapeParsesRow.laid) #[.string ByteArray.empty] 8 (World.laidAll_os _ _ _)
      (World.shaped_of_ZipB (by kernel_rfl) (by kernel_rfl)) (by kernel_rfl) (by kernel_rfl) (by kernel_rfl)
      (by rw [MakeChecks.laidMetH_plain _ _ _ (by kernel_rfl)]; exact laidMet_laidAll _ (by kernel_rfl) (by kernel_rfl))) ?_
  intro W base args ds gs before hval0 hW hcnd hL hsh
  have hlaid : laidMet Tryd.prog Rows.tapeParsesRow.laid W := by have h := hL; rw [MakeChecks.laidMetH_plain _ _ _ (by kernel_rfl)] at h; exact h
  have hgl : Gl (fun _ _ => False) W := by
    refine ⟨?_, ?_, ?_⟩
    · intro p hp
      have hp : p ∈ [(0, gv0), (2, gv2), (4, gv4)] := hp
      rcases List.mem_cons.1 hp with rfl | hp
      · refine gl_strs (strsIs_of_head (lls := [[[], []], [[111, 112, 101, 110], [110, 116]], [[101, 100, 105, 116], [110, 102, 111, 116]], [[99, 108, 111, 115, 101], [110]], [[99, 104, 101, 99, 107], [110]], [[114, 117, 110], [110, 117]], [[108, 105, 109, 105, 116], [108]], [[108, 105, 115, 116], []]]) (l := gy0) (g := 0) (t := 62) (e := 61) (s := 9) (n := 8) (m := 2) (rest := []) (name := "pangram/tape.uses") (by kernel_rfl) (by kernel_rfl) Tryd.underlying62 Tryd.underlying61 Tryd.underlying9 (by kernel_rfl) (by kernel_rfl) (by kernel_rfl) (by kernel_rfl) ?_) (by kernel_rfl) rfl
        have h := hlaid.filter (fun x => x.1 == "pangram/tape.uses")
        rw [show (Rows.tapeParsesRow.laid.filter fun x => x.1 == "pangram/tape.uses") = [("pangram/tape.uses", .agg (([[[], []], [[111, 112, 101, 110], [110, 116]], [[101, 100, 105, 116], [110, 102, 111, 116]], [[99, 108, 111, 115, 101], [110]], [[99, 104, 101, 99, 107], [110]], [[114, 117, 110], [110, 117]], [[108, 105, 109, 105, 116], [108]], [[108, 105, 115, 116], []]] : List (List (List UInt8))).map fun ls => .agg (ls.map fun l => .lit (.string l))))] from by kernel_rfl] at h
        exact h
      rcases List.mem_cons.1 hp with rfl | hp
      · refine gl_one (Lib.tabIs_of_head (zs := gz2) (k := .u8) (g := 2) (t := 98) (e := 5) (n := 256) (rest := []) (name := "strings.asciiSpace") (by kernel_rfl) (by kernel_rfl) Tryd.underlying98 Tryd.underlying5 (by kernel_rfl) (by kernel_rfl) ?_) (by kernel_rfl) rfl
        have h := hlaid.filter (fun x => x.1 == "strings.asciiSpace")
        rw [show (Rows.tapeParsesRow.laid.filter fun x => x.1 == "strings.asciiSpace") = [("strings.asciiSpace", Lib.tabData .u8 gz2)] from by kernel_rfl] at h
        exact h
      rcases List.mem_cons.1 hp with rfl | hp
      · refine gl_one (Lib.tabIs_of_head (zs := gz4) (k := .u64) (g := 4) (t := 121) (e := 85) (n := 20) (rest := []) (name := "internal/strconv.uint64pow10") (by kernel_rfl) (by kernel_rfl) Tryd.underlying121 Tryd.underlying85 (by kernel_rfl) (by kernel_rfl) ?_) (by kernel_rfl) rfl
        have h := hlaid.filter (fun x => x.1 == "internal/strconv.uint64pow10")
        rw [show (Rows.tapeParsesRow.laid.filter fun x => x.1 == "internal/strconv.uint64pow10") = [("internal/strconv.uint64pow10", Lib.tabData .u64 gz4)] from by kernel_rfl] at h
        exact h
      cases hp
    · intro p hp
      have hp : p ∈ ([5, 6] : List Nat) := hp
      rcases List.mem_cons.1 hp with rfl | hp
      · have h := hlaid.filter (fun x => x.1 == "strconv.ErrSyntax")
        rw [show (Rows.tapeParsesRow.laid.filter fun x => x.1 == "strconv.ErrSyntax") = [("strconv.ErrSyntax", .iface "*errors.errorString" (.ptr (.agg [.lit (.string [105, 110, 118, 97, 108, 105, 100, 32, 115, 121, 110, 116, 97, 120])])))] from by kernel_rfl] at h
        obtain ⟨a0, s0, hv0, _⟩ := laid_sentinel (g := 5) (ti := 77) (tp := 142) (te := 144) (ts := 9) h (by kernel_rfl) (by kernel_rfl) Tryd.underlying77
          (fun u hu => typeName_ptr_named (nm := "errors.errorString") (by rw [show "*" ++ "errors.errorString" = "*errors.errorString" by decide]; kernel_rfl) (by kernel_rfl) (by decide) u (by rw [show "*" ++ "errors.errorString" = "*errors.errorString" by decide]; exact hu))
          Tryd.underlying142 Tryd.underlying144 rfl rfl Tryd.underlying9 (by kernel_rfl) (by kernel_rfl)
        exact glE_one hv0 (by kernel_rfl)
      rcases List.mem_cons.1 hp with rfl | hp
      · have h := hlaid.filter (fun x => x.1 == "strconv.ErrRange")
        rw [show (Rows.tapeParsesRow.laid.filter fun x => x.1 == "strconv.ErrRange") = [("strconv.ErrRange", .iface "*errors.errorString" (.ptr (.agg [.lit (.string [118, 97, 108, 117, 101, 32, 111, 117, 116, 32, 111, 102, 32, 114, 97, 110, 103, 101])])))] from by kernel_rfl] at h
        obtain ⟨a0, s0, hv0, _⟩ := laid_sentinel (g := 6) (ti := 77) (tp := 142) (te := 144) (ts := 9) h (by kernel_rfl) (by kernel_rfl) Tryd.underlying77
          (fun u hu => typeName_ptr_named (nm := "errors.errorString") (by rw [show "*" ++ "errors.errorString" = "*errors.errorString" by decide]; kernel_rfl) (by kernel_rfl) (by decide) u (by rw [show "*" ++ "errors.errorString" = "*errors.errorString" by decide]; exact hu))
          Tryd.underlying142 Tryd.underlying144 rfl rfl Tryd.underlying9 (by kernel_rfl) (by kernel_rfl)
        exact glE_one hv0 (by kernel_rfl)
      cases hp
    · intro p hp
      have hp : p ∈ ([Lib.WhiteTab 3, fun w => ∃ m : Int, w.cell? ⟨1, 0, none⟩ = some (.int .i64 m)] : List (World → Prop)) := hp
      rcases List.mem_cons.1 hp with rfl | hp
      · intro w1 hs1
        have h := hlaid.filter (fun x => x.1 == "unicode.White_Space")
        rw [show (Rows.tapeParsesRow.laid.filter fun x => x.1 == "unicode.White_Space") = [("unicode.White_Space", Lib.whiteData)] from by kernel_rfl] at h
        exact WhiteTab_below (whiteTab_of_reads { Tryd.lays157 with } ⟨by kernel_rfl, by kernel_rfl, by kernel_rfl, by kernel_rfl, by kernel_rfl, by kernel_rfl, by kernel_rfl, by kernel_rfl⟩ (Lib.laidMet.reads h (.head _))) hs1.below
      rcases List.mem_cons.1 hp with rfl | hp
      · intro w1 hs1
        obtain ⟨m, hm⟩ := cell_of_shapedOpen_int (P := Tryd.prog) (g := 1) (t := 3) (k := .i64) (zero := #[.int .i64 0]) hsh (of_decide_eq_true (by kernel_rfl)) (by kernel_rfl) rfl (by kernel_rfl) (by kernel_rfl) Tryd.underlying3
        exact ⟨m, (hs1.below.cell (World.block_lt_of_cell? W _ hm)).trans hm⟩
      cases hp
  have hval : ∀ (j : Nat) t v, Tryd.f4.params[j]? = some t → args[j]? = some v → Value.okWide Tryd.prog W .any base t v := hval0
  have hW' := hW
  obtain ⟨p, q, hA0, hV, rfl, hfz, hnd⟩ := hW
  have hA : DataW.TrodAll enc Tryd.prog W 0 (fun _ => true) true Tryd.f4.params.toList args.toList ds p := hA0
  rw [Tryd.params4] at hA hval
  obtain ⟨v0, vs0, d0, ds0, p0, q0, hargs, rfl, rfl, h0, r0⟩ := trodAll_cons hA
  obtain ⟨rfl, rfl, rfl⟩ := trodAll_nil r0
  obtain rfl : args = #[v0] := by cases args; simp_all
  obtain ⟨rfl, rfl⟩ := trodVars_none hV
  obtain ⟨a0, rfl, rfl, rfl, w0⟩ := ChangeMaps.open_string Tryd.underlying9 (hval 0 9 v0 rfl rfl) h0
  clear hA0 hval0
  refine ((TapeParses_pure a0).calls (w := W) rfl ?_ hgl).mono fun e W' ⟨he, bel⟩ => ?_
  · intro i c u hc hu
    match i with
    | 0 => simp at hc hu; subst hc; subst hu; exact .v _
    | i + 1 => simp at hc
  subst he
  exact ⟨_, rfl, _, _, _, [], _, [], hW', trodAll_mk1 (shut_bool Tryd.underlying4 _), (trodAll_cons_mk (ChangeMaps.shut_string Tryd.underlying9 w0) trodAll_mk0), rfl, bel.frame _, fun h => by cases h⟩
theorem over : Rows.tapeParsesRow.holds Tryd.pinned (OpenSpec.ofChange Rows.tapeParsesSpec) :=
  OpenClaim.holds_of_wide 4 Tryd.f4 rfl rfl rfl rfl rfl rfl rfl ⟨rfl, rfl, rfl, rfl, rfl⟩ rfl rfl rfl rfl rfl (by kernel_rfl) Tryd.func4 (by kernel_rfl)
    (of_decide_eq_true (by kernel_rfl)) (by unfold Func.isWrapper; first | (rw [if_pos (by decide +kernel)]; kernel_rfl) | (rw [if_neg (by decide +kernel)]; exact ⟨rfl, rfl⟩))
    (fun os started H enc _ => lifted os started H enc)
end Go.Proofs.YtmepcmphcghbeaaDoor.tapeParses
namespace Go.Proofs.YtmepcmphcghbeaaDoor
theorem tapeParses_proved : Rows.TapeParsesCardSaid :=
  Claim7.holds_tied_plain_at .later [] _ _ _ _ tapeParses.over (fun _ h => by cases h) (by kernel_rfl) (fun _ h => by cases h) tapeParses_row_tie rfl ⟨rfl, rfl⟩ (by kernel_rfl) rfl
    (fun f fn hf hfn => by
      obtain rfl : f = 4 := Option.some.inj ((show Tryd.prog.funcNamed "pangram/pangramlaw28.TapeParses" = some 4 by kernel_rfl).symm.trans hf) |>.symm
      obtain rfl : fn = Tryd.f4 := (Option.some.inj (Tryd.func4.symm.trans hfn)).symm
      refine ⟨by kernel_rfl, fun j t ht => ?_⟩
      rw [Tryd.params4] at ht
      have hm : t ∈ [9] := by simpa using Array.mem_of_getElem? ht
      have hall : ([9].all fun u => !Tryd.prog.wantsStandIn u) = true := by kernel_rfl
      have := List.all_eq_true.1 hall t hm
      have h9 : Tryd.prog.wantsStandIn t = false := by simpa using this
      exact h9)
    (by kernel_rfl)
#print axioms tapeParses_proved
end Go.Proofs.YtmepcmphcghbeaaDoor
