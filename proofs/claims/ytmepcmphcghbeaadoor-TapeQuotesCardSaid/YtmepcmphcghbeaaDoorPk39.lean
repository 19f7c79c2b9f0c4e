/- Texts of the abstract walk, of the contracts and of the plain laws, packed (part 39 of 40): Tq1 Tq2 Tq3 Tq4 LsS Tq5 LsI Tq6 Tq7 TbL TcL Tq8 Tq8b. Conditions: none. -/
import Derived.Test.YtmepcmphcghbeaaDoorPk38
import Derived.Shelf.LaysM
import Derived.Shelf.LaysC
import Derived.Shelf.Strings.Cut
import Derived.Shelf.Strings.Search3
import Derived.Test.YtmepcmphcghbeaaDoorProg
import Derived.Shelf.Strconv.Itoa3
import Derived.Lib.ItoaLen
import Derived.Lib.AppendIntMem
namespace Go.Proofs.YtmepcmphcghbeaaDoor
open Go Go.RowKit
set_option maxRecDepth 100000
set_option maxHeartbeats 4000000
set_option linter.unusedSimpArgs false
set_option linter.unnecessarySimpa false
set_option linter.unusedVariables false
attribute [local irreducible] aops dRun
theorem tk_succ {s : ByteArray} {k : Nat} (h : k < s.size) {c : UInt8} (hc : (s[k]?).getD 0 = c) : s.data.toList.take (k + 1) = s.data.toList.take k ++ [c] := by
  have h1 := byte_at h
  rw [hc] at h1
  rw [List.take_add_one, h1]; rfl
def tkQ (s : ByteArray) (k : Nat) : List UInt8 := 34 :: (s.data.toList.take k).flatMap qb
theorem tkQ_plain {s : ByteArray} {k : Nat} (h : k < s.size) {c : UInt8} (hc : (s[k]?).getD 0 = c) (hp : plainB c = true) : tkQ s (k + 1) = tkQ s k ++ [c] := by
  unfold tkQ
  rw [tk_succ h hc, List.flatMap_append, List.flatMap_cons, List.flatMap_nil, List.append_nil]
  unfold qb
  rw [if_pos hp]; rfl
theorem tkQ_told {s : ByteArray} {k : Nat} (h : k < s.size) {c : UInt8} (hc : (s[k]?).getD 0 = c) (hp : plainB c = false) : tkQ s (k + 1) = tkQ s k ++ [92, hx (c.toNat / 16), hx (c.toNat % 16)] := by
  unfold tkQ
  rw [tk_succ h hc, List.flatMap_append, List.flatMap_cons, List.flatMap_nil, List.append_nil]
  unfold qb
  rw [if_neg (by simp [hp])]; rfl
theorem tkQ_all {s : ByteArray} {k : Nat} (h : s.size ≤ k) : tkQ s k ++ [34] = quL s.data.toList := by
  unfold tkQ quL
  rw [List.take_of_length_le (by rw [Array.length_toList]; exact h)]; rfl
theorem tkQ_len (s : ByteArray) (k : Nat) : (tkQ s k).length ≤ 3 * k + 1 := by
  have h1 := quL_len (s.data.toList.take k)
  have h2 : (quL (s.data.toList.take k)).length = (tkQ s k).length + 1 := by simp [quL, tkQ]
  have h3 : (s.data.toList.take k).length ≤ k := List.length_take_le _ _
  omega
theorem not_plain {c : UInt8} (h : (c.toNat : Int) < 32 ∨ (c.toNat : Int) ≥ 127 ∨ (c.toNat : Int) = 34 ∨ (c.toNat : Int) = 92) : plainB c = false := by
  cases hp : plainB c with
  | false => rfl
  | true =>
    unfold plainB at hp
    simp only [Bool.and_eq_true, decide_eq_true_eq] at hp
    omega
theorem is_plain {c : UInt8} (h1 : ¬ (c.toNat : Int) < 32) (h2 : ¬ (c.toNat : Int) ≥ 127) (h3 : ¬ (c.toNat : Int) = 34) (h4 : ¬ (c.toNat : Int) = 92) : plainB c = true := by
  unfold plainB
  simp only [Bool.and_eq_true, decide_eq_true_eq]
  omega
theorem shr4 (c : UInt8) : iShr .u8 (c.toNat : Int) 4 = ((c.toNat / 16 : Nat) : Int) := by
  refine u8_nat (p := fun c => iShr .u8 (c.toNat : Int) 4 = ((c.toNat / 16 : Nat) : Int)) ?_ c
  decide +kernel
theorem and15 (c : UInt8) : iAnd .u8 (c.toNat : Int) 15 = ((c.toNat % 16 : Nat) : Int) := by
  refine u8_nat (p := fun c => iAnd .u8 (c.toNat : Int) 15 = ((c.toNat % 16 : Nat) : Int)) ?_ c
  decide +kernel
theorem tkQ_zero (s : ByteArray) : tkQ s 0 = [34] := rfl
theorem hex_at {n : Nat} (h : n < 16) : (((⟨#[48, 49, 50, 51, 52, 53, 54, 55, 56, 57, 97, 98, 99, 100, 101, 102]⟩ : ByteArray)[n]?).getD 0) = hx n := by
  have : ∀ k : Fin 16, (((⟨#[48, 49, 50, 51, 52, 53, 54, 55, 56, 57, 97, 98, 99, 100, 101, 102]⟩ : ByteArray)[k.val]?).getD 0) = hx k.val := by decide
  exact this ⟨n, h⟩
theorem cv_at (l : List UInt8) (c : UInt8) : bytesOf (l.map u8C ++ [[.v (.int .u8 (c.toNat : Int))]]) = some ((l ++ [c]).map fun c => (c.toNat : Int)) := by
  rw [← bytesOf_u8, List.map_append]; rfl
theorem Quote_pure (s : ByteArray) (hs : s.size ≤ 1048576) : APure Tryd.prog 10 [.v (.string s)] (.v (.string (ofL (quL s.data.toList)))) := by
  refine APure.mkL (.cons (.v _) .nil) (.v _) ?_
  refine ACalls_intro Tryd.func10 (by kernel_rfl) rfl (by rw [Tryd.ntmps10]; simp) (fun hm => ?_)
  simp only [Tryd.ntmps10, Tryd.results10, List.length_cons, List.length_nil, Nat.reduceAdd, Nat.reduceSub, List.replicate_succ, List.replicate_zero, List.cons_append, List.nil_append]
  refine AWp_seqK fun Y0 y0 => ?_
  refine AWp_region ?_
  simp only [↓bO, go_sem, seval]
  refine y0 _ ?_
  try clear y0 Y0
  refine AWp_seqK fun Y0 y0 => ?_
  refine AWp_midK 0 [_] [_] rfl fun Q0 q0 => ?_
  simp only [bL, aops]
  refine q0 _ ?_
  clear q0 Q0
  refine MidAt_lit ei50 (by decide) rfl (by decide) (by intro p hp; simp at hp; subst hp; exact ⟨rfl, rfl⟩) ?_
  simp only [putO, bS, bA, tyX]
  simp only [↓bO, go_sem, seval]
  refine y0 _ ?_
  try clear y0 Y0
  refine AWp_seqK fun Y0 y0 => ?_
  refine AWp_seqK fun Y1 y1 => ?_
  refine AWp_region ?_
  simp only [↓bO, go_sem, seval]
  refine y1 _ ?_
  try clear y1 Y1
  refine AWp_block ?_
  refine AWp_loopM (σ := Nat) (mB 47 25) (fun k => k ≤ s.size) (fun k => [(3, .osl 0 1 ((tkQ s k).map u8C)), (4, .v (.int .i64 (k : Int)))]) (fun k => [(0, .tok 5 1 (tkQ s k).length)]) (fun k => s.size - k) 0 (by omega) ?_ (fun k hk => ?_)
  ·
   try simp only [maskL, setsL, putsO, putO, mB, List.set_cons_zero, List.set_cons_succ, seval, tkQ_zero, u8C, bL]
   exact Weak.mk (by simp only [go_sem, Le.refl, Le.any, Le.slNil, Int.natCast_add, Int.cast_ofNat_Int, Int.natCast_one]) (fun _ _ h => h) rfl rfl
  simp only [maskL, setsL, putsO, putO, mB, List.set_cons_zero, List.set_cons_succ, seval]
  have hql := tkQ_len s k
  have hb1 : ((tkQ s k).length + 1) * 1 ≤ 140737488355328 := by omega
  have hb2 : (tkQ s k).length + 1 ≤ maxLen := by (simp only [maxLen]; omega)
  have hb3 : ((tkQ s k).length + 3) * 1 ≤ 140737488355328 := by omega
  have hb4 : (tkQ s k).length + 3 ≤ maxLen := by (simp only [maxLen]; omega)
  have hb5 : (tkQ s k).length ≤ 140737488355325 := by omega
  have hb6 : (tkQ s k).length ≤ 140737488355327 := by omega
  refine AWp_seqK fun Y1 y1 => ?_
  refine AWp_seqK fun Y2 y2 => ?_
  refine AWp_region ?_
  iterate 3 (refine aops_chunk 1 fun Q0 q0 => ?_; simp only [↓bO, go_sem, seval, hb1, hb2, hb3, hb4, hb5, hb6, List.map_append, List.length_append, u8C, shr4, and15]; refine q0 _ ?_; clear q0 Q0; simp only [go_sem])
  simp only [↓bO, go_sem, seval, hb1, hb2, hb3, hb4, hb5, hb6, List.map_append, List.length_append, u8C, shr4, and15]
  refine y2 _ ?_
  try clear y2 Y2
  refine AWp_cond rfl (fun hb10 => ?_) (fun hb10 => ?_)
  ·
   have hlt : k < s.size := by simpa using hb10
   obtain ⟨c, hc⟩ : ∃ c, (s[k]?).getD 0 = c := ⟨_, rfl⟩
   have hlc := c.toNat_lt
   have hwk : IntKind.i64.wrap ((k : Int) + 1) = ((k + 1 : Nat) : Int) := by (rw [wrap_in (by omega) (by omega)]; omega)
   have hx1 := hex_at (n := c.toNat / 16) (by omega)
   have hx2 := hex_at (n := c.toNat % 16) (by omega)
   have hl1 : (c.toNat / 16 < (#[48, 49, 50, 51, 52, 53, 54, 55, 56, 57, 97, 98, 99, 100, 101, 102] : Array UInt8).size) = True := eq_true (by (show c.toNat / 16 < 16); omega)
   have hl2 : (c.toNat % 16 < (#[48, 49, 50, 51, 52, 53, 54, 55, 56, 57, 97, 98, 99, 100, 101, 102] : Array UInt8).size) = True := eq_true (by (show c.toNat % 16 < 16); omega)
   refine AWp_skip ?_
   try simp only [thenQ, blockQ, noGotoQ]
   refine y1 _ ?_
   try clear y1 Y1
   refine AWp_seqK fun Y1 y1 => ?_
   refine AWp_block ?_
   refine AWp_seqK fun Y2 y2 => ?_
   refine AWp_region ?_
   iterate 3 (refine aops_chunk 1 fun Q0 q0 => ?_; simp only [↓bO, go_sem, seval, hb1, hb2, hb3, hb4, hb5, hb6, List.map_append, List.length_append, u8C, shr4, and15, hlt, hc, hwk, hx1, hx2, hl1, hl2]; refine q0 _ ?_; clear q0 Q0; simp only [go_sem])
   simp only [↓bO, go_sem, seval, hb1, hb2, hb3, hb4, hb5, hb6, List.map_append, List.length_append, u8C, shr4, and15, hlt, hc, hwk, hx1, hx2, hl1, hl2]
   refine y2 _ ?_
   try clear y2 Y2
   refine AWp_seqK fun Y2 y2 => ?_
   refine AWp_region ?_
   iterate 3 (refine aops_chunk 1 fun Q0 q0 => ?_; simp only [↓bO, go_sem, seval, hb1, hb2, hb3, hb4, hb5, hb6, List.map_append, List.length_append, u8C, shr4, and15, hlt, hc, hwk, hx1, hx2, hl1, hl2]; refine q0 _ ?_; clear q0 Q0; simp only [go_sem])
   refine aops_case 18 rfl (fun hc18 => ?_) (fun hc18 => ?_)
   ·
    simp only [List.set_cons_zero, List.set_cons_succ]
    have hnp : plainB c = false := not_plain (.inl (by simpa using hc18))
    have hnx := tkQ_told hlt hc hnp
    iterate 10 (refine aops_chunk 1 fun Q0 q0 => ?_; simp only [↓bO, go_sem, seval, hb1, hb2, hb3, hb4, hb5, hb6, List.map_append, List.length_append, u8C, shr4, and15, hlt, hc, hwk, hx1, hx2, hl1, hl2, hnx]; refine q0 _ ?_; clear q0 Q0; simp only [go_sem])
    simp only [↓bO, go_sem, seval, hb1, hb2, hb3, hb4, hb5, hb6, List.map_append, List.length_append, u8C, shr4, and15, hlt, hc, hwk, hx1, hx2, hl1, hl2, hnx]
    refine y2 _ ?_
    try clear y2 Y2
    refine AWp_cond (b := true) (by first | exact rfl | exact congrArg (fun b => AV.v (.bool b)) hb29) (fun _ => ?_) (fun h => (by cases h))
    refine AWp_drawK 8 mixed (by kernel_rfl) fun J0 j0 => ?_
    iterate 7 (simp only [go_sem]; refine dRun_chunk 1 fun Q0 q0 => ?_; simp only [↓dRun, ↓dOp, ↓bO, go_sem, seval, hb1, hb2, hb3, hb4, hb5, hb6, List.map_append, List.length_append, u8C, shr4, and15, hlt, hc, hwk, hx1, hx2, hl1, hl2, hnx]; refine q0 _ ?_; clear q0 Q0)
    simp only [go_sem]
    simp only [↓dRun, ↓dOp, ↓bO, go_sem, seval, ↓bs3_1, ↓bs3_2, ↓bs3_3, ↓bs3_4, ↓bs3_5, ↓bs3_6, ↓bs3_7, ↓bs3_8, ↓bs3_9, ↓bs3_10, ↓bs3_11, ↓bs3_12, hb1, hb2, hb3, hb4, hb5, hb6, List.map_append, List.length_append, u8C, shr4, and15, hlt, hc, hwk, hx1, hx2, hl1, hl2, hnx]
    refine j0 _ ?_
    clear j0 J0
    simp only [go_sem]
    refine aops_chunk 1 fun Q0 q0 => ?_
    simp only [↓bO, go_sem, seval, hb1, hb2, hb3, hb4, hb5, hb6, List.map_append, List.length_append, u8C, shr4, and15, hlt, hc, hwk, hx1, hx2, hl1, hl2, hnx]
    refine q0 _ ?_
    clear q0 Q0
    simp only [go_sem]
    simp only [↓bO, go_sem, seval, hb1, hb2, hb3, hb4, hb5, hb6, List.map_append, List.length_append, u8C, shr4, and15, hlt, hc, hwk, hx1, hx2, hl1, hl2, hnx]
    refine y1 _ ?_
    try clear y1 Y1
    refine AWp_region ?_
    iterate 2 (refine aops_chunk 1 fun Q0 q0 => ?_; simp only [↓bO, go_sem, seval, hb1, hb2, hb3, hb4, hb5, hb6, List.map_append, List.length_append, u8C, shr4, and15, hlt, hc, hwk, hx1, hx2, hl1, hl2, hnx]; refine q0 _ ?_; clear q0 Q0; simp only [go_sem])
    simp only [↓bO, go_sem, seval, hb1, hb2, hb3, hb4, hb5, hb6, List.map_append, List.length_append, u8C, shr4, and15, hlt, hc, hwk, hx1, hx2, hl1, hl2, hnx]
    refine ⟨(k + 1), (by omega), by omega, ?_⟩
    try simp only [maskL, setsL, putsO, putO, mB, List.set_cons_zero, List.set_cons_succ, seval, hb1, hb2, hb3, hb4, hb5, hb6, List.map_append, bL, List.length_append, u8C, shr4, and15, hlt, hc, hwk, hx1, hx2, hl1, hl2, hnx]
    exact Weak.mk (by simp only [go_sem, Le.refl, Le.any, Le.slNil, Int.natCast_add, Int.cast_ofNat_Int, Int.natCast_one]) (fun _ _ h => h) rfl rfl
   ·
    simp only [List.set_cons_zero, List.set_cons_succ]
    have h1 : ¬ (c.toNat : Int) < 32 := by simpa using hc18
    iterate 4 (refine aops_chunk 1 fun Q0 q0 => ?_; simp only [↓bO, go_sem, seval, hb1, hb2, hb3, hb4, hb5, hb6, List.map_append, List.length_append, u8C, shr4, and15, hlt, hc, hwk, hx1, hx2, hl1, hl2]; refine q0 _ ?_; clear q0 Q0; simp only [go_sem])
    refine aops_case 22 rfl (fun hc22 => ?_) (fun hc22 => ?_)
    ·
     simp only [List.set_cons_zero, List.set_cons_succ]
     have hnp : plainB c = false := not_plain (.inr (.inl (by simpa using hc22)))
     have hnx := tkQ_told hlt hc hnp
     iterate 6 (refine aops_chunk 1 fun Q0 q0 => ?_; simp only [↓bO, go_sem, seval, hb1, hb2, hb3, hb4, hb5, hb6, List.map_append, List.length_append, u8C, shr4, and15, hlt, hc, hwk, hx1, hx2, hl1, hl2, hnx]; refine q0 _ ?_; clear q0 Q0; simp only [go_sem])
     simp only [↓bO, go_sem, seval, hb1, hb2, hb3, hb4, hb5, hb6, List.map_append, List.length_append, u8C, shr4, and15, hlt, hc, hwk, hx1, hx2, hl1, hl2, hnx]
     refine y2 _ ?_
     try clear y2 Y2
     refine AWp_cond (b := true) (by first | exact rfl | exact congrArg (fun b => AV.v (.bool b)) hb29) (fun _ => ?_) (fun h => (by cases h))
     refine AWp_drawK 8 mixed (by kernel_rfl) fun J0 j0 => ?_
     iterate 7 (simp only [go_sem]; refine dRun_chunk 1 fun Q0 q0 => ?_; simp only [↓dRun, ↓dOp, ↓bO, go_sem, seval, hb1, hb2, hb3, hb4, hb5, hb6, List.map_append, List.length_append, u8C, shr4, and15, hlt, hc, hwk, hx1, hx2, hl1, hl2, hnx]; refine q0 _ ?_; clear q0 Q0)
     simp only [go_sem]
     simp only [↓dRun, ↓dOp, ↓bO, go_sem, seval, ↓bs3_1, ↓bs3_2, ↓bs3_3, ↓bs3_4, ↓bs3_5, ↓bs3_6, ↓bs3_7, ↓bs3_8, ↓bs3_9, ↓bs3_10, ↓bs3_11, ↓bs3_12, hb1, hb2, hb3, hb4, hb5, hb6, List.map_append, List.length_append, u8C, shr4, and15, hlt, hc, hwk, hx1, hx2, hl1, hl2, hnx]
     refine j0 _ ?_
     clear j0 J0
     simp only [go_sem]
     refine aops_chunk 1 fun Q0 q0 => ?_
     simp only [↓bO, go_sem, seval, hb1, hb2, hb3, hb4, hb5, hb6, List.map_append, List.length_append, u8C, shr4, and15, hlt, hc, hwk, hx1, hx2, hl1, hl2, hnx]
     refine q0 _ ?_
     clear q0 Q0
     simp only [go_sem]
     simp only [↓bO, go_sem, seval, hb1, hb2, hb3, hb4, hb5, hb6, List.map_append, List.length_append, u8C, shr4, and15, hlt, hc, hwk, hx1, hx2, hl1, hl2, hnx]
     refine y1 _ ?_
     try clear y1 Y1
     refine AWp_region ?_
     iterate 2 (refine aops_chunk 1 fun Q0 q0 => ?_; simp only [↓bO, go_sem, seval, hb1, hb2, hb3, hb4, hb5, hb6, List.map_append, List.length_append, u8C, shr4, and15, hlt, hc, hwk, hx1, hx2, hl1, hl2, hnx]; refine q0 _ ?_; clear q0 Q0; simp only [go_sem])
     simp only [↓bO, go_sem, seval, hb1, hb2, hb3, hb4, hb5, hb6, List.map_append, List.length_append, u8C, shr4, and15, hlt, hc, hwk, hx1, hx2, hl1, hl2, hnx]
     refine ⟨(k + 1), (by omega), by omega, ?_⟩
     try simp only [maskL, setsL, putsO, putO, mB, List.set_cons_zero, List.set_cons_succ, seval, hb1, hb2, hb3, hb4, hb5, hb6, List.map_append, bL, List.length_append, u8C, shr4, and15, hlt, hc, hwk, hx1, hx2, hl1, hl2, hnx]
     exact Weak.mk (by simp only [go_sem, Le.refl, Le.any, Le.slNil, Int.natCast_add, Int.cast_ofNat_Int, Int.natCast_one]) (fun _ _ h => h) rfl rfl
    ·
     simp only [List.set_cons_zero, List.set_cons_succ]
     have h2 : ¬ (c.toNat : Int) ≥ 127 := by simpa using hc22
     iterate 4 (refine aops_chunk 1 fun Q0 q0 => ?_; simp only [↓bO, go_sem, seval, hb1, hb2, hb3, hb4, hb5, hb6, List.map_append, List.length_append, u8C, shr4, and15, hlt, hc, hwk, hx1, hx2, hl1, hl2]; refine q0 _ ?_; clear q0 Q0; simp only [go_sem])
     refine aops_case 26 rfl (fun hc26 => ?_) (fun hc26 => ?_)
     ·
      simp only [List.set_cons_zero, List.set_cons_succ]
      have hnp : plainB c = false := not_plain (.inr (.inr (.inl (by simpa using hc26))))
      have hnx := tkQ_told hlt hc hnp
      iterate 2 (refine aops_chunk 1 fun Q0 q0 => ?_; simp only [↓bO, go_sem, seval, hb1, hb2, hb3, hb4, hb5, hb6, List.map_append, List.length_append, u8C, shr4, and15, hlt, hc, hwk, hx1, hx2, hl1, hl2, hnx]; refine q0 _ ?_; clear q0 Q0; simp only [go_sem])
      simp only [↓bO, go_sem, seval, hb1, hb2, hb3, hb4, hb5, hb6, List.map_append, List.length_append, u8C, shr4, and15, hlt, hc, hwk, hx1, hx2, hl1, hl2, hnx]
      refine y2 _ ?_
      try clear y2 Y2
      refine AWp_cond (b := true) (by first | exact rfl | exact congrArg (fun b => AV.v (.bool b)) hb29) (fun _ => ?_) (fun h => (by cases h))
      refine AWp_drawK 8 mixed (by kernel_rfl) fun J0 j0 => ?_
      iterate 7 (simp only [go_sem]; refine dRun_chunk 1 fun Q0 q0 => ?_; simp only [↓dRun, ↓dOp, ↓bO, go_sem, seval, hb1, hb2, hb3, hb4, hb5, hb6, List.map_append, List.length_append, u8C, shr4, and15, hlt, hc, hwk, hx1, hx2, hl1, hl2, hnx]; refine q0 _ ?_; clear q0 Q0)
      simp only [go_sem]
      simp only [↓dRun, ↓dOp, ↓bO, go_sem, seval, ↓bs3_1, ↓bs3_2, ↓bs3_3, ↓bs3_4, ↓bs3_5, ↓bs3_6, ↓bs3_7, ↓bs3_8, ↓bs3_9, ↓bs3_10, ↓bs3_11, ↓bs3_12, hb1, hb2, hb3, hb4, hb5, hb6, List.map_append, List.length_append, u8C, shr4, and15, hlt, hc, hwk, hx1, hx2, hl1, hl2, hnx]
      refine j0 _ ?_
      clear j0 J0
      simp only [go_sem]
      refine aops_chunk 1 fun Q0 q0 => ?_
      simp only [↓bO, go_sem, seval, hb1, hb2, hb3, hb4, hb5, hb6, List.map_append, List.length_append, u8C, shr4, and15, hlt, hc, hwk, hx1, hx2, hl1, hl2, hnx]
      refine q0 _ ?_
      clear q0 Q0
      simp only [go_sem]
      simp only [↓bO, go_sem, seval, hb1, hb2, hb3, hb4, hb5, hb6, List.map_append, List.length_append, u8C, shr4, and15, hlt, hc, hwk, hx1, hx2, hl1, hl2, hnx]
      refine y1 _ ?_
      try clear y1 Y1
      refine AWp_region ?_
      iterate 2 (refine aops_chunk 1 fun Q0 q0 => ?_; simp only [↓bO, go_sem, seval, hb1, hb2, hb3, hb4, hb5, hb6, List.map_append, List.length_append, u8C, shr4, and15, hlt, hc, hwk, hx1, hx2, hl1, hl2, hnx]; refine q0 _ ?_; clear q0 Q0; simp only [go_sem])
      simp only [↓bO, go_sem, seval, hb1, hb2, hb3, hb4, hb5, hb6, List.map_append, List.length_append, u8C, shr4, and15, hlt, hc, hwk, hx1, hx2, hl1, hl2, hnx]
      refine ⟨(k + 1), (by omega), by omega, ?_⟩
      try simp only [maskL, setsL, putsO, putO, mB, List.set_cons_zero, List.set_cons_succ, seval, hb1, hb2, hb3, hb4, hb5, hb6, List.map_append, bL, List.length_append, u8C, shr4, and15, hlt, hc, hwk, hx1, hx2, hl1, hl2, hnx]
      exact Weak.mk (by simp only [go_sem, Le.refl, Le.any, Le.slNil, Int.natCast_add, Int.cast_ofNat_Int, Int.natCast_one]) (fun _ _ h => h) rfl rfl
     ·
      simp only [List.set_cons_zero, List.set_cons_succ]
      have h3 : ¬ (c.toNat : Int) = 34 := by simpa using hc26
      iterate 2 (refine aops_chunk 1 fun Q0 q0 => ?_; simp only [↓bO, go_sem, seval, hb1, hb2, hb3, hb4, hb5, hb6, List.map_append, List.length_append, u8C, shr4, and15, hlt, hc, hwk, hx1, hx2, hl1, hl2]; refine q0 _ ?_; clear q0 Q0; simp only [go_sem])
      simp only [↓bO, go_sem, seval, hb1, hb2, hb3, hb4, hb5, hb6, List.map_append, List.length_append, u8C, shr4, and15, hlt, hc, hwk, hx1, hx2, hl1, hl2]
      refine y2 _ ?_
      try clear y2 Y2
      refine AWp_cond rfl (fun hb29 => ?_) (fun hb29 => ?_)
      ·
       have hnp : plainB c = false := not_plain (.inr (.inr (.inr (by simpa using hb29))))
       have hnx := tkQ_told hlt hc hnp
       refine AWp_drawK 8 mixed (by kernel_rfl) fun J0 j0 => ?_
       iterate 7 (simp only [go_sem]; refine dRun_chunk 1 fun Q0 q0 => ?_; simp only [↓dRun, ↓dOp, ↓bO, go_sem, seval, hb1, hb2, hb3, hb4, hb5, hb6, List.map_append, List.length_append, u8C, shr4, and15, hlt, hc, hwk, hx1, hx2, hl1, hl2, hnx]; refine q0 _ ?_; clear q0 Q0)
       simp only [go_sem]
       simp only [↓dRun, ↓dOp, ↓bO, go_sem, seval, ↓bs3_1, ↓bs3_2, ↓bs3_3, ↓bs3_4, ↓bs3_5, ↓bs3_6, ↓bs3_7, ↓bs3_8, ↓bs3_9, ↓bs3_10, ↓bs3_11, ↓bs3_12, hb1, hb2, hb3, hb4, hb5, hb6, List.map_append, List.length_append, u8C, shr4, and15, hlt, hc, hwk, hx1, hx2, hl1, hl2, hnx]
       refine j0 _ ?_
       clear j0 J0
       simp only [go_sem]
       refine aops_chunk 1 fun Q0 q0 => ?_
       simp only [↓bO, go_sem, seval, hb1, hb2, hb3, hb4, hb5, hb6, List.map_append, List.length_append, u8C, shr4, and15, hlt, hc, hwk, hx1, hx2, hl1, hl2, hnx]
       refine q0 _ ?_
       clear q0 Q0
       simp only [go_sem]
       simp only [↓bO, go_sem, seval, hb1, hb2, hb3, hb4, hb5, hb6, List.map_append, List.length_append, u8C, shr4, and15, hlt, hc, hwk, hx1, hx2, hl1, hl2, hnx]
       refine y1 _ ?_
       try clear y1 Y1
       refine AWp_region ?_
       iterate 2 (refine aops_chunk 1 fun Q0 q0 => ?_; simp only [↓bO, go_sem, seval, hb1, hb2, hb3, hb4, hb5, hb6, List.map_append, List.length_append, u8C, shr4, and15, hlt, hc, hwk, hx1, hx2, hl1, hl2, hnx]; refine q0 _ ?_; clear q0 Q0; simp only [go_sem])
       simp only [↓bO, go_sem, seval, hb1, hb2, hb3, hb4, hb5, hb6, List.map_append, List.length_append, u8C, shr4, and15, hlt, hc, hwk, hx1, hx2, hl1, hl2, hnx]
       refine ⟨(k + 1), (by omega), by omega, ?_⟩
       try simp only [maskL, setsL, putsO, putO, mB, List.set_cons_zero, List.set_cons_succ, seval, hb1, hb2, hb3, hb4, hb5, hb6, List.map_append, bL, List.length_append, u8C, shr4, and15, hlt, hc, hwk, hx1, hx2, hl1, hl2, hnx]
       exact Weak.mk (by simp only [go_sem, Le.refl, Le.any, Le.slNil, Int.natCast_add, Int.cast_ofNat_Int, Int.natCast_one]) (fun _ _ h => h) rfl rfl
      ·
       have hp := is_plain h1 h2 h3 (by simpa using hb29)
       have hnx := tkQ_plain hlt hc hp
       refine AWp_region ?_
       iterate 2 (refine aops_chunk 1 fun Q0 q0 => ?_; simp only [↓bO, go_sem, seval, hb1, hb2, hb3, hb4, hb5, hb6, List.map_append, List.length_append, u8C, shr4, and15, hlt, hc, hwk, hx1, hx2, hl1, hl2, hnx]; refine q0 _ ?_; clear q0 Q0; simp only [go_sem])
       refine aops_chunk 1 fun Q0 q0 => ?_
       simp only [↓bO, go_sem, seval, ↓bs1_1, ↓bs1_2, ↓bs1_3, ↓bs1_4, ↓bs1_5, ↓bs1_6, ↓bs1_7, ↓bs1_8, ↓bs1_9, ↓bs1_10, ↓bs1_11, ↓bs1_12, hb1, hb2, hb3, hb4, hb5, hb6, List.map_append, List.length_append, u8C, shr4, and15, hlt, hc, hwk, hx1, hx2, hl1, hl2, hnx]
       refine q0 _ ?_
       clear q0 Q0
       simp only [go_sem]
       refine aops_chunk 1 fun Q0 q0 => ?_
       simp only [↓bO, go_sem, seval, hb1, hb2, hb3, hb4, hb5, hb6, List.map_append, List.length_append, u8C, shr4, and15, hlt, hc, hwk, hx1, hx2, hl1, hl2, hnx]
       refine q0 _ ?_
       clear q0 Q0
       simp only [go_sem]
       simp only [↓bO, go_sem, seval, hb1, hb2, hb3, hb4, hb5, hb6, List.map_append, List.length_append, u8C, shr4, and15, hlt, hc, hwk, hx1, hx2, hl1, hl2, hnx]
       refine y1 _ ?_
       try clear y1 Y1
       refine AWp_region ?_
       iterate 2 (refine aops_chunk 1 fun Q0 q0 => ?_; simp only [↓bO, go_sem, seval, hb1, hb2, hb3, hb4, hb5, hb6, List.map_append, List.length_append, u8C, shr4, and15, hlt, hc, hwk, hx1, hx2, hl1, hl2, hnx]; refine q0 _ ?_; clear q0 Q0; simp only [go_sem])
       simp only [↓bO, go_sem, seval, hb1, hb2, hb3, hb4, hb5, hb6, List.map_append, List.length_append, u8C, shr4, and15, hlt, hc, hwk, hx1, hx2, hl1, hl2, hnx]
       refine ⟨(k + 1), (by omega), by omega, ?_⟩
       try simp only [maskL, setsL, putsO, putO, mB, List.set_cons_zero, List.set_cons_succ, seval, hb1, hb2, hb3, hb4, hb5, hb6, List.map_append, bL, List.length_append, u8C, shr4, and15, hlt, hc, hwk, hx1, hx2, hl1, hl2, hnx]
       exact Weak.mk (by simp only [go_sem, Le.refl, Le.any, Le.slNil, Int.natCast_add, Int.cast_ofNat_Int, Int.natCast_one]) (fun _ _ h => h) rfl rfl
  ·
   have hge : ¬ k < s.size := by simpa using hb10
   have hal := tkQ_all (s := s) (k := k) (by omega)
   have hcv := cv_at (tkQ s k) 34
   rw [hal] at hcv
   have hcv : bytesOf ((tkQ s k).map u8C ++ [[.v (.int .u8 34)]]) = _ := hcv
   refine AWp_exit ?_
   simp only [thenQ, blockQ, noGotoQ, bA, Nat.reduceEqDiff, ↓reduceIte]
   refine y0 _ ?_
   try clear y0 Y0
   refine AWp_seqK fun Y0 y0 => ?_
   refine AWp_region ?_
   refine aops_chunk 1 fun Q0 q0 => ?_
   simp only [↓bO, go_sem, seval, hcv, strOfNums_u8, hb1, hb2, hb5, hb6]
   refine q0 _ ?_
   clear q0 Q0
   simp only [go_sem]
   refine aops_chunk 1 fun Q0 q0 => ?_
   simp only [↓bO, go_sem, seval, ↓bs1_1, ↓bs1_2, ↓bs1_3, ↓bs1_4, ↓bs1_5, ↓bs1_6, ↓bs1_7, ↓bs1_8, ↓bs1_9, ↓bs1_10, ↓bs1_11, ↓bs1_12, hcv, strOfNums_u8, hb1, hb2, hb5, hb6]
   refine q0 _ ?_
   clear q0 Q0
   simp only [go_sem]
   refine aops_chunk 1 fun Q0 q0 => ?_
   simp only [↓bO, go_sem, seval, hcv, strOfNums_u8, hb1, hb2, hb5, hb6]
   refine q0 _ ?_
   clear q0 Q0
   simp only [go_sem]
   refine aops_chunk 1 fun Q0 q0 => ?_
   simp only [↓bO, go_sem, seval, aConvB, by50, hcv, strOfNums_u8, hb1, hb2, hb5, hb6]
   refine q0 _ ?_
   clear q0 Q0
   simp only [go_sem]
   simp only [↓bO, go_sem, seval, hcv, strOfNums_u8, hb1, hb2, hb5, hb6]
   refine y0 _ ?_
   try clear y0 Y0
   refine AWp_ret ?_
   try simp only [thenQ, blockQ, noGotoQ, retQ, aRes, tupOf, bS, bA]
   exact Le.refl _
def hexS : ByteArray := ⟨#[48, 49, 50, 51, 52, 53, 54, 55, 56, 57, 97, 98, 99, 100, 101, 102]⟩
theorem hex_ex {n : Nat} (h : n < 16) : hexS.extract n (n + 1) = ofL [hx n] := by
  have : ∀ k : Fin 16, hexS.extract k.val (k.val + 1) = ofL [hx k.val] := by decide
  exact this ⟨n, h⟩
theorem ex_one {s : ByteArray} {k : Nat} (h : k < s.size) {c : UInt8} (hc : (s[k]?).getD 0 = c) : s.extract k (k + 1) = ofL [c] := by
  have h1 := byte_at h
  rw [hc] at h1
  apply ByteArray.ext
  apply Array.ext'
  simp only [ByteArray.data_extract, Array.toList_extract, List.extract_eq_take_drop, ofL, Nat.add_sub_cancel_left]
  rw [List.take_one, List.head?_drop, h1]; rfl
theorem lit34 : (⟨#[34]⟩ : ByteArray) = ofL [34] := rfl
theorem app92 (l : List UInt8) : ofL l ++ (⟨#[92]⟩ : ByteArray) = ofL (l ++ [92]) := ofL_app l [92]
theorem app34 (l : List UInt8) : ofL l ++ (⟨#[34]⟩ : ByteArray) = ofL (l ++ [34]) := ofL_app l [34]
theorem RQuote_pure (s : ByteArray) (hs : s.size ≤ 1048576) : APure Tryd.prog 13 [.v (.string s)] (.v (.string (ofL (quL s.data.toList)))) := by
  refine APure.mkL (.cons (.v _) .nil) (.v _) ?_
  refine ACalls_intro Tryd.func13 (by kernel_rfl) rfl (by rw [Tryd.ntmps13]; simp) (fun hm => ?_)
  simp only [Tryd.ntmps13, Tryd.results13, List.length_cons, List.length_nil, Nat.reduceAdd, Nat.reduceSub, List.replicate_succ, List.replicate_zero, List.cons_append, List.nil_append]
  have hx0 : ∀ m, (⟨(#[48, 49, 50, 51, 52, 53, 54, 55, 56, 57, 97, 98, 99, 100, 101, 102] : Array UInt8)⟩ : ByteArray).extract m (m + 1) = hexS.extract m (m + 1) := fun m => rfl
  iterate 3 (refine AWp_seqK fun Y0 y0 => ?_; refine AWp_region ?_; simp only [↓bO, go_sem, seval]; refine y0 _ ?_; (try clear y0 Y0))
  refine AWp_seqK fun Y0 y0 => ?_
  refine AWp_seqK fun Y1 y1 => ?_
  refine AWp_region ?_
  simp only [↓bO, go_sem, seval]
  refine y1 _ ?_
  try clear y1 Y1
  refine AWp_block ?_
  refine AWp_loopM (σ := Nat) (mB 58 57) (fun k => k ≤ s.size) (fun k => [(4, .v (.string (ofL (tkQ s k)))), (5, .v (.int .i64 (k : Int)))]) (fun k => []) (fun k => s.size - k) 0 (by omega) ?_ (fun k hk => ?_)
  ·
   try simp only [maskL, setsL, putsO, putO, mB, List.set_cons_zero, List.set_cons_succ, seval, tkQ_zero, lit34]
   exact Weak.mk (by simp only [go_sem, Le.refl, Le.any, Le.slNil, Int.natCast_add, Int.cast_ofNat_Int, Int.natCast_one]) (fun _ _ h => h) rfl rfl
  simp only [maskL, setsL, putsO, putO, mB, List.set_cons_zero, List.set_cons_succ, seval]
  have hql := tkQ_len s k
  have hs1 : (((ofL (tkQ s k)).size + (#[92] : Array UInt8).size : Nat) : Int) ≤ IntKind.i64.max ↔ True := iff_true_intro (by (have g : (ofL (tkQ s k)).size + (#[92] : Array UInt8).size ≤ 3 * k + 4 := by (simp [ofL_size]; try omega)); (show (((ofL (tkQ s k)).size + (#[92] : Array UInt8).size : Nat) : Int) ≤ 9223372036854775807); omega)
  refine AWp_seqK fun Y1 y1 => ?_
  refine AWp_seqK fun Y2 y2 => ?_
  refine AWp_region ?_
  iterate 3 (refine aops_chunk 1 fun Q0 q0 => ?_; simp only [↓bO, go_sem, seval, hx0, ofL_app, app92, hs1, List.append_assoc]; refine q0 _ ?_; clear q0 Q0; simp only [go_sem])
  simp only [↓bO, go_sem, seval, hx0, ofL_app, app92, hs1, List.append_assoc]
  refine y2 _ ?_
  try clear y2 Y2
  refine AWp_cond rfl (fun hb10 => ?_) (fun hb10 => ?_)
  ·
   have hlt : k < s.size := by simpa using hb10
   obtain ⟨c, hc⟩ : ∃ c, (s[k]?).getD 0 = c := ⟨_, rfl⟩
   have hlc := c.toNat_lt
   have hwk : IntKind.i64.wrap ((k : Int) + 1) = ((k + 1 : Nat) : Int) := by (rw [wrap_in (by omega) (by omega)]; omega)
   have hwc : IntKind.i64.wrap ((c.toNat : Int)) = (c.toNat : Int) := by (rw [wrap_in (by omega) (by omega)])
   have ht : ((c.toNat : Int)).tdiv 16 = ((c.toNat / 16 : Nat) : Int) := by (rw [Int.tdiv_eq_ediv_of_nonneg (by omega)]; omega)
   have hm2 : ((c.toNat : Int)).tmod 16 = ((c.toNat % 16 : Nat) : Int) := by (rw [Int.tmod_eq_emod_of_nonneg (by omega)]; omega)
   have hw1 : IntKind.i64.wrap (((c.toNat / 16 : Nat) : Int)) = ((c.toNat / 16 : Nat) : Int) := by (rw [wrap_in (by omega) (by omega)])
   have hw2 : IntKind.i64.wrap (((c.toNat / 16 : Nat) : Int) + 1) = ((c.toNat / 16 + 1 : Nat) : Int) := by (rw [wrap_in (by omega) (by omega)]; omega)
   have hw3 : IntKind.i64.wrap (((c.toNat % 16 : Nat) : Int)) = ((c.toNat % 16 : Nat) : Int) := by (rw [wrap_in (by omega) (by omega)])
   have hw4 : IntKind.i64.wrap (((c.toNat % 16 : Nat) : Int) + 1) = ((c.toNat % 16 + 1 : Nat) : Int) := by (rw [wrap_in (by omega) (by omega)]; omega)
   have hx1 := hex_ex (n := c.toNat / 16) (by omega)
   have hx2 := hex_ex (n := c.toNat % 16) (by omega)
   have hx3 := ex_one hlt hc
   have hz1 : (((c.toNat / 16 + 1 : Nat) : Int) ≤ (((#[48, 49, 50, 51, 52, 53, 54, 55, 56, 57, 97, 98, 99, 100, 101, 102] : Array UInt8).size : Nat) : Int)) = True := eq_true (by (show ((c.toNat / 16 + 1 : Nat) : Int) ≤ 16); omega)
   have hz2 : (((c.toNat % 16 + 1 : Nat) : Int) ≤ (((#[48, 49, 50, 51, 52, 53, 54, 55, 56, 57, 97, 98, 99, 100, 101, 102] : Array UInt8).size : Nat) : Int)) = True := eq_true (by (show ((c.toNat % 16 + 1 : Nat) : Int) ≤ 16); omega)
   have hn1 : (((c.toNat / 16 : Nat) : Int) ≤ ((c.toNat / 16 + 1 : Nat) : Int)) = True := eq_true (by omega)
   have hn2 : (((c.toNat % 16 : Nat) : Int) ≤ ((c.toNat % 16 + 1 : Nat) : Int)) = True := eq_true (by omega)
   have hn3 : ((k : Int) ≤ ((k + 1 : Nat) : Int)) = True := eq_true (by omega)
   have hn4 : (((k + 1 : Nat) : Int) ≤ (s.size : Int)) = True := eq_true (by omega)
   have hs2 : (((ofL (tkQ s k ++ [92])).size + (ofL [hx (c.toNat / 16)]).size : Nat) : Int) ≤ IntKind.i64.max ↔ True := iff_true_intro (by (have g : (ofL (tkQ s k ++ [92])).size + (ofL [hx (c.toNat / 16)]).size ≤ 3 * k + 4 := by (simp [ofL_size]; try omega)); (show (((ofL (tkQ s k ++ [92])).size + (ofL [hx (c.toNat / 16)]).size : Nat) : Int) ≤ 9223372036854775807); omega)
   have hs3 : (((ofL (tkQ s k ++ [92, hx (c.toNat / 16)])).size + (ofL [hx (c.toNat % 16)]).size : Nat) : Int) ≤ IntKind.i64.max ↔ True := iff_true_intro (by (have g : (ofL (tkQ s k ++ [92, hx (c.toNat / 16)])).size + (ofL [hx (c.toNat % 16)]).size ≤ 3 * k + 4 := by (simp [ofL_size]; try omega)); (show (((ofL (tkQ s k ++ [92, hx (c.toNat / 16)])).size + (ofL [hx (c.toNat % 16)]).size : Nat) : Int) ≤ 9223372036854775807); omega)
   have hs4 : (((ofL (tkQ s k)).size + (ofL [c]).size : Nat) : Int) ≤ IntKind.i64.max ↔ True := iff_true_intro (by (have g : (ofL (tkQ s k)).size + (ofL [c]).size ≤ 3 * k + 4 := by (simp [ofL_size]; try omega)); (show (((ofL (tkQ s k)).size + (ofL [c]).size : Nat) : Int) ≤ 9223372036854775807); omega)
   refine AWp_skip ?_
   try simp only [thenQ, blockQ, noGotoQ]
   refine y1 _ ?_
   try clear y1 Y1
   refine AWp_seqK fun Y1 y1 => ?_
   refine AWp_block ?_
   refine AWp_seqK fun Y2 y2 => ?_
   refine AWp_region ?_
   iterate 4 (refine aops_chunk 1 fun Q0 q0 => ?_; simp only [↓bO, go_sem, seval, hx0, ofL_app, app92, hs1, List.append_assoc, hlt, hc, hwk, hwc, ht, hm2, hw1, hw2, hw3, hw4, hx1, hx2, hx3, hz1, hz2, hn1, hn2, hn3, hn4, hs2, hs3, hs4]; refine q0 _ ?_; clear q0 Q0; simp only [go_sem])
   simp only [↓bO, go_sem, seval, hx0, ofL_app, app92, hs1, List.append_assoc, hlt, hc, hwk, hwc, ht, hm2, hw1, hw2, hw3, hw4, hx1, hx2, hx3, hz1, hz2, hn1, hn2, hn3, hn4, hs2, hs3, hs4]
   refine y2 _ ?_
   try clear y2 Y2
   refine AWp_seqK fun Y2 y2 => ?_
   refine AWp_region ?_
   iterate 3 (refine aops_chunk 1 fun Q0 q0 => ?_; simp only [↓bO, go_sem, seval, hx0, ofL_app, app92, hs1, List.append_assoc, hlt, hc, hwk, hwc, ht, hm2, hw1, hw2, hw3, hw4, hx1, hx2, hx3, hz1, hz2, hn1, hn2, hn3, hn4, hs2, hs3, hs4]; refine q0 _ ?_; clear q0 Q0; simp only [go_sem])
   refine aops_case 19 rfl (fun hc19 => ?_) (fun hc19 => ?_)
   ·
    simp only [List.set_cons_zero, List.set_cons_succ]
    have hnp : plainB c = false := not_plain (.inl (by simpa using hc19))
    have hnx := tkQ_told hlt hc hnp
    iterate 10 (refine aops_chunk 1 fun Q0 q0 => ?_; simp only [↓bO, go_sem, seval, hx0, ofL_app, app92, hs1, List.append_assoc, hlt, hc, hwk, hwc, ht, hm2, hw1, hw2, hw3, hw4, hx1, hx2, hx3, hz1, hz2, hn1, hn2, hn3, hn4, hs2, hs3, hs4, hnx]; refine q0 _ ?_; clear q0 Q0; simp only [go_sem])
    simp only [↓bO, go_sem, seval, hx0, ofL_app, app92, hs1, List.append_assoc, hlt, hc, hwk, hwc, ht, hm2, hw1, hw2, hw3, hw4, hx1, hx2, hx3, hz1, hz2, hn1, hn2, hn3, hn4, hs2, hs3, hs4, hnx]
    refine y2 _ ?_
    try clear y2 Y2
    refine AWp_cond (b := true) (by first | exact rfl | exact congrArg (fun b => AV.v (.bool b)) hb30) (fun _ => ?_) (fun h => (by cases h))
    refine AWp_drawK 18 mixed (by kernel_rfl) fun J0 j0 => ?_
    iterate 17 (simp only [go_sem]; refine dRun_chunk 1 fun Q0 q0 => ?_; simp only [↓dRun, ↓dOp, ↓bO, go_sem, seval, hx0, ofL_app, app92, hs1, List.append_assoc, hlt, hc, hwk, hwc, ht, hm2, hw1, hw2, hw3, hw4, hx1, hx2, hx3, hz1, hz2, hn1, hn2, hn3, hn4, hs2, hs3, hs4, hnx]; refine q0 _ ?_; clear q0 Q0)
    simp only [go_sem]
    simp only [↓dRun, ↓dOp, ↓bO, go_sem, seval, hx0, ofL_app, app92, hs1, List.append_assoc, hlt, hc, hwk, hwc, ht, hm2, hw1, hw2, hw3, hw4, hx1, hx2, hx3, hz1, hz2, hn1, hn2, hn3, hn4, hs2, hs3, hs4, hnx]
    refine j0 _ ?_
    clear j0 J0
    simp only [go_sem]
    simp only [↓bO, go_sem, seval, hx0, ofL_app, app92, hs1, List.append_assoc, hlt, hc, hwk, hwc, ht, hm2, hw1, hw2, hw3, hw4, hx1, hx2, hx3, hz1, hz2, hn1, hn2, hn3, hn4, hs2, hs3, hs4, hnx]
    refine y1 _ ?_
    try clear y1 Y1
    refine AWp_region ?_
    iterate 2 (refine aops_chunk 1 fun Q0 q0 => ?_; simp only [↓bO, go_sem, seval, hx0, ofL_app, app92, hs1, List.append_assoc, hlt, hc, hwk, hwc, ht, hm2, hw1, hw2, hw3, hw4, hx1, hx2, hx3, hz1, hz2, hn1, hn2, hn3, hn4, hs2, hs3, hs4, hnx]; refine q0 _ ?_; clear q0 Q0; simp only [go_sem])
    simp only [↓bO, go_sem, seval, hx0, ofL_app, app92, hs1, List.append_assoc, hlt, hc, hwk, hwc, ht, hm2, hw1, hw2, hw3, hw4, hx1, hx2, hx3, hz1, hz2, hn1, hn2, hn3, hn4, hs2, hs3, hs4, hnx]
    refine ⟨(k + 1), (by omega), by omega, ?_⟩
    try simp only [maskL, setsL, putsO, putO, mB, List.set_cons_zero, List.set_cons_succ, seval, hx0, ofL_app, app92, hs1, List.append_assoc, bL, hlt, hc, hwk, hwc, ht, hm2, hw1, hw2, hw3, hw4, hx1, hx2, hx3, hz1, hz2, hn1, hn2, hn3, hn4, hs2, hs3, hs4, hnx]
    exact Weak.mk (by simp only [go_sem, Le.refl, Le.any, Le.slNil, Int.natCast_add, Int.cast_ofNat_Int, Int.natCast_one]) (fun _ _ h => h) rfl rfl
   ·
    simp only [List.set_cons_zero, List.set_cons_succ]
    have h1 : ¬ (c.toNat : Int) < 32 := by simpa using hc19
    iterate 4 (refine aops_chunk 1 fun Q0 q0 => ?_; simp only [↓bO, go_sem, seval, hx0, ofL_app, app92, hs1, List.append_assoc, hlt, hc, hwk, hwc, ht, hm2, hw1, hw2, hw3, hw4, hx1, hx2, hx3, hz1, hz2, hn1, hn2, hn3, hn4, hs2, hs3, hs4]; refine q0 _ ?_; clear q0 Q0; simp only [go_sem])
    refine aops_case 23 rfl (fun hc23 => ?_) (fun hc23 => ?_)
    ·
     simp only [List.set_cons_zero, List.set_cons_succ]
     have hnp : plainB c = false := not_plain (.inr (.inl (by (have h9 := hc23; simp at h9; omega))))
     have hnx := tkQ_told hlt hc hnp
     iterate 6 (refine aops_chunk 1 fun Q0 q0 => ?_; simp only [↓bO, go_sem, seval, hx0, ofL_app, app92, hs1, List.append_assoc, hlt, hc, hwk, hwc, ht, hm2, hw1, hw2, hw3, hw4, hx1, hx2, hx3, hz1, hz2, hn1, hn2, hn3, hn4, hs2, hs3, hs4, hnx]; refine q0 _ ?_; clear q0 Q0; simp only [go_sem])
     simp only [↓bO, go_sem, seval, hx0, ofL_app, app92, hs1, List.append_assoc, hlt, hc, hwk, hwc, ht, hm2, hw1, hw2, hw3, hw4, hx1, hx2, hx3, hz1, hz2, hn1, hn2, hn3, hn4, hs2, hs3, hs4, hnx]
     refine y2 _ ?_
     try clear y2 Y2
     refine AWp_cond (b := true) (by first | exact rfl | exact congrArg (fun b => AV.v (.bool b)) hb30) (fun _ => ?_) (fun h => (by cases h))
     refine AWp_drawK 18 mixed (by kernel_rfl) fun J0 j0 => ?_
     iterate 17 (simp only [go_sem]; refine dRun_chunk 1 fun Q0 q0 => ?_; simp only [↓dRun, ↓dOp, ↓bO, go_sem, seval, hx0, ofL_app, app92, hs1, List.append_assoc, hlt, hc, hwk, hwc, ht, hm2, hw1, hw2, hw3, hw4, hx1, hx2, hx3, hz1, hz2, hn1, hn2, hn3, hn4, hs2, hs3, hs4, hnx]; refine q0 _ ?_; clear q0 Q0)
     simp only [go_sem]
     simp only [↓dRun, ↓dOp, ↓bO, go_sem, seval, hx0, ofL_app, app92, hs1, List.append_assoc, hlt, hc, hwk, hwc, ht, hm2, hw1, hw2, hw3, hw4, hx1, hx2, hx3, hz1, hz2, hn1, hn2, hn3, hn4, hs2, hs3, hs4, hnx]
     refine j0 _ ?_
     clear j0 J0
     simp only [go_sem]
     simp only [↓bO, go_sem, seval, hx0, ofL_app, app92, hs1, List.append_assoc, hlt, hc, hwk, hwc, ht, hm2, hw1, hw2, hw3, hw4, hx1, hx2, hx3, hz1, hz2, hn1, hn2, hn3, hn4, hs2, hs3, hs4, hnx]
     refine y1 _ ?_
     try clear y1 Y1
     refine AWp_region ?_
     iterate 2 (refine aops_chunk 1 fun Q0 q0 => ?_; simp only [↓bO, go_sem, seval, hx0, ofL_app, app92, hs1, List.append_assoc, hlt, hc, hwk, hwc, ht, hm2, hw1, hw2, hw3, hw4, hx1, hx2, hx3, hz1, hz2, hn1, hn2, hn3, hn4, hs2, hs3, hs4, hnx]; refine q0 _ ?_; clear q0 Q0; simp only [go_sem])
     simp only [↓bO, go_sem, seval, hx0, ofL_app, app92, hs1, List.append_assoc, hlt, hc, hwk, hwc, ht, hm2, hw1, hw2, hw3, hw4, hx1, hx2, hx3, hz1, hz2, hn1, hn2, hn3, hn4, hs2, hs3, hs4, hnx]
     refine ⟨(k + 1), (by omega), by omega, ?_⟩
     try simp only [maskL, setsL, putsO, putO, mB, List.set_cons_zero, List.set_cons_succ, seval, hx0, ofL_app, app92, hs1, List.append_assoc, bL, hlt, hc, hwk, hwc, ht, hm2, hw1, hw2, hw3, hw4, hx1, hx2, hx3, hz1, hz2, hn1, hn2, hn3, hn4, hs2, hs3, hs4, hnx]
     exact Weak.mk (by simp only [go_sem, Le.refl, Le.any, Le.slNil, Int.natCast_add, Int.cast_ofNat_Int, Int.natCast_one]) (fun _ _ h => h) rfl rfl
    ·
     simp only [List.set_cons_zero, List.set_cons_succ]
     have h2 : ¬ (c.toNat : Int) ≥ 127 := by (have h9 := hc23; simp at h9; omega)
     iterate 4 (refine aops_chunk 1 fun Q0 q0 => ?_; simp only [↓bO, go_sem, seval, hx0, ofL_app, app92, hs1, List.append_assoc, hlt, hc, hwk, hwc, ht, hm2, hw1, hw2, hw3, hw4, hx1, hx2, hx3, hz1, hz2, hn1, hn2, hn3, hn4, hs2, hs3, hs4]; refine q0 _ ?_; clear q0 Q0; simp only [go_sem])
     refine aops_case 27 rfl (fun hc27 => ?_) (fun hc27 => ?_)
     ·
      simp only [List.set_cons_zero, List.set_cons_succ]
      have hnp : plainB c = false := not_plain (.inr (.inr (.inl (by simpa using hc27))))
      have hnx := tkQ_told hlt hc hnp
      iterate 2 (refine aops_chunk 1 fun Q0 q0 => ?_; simp only [↓bO, go_sem, seval, hx0, ofL_app, app92, hs1, List.append_assoc, hlt, hc, hwk, hwc, ht, hm2, hw1, hw2, hw3, hw4, hx1, hx2, hx3, hz1, hz2, hn1, hn2, hn3, hn4, hs2, hs3, hs4, hnx]; refine q0 _ ?_; clear q0 Q0; simp only [go_sem])
      simp only [↓bO, go_sem, seval, hx0, ofL_app, app92, hs1, List.append_assoc, hlt, hc, hwk, hwc, ht, hm2, hw1, hw2, hw3, hw4, hx1, hx2, hx3, hz1, hz2, hn1, hn2, hn3, hn4, hs2, hs3, hs4, hnx]
      refine y2 _ ?_
      try clear y2 Y2
      refine AWp_cond (b := true) (by first | exact rfl | exact congrArg (fun b => AV.v (.bool b)) hb30) (fun _ => ?_) (fun h => (by cases h))
      refine AWp_drawK 18 mixed (by kernel_rfl) fun J0 j0 => ?_
      iterate 17 (simp only [go_sem]; refine dRun_chunk 1 fun Q0 q0 => ?_; simp only [↓dRun, ↓dOp, ↓bO, go_sem, seval, hx0, ofL_app, app92, hs1, List.append_assoc, hlt, hc, hwk, hwc, ht, hm2, hw1, hw2, hw3, hw4, hx1, hx2, hx3, hz1, hz2, hn1, hn2, hn3, hn4, hs2, hs3, hs4, hnx]; refine q0 _ ?_; clear q0 Q0)
      simp only [go_sem]
      simp only [↓dRun, ↓dOp, ↓bO, go_sem, seval, hx0, ofL_app, app92, hs1, List.append_assoc, hlt, hc, hwk, hwc, ht, hm2, hw1, hw2, hw3, hw4, hx1, hx2, hx3, hz1, hz2, hn1, hn2, hn3, hn4, hs2, hs3, hs4, hnx]
      refine j0 _ ?_
      clear j0 J0
      simp only [go_sem]
      simp only [↓bO, go_sem, seval, hx0, ofL_app, app92, hs1, List.append_assoc, hlt, hc, hwk, hwc, ht, hm2, hw1, hw2, hw3, hw4, hx1, hx2, hx3, hz1, hz2, hn1, hn2, hn3, hn4, hs2, hs3, hs4, hnx]
      refine y1 _ ?_
      try clear y1 Y1
      refine AWp_region ?_
      iterate 2 (refine aops_chunk 1 fun Q0 q0 => ?_; simp only [↓bO, go_sem, seval, hx0, ofL_app, app92, hs1, List.append_assoc, hlt, hc, hwk, hwc, ht, hm2, hw1, hw2, hw3, hw4, hx1, hx2, hx3, hz1, hz2, hn1, hn2, hn3, hn4, hs2, hs3, hs4, hnx]; refine q0 _ ?_; clear q0 Q0; simp only [go_sem])
      simp only [↓bO, go_sem, seval, hx0, ofL_app, app92, hs1, List.append_assoc, hlt, hc, hwk, hwc, ht, hm2, hw1, hw2, hw3, hw4, hx1, hx2, hx3, hz1, hz2, hn1, hn2, hn3, hn4, hs2, hs3, hs4, hnx]
      refine ⟨(k + 1), (by omega), by omega, ?_⟩
      try simp only [maskL, setsL, putsO, putO, mB, List.set_cons_zero, List.set_cons_succ, seval, hx0, ofL_app, app92, hs1, List.append_assoc, bL, hlt, hc, hwk, hwc, ht, hm2, hw1, hw2, hw3, hw4, hx1, hx2, hx3, hz1, hz2, hn1, hn2, hn3, hn4, hs2, hs3, hs4, hnx]
      exact Weak.mk (by simp only [go_sem, Le.refl, Le.any, Le.slNil, Int.natCast_add, Int.cast_ofNat_Int, Int.natCast_one]) (fun _ _ h => h) rfl rfl
     ·
      simp only [List.set_cons_zero, List.set_cons_succ]
      have h3 : ¬ (c.toNat : Int) = 34 := by simpa using hc27
      iterate 2 (refine aops_chunk 1 fun Q0 q0 => ?_; simp only [↓bO, go_sem, seval, hx0, ofL_app, app92, hs1, List.append_assoc, hlt, hc, hwk, hwc, ht, hm2, hw1, hw2, hw3, hw4, hx1, hx2, hx3, hz1, hz2, hn1, hn2, hn3, hn4, hs2, hs3, hs4]; refine q0 _ ?_; clear q0 Q0; simp only [go_sem])
      simp only [↓bO, go_sem, seval, hx0, ofL_app, app92, hs1, List.append_assoc, hlt, hc, hwk, hwc, ht, hm2, hw1, hw2, hw3, hw4, hx1, hx2, hx3, hz1, hz2, hn1, hn2, hn3, hn4, hs2, hs3, hs4]
      refine y2 _ ?_
      try clear y2 Y2
      refine AWp_cond rfl (fun hb30 => ?_) (fun hb30 => ?_)
      ·
       have hnp : plainB c = false := not_plain (.inr (.inr (.inr (by simpa using hb30))))
       have hnx := tkQ_told hlt hc hnp
       refine AWp_drawK 18 mixed (by kernel_rfl) fun J0 j0 => ?_
       iterate 17 (simp only [go_sem]; refine dRun_chunk 1 fun Q0 q0 => ?_; simp only [↓dRun, ↓dOp, ↓bO, go_sem, seval, hx0, ofL_app, app92, hs1, List.append_assoc, hlt, hc, hwk, hwc, ht, hm2, hw1, hw2, hw3, hw4, hx1, hx2, hx3, hz1, hz2, hn1, hn2, hn3, hn4, hs2, hs3, hs4, hnx]; refine q0 _ ?_; clear q0 Q0)
       simp only [go_sem]
       simp only [↓dRun, ↓dOp, ↓bO, go_sem, seval, hx0, ofL_app, app92, hs1, List.append_assoc, hlt, hc, hwk, hwc, ht, hm2, hw1, hw2, hw3, hw4, hx1, hx2, hx3, hz1, hz2, hn1, hn2, hn3, hn4, hs2, hs3, hs4, hnx]
       refine j0 _ ?_
       clear j0 J0
       simp only [go_sem]
       simp only [↓bO, go_sem, seval, hx0, ofL_app, app92, hs1, List.append_assoc, hlt, hc, hwk, hwc, ht, hm2, hw1, hw2, hw3, hw4, hx1, hx2, hx3, hz1, hz2, hn1, hn2, hn3, hn4, hs2, hs3, hs4, hnx]
       refine y1 _ ?_
       try clear y1 Y1
       refine AWp_region ?_
       iterate 2 (refine aops_chunk 1 fun Q0 q0 => ?_; simp only [↓bO, go_sem, seval, hx0, ofL_app, app92, hs1, List.append_assoc, hlt, hc, hwk, hwc, ht, hm2, hw1, hw2, hw3, hw4, hx1, hx2, hx3, hz1, hz2, hn1, hn2, hn3, hn4, hs2, hs3, hs4, hnx]; refine q0 _ ?_; clear q0 Q0; simp only [go_sem])
       simp only [↓bO, go_sem, seval, hx0, ofL_app, app92, hs1, List.append_assoc, hlt, hc, hwk, hwc, ht, hm2, hw1, hw2, hw3, hw4, hx1, hx2, hx3, hz1, hz2, hn1, hn2, hn3, hn4, hs2, hs3, hs4, hnx]
       refine ⟨(k + 1), (by omega), by omega, ?_⟩
       try simp only [maskL, setsL, putsO, putO, mB, List.set_cons_zero, List.set_cons_succ, seval, hx0, ofL_app, app92, hs1, List.append_assoc, bL, hlt, hc, hwk, hwc, ht, hm2, hw1, hw2, hw3, hw4, hx1, hx2, hx3, hz1, hz2, hn1, hn2, hn3, hn4, hs2, hs3, hs4, hnx]
       exact Weak.mk (by simp only [go_sem, Le.refl, Le.any, Le.slNil, Int.natCast_add, Int.cast_ofNat_Int, Int.natCast_one]) (fun _ _ h => h) rfl rfl
      ·
       have hp := is_plain h1 h2 h3 (by simpa using hb30)
       have hnx := tkQ_plain hlt hc hp
       refine AWp_region ?_
       iterate 7 (refine aops_chunk 1 fun Q0 q0 => ?_; simp only [↓bO, go_sem, seval, hx0, ofL_app, app92, hs1, List.append_assoc, hlt, hc, hwk, hwc, ht, hm2, hw1, hw2, hw3, hw4, hx1, hx2, hx3, hz1, hz2, hn1, hn2, hn3, hn4, hs2, hs3, hs4, hnx]; refine q0 _ ?_; clear q0 Q0; simp only [go_sem])
       simp only [↓bO, go_sem, seval, hx0, ofL_app, app92, hs1, List.append_assoc, hlt, hc, hwk, hwc, ht, hm2, hw1, hw2, hw3, hw4, hx1, hx2, hx3, hz1, hz2, hn1, hn2, hn3, hn4, hs2, hs3, hs4, hnx]
       refine y1 _ ?_
       try clear y1 Y1
       refine AWp_region ?_
       iterate 2 (refine aops_chunk 1 fun Q0 q0 => ?_; simp only [↓bO, go_sem, seval, hx0, ofL_app, app92, hs1, List.append_assoc, hlt, hc, hwk, hwc, ht, hm2, hw1, hw2, hw3, hw4, hx1, hx2, hx3, hz1, hz2, hn1, hn2, hn3, hn4, hs2, hs3, hs4, hnx]; refine q0 _ ?_; clear q0 Q0; simp only [go_sem])
       simp only [↓bO, go_sem, seval, hx0, ofL_app, app92, hs1, List.append_assoc, hlt, hc, hwk, hwc, ht, hm2, hw1, hw2, hw3, hw4, hx1, hx2, hx3, hz1, hz2, hn1, hn2, hn3, hn4, hs2, hs3, hs4, hnx]
       refine ⟨(k + 1), (by omega), by omega, ?_⟩
       try simp only [maskL, setsL, putsO, putO, mB, List.set_cons_zero, List.set_cons_succ, seval, hx0, ofL_app, app92, hs1, List.append_assoc, bL, hlt, hc, hwk, hwc, ht, hm2, hw1, hw2, hw3, hw4, hx1, hx2, hx3, hz1, hz2, hn1, hn2, hn3, hn4, hs2, hs3, hs4, hnx]
       exact Weak.mk (by simp only [go_sem, Le.refl, Le.any, Le.slNil, Int.natCast_add, Int.cast_ofNat_Int, Int.natCast_one]) (fun _ _ h => h) rfl rfl
  ·
   have hge : ¬ k < s.size := by simpa using hb10
   have hs5 : (((ofL (tkQ s k)).size + (#[34] : Array UInt8).size : Nat) : Int) ≤ IntKind.i64.max ↔ True := iff_true_intro (by (have g : (ofL (tkQ s k)).size + (#[34] : Array UInt8).size ≤ 3 * k + 4 := by (simp [ofL_size]; try omega)); (show (((ofL (tkQ s k)).size + (#[34] : Array UInt8).size : Nat) : Int) ≤ 9223372036854775807); omega)
   have hal := tkQ_all (s := s) (k := k) (by omega)
   refine AWp_exit ?_
   simp only [thenQ, blockQ, noGotoQ, bA, Nat.reduceEqDiff, ↓reduceIte]
   refine y0 _ ?_
   try clear y0 Y0
   refine AWp_seqK fun Y0 y0 => ?_
   refine AWp_region ?_
   iterate 2 (refine aops_chunk 1 fun Q0 q0 => ?_; simp only [↓bO, go_sem, seval, hs5, app34, hal]; refine q0 _ ?_; clear q0 Q0; simp only [go_sem])
   simp only [↓bO, go_sem, seval, hs5, app34, hal]
   refine y0 _ ?_
   try clear y0 Y0
   refine AWp_ret ?_
   try simp only [thenQ, blockQ, noGotoQ, retQ, aRes, tupOf, bS, bA]
   exact Le.refl _
theorem Digit_pure (c : UInt8) : APure Tryd.prog 25 [.v (.int .u8 (c.toNat : Int))] (.v (.int .i64 (dg c))) := by
  refine APure.mkL (.cons (.v _) .nil) (.v _) ?_
  refine ACalls_intro Tryd.func25 (by kernel_rfl) rfl (by rw [Tryd.ntmps25]; simp) (fun hm => ?_)
  simp only [Tryd.ntmps25, Tryd.results25, List.length_cons, List.length_nil, Nat.reduceAdd, Nat.reduceSub, List.replicate_succ, List.replicate_zero, List.cons_append, List.nil_append]
  have hlc := c.toNat_lt
  have hwc : IntKind.i64.wrap ((c.toNat : Int)) = (c.toNat : Int) := by (rw [wrap_in (by omega) (by omega)])
  refine AWp_seqK fun Y0 y0 => ?_
  refine AWp_region ?_
  simp only [↓bO, go_sem, seval, hwc]
  refine y0 _ ?_
  try clear y0 Y0
  refine AWp_seqK fun Y0 y0 => ?_
  refine AWp_seqK fun Y1 y1 => ?_
  refine AWp_region ?_
  iterate 3 (refine aops_chunk 1 fun Q0 q0 => ?_; simp only [↓bO, go_sem, seval, hwc]; refine q0 _ ?_; clear q0 Q0; simp only [go_sem])
  refine aops_case 5 rfl (fun hc5 => ?_) (fun hc5 => ?_)
  ·
   simp only [List.set_cons_zero, List.set_cons_succ]
   have g1 : (c.toNat : Int) ≥ 48 := by simpa using hc5
   iterate 2 (refine aops_chunk 1 fun Q0 q0 => ?_; simp only [↓bO, go_sem, seval, hwc]; refine q0 _ ?_; clear q0 Q0; simp only [go_sem])
   simp only [↓bO, go_sem, seval, hwc]
   refine y1 _ ?_
   try clear y1 Y1
   refine AWp_cond rfl (fun hb8 => ?_) (fun hb8 => ?_)
   ·
    have g2 : (c.toNat : Int) ≤ 57 := by simpa using hb8
    have hw1 : IntKind.i64.wrap ((c.toNat : Int) - 48) = (c.toNat : Int) - 48 := by (rw [wrap_in (by omega) (by omega)])
    refine AWp_seqK fun Y1 y1 => ?_
    refine AWp_region ?_
    iterate 3 (refine aops_chunk 1 fun Q0 q0 => ?_; simp only [↓bO, go_sem, seval, hwc, hw1]; refine q0 _ ?_; clear q0 Q0; simp only [go_sem])
    simp only [↓bO, go_sem, seval, hwc, hw1]
    refine y1 _ ?_
    try clear y1 Y1
    refine AWp_ret ?_
    try simp only [thenQ, blockQ, noGotoQ, retQ, aRes, tupOf, bS, bA]
    refine Le.of_eq (congrArg (fun n => AV.v (.int .i64 n)) ?_)
    unfold dg
    rw [if_pos (by omega)]
   ·
    have g2 : ¬ (c.toNat : Int) ≤ 57 := by simpa using hb8
    refine AWp_skip ?_
    try simp only [thenQ, blockQ, noGotoQ]
    refine y0 _ ?_
    try clear y0 Y0
    refine AWp_seqK fun Y0 y0 => ?_
    refine AWp_seqK fun Y1 y1 => ?_
    refine AWp_region ?_
    iterate 3 (refine aops_chunk 1 fun Q0 q0 => ?_; simp only [↓bO, go_sem, seval, hwc]; refine q0 _ ?_; clear q0 Q0; simp only [go_sem])
    refine aops_case 14 rfl (fun hc14 => ?_) (fun hc14 => ?_)
    ·
     simp only [List.set_cons_zero, List.set_cons_succ]
     have g3 : (c.toNat : Int) ≥ 97 := by simpa using hc14
     iterate 2 (refine aops_chunk 1 fun Q0 q0 => ?_; simp only [↓bO, go_sem, seval, hwc]; refine q0 _ ?_; clear q0 Q0; simp only [go_sem])
     simp only [↓bO, go_sem, seval, hwc]
     refine y1 _ ?_
     try clear y1 Y1
     refine AWp_cond rfl (fun hb17 => ?_) (fun hb17 => ?_)
     ·
      have g4 : (c.toNat : Int) ≤ 102 := by simpa using hb17
      have hw2 : IntKind.i64.wrap ((c.toNat : Int) - 87) = (c.toNat : Int) - 87 := by (rw [wrap_in (by omega) (by omega)])
      refine AWp_seqK fun Y1 y1 => ?_
      refine AWp_region ?_
      iterate 3 (refine aops_chunk 1 fun Q0 q0 => ?_; simp only [↓bO, go_sem, seval, hwc, hw2]; refine q0 _ ?_; clear q0 Q0; simp only [go_sem])
      simp only [↓bO, go_sem, seval, hwc, hw2]
      refine y1 _ ?_
      try clear y1 Y1
      refine AWp_ret ?_
      try simp only [thenQ, blockQ, noGotoQ, retQ, aRes, tupOf, bS, bA]
      refine Le.of_eq (congrArg (fun n => AV.v (.int .i64 n)) ?_)
      unfold dg
      rw [if_neg (by omega), if_pos (by omega)]
     ·
      have g4 : ¬ (c.toNat : Int) ≤ 102 := by simpa using hb17
      refine AWp_skip ?_
      try simp only [thenQ, blockQ, noGotoQ]
      refine y0 _ ?_
      try clear y0 Y0
      refine AWp_seqK fun Y0 y0 => ?_
      refine AWp_region ?_
      simp only [↓bO, go_sem, seval, hwc]
      refine y0 _ ?_
      try clear y0 Y0
      refine AWp_ret ?_
      try simp only [thenQ, blockQ, noGotoQ, retQ, aRes, tupOf, bS, bA]
      refine Le.of_eq (congrArg (fun n => AV.v (.int .i64 n)) ?_)
      unfold dg
      rw [if_neg (by omega), if_neg (by omega)]
    ·
     simp only [List.set_cons_zero, List.set_cons_succ]
     have g3 : ¬ (c.toNat : Int) ≥ 97 := by simpa using hc14
     iterate 2 (refine aops_chunk 1 fun Q0 q0 => ?_; simp only [↓bO, go_sem, seval, hwc]; refine q0 _ ?_; clear q0 Q0; simp only [go_sem])
     simp only [↓bO, go_sem, seval, hwc]
     refine y1 _ ?_
     try clear y1 Y1
     refine AWp_cond (b := false) (by first | exact rfl | exact congrArg (fun b => AV.v (.bool b)) hb17) (fun h => (by cases h)) (fun _ => ?_)
     refine AWp_skip ?_
     try simp only [thenQ, blockQ, noGotoQ]
     refine y0 _ ?_
     try clear y0 Y0
     refine AWp_seqK fun Y0 y0 => ?_
     refine AWp_region ?_
     simp only [↓bO, go_sem, seval, hwc]
     refine y0 _ ?_
     try clear y0 Y0
     refine AWp_ret ?_
     try simp only [thenQ, blockQ, noGotoQ, retQ, aRes, tupOf, bS, bA]
     refine Le.of_eq (congrArg (fun n => AV.v (.int .i64 n)) ?_)
     unfold dg
     rw [if_neg (by omega), if_neg (by omega)]
  ·
   simp only [List.set_cons_zero, List.set_cons_succ]
   have g1 : ¬ (c.toNat : Int) ≥ 48 := by simpa using hc5
   iterate 2 (refine aops_chunk 1 fun Q0 q0 => ?_; simp only [↓bO, go_sem, seval, hwc]; refine q0 _ ?_; clear q0 Q0; simp only [go_sem])
   simp only [↓bO, go_sem, seval, hwc]
   refine y1 _ ?_
   try clear y1 Y1
   refine AWp_cond (b := false) (by first | exact rfl | exact congrArg (fun b => AV.v (.bool b)) hb8) (fun h => (by cases h)) (fun _ => ?_)
   refine AWp_skip ?_
   try simp only [thenQ, blockQ, noGotoQ]
   refine y0 _ ?_
   try clear y0 Y0
   refine AWp_seqK fun Y0 y0 => ?_
   refine AWp_seqK fun Y1 y1 => ?_
   refine AWp_region ?_
   iterate 3 (refine aops_chunk 1 fun Q0 q0 => ?_; simp only [↓bO, go_sem, seval, hwc]; refine q0 _ ?_; clear q0 Q0; simp only [go_sem])
   refine aops_case 14 rfl (fun hc14 => ?_) (fun hc14 => ?_)
   ·
    simp only [List.set_cons_zero, List.set_cons_succ]
    have g3 : (c.toNat : Int) ≥ 97 := by simpa using hc14
    iterate 2 (refine aops_chunk 1 fun Q0 q0 => ?_; simp only [↓bO, go_sem, seval, hwc]; refine q0 _ ?_; clear q0 Q0; simp only [go_sem])
    simp only [↓bO, go_sem, seval, hwc]
    refine y1 _ ?_
    try clear y1 Y1
    refine AWp_cond rfl (fun hb17 => ?_) (fun hb17 => ?_)
    ·
     have g4 : (c.toNat : Int) ≤ 102 := by simpa using hb17
     have hw2 : IntKind.i64.wrap ((c.toNat : Int) - 87) = (c.toNat : Int) - 87 := by (rw [wrap_in (by omega) (by omega)])
     refine AWp_seqK fun Y1 y1 => ?_
     refine AWp_region ?_
     iterate 3 (refine aops_chunk 1 fun Q0 q0 => ?_; simp only [↓bO, go_sem, seval, hwc, hw2]; refine q0 _ ?_; clear q0 Q0; simp only [go_sem])
     simp only [↓bO, go_sem, seval, hwc, hw2]
     refine y1 _ ?_
     try clear y1 Y1
     refine AWp_ret ?_
     try simp only [thenQ, blockQ, noGotoQ, retQ, aRes, tupOf, bS, bA]
     refine Le.of_eq (congrArg (fun n => AV.v (.int .i64 n)) ?_)
     unfold dg
     rw [if_neg (by omega), if_pos (by omega)]
    ·
     have g4 : ¬ (c.toNat : Int) ≤ 102 := by simpa using hb17
     refine AWp_skip ?_
     try simp only [thenQ, blockQ, noGotoQ]
     refine y0 _ ?_
     try clear y0 Y0
     refine AWp_seqK fun Y0 y0 => ?_
     refine AWp_region ?_
     simp only [↓bO, go_sem, seval, hwc]
     refine y0 _ ?_
     try clear y0 Y0
     refine AWp_ret ?_
     try simp only [thenQ, blockQ, noGotoQ, retQ, aRes, tupOf, bS, bA]
     refine Le.of_eq (congrArg (fun n => AV.v (.int .i64 n)) ?_)
     unfold dg
     rw [if_neg (by omega), if_neg (by omega)]
   ·
    simp only [List.set_cons_zero, List.set_cons_succ]
    have g3 : ¬ (c.toNat : Int) ≥ 97 := by simpa using hc14
    iterate 2 (refine aops_chunk 1 fun Q0 q0 => ?_; simp only [↓bO, go_sem, seval, hwc]; refine q0 _ ?_; clear q0 Q0; simp only [go_sem])
    simp only [↓bO, go_sem, seval, hwc]
    refine y1 _ ?_
    try clear y1 Y1
    refine AWp_cond (b := false) (by first | exact rfl | exact congrArg (fun b => AV.v (.bool b)) hb17) (fun h => (by cases h)) (fun _ => ?_)
    refine AWp_skip ?_
    try simp only [thenQ, blockQ, noGotoQ]
    refine y0 _ ?_
    try clear y0 Y0
    refine AWp_seqK fun Y0 y0 => ?_
    refine AWp_region ?_
    simp only [↓bO, go_sem, seval, hwc]
    refine y0 _ ?_
    try clear y0 Y0
    refine AWp_ret ?_
    try simp only [thenQ, blockQ, noGotoQ, retQ, aRes, tupOf, bS, bA]
    refine Le.of_eq (congrArg (fun n => AV.v (.int .i64 n)) ?_)
    unfold dg
    rw [if_neg (by omega), if_neg (by omega)]
theorem ix_dg (a : UInt8) : Lib.indexByte hexS.data.toList ((a.toNat : Int)).toNat.toUInt8 = dg a := by
  refine u8_nat (p := fun a => Lib.indexByte hexS.data.toList ((a.toNat : Int)).toNat.toUInt8 = dg a) ?_ a
  decide +kernel
theorem IxHex_pure (a : UInt8) : APure Tryd.prog 24 [.v (.string ⟨(#[48, 49, 50, 51, 52, 53, 54, 55, 56, 57, 97, 98, 99, 100, 101, 102] : Array UInt8)⟩), .v (.int .u8 (a.toNat : Int))] (.v (.int .i64 (dg a))) := by
  have h9 := IndexByte_pure hexS (a.toNat : Int)
  rw [ix_dg] at h9
  exact h9
theorem or_two (x y : Fin 16) : IntKind.u8.wrap (iOr .i64 (iShl .i64 ((x.val : Nat) : Int) 4) ((y.val : Nat) : Int)) = ((two (x.val : Int) (y.val : Int)).toNat : Int) := by
  revert x y; decide +kernel
theorem inn_len (s : ByteArray) : (innL s.data.toList).length = s.size - 2 := by
  unfold innL
  have h : s.data.toList.length = s.size := Array.length_toList
  rw [List.length_take, List.length_drop, h]; omega
theorem inn_at {s : ByteArray} {k : Nat} (h : k + 2 < s.size) {c : UInt8} (hc : (s[k + 1]?).getD 0 = c) : (innL s.data.toList).drop k = c :: (innL s.data.toList).drop (k + 1) := by
  have hl := inn_len s
  have h1 : (innL s.data.toList)[k]? = some c := by
    have h2 := byte_at (s := s) (i := k + 1) (by omega)
    unfold innL
    have h3 : s.data.toList.length = s.size := Array.length_toList
    rw [List.getElem?_take, if_pos (by omega), List.getElem?_drop, show 1 + k = k + 1 by omega, h2, hc]
  obtain ⟨h4, h5⟩ := List.getElem?_eq_some_iff.1 h1
  rw [List.drop_eq_getElem_cons h4, h5]
theorem prgD_one {c : UInt8} {r : List UInt8} (h : ¬ c.toNat = 92) : prgD (c :: r) = (prgD r).map (c :: ·) := by
  conv => lhs; unfold prgD
  rw [if_neg h]
theorem prgD_three {c a b : UInt8} {r : List UInt8} (h : c.toNat = 92) : prgD (c :: a :: b :: r) = (prgD r).map (two (max 0 (dg a)) (max 0 (dg b)) :: ·) := by
  conv => lhs; unfold prgD
  rw [if_pos h]
theorem prgD_short {c : UInt8} {r : List UInt8} (h : c.toNat = 92) (hr : r.length ≤ 1) : prgD (c :: r) = none := by
  unfold prgD
  rw [if_pos h]
  match r, hr with
  | [], _ => rfl
  | [_], _ => rfl
def PD (D : List UInt8 → Option (List UInt8)) (s : ByteArray) (k : Nat) (acc : List UInt8) : Prop := k + 2 ≤ s.size ∧ acc.length ≤ k ∧ D (innL s.data.toList) = (D ((innL s.data.toList).drop k)).map (acc ++ ·)
theorem PD.start {D : List UInt8 → Option (List UInt8)} {s : ByteArray} (h : 2 ≤ s.size) : PD D s 0 [] := ⟨by omega, by simp, by simp⟩
theorem PD.fin {D : List UInt8 → Option (List UInt8)} (hD : D [] = some []) {s : ByteArray} {k : Nat} {acc : List UInt8} (h : PD D s k acc) (hk : ¬ k + 2 < s.size) : D (innL s.data.toList) = some acc := by
  rw [h.2.2, List.drop_of_length_le (by rw [inn_len]; omega), hD]; simp
theorem PD.one {s : ByteArray} {k : Nat} {acc : List UInt8} (h : PD prgD s k acc) (hk : k + 2 < s.size) {c : UInt8} (hc : (s[k + 1]?).getD 0 = c) (hn : ¬ c.toNat = 92) : PD prgD s (k + 1) (acc ++ [c]) := by
  refine ⟨by omega, by have := h.2.1; simp; omega, ?_⟩
  rw [h.2.2, inn_at hk hc, prgD_one hn, Option.map_map]
  congr 1
  funext x; simp
theorem PD.bad {s : ByteArray} {k : Nat} {acc : List UInt8} (h : PD prgD s k acc) (hk : k + 2 < s.size) {c : UInt8} (hc : (s[k + 1]?).getD 0 = c) (hn : c.toNat = 92) (h4 : s.size ≤ k + 4) : prgD (innL s.data.toList) = none := by
  rw [h.2.2, inn_at hk hc, prgD_short hn (by rw [List.length_drop, inn_len]; omega)]; rfl
theorem PD.three {s : ByteArray} {k : Nat} {acc : List UInt8} (h : PD prgD s k acc) (hk : k + 4 < s.size) {c a b : UInt8} (hc : (s[k + 1]?).getD 0 = c) (hn : c.toNat = 92) (ha : (s[k + 2]?).getD 0 = a) (hb : (s[k + 3]?).getD 0 = b) :
    PD prgD s (k + 3) (acc ++ [two (max 0 (dg a)) (max 0 (dg b))]) := by
  refine ⟨by omega, by have := h.2.1; simp; omega, ?_⟩
  rw [h.2.2, inn_at (by omega) hc, inn_at (k := k + 1) (by omega) ha, inn_at (k := k + 2) (by omega) hb, prgD_three hn, Option.map_map]
  congr 1
  funext x; simp
def unqS (s : ByteArray) : ByteArray := ofL ((unqL s.data.toList).getD [])
def unqA (s : ByteArray) : AV := .tup [.v (.string (unqS s)), .v (.bool (unqL s.data.toList).isSome)]
theorem unqA_none {s : ByteArray} (h : unqL s.data.toList = none) : unqA s = .tup [.v (.string ByteArray.empty), .v (.bool false)] := by
  unfold unqA unqS; rw [h]; rfl
theorem unqA_some {s : ByteArray} {t : List UInt8} (h : unqL s.data.toList = some t) : unqA s = .tup [.v (.string (ofL t)), .v (.bool true)] := by
  unfold unqA unqS; rw [h]; rfl
theorem getD_at {s : ByteArray} {i : Nat} (h : i < s.size) : s.data.toList.getD i 0 = (s[i]?).getD 0 := by
  rw [List.getD_eq_getElem?_getD, byte_at h]; rfl
theorem unq_no {s : ByteArray} (h : s.size < 2 ∨ ¬ (((s[0]?).getD 0).toNat : Int) = 34 ∨ ¬ (((s[s.size - 1]?).getD 0).toNat : Int) = 34) : unqL s.data.toList = none := by
  unfold unqL
  have hl : s.data.toList.length = s.size := Array.length_toList
  refine if_neg ?_
  rintro ⟨h1, h2, h3⟩
  rw [hl] at h1 h3
  rw [getD_at (by omega)] at h2 h3
  rcases h with h | h | h
  · omega
  · rw [h2] at h; exact h (by decide)
  · rw [h3] at h; exact h (by decide)
theorem unq_fr {s : ByteArray} (h1 : 2 ≤ s.size) (h2 : (((s[0]?).getD 0).toNat : Int) = 34) (h3 : (((s[s.size - 1]?).getD 0).toNat : Int) = 34) : unqL s.data.toList = docD (innL s.data.toList) := by
  unfold unqL
  have hl : s.data.toList.length = s.size := Array.length_toList
  refine if_pos ⟨by omega, ?_, ?_⟩
  · rw [getD_at (by omega)]; exact UInt8.toNat_inj.1 (by show _ = 34; omega)
  · rw [hl, getD_at (by omega)]; exact UInt8.toNat_inj.1 (by show _ = 34; omega)
theorem quS_ne {s : ByteArray} {t : List UInt8} (h : ofL (quL t) ≠ s) : quL t ≠ s.data.toList := fun h9 => h (by rw [h9, ofL_back])
theorem max_dg (a : UInt8) : ∃ da : Fin 16, max 0 (dg a) = ((da.val : Nat) : Int) := by
  by_cases h : 0 ≤ dg a
  · have h1 := (dg_hx a h).1
    exact ⟨⟨(dg a).toNat, by omega⟩, by show max 0 (dg a) = (((dg a).toNat : Nat) : Int); omega⟩
  · exact ⟨0, by show max 0 (dg a) = 0; omega⟩
theorem Unquote_pure (s : ByteArray) (hs : s.size ≤ 300000) : APure Tryd.prog 11 [.v (.string s)] (unqA s) := by
  refine APure.mkL (.cons (.v _) .nil) ((.tup (.cons (.v _) (.cons (.v _) .nil)))) ?_
  refine ACalls_intro Tryd.func11 (by kernel_rfl) rfl (by rw [Tryd.ntmps11]; simp) (fun hm => ?_)
  simp only [Tryd.ntmps11, Tryd.results11, List.length_cons, List.length_nil, Nat.reduceAdd, Nat.reduceSub, List.replicate_succ, List.replicate_zero, List.cons_append, List.nil_append]
  refine AWp_seqK fun Y0 y0 => ?_
  refine AWp_region ?_
  refine aops_chunk 1 fun Q0 q0 => ?_
  simp only [↓bO, go_sem, seval]
  refine q0 _ ?_
  clear q0 Q0
  simp only [go_sem]
  simp only [↓bO, go_sem, seval]
  refine y0 _ ?_
  try clear y0 Y0
  refine AWp_seqK fun Y0 y0 => ?_
  refine AWp_seqK fun Y1 y1 => ?_
  refine AWp_region ?_
  iterate 4 (refine aops_chunk 1 fun Q0 q0 => ?_; simp only [↓bO, go_sem, seval]; refine q0 _ ?_; clear q0 Q0; simp only [go_sem])
  refine aops_case 11 rfl (fun hc11 => ?_) (fun hc11 => ?_)
  ·
   simp only [List.set_cons_zero, List.set_cons_succ]
   have hno : s.size < 2 ∨ ¬ (((s[0]?).getD 0).toNat : Int) = 34 ∨ ¬ (((s[s.size - 1]?).getD 0).toNat : Int) = 34 := .inl (by have h9 := hc11; simp at h9; omega)
   iterate 11 (refine aops_chunk 1 fun Q0 q0 => ?_; simp only [↓bO, go_sem, seval]; refine q0 _ ?_; clear q0 Q0; simp only [go_sem])
   simp only [↓bO, go_sem, seval]
   refine y1 _ ?_
   try clear y1 Y1
   refine AWp_cond (b := true) (by first | exact rfl | exact congrArg (fun b => AV.v (.bool b)) hb23) (fun _ => ?_) (fun h => (by cases h))
   refine AWp_seqK fun Y1 y1 => ?_
   refine AWp_region ?_
   refine aops_chunk 1 fun Q0 q0 => ?_
   simp only [↓bO, go_sem, seval]
   refine q0 _ ?_
   clear q0 Q0
   simp only [go_sem]
   simp only [↓bO, go_sem, seval]
   refine y1 _ ?_
   try clear y1 Y1
   refine AWp_ret ?_
   try simp only [thenQ, blockQ, noGotoQ, retQ, aRes, tupOf, bS, bA]
   rw [unqA_none (unq_no hno)]
   exact Le.refl _
  ·
   simp only [List.set_cons_zero, List.set_cons_succ]
   have h2 : 2 ≤ s.size := by (have h9 := hc11; simp at h9; omega)
   have hl0 : ((0 : Int) < (s.size : Int)) = True := eq_true (by omega)
   have hlz : 0 < s.size := by omega
   have he1 : (s.size : Int) - 1 = ((s.size - 1 : Nat) : Int) := by omega
   have hl9 : s.size - 1 < s.size := by omega
   have hw0 : IntKind.i64.wrap (((s.size - 1 : Nat)) : Int) = ((s.size - 1 : Nat) : Int) := wrap_in (by omega) (by omega)
   iterate 5 (refine aops_chunk 1 fun Q0 q0 => ?_; simp only [↓bO, go_sem, seval, hl0, hlz, he1, hl9, hw0]; refine q0 _ ?_; clear q0 Q0; simp only [go_sem])
   refine aops_case 16 rfl (fun hc16 => ?_) (fun hc16 => ?_)
   ·
    simp only [List.set_cons_zero, List.set_cons_succ]
    have hno : s.size < 2 ∨ ¬ (((s[0]?).getD 0).toNat : Int) = 34 ∨ ¬ (((s[s.size - 1]?).getD 0).toNat : Int) = 34 := .inr (.inl (by have h9 := hc16; simpa using h9))
    iterate 6 (refine aops_chunk 1 fun Q0 q0 => ?_; simp only [↓bO, go_sem, seval, hl0, hlz, he1, hl9, hw0]; refine q0 _ ?_; clear q0 Q0; simp only [go_sem])
    simp only [↓bO, go_sem, seval, hl0, hlz, he1, hl9, hw0]
    refine y1 _ ?_
    try clear y1 Y1
    refine AWp_cond (b := true) (by first | exact rfl | exact congrArg (fun b => AV.v (.bool b)) hb23) (fun _ => ?_) (fun h => (by cases h))
    refine AWp_seqK fun Y1 y1 => ?_
    refine AWp_region ?_
    refine aops_chunk 1 fun Q0 q0 => ?_
    simp only [↓bO, go_sem, seval, hl0, hlz, he1, hl9, hw0]
    refine q0 _ ?_
    clear q0 Q0
    simp only [go_sem]
    simp only [↓bO, go_sem, seval, hl0, hlz, he1, hl9, hw0]
    refine y1 _ ?_
    try clear y1 Y1
    refine AWp_ret ?_
    try simp only [thenQ, blockQ, noGotoQ, retQ, aRes, tupOf, bS, bA]
    rw [unqA_none (unq_no hno)]
    exact Le.refl _
   ·
    simp only [List.set_cons_zero, List.set_cons_succ]
    have h3 : (((s[0]?).getD 0).toNat : Int) = 34 := by (have h9 := hc16; simpa using h9)
    iterate 6 (refine aops_chunk 1 fun Q0 q0 => ?_; simp only [↓bO, go_sem, seval, hl0, hlz, he1, hl9, hw0]; refine q0 _ ?_; clear q0 Q0; simp only [go_sem])
    simp only [↓bO, go_sem, seval, hl0, hlz, he1, hl9, hw0]
    refine y1 _ ?_
    try clear y1 Y1
    refine AWp_cond rfl (fun hb23 => ?_) (fun hb23 => ?_)
    ·
     have hno : s.size < 2 ∨ ¬ (((s[0]?).getD 0).toNat : Int) = 34 ∨ ¬ (((s[s.size - 1]?).getD 0).toNat : Int) = 34 := .inr (.inr (by have h9 := hb23; simpa using h9))
     refine AWp_seqK fun Y1 y1 => ?_
     refine AWp_region ?_
     refine aops_chunk 1 fun Q0 q0 => ?_
     simp only [↓bO, go_sem, seval, hl0, hlz, he1, hl9, hw0]
     refine q0 _ ?_
     clear q0 Q0
     simp only [go_sem]
     simp only [↓bO, go_sem, seval, hl0, hlz, he1, hl9, hw0]
     refine y1 _ ?_
     try clear y1 Y1
     refine AWp_ret ?_
     try simp only [thenQ, blockQ, noGotoQ, retQ, aRes, tupOf, bS, bA]
     rw [unqA_none (unq_no hno)]
     exact Le.refl _
    ·
     have h4 : (((s[s.size - 1]?).getD 0).toNat : Int) = 34 := by (have h9 := hb23; simpa using h9)
     refine AWp_skip ?_
     try simp only [thenQ, blockQ, noGotoQ]
     refine y0 _ ?_
     try clear y0 Y0
     refine AWp_seqK fun Y0 y0 => ?_
     refine AWp_region ?_
     simp only [↓bO, go_sem, seval, hl0, hlz, he1, hl9, hw0]
     refine y0 _ ?_
     try clear y0 Y0
     refine AWp_seqK fun Y0 y0 => ?_
     refine AWp_seqK fun Y1 y1 => ?_
     refine AWp_region ?_
     simp only [↓bO, go_sem, seval, hl0, hlz, he1, hl9, hw0]
     refine y1 _ ?_
     try clear y1 Y1
     refine AWp_block ?_
     refine AWp_weak (Weak.tokSlot 4 5 1 rfl) ?_
     simp only [List.set_cons_zero, List.set_cons_succ]
     refine AWp_loopM (σ := Nat × List UInt8) (mB 76 49) (fun w => PD prgD s w.1 w.2) (fun w => [(4, .osl 0 1 (w.2.map u8C)), (5, .v (.int .i64 ((w.1 + 1 : Nat) : Int)))]) (fun w => [(0, .tok 5 1 w.2.length)]) (fun w => s.size - w.1) (0, []) (PD.start h2) ?_ (fun w hw => ?_)
     ·
      try simp only [maskL, setsL, putsO, putO, mB, List.set_cons_zero, List.set_cons_succ, seval, bL]
      exact Weak.mk (by simp only [go_sem, Le.refl, Le.any, Le.slNil, Int.natCast_add, Int.cast_ofNat_Int, Int.natCast_one]) (fun _ _ h => h) rfl rfl
     simp only [maskL, setsL, putsO, putO, mB, List.set_cons_zero, List.set_cons_succ, seval]
     have hwi := hw.1
     have hwl := hw.2.1
     have hw2 : IntKind.i64.wrap (((w.1 + 1 : Nat) : Int) + 1) = ((w.1 + 1 + 1 : Nat) : Int) := by (rw [wrap_in (by omega) (by omega)]; omega)
     have hb1 : (w.2.length + 1) * 1 ≤ 140737488355328 := by omega
     have hb2 : w.2.length + 1 ≤ maxLen := by (simp only [maxLen]; omega)
     have hb5 : w.2.length ≤ 140737488355327 := by omega
     refine AWp_seqK fun Y1 y1 => ?_
     refine AWp_seqK fun Y2 y2 => ?_
     refine AWp_region ?_
     iterate 4 (refine aops_chunk 1 fun Q0 q0 => ?_; simp only [↓bO, go_sem, seval, hb1, hb2, hb5, hw2, List.map_append, List.length_append, u8C, hl0, hlz, he1, hl9, hw0]; refine q0 _ ?_; clear q0 Q0; simp only [go_sem])
     simp only [↓bO, go_sem, seval, hb1, hb2, hb5, hw2, List.map_append, List.length_append, u8C, hl0, hlz, he1, hl9, hw0]
     refine y2 _ ?_
     try clear y2 Y2
     refine AWp_cond rfl (fun hb28 => ?_) (fun hb28 => ?_)
     ·
      have hlt : w.1 + 2 < s.size := by (have h9 := hb28; simp at h9; omega)
      obtain ⟨c, hc⟩ : ∃ c, (s[w.1 + 1]?).getD 0 = c := ⟨_, rfl⟩
      have hlc := c.toNat_lt
      have hl1 : w.1 + 1 < s.size := by omega
      refine AWp_skip ?_
      try simp only [thenQ, blockQ, noGotoQ]
      refine y1 _ ?_
      try clear y1 Y1
      refine AWp_seqK fun Y1 y1 => ?_
      refine AWp_block ?_
      refine AWp_seqK fun Y2 y2 => ?_
      refine AWp_seqK fun Y3 y3 => ?_
      refine AWp_region ?_
      iterate 3 (refine aops_chunk 1 fun Q0 q0 => ?_; simp only [↓bO, go_sem, seval, hb1, hb2, hb5, hw2, List.map_append, List.length_append, u8C, hl0, hlz, he1, hl9, hw0, hc, hl1]; refine q0 _ ?_; clear q0 Q0; simp only [go_sem])
      simp only [↓bO, go_sem, seval, hb1, hb2, hb5, hw2, List.map_append, List.length_append, u8C, hl0, hlz, he1, hl9, hw0, hc, hl1]
      refine y3 _ ?_
      try clear y3 Y3
      refine AWp_cond rfl (fun hb34 => ?_) (fun hb34 => ?_)
      ·
       have hn92 : ¬ c.toNat = 92 := by (have h9 := hb34; simp at h9; omega)
       have hP1 := hw.one (by omega) hc hn92
       refine AWp_seqK fun Y3 y3 => ?_
       refine AWp_region ?_
       iterate 4 (refine aops_chunk 1 fun Q0 q0 => ?_; simp only [↓bO, go_sem, seval, hb1, hb2, hb5, hw2, List.map_append, List.length_append, u8C, hl0, hlz, he1, hl9, hw0, hc, hl1]; refine q0 _ ?_; clear q0 Q0; simp only [go_sem])
       refine aops_chunk 1 fun Q0 q0 => ?_
       simp only [↓bO, go_sem, seval, ↓bs1_1, ↓bs1_2, ↓bs1_3, ↓bs1_4, ↓bs1_5, ↓bs1_6, ↓bs1_7, ↓bs1_8, ↓bs1_9, ↓bs1_10, ↓bs1_11, ↓bs1_12, hb1, hb2, hb5, hw2, List.map_append, List.length_append, u8C, hl0, hlz, he1, hl9, hw0, hc, hl1]
       refine q0 _ ?_
       clear q0 Q0
       simp only [go_sem]
       refine aops_chunk 1 fun Q0 q0 => ?_
       simp only [↓bO, go_sem, seval, hb1, hb2, hb5, hw2, List.map_append, List.length_append, u8C, hl0, hlz, he1, hl9, hw0, hc, hl1]
       refine q0 _ ?_
       clear q0 Q0
       simp only [go_sem]
       simp only [↓bO, go_sem, seval, hb1, hb2, hb5, hw2, List.map_append, List.length_append, u8C, hl0, hlz, he1, hl9, hw0, hc, hl1]
       refine y3 _ ?_
       try clear y3 Y3
       refine AWp_exit ?_
       simp only [thenQ, blockQ, noGotoQ, bA, Nat.reduceEqDiff, ↓reduceIte]
       refine y1 _ ?_
       try clear y1 Y1
       refine AWp_region ?_
       iterate 2 (refine aops_chunk 1 fun Q0 q0 => ?_; simp only [↓bO, go_sem, seval, hb1, hb2, hb5, hw2, List.map_append, List.length_append, u8C, hl0, hlz, he1, hl9, hw0, hc, hl1]; refine q0 _ ?_; clear q0 Q0; simp only [go_sem])
       simp only [↓bO, go_sem, seval, hb1, hb2, hb5, hw2, List.map_append, List.length_append, u8C, hl0, hlz, he1, hl9, hw0, hc, hl1]
       refine ⟨(w.1 + 1, w.2 ++ [c]), hP1, (by simp only; omega), ?_⟩
       try simp only [maskL, setsL, putsO, putO, mB, List.set_cons_zero, List.set_cons_succ, seval, hb1, hb2, hb5, hw2, List.map_append, bL, List.length_append, u8C, hl0, hlz, he1, hl9, hw0, hc, hl1]
       exact Weak.mk (by simp only [go_sem, Le.refl, Le.any, Le.slNil, Int.natCast_add, Int.cast_ofNat_Int, Int.natCast_one]) (fun _ _ h => h) rfl rfl
      ·
       have hc92 : c.toNat = 92 := by (have h9 := hb34; simp at h9; omega)
       have hw3 : IntKind.i64.wrap (((w.1 + 1 : Nat) : Int) + 2) = ((w.1 + 3 : Nat) : Int) := by (rw [wrap_in (by omega) (by omega)]; omega)
       refine AWp_skip ?_
       try simp only [thenQ, blockQ, noGotoQ]
       refine y2 _ ?_
       try clear y2 Y2
       refine AWp_seqK fun Y2 y2 => ?_
       refine AWp_seqK fun Y3 y3 => ?_
       refine AWp_region ?_
       iterate 5 (refine aops_chunk 1 fun Q0 q0 => ?_; simp only [↓bO, go_sem, seval, hb1, hb2, hb5, hw2, List.map_append, List.length_append, u8C, hl0, hlz, he1, hl9, hw0, hc, hl1, hw3]; refine q0 _ ?_; clear q0 Q0; simp only [go_sem])
       simp only [↓bO, go_sem, seval, hb1, hb2, hb5, hw2, List.map_append, List.length_append, u8C, hl0, hlz, he1, hl9, hw0, hc, hl1, hw3]
       refine y3 _ ?_
       try clear y3 Y3
       refine AWp_cond rfl (fun hb46 => ?_) (fun hb46 => ?_)
       ·
        have hbad := hw.bad (by omega) hc hc92 (by have h9 := hb46; simp at h9; omega)
        refine AWp_seqK fun Y3 y3 => ?_
        refine AWp_region ?_
        refine aops_chunk 1 fun Q0 q0 => ?_
        simp only [↓bO, go_sem, seval, hb1, hb2, hb5, hw2, List.map_append, List.length_append, u8C, hl0, hlz, he1, hl9, hw0, hc, hl1, hw3]
        refine q0 _ ?_
        clear q0 Q0
        simp only [go_sem]
        simp only [↓bO, go_sem, seval, hb1, hb2, hb5, hw2, List.map_append, List.length_append, u8C, hl0, hlz, he1, hl9, hw0, hc, hl1, hw3]
        refine y3 _ ?_
        try clear y3 Y3
        refine AWp_ret ?_
        try simp only [thenQ, blockQ, noGotoQ, retQ, aRes, tupOf, bS, bA]
        rw [unqA_none (unqL_none' hbad)]
        exact Le.refl _
       ·
        have h5 : w.1 + 4 < s.size := by (have h9 := hb46; simp at h9; omega)
        have hw4 : IntKind.i64.wrap (((w.1 + 1 : Nat) : Int) + 1) = ((w.1 + 2 : Nat) : Int) := by (rw [wrap_in (by omega) (by omega)]; omega)
        have hw5 : IntKind.i64.wrap (((w.1 + 3 : Nat) : Int) + 1) = ((w.1 + 3 + 1 : Nat) : Int) := by (rw [wrap_in (by omega) (by omega)]; omega)
        obtain ⟨a, ha⟩ : ∃ a, (s[w.1 + 2]?).getD 0 = a := ⟨_, rfl⟩
        obtain ⟨b, hbb⟩ : ∃ b, (s[w.1 + 3]?).getD 0 = b := ⟨_, rfl⟩
        have hl2 : w.1 + 2 < s.size := by omega
        have hl3 : w.1 + 3 < s.size := by omega
        have hP3 := hw.three (by omega) hc hc92 ha hbb
        obtain ⟨da, hda⟩ : ∃ da : Fin 16, max 0 (dg a) = ((da.val : Nat) : Int) := max_dg a
        obtain ⟨db, hdb⟩ : ∃ db : Fin 16, max 0 (dg b) = ((db.val : Nat) : Int) := max_dg b
        rw [hda, hdb] at hP3
        obtain ⟨tt, ht⟩ : ∃ t, two ((da.val : Nat) : Int) ((db.val : Nat) : Int) = t := ⟨_, rfl⟩
        have hor := or_two da db
        rw [ht] at hor hP3
        refine AWp_skip ?_
        try simp only [thenQ, blockQ, noGotoQ]
        refine y2 _ ?_
        try clear y2 Y2
        refine AWp_seqK fun Y2 y2 => ?_
        refine AWp_drawK 10 mixed (by kernel_rfl) fun J0 j0 => ?_
        iterate 4 (simp only [go_sem]; refine dRun_chunk 1 fun Q0 q0 => ?_; simp only [↓dRun, ↓dOp, ↓bO, go_sem, seval, hb1, hb2, hb5, hw2, List.map_append, List.length_append, u8C, hl0, hlz, he1, hl9, hw0, hc, hl1, hw3, hw4, hw5, ha, hbb, hl2, hl3, hda, hdb, hor]; refine q0 _ ?_; clear q0 Q0)
        simp only [go_sem]
        refine dRun_chunk 1 fun Q0 q0 => ?_
        simp only [↓dRun, ↓dOp, ↓bO, go_sem, seval, hb1, hb2, hb5, hw2, List.map_append, List.length_append, u8C, hl0, hlz, he1, hl9, hw0, hc, hl1, hw3, hw4, hw5, ha, hbb, hl2, hl3, hda, hdb, hor]
        refine ⟨_, IxHex_pure a, ?_⟩
        try simp only [bS, bA, thenQ, blockQ, noGotoQ]
        iterate 4 (refine q0 _ ?_; clear q0 Q0; simp only [go_sem]; refine dRun_chunk 1 fun Q0 q0 => ?_; simp only [↓dRun, ↓dOp, ↓bO, go_sem, seval, hb1, hb2, hb5, hw2, List.map_append, List.length_append, u8C, hl0, hlz, he1, hl9, hw0, hc, hl1, hw3, hw4, hw5, ha, hbb, hl2, hl3, hda, hdb, hor])
        refine q0 _ ?_
        clear q0 Q0
        simp only [go_sem]
        simp only [↓dRun, ↓dOp, ↓bO, go_sem, seval, hb1, hb2, hb5, hw2, List.map_append, List.length_append, u8C, hl0, hlz, he1, hl9, hw0, hc, hl1, hw3, hw4, hw5, ha, hbb, hl2, hl3, hda, hdb, hor]
        refine ⟨_, IxHex_pure b, ?_⟩
        try simp only [bS, bA, thenQ, blockQ, noGotoQ]
        refine j0 _ ?_
        clear j0 J0
        simp only [go_sem]
        refine aops_chunk 1 fun Q0 q0 => ?_
        simp only [↓bO, go_sem, seval, hb1, hb2, hb5, hw2, List.map_append, List.length_append, u8C, hl0, hlz, he1, hl9, hw0, hc, hl1, hw3, hw4, hw5, ha, hbb, hl2, hl3, hda, hdb, hor]
        refine q0 _ ?_
        clear q0 Q0
        simp only [go_sem]
        simp only [↓bO, go_sem, seval, hb1, hb2, hb5, hw2, List.map_append, List.length_append, u8C, hl0, hlz, he1, hl9, hw0, hc, hl1, hw3, hw4, hw5, ha, hbb, hl2, hl3, hda, hdb, hor]
        refine y2 _ ?_
        try clear y2 Y2
        refine AWp_seqK fun Y2 y2 => ?_
        refine AWp_region ?_
        iterate 8 (refine aops_chunk 1 fun Q0 q0 => ?_; simp only [↓bO, go_sem, seval, hb1, hb2, hb5, hw2, List.map_append, List.length_append, u8C, hl0, hlz, he1, hl9, hw0, hc, hl1, hw3, hw4, hw5, ha, hbb, hl2, hl3, hda, hdb, hor]; refine q0 _ ?_; clear q0 Q0; simp only [go_sem])
        refine aops_chunk 1 fun Q0 q0 => ?_
        simp only [↓bO, go_sem, seval, ↓bs1_1, ↓bs1_2, ↓bs1_3, ↓bs1_4, ↓bs1_5, ↓bs1_6, ↓bs1_7, ↓bs1_8, ↓bs1_9, ↓bs1_10, ↓bs1_11, ↓bs1_12, hb1, hb2, hb5, hw2, List.map_append, List.length_append, u8C, hl0, hlz, he1, hl9, hw0, hc, hl1, hw3, hw4, hw5, ha, hbb, hl2, hl3, hda, hdb, hor]
        refine q0 _ ?_
        clear q0 Q0
        simp only [go_sem]
        refine aops_chunk 1 fun Q0 q0 => ?_
        simp only [↓bO, go_sem, seval, hb1, hb2, hb5, hw2, List.map_append, List.length_append, u8C, hl0, hlz, he1, hl9, hw0, hc, hl1, hw3, hw4, hw5, ha, hbb, hl2, hl3, hda, hdb, hor]
        refine q0 _ ?_
        clear q0 Q0
        simp only [go_sem]
        simp only [↓bO, go_sem, seval, hb1, hb2, hb5, hw2, List.map_append, List.length_append, u8C, hl0, hlz, he1, hl9, hw0, hc, hl1, hw3, hw4, hw5, ha, hbb, hl2, hl3, hda, hdb, hor]
        refine y2 _ ?_
        try clear y2 Y2
        refine AWp_region ?_
        iterate 2 (refine aops_chunk 1 fun Q0 q0 => ?_; simp only [↓bO, go_sem, seval, hb1, hb2, hb5, hw2, List.map_append, List.length_append, u8C, hl0, hlz, he1, hl9, hw0, hc, hl1, hw3, hw4, hw5, ha, hbb, hl2, hl3, hda, hdb, hor]; refine q0 _ ?_; clear q0 Q0; simp only [go_sem])
        simp only [↓bO, go_sem, seval, hb1, hb2, hb5, hw2, List.map_append, List.length_append, u8C, hl0, hlz, he1, hl9, hw0, hc, hl1, hw3, hw4, hw5, ha, hbb, hl2, hl3, hda, hdb, hor]
        refine y1 _ ?_
        try clear y1 Y1
        refine AWp_region ?_
        iterate 2 (refine aops_chunk 1 fun Q0 q0 => ?_; simp only [↓bO, go_sem, seval, hb1, hb2, hb5, hw2, List.map_append, List.length_append, u8C, hl0, hlz, he1, hl9, hw0, hc, hl1, hw3, hw4, hw5, ha, hbb, hl2, hl3, hda, hdb, hor]; refine q0 _ ?_; clear q0 Q0; simp only [go_sem])
        simp only [↓bO, go_sem, seval, hb1, hb2, hb5, hw2, List.map_append, List.length_append, u8C, hl0, hlz, he1, hl9, hw0, hc, hl1, hw3, hw4, hw5, ha, hbb, hl2, hl3, hda, hdb, hor]
        refine ⟨(w.1 + 3, w.2 ++ [tt]), hP3, (by simp only; omega), ?_⟩
        try simp only [maskL, setsL, putsO, putO, mB, List.set_cons_zero, List.set_cons_succ, seval, hb1, hb2, hb5, hw2, List.map_append, bL, List.length_append, u8C, hl0, hlz, he1, hl9, hw0, hc, hl1, hw3, hw4, hw5, ha, hbb, hl2, hl3, hda, hdb, hor]
        exact Weak.mk (by simp only [go_sem, Le.refl, Le.any, Le.slNil, Int.natCast_add, Int.cast_ofNat_Int, Int.natCast_one]) (fun _ _ h => h) rfl rfl
     ·
      have hge : ¬ w.1 + 2 < s.size := by (have h9 := hb28; simp at h9; omega)
      have hpr := PD.fin (D := prgD) rfl hw hge
      have hcv := bytesOf_u8 w.2
      refine AWp_exit ?_
      simp only [thenQ, blockQ, noGotoQ, bA, Nat.reduceEqDiff, ↓reduceIte]
      refine y0 _ ?_
      try clear y0 Y0
      refine AWp_seqK fun Y0 y0 => ?_
      refine AWp_seqK fun Y1 y1 => ?_
      refine AWp_region ?_
      refine aops_chunk 1 fun Q0 q0 => ?_
      simp only [↓bO, go_sem, seval, hl0, hlz, he1, hl9, hw0, hcv, strOfNums_u8]
      refine q0 _ ?_
      clear q0 Q0
      simp only [go_sem]
      refine aops_chunk 1 fun Q0 q0 => ?_
      simp only [↓bO, go_sem, seval, aConvB, by50, hl0, hlz, he1, hl9, hw0, hcv, strOfNums_u8]
      refine q0 _ ?_
      clear q0 Q0
      simp only [go_sem]
      refine aops_chunk 1 fun Q0 q0 => ?_
      simp only [↓bO, go_sem, seval, hl0, hlz, he1, hl9, hw0, hcv, strOfNums_u8]
      refine APure.call (by have h9 := Quote_pure (ofL w.2) (by rw [ofL_size]; omega); exact h9) ?_
      try simp only [bS, bA, thenQ, blockQ, noGotoQ]
      refine q0 _ ?_
      clear q0 Q0
      simp only [go_sem]
      refine aops_chunk 1 fun Q0 q0 => ?_
      simp only [↓bO, go_sem, seval, hl0, hlz, he1, hl9, hw0, hcv, strOfNums_u8]
      refine q0 _ ?_
      clear q0 Q0
      simp only [go_sem]
      simp only [↓bO, go_sem, seval, hl0, hlz, he1, hl9, hw0, hcv, strOfNums_u8]
      refine y1 _ ?_
      try clear y1 Y1
      refine AWp_cond rfl (fun hb73 => ?_) (fun hb73 => ?_)
      ·
       have hne : ofL (quL w.2) ≠ s := by (have h9 := hb73; intro h8; rw [ofL_data] at h9; rw [h8] at h9; simp at h9)
       refine AWp_seqK fun Y1 y1 => ?_
       refine AWp_region ?_
       refine aops_chunk 1 fun Q0 q0 => ?_
       simp only [↓bO, go_sem, seval, hl0, hlz, he1, hl9, hw0, hcv, strOfNums_u8]
       refine q0 _ ?_
       clear q0 Q0
       simp only [go_sem]
       simp only [↓bO, go_sem, seval, hl0, hlz, he1, hl9, hw0, hcv, strOfNums_u8]
       refine y1 _ ?_
       try clear y1 Y1
       refine AWp_ret ?_
       try simp only [thenQ, blockQ, noGotoQ, retQ, aRes, tupOf, bS, bA]
       rw [unqA_none (unqL_none hpr (quS_ne hne))]
       exact Le.refl _
      ·
       have heq : ofL (quL w.2) = s := by (have h9 := hb73; rw [ofL_data] at h9; refine eqS_iff.1 ?_; simpa [eqS] using h9)
       refine AWp_skip ?_
       try simp only [thenQ, blockQ, noGotoQ]
       refine y0 _ ?_
       try clear y0 Y0
       refine AWp_seqK fun Y0 y0 => ?_
       refine AWp_region ?_
       refine aops_chunk 1 fun Q0 q0 => ?_
       simp only [↓bO, go_sem, seval, hl0, hlz, he1, hl9, hw0, hcv, strOfNums_u8]
       refine q0 _ ?_
       clear q0 Q0
       simp only [go_sem]
       refine aops_chunk 1 fun Q0 q0 => ?_
       simp only [↓bO, go_sem, seval, aConvB, by50, hl0, hlz, he1, hl9, hw0, hcv, strOfNums_u8]
       refine q0 _ ?_
       clear q0 Q0
       simp only [go_sem]
       refine aops_chunk 1 fun Q0 q0 => ?_
       simp only [↓bO, go_sem, seval, hl0, hlz, he1, hl9, hw0, hcv, strOfNums_u8]
       refine q0 _ ?_
       clear q0 Q0
       simp only [go_sem]
       simp only [↓bO, go_sem, seval, hl0, hlz, he1, hl9, hw0, hcv, strOfNums_u8]
       refine y0 _ ?_
       try clear y0 Y0
       refine AWp_ret ?_
       try simp only [thenQ, blockQ, noGotoQ, retQ, aRes, tupOf, bS, bA]
       rw [unqA_some ((unqL_iff _ _).2 (by rw [← heq]; rfl))]
       exact Le.refl _
theorem docD_one {c : UInt8} {r : List UInt8} (h : ¬ c.toNat = 92) (hp : plainB c = true) : docD (c :: r) = (docD r).map (c :: ·) := by
  conv => lhs; unfold docD
  rw [if_neg h, if_pos hp]
theorem docD_not {c : UInt8} {r : List UInt8} (h : ¬ c.toNat = 92) (hp : plainB c = false) : docD (c :: r) = none := by
  conv => lhs; unfold docD
  rw [if_neg h, if_neg (by simp [hp])]
theorem docD_short {c : UInt8} {r : List UInt8} (h : c.toNat = 92) (hr : r.length ≤ 1) : docD (c :: r) = none := by
  unfold docD
  rw [if_pos h]
  match r, hr with
  | [], _ => rfl
  | [_], _ => rfl
theorem docD_three {c a b : UInt8} {r : List UInt8} (h : c.toNat = 92) (ha : ¬ dg a < 0) (hb : ¬ dg b < 0) (hp : plainB (two (dg a) (dg b)) = false) : docD (c :: a :: b :: r) = (docD r).map (two (dg a) (dg b) :: ·) := by
  conv => lhs; unfold docD
  rw [if_pos h]
  simp only
  rw [if_neg (by omega), if_neg (by simp [hp])]
theorem docD_hex {c a b : UInt8} {r : List UInt8} (h : c.toNat = 92) (hp : dg a < 0 ∨ dg b < 0 ∨ plainB (two (dg a) (dg b)) = true) : docD (c :: a :: b :: r) = none := by
  conv => lhs; unfold docD
  rw [if_pos h]
  simp only
  by_cases h1 : dg a < 0 ∨ dg b < 0
  · rw [if_pos h1]
  · rw [if_neg h1, if_pos (hp.elim (fun h => absurd (.inl h) h1) fun h => h.elim (fun h => absurd (.inr h) h1) id)]
theorem PD.done {s : ByteArray} {k : Nat} {acc : List UInt8} (h : PD docD s k acc) (hk : k + 2 < s.size) {c : UInt8} (hc : (s[k + 1]?).getD 0 = c) (hn : ¬ c.toNat = 92) (hp : plainB c = true) : PD docD s (k + 1) (acc ++ [c]) := by
  refine ⟨by omega, by have := h.2.1; simp; omega, ?_⟩
  rw [h.2.2, inn_at hk hc, docD_one hn hp, Option.map_map]
  congr 1
  funext x; simp
theorem PD.dnot {s : ByteArray} {k : Nat} {acc : List UInt8} (h : PD docD s k acc) (hk : k + 2 < s.size) {c : UInt8} (hc : (s[k + 1]?).getD 0 = c) (hn : ¬ c.toNat = 92) (hp : plainB c = false) : docD (innL s.data.toList) = none := by
  rw [h.2.2, inn_at hk hc, docD_not hn hp]; rfl
theorem PD.dbad {s : ByteArray} {k : Nat} {acc : List UInt8} (h : PD docD s k acc) (hk : k + 2 < s.size) {c : UInt8} (hc : (s[k + 1]?).getD 0 = c) (hn : c.toNat = 92) (h4 : s.size ≤ k + 4) : docD (innL s.data.toList) = none := by
  rw [h.2.2, inn_at hk hc, docD_short hn (by rw [List.length_drop, inn_len]; omega)]; rfl
theorem PD.dthree {s : ByteArray} {k : Nat} {acc : List UInt8} (h : PD docD s k acc) (hk : k + 4 < s.size) {c a b : UInt8} (hc : (s[k + 1]?).getD 0 = c) (hn : c.toNat = 92) (ha : (s[k + 2]?).getD 0 = a) (hb : (s[k + 3]?).getD 0 = b)
    (h1 : ¬ dg a < 0) (h2 : ¬ dg b < 0) (hp : plainB (two (dg a) (dg b)) = false) : PD docD s (k + 3) (acc ++ [two (dg a) (dg b)]) := by
  refine ⟨by omega, by have := h.2.1; simp; omega, ?_⟩
  rw [h.2.2, inn_at (by omega) hc, inn_at (k := k + 1) (by omega) ha, inn_at (k := k + 2) (by omega) hb, docD_three hn h1 h2 hp, Option.map_map]
  congr 1
  funext x; simp
theorem PD.dhex {s : ByteArray} {k : Nat} {acc : List UInt8} (h : PD docD s k acc) (hk : k + 4 < s.size) {c a b : UInt8} (hc : (s[k + 1]?).getD 0 = c) (hn : c.toNat = 92) (ha : (s[k + 2]?).getD 0 = a) (hb : (s[k + 3]?).getD 0 = b)
    (hp : dg a < 0 ∨ dg b < 0 ∨ plainB (two (dg a) (dg b)) = true) : docD (innL s.data.toList) = none := by
  rw [h.2.2, inn_at (by omega) hc, inn_at (k := k + 1) (by omega) ha, inn_at (k := k + 2) (by omega) hb, docD_hex hn hp]; rfl
theorem u8_two (x y : Fin 16) : IntKind.u8.wrap (16 * ((x.val : Nat) : Int) + ((y.val : Nat) : Int)) = ((16 * x.val + y.val : Nat) : Int) := by
  revert x y; decide +kernel
theorem two_w {a b : UInt8} (h1 : ¬ dg a < 0) (h2 : ¬ dg b < 0) : IntKind.u8.wrap (16 * dg a + dg b) = ((two (dg a) (dg b)).toNat : Int) := by
  have h3 := two_nat (a := a) (b := b) (by omega) (by omega)
  have h4 := (dg_hx a (by omega)).1
  have h5 := (dg_hx b (by omega)).1
  have h6 := u8_two ⟨(dg a).toNat, by omega⟩ ⟨(dg b).toNat, by omega⟩
  simp only at h6
  rw [h3, ← h6]
  congr 1
  omega
theorem RUnquote_pure (s : ByteArray) (hs : s.size ≤ 300000) : APure Tryd.prog 12 [.v (.string s)] (unqA s) := by
  refine APure.mkL (.cons (.v _) .nil) ((.tup (.cons (.v _) (.cons (.v _) .nil)))) ?_
  refine ACalls_intro Tryd.func12 (by kernel_rfl) rfl (by rw [Tryd.ntmps12]; simp) (fun hm => ?_)
  simp only [Tryd.ntmps12, Tryd.results12, List.length_cons, List.length_nil, Nat.reduceAdd, Nat.reduceSub, List.replicate_succ, List.replicate_zero, List.cons_append, List.nil_append]
  refine AWp_seqK fun Y0 y0 => ?_
  refine AWp_region ?_
  refine aops_chunk 1 fun Q0 q0 => ?_
  simp only [↓bO, go_sem, seval]
  refine q0 _ ?_
  clear q0 Q0
  simp only [go_sem]
  simp only [↓bO, go_sem, seval]
  refine y0 _ ?_
  try clear y0 Y0
  refine AWp_seqK fun Y0 y0 => ?_
  refine AWp_seqK fun Y1 y1 => ?_
  refine AWp_region ?_
  iterate 4 (refine aops_chunk 1 fun Q0 q0 => ?_; simp only [↓bO, go_sem, seval]; refine q0 _ ?_; clear q0 Q0; simp only [go_sem])
  refine aops_case 10 rfl (fun hc10 => ?_) (fun hc10 => ?_)
  ·
   simp only [List.set_cons_zero, List.set_cons_succ]
   have hno : s.size < 2 ∨ ¬ (((s[0]?).getD 0).toNat : Int) = 34 ∨ ¬ (((s[s.size - 1]?).getD 0).toNat : Int) = 34 := .inl (by have h9 := hc10; simp at h9; omega)
   iterate 11 (refine aops_chunk 1 fun Q0 q0 => ?_; simp only [↓bO, go_sem, seval]; refine q0 _ ?_; clear q0 Q0; simp only [go_sem])
   simp only [↓bO, go_sem, seval]
   refine y1 _ ?_
   try clear y1 Y1
   refine AWp_cond (b := true) (by first | exact rfl | exact congrArg (fun b => AV.v (.bool b)) hb22) (fun _ => ?_) (fun h => (by cases h))
   refine AWp_seqK fun Y1 y1 => ?_
   refine AWp_region ?_
   refine aops_chunk 1 fun Q0 q0 => ?_
   simp only [↓bO, go_sem, seval]
   refine q0 _ ?_
   clear q0 Q0
   simp only [go_sem]
   simp only [↓bO, go_sem, seval]
   refine y1 _ ?_
   try clear y1 Y1
   refine AWp_ret ?_
   try simp only [thenQ, blockQ, noGotoQ, retQ, aRes, tupOf, bS, bA]
   rw [unqA_none (unq_no hno)]
   exact Le.refl _
  ·
   simp only [List.set_cons_zero, List.set_cons_succ]
   have h2 : 2 ≤ s.size := (by have h9 := hc10; simp at h9; omega)
   have hl0 : ((0 : Int) < (s.size : Int)) = True := eq_true (by omega)
   have hlz : 0 < s.size := by omega
   have he1 : (s.size : Int) - 1 = ((s.size - 1 : Nat) : Int) := by omega
   have hl9 : s.size - 1 < s.size := by omega
   have hw0 : IntKind.i64.wrap (((s.size - 1 : Nat)) : Int) = ((s.size - 1 : Nat) : Int) := wrap_in (by omega) (by omega)
   iterate 5 (refine aops_chunk 1 fun Q0 q0 => ?_; simp only [↓bO, go_sem, seval, hl0, hlz, he1, hl9, hw0]; refine q0 _ ?_; clear q0 Q0; simp only [go_sem])
   refine aops_case 15 rfl (fun hc15 => ?_) (fun hc15 => ?_)
   ·
    simp only [List.set_cons_zero, List.set_cons_succ]
    have hno : s.size < 2 ∨ ¬ (((s[0]?).getD 0).toNat : Int) = 34 ∨ ¬ (((s[s.size - 1]?).getD 0).toNat : Int) = 34 := .inr (.inl (by have h9 := hc15; simpa using h9))
    iterate 6 (refine aops_chunk 1 fun Q0 q0 => ?_; simp only [↓bO, go_sem, seval, hl0, hlz, he1, hl9, hw0]; refine q0 _ ?_; clear q0 Q0; simp only [go_sem])
    simp only [↓bO, go_sem, seval, hl0, hlz, he1, hl9, hw0]
    refine y1 _ ?_
    try clear y1 Y1
    refine AWp_cond (b := true) (by first | exact rfl | exact congrArg (fun b => AV.v (.bool b)) hb22) (fun _ => ?_) (fun h => (by cases h))
    refine AWp_seqK fun Y1 y1 => ?_
    refine AWp_region ?_
    refine aops_chunk 1 fun Q0 q0 => ?_
    simp only [↓bO, go_sem, seval, hl0, hlz, he1, hl9, hw0]
    refine q0 _ ?_
    clear q0 Q0
    simp only [go_sem]
    simp only [↓bO, go_sem, seval, hl0, hlz, he1, hl9, hw0]
    refine y1 _ ?_
    try clear y1 Y1
    refine AWp_ret ?_
    try simp only [thenQ, blockQ, noGotoQ, retQ, aRes, tupOf, bS, bA]
    rw [unqA_none (unq_no hno)]
    exact Le.refl _
   ·
    simp only [List.set_cons_zero, List.set_cons_succ]
    have h3 : (((s[0]?).getD 0).toNat : Int) = 34 := (by have h9 := hc15; simpa using h9)
    iterate 6 (refine aops_chunk 1 fun Q0 q0 => ?_; simp only [↓bO, go_sem, seval, hl0, hlz, he1, hl9, hw0]; refine q0 _ ?_; clear q0 Q0; simp only [go_sem])
    simp only [↓bO, go_sem, seval, hl0, hlz, he1, hl9, hw0]
    refine y1 _ ?_
    try clear y1 Y1
    refine AWp_cond rfl (fun hb22 => ?_) (fun hb22 => ?_)
    ·
     have hno : s.size < 2 ∨ ¬ (((s[0]?).getD 0).toNat : Int) = 34 ∨ ¬ (((s[s.size - 1]?).getD 0).toNat : Int) = 34 := .inr (.inr (by have h9 := hb22; simpa using h9))
     refine AWp_seqK fun Y1 y1 => ?_
     refine AWp_region ?_
     refine aops_chunk 1 fun Q0 q0 => ?_
     simp only [↓bO, go_sem, seval, hl0, hlz, he1, hl9, hw0]
     refine q0 _ ?_
     clear q0 Q0
     simp only [go_sem]
     simp only [↓bO, go_sem, seval, hl0, hlz, he1, hl9, hw0]
     refine y1 _ ?_
     try clear y1 Y1
     refine AWp_ret ?_
     try simp only [thenQ, blockQ, noGotoQ, retQ, aRes, tupOf, bS, bA]
     rw [unqA_none (unq_no hno)]
     exact Le.refl _
    ·
     have h4 : (((s[s.size - 1]?).getD 0).toNat : Int) = 34 := (by have h9 := hb22; simpa using h9)
     have hfr := unq_fr h2 h3 h4
     refine AWp_skip ?_
     try simp only [thenQ, blockQ, noGotoQ]
     refine y0 _ ?_
     try clear y0 Y0
     refine AWp_seqK fun Y0 y0 => ?_
     refine AWp_region ?_
     simp only [↓bO, go_sem, seval, hl0, hlz, he1, hl9, hw0]
     refine y0 _ ?_
     try clear y0 Y0
     refine AWp_seqK fun Y0 y0 => ?_
     refine AWp_seqK fun Y1 y1 => ?_
     refine AWp_region ?_
     simp only [↓bO, go_sem, seval, hl0, hlz, he1, hl9, hw0]
     refine y1 _ ?_
     try clear y1 Y1
     refine AWp_block ?_
     refine AWp_weak (Weak.tokSlot 4 5 1 rfl) ?_
     simp only [List.set_cons_zero, List.set_cons_succ]
     refine AWp_loopM (σ := Nat × List UInt8) (mB 101 49) (fun w => PD docD s w.1 w.2) (fun w => [(4, .osl 0 1 (w.2.map u8C)), (5, .v (.int .i64 ((w.1 + 1 : Nat) : Int)))]) (fun w => [(0, .tok 5 1 w.2.length)]) (fun w => s.size - w.1) (0, []) (PD.start h2) ?_ (fun w hw => ?_)
     ·
      try simp only [maskL, setsL, putsO, putO, mB, List.set_cons_zero, List.set_cons_succ, seval, bL]
      exact Weak.mk (by simp only [go_sem, Le.refl, Le.any, Le.slNil, Int.natCast_add, Int.cast_ofNat_Int, Int.natCast_one]) (fun _ _ h => h) rfl rfl
     simp only [maskL, setsL, putsO, putO, mB, List.set_cons_zero, List.set_cons_succ, seval]
     have hwi := hw.1
     have hwl := hw.2.1
     have hw2 : IntKind.i64.wrap (((w.1 + 1 : Nat) : Int) + 1) = ((w.1 + 1 + 1 : Nat) : Int) := by (rw [wrap_in (by omega) (by omega)]; omega)
     have hb1 : (w.2.length + 1) * 1 ≤ 140737488355328 := by omega
     have hb2 : w.2.length + 1 ≤ maxLen := by (simp only [maxLen]; omega)
     have hb5 : w.2.length ≤ 140737488355327 := by omega
     refine AWp_seqK fun Y1 y1 => ?_
     refine AWp_seqK fun Y2 y2 => ?_
     refine AWp_region ?_
     iterate 4 (refine aops_chunk 1 fun Q0 q0 => ?_; simp only [↓bO, go_sem, seval, hb1, hb2, hb5, hw2, List.map_append, List.length_append, u8C, hl0, hlz, he1, hl9, hw0]; refine q0 _ ?_; clear q0 Q0; simp only [go_sem])
     simp only [↓bO, go_sem, seval, hb1, hb2, hb5, hw2, List.map_append, List.length_append, u8C, hl0, hlz, he1, hl9, hw0]
     refine y2 _ ?_
     try clear y2 Y2
     refine AWp_cond rfl (fun hb27 => ?_) (fun hb27 => ?_)
     ·
      have hlt : w.1 + 2 < s.size := (by have h9 := hb27; simp at h9; omega)
      obtain ⟨c, hc⟩ : ∃ c, (s[w.1 + 1]?).getD 0 = c := ⟨_, rfl⟩
      have hlc := c.toNat_lt
      have hl1 : w.1 + 1 < s.size := by omega
      refine AWp_skip ?_
      try simp only [thenQ, blockQ, noGotoQ]
      refine y1 _ ?_
      try clear y1 Y1
      refine AWp_seqK fun Y1 y1 => ?_
      refine AWp_block ?_
      refine AWp_seqK fun Y2 y2 => ?_
      refine AWp_region ?_
      iterate 3 (refine aops_chunk 1 fun Q0 q0 => ?_; simp only [↓bO, go_sem, seval, hb1, hb2, hb5, hw2, List.map_append, List.length_append, u8C, hl0, hlz, he1, hl9, hw0, hc, hl1]; refine q0 _ ?_; clear q0 Q0; simp only [go_sem])
      simp only [↓bO, go_sem, seval, hb1, hb2, hb5, hw2, List.map_append, List.length_append, u8C, hl0, hlz, he1, hl9, hw0, hc, hl1]
      refine y2 _ ?_
      try clear y2 Y2
      refine AWp_seqK fun Y2 y2 => ?_
      refine AWp_seqK fun Y3 y3 => ?_
      refine AWp_region ?_
      refine aops_chunk 1 fun Q0 q0 => ?_
      simp only [↓bO, go_sem, seval, hb1, hb2, hb5, hw2, List.map_append, List.length_append, u8C, hl0, hlz, he1, hl9, hw0, hc, hl1]
      refine q0 _ ?_
      clear q0 Q0
      simp only [go_sem]
      simp only [↓bO, go_sem, seval, hb1, hb2, hb5, hw2, List.map_append, List.length_append, u8C, hl0, hlz, he1, hl9, hw0, hc, hl1]
      refine y3 _ ?_
      try clear y3 Y3
      refine AWp_cond rfl (fun hb34 => ?_) (fun hb34 => ?_)
      ·
       have hc92 : c.toNat = 92 := (by have h9 := hb34; simp at h9; omega)
       have hw3 : IntKind.i64.wrap (((w.1 + 1 : Nat) : Int) + 3) = ((w.1 + 4 : Nat) : Int) := by (rw [wrap_in (by omega) (by omega)]; omega)
       refine AWp_seqK fun Y3 y3 => ?_
       refine AWp_seqK fun Y4 y4 => ?_
       refine AWp_region ?_
       iterate 6 (refine aops_chunk 1 fun Q0 q0 => ?_; simp only [↓bO, go_sem, seval, hb1, hb2, hb5, hw2, List.map_append, List.length_append, u8C, hl0, hlz, he1, hl9, hw0, hc, hl1, hw3]; refine q0 _ ?_; clear q0 Q0; simp only [go_sem])
       refine aops_case 40 rfl (fun hc40 => ?_) (fun hc40 => ?_)
       ·
        simp only [List.set_cons_zero, List.set_cons_succ]
        have hbad := hw.dbad hlt hc hc92 (by have h9 := hc40; simp at h9; omega)
        iterate 14 (refine aops_chunk 1 fun Q0 q0 => ?_; simp only [↓bO, go_sem, seval, hb1, hb2, hb5, hw2, List.map_append, List.length_append, u8C, hl0, hlz, he1, hl9, hw0, hc, hl1, hw3]; refine q0 _ ?_; clear q0 Q0; simp only [go_sem])
        simp only [↓bO, go_sem, seval, hb1, hb2, hb5, hw2, List.map_append, List.length_append, u8C, hl0, hlz, he1, hl9, hw0, hc, hl1, hw3]
        refine y4 _ ?_
        try clear y4 Y4
        refine AWp_cond (b := true) (by first | exact rfl | exact congrArg (fun b => AV.v (.bool b)) hb55) (fun _ => ?_) (fun h => (by cases h))
        refine AWp_seqK fun Y4 y4 => ?_
        refine AWp_region ?_
        refine aops_chunk 1 fun Q0 q0 => ?_
        simp only [↓bO, go_sem, seval, hb1, hb2, hb5, hw2, List.map_append, List.length_append, u8C, hl0, hlz, he1, hl9, hw0, hc, hl1, hw3]
        refine q0 _ ?_
        clear q0 Q0
        simp only [go_sem]
        simp only [↓bO, go_sem, seval, hb1, hb2, hb5, hw2, List.map_append, List.length_append, u8C, hl0, hlz, he1, hl9, hw0, hc, hl1, hw3]
        refine y4 _ ?_
        try clear y4 Y4
        refine AWp_ret ?_
        try simp only [thenQ, blockQ, noGotoQ, retQ, aRes, tupOf, bS, bA]
        rw [unqA_none (hfr.trans hbad)]
        exact Le.refl _
       ·
        simp only [List.set_cons_zero, List.set_cons_succ]
        have h5 : w.1 + 4 < s.size := (by have h9 := hc40; simp at h9; omega)
        obtain ⟨a, ha⟩ : ∃ a, (s[w.1 + 2]?).getD 0 = a := ⟨_, rfl⟩
        obtain ⟨b, hbb⟩ : ∃ b, (s[w.1 + 3]?).getD 0 = b := ⟨_, rfl⟩
        have hl2 : w.1 + 2 < s.size := by omega
        have hl3 : w.1 + 3 < s.size := by omega
        have hw4 : IntKind.i64.wrap (((w.1 + 1 : Nat) : Int) + 1) = ((w.1 + 2 : Nat) : Int) := by (rw [wrap_in (by omega) (by omega)]; omega)
        have hw5 : IntKind.i64.wrap (((w.1 + 1 : Nat) : Int) + 2) = ((w.1 + 3 : Nat) : Int) := by (rw [wrap_in (by omega) (by omega)]; omega)
        have hw6 : IntKind.i64.wrap (((w.1 + 3 : Nat) : Int) + 1) = ((w.1 + 3 + 1 : Nat) : Int) := by (rw [wrap_in (by omega) (by omega)]; omega)
        iterate 4 (refine aops_chunk 1 fun Q0 q0 => ?_; simp only [↓bO, go_sem, seval, hb1, hb2, hb5, hw2, List.map_append, List.length_append, u8C, hl0, hlz, he1, hl9, hw0, hc, hl1, hw3, ha, hbb, hl2, hl3, hw4, hw5, hw6]; refine q0 _ ?_; clear q0 Q0; simp only [go_sem])
        refine aops_chunk 1 fun Q0 q0 => ?_
        simp only [↓bO, go_sem, seval, hb1, hb2, hb5, hw2, List.map_append, List.length_append, u8C, hl0, hlz, he1, hl9, hw0, hc, hl1, hw3, ha, hbb, hl2, hl3, hw4, hw5, hw6]
        refine APure.call (Digit_pure a) ?_
        try simp only [bS, bA, thenQ, blockQ, noGotoQ]
        iterate 3 (refine q0 _ ?_; clear q0 Q0; simp only [go_sem]; refine aops_chunk 1 fun Q0 q0 => ?_; simp only [↓bO, go_sem, seval, hb1, hb2, hb5, hw2, List.map_append, List.length_append, u8C, hl0, hlz, he1, hl9, hw0, hc, hl1, hw3, ha, hbb, hl2, hl3, hw4, hw5, hw6])
        refine q0 _ ?_
        clear q0 Q0
        simp only [go_sem]
        refine aops_case 48 rfl (fun hc48 => ?_) (fun hc48 => ?_)
        ·
         simp only [List.set_cons_zero, List.set_cons_succ]
         have hbad := hw.dhex h5 hc hc92 ha hbb (.inl (by have h9 := hc48; simpa using h9))
         iterate 6 (refine aops_chunk 1 fun Q0 q0 => ?_; simp only [↓bO, go_sem, seval, hb1, hb2, hb5, hw2, List.map_append, List.length_append, u8C, hl0, hlz, he1, hl9, hw0, hc, hl1, hw3, ha, hbb, hl2, hl3, hw4, hw5, hw6]; refine q0 _ ?_; clear q0 Q0; simp only [go_sem])
         simp only [↓bO, go_sem, seval, hb1, hb2, hb5, hw2, List.map_append, List.length_append, u8C, hl0, hlz, he1, hl9, hw0, hc, hl1, hw3, ha, hbb, hl2, hl3, hw4, hw5, hw6]
         refine y4 _ ?_
         try clear y4 Y4
         refine AWp_cond (b := true) (by first | exact rfl | exact congrArg (fun b => AV.v (.bool b)) hb55) (fun _ => ?_) (fun h => (by cases h))
         refine AWp_seqK fun Y4 y4 => ?_
         refine AWp_region ?_
         refine aops_chunk 1 fun Q0 q0 => ?_
         simp only [↓bO, go_sem, seval, hb1, hb2, hb5, hw2, List.map_append, List.length_append, u8C, hl0, hlz, he1, hl9, hw0, hc, hl1, hw3, ha, hbb, hl2, hl3, hw4, hw5, hw6]
         refine q0 _ ?_
         clear q0 Q0
         simp only [go_sem]
         simp only [↓bO, go_sem, seval, hb1, hb2, hb5, hw2, List.map_append, List.length_append, u8C, hl0, hlz, he1, hl9, hw0, hc, hl1, hw3, ha, hbb, hl2, hl3, hw4, hw5, hw6]
         refine y4 _ ?_
         try clear y4 Y4
         refine AWp_ret ?_
         try simp only [thenQ, blockQ, noGotoQ, retQ, aRes, tupOf, bS, bA]
         rw [unqA_none (hfr.trans hbad)]
         exact Le.refl _
        ·
         simp only [List.set_cons_zero, List.set_cons_succ]
         have hd1 : ¬ dg a < 0 := (by have h9 := hc48; simpa using h9)
         iterate 4 (refine aops_chunk 1 fun Q0 q0 => ?_; simp only [↓bO, go_sem, seval, hb1, hb2, hb5, hw2, List.map_append, List.length_append, u8C, hl0, hlz, he1, hl9, hw0, hc, hl1, hw3, ha, hbb, hl2, hl3, hw4, hw5, hw6]; refine q0 _ ?_; clear q0 Q0; simp only [go_sem])
         refine aops_chunk 1 fun Q0 q0 => ?_
         simp only [↓bO, go_sem, seval, hb1, hb2, hb5, hw2, List.map_append, List.length_append, u8C, hl0, hlz, he1, hl9, hw0, hc, hl1, hw3, ha, hbb, hl2, hl3, hw4, hw5, hw6]
         refine APure.call (Digit_pure b) ?_
         try simp only [bS, bA, thenQ, blockQ, noGotoQ]
         refine q0 _ ?_
         clear q0 Q0
         simp only [go_sem]
         refine aops_chunk 1 fun Q0 q0 => ?_
         simp only [↓bO, go_sem, seval, hb1, hb2, hb5, hw2, List.map_append, List.length_append, u8C, hl0, hlz, he1, hl9, hw0, hc, hl1, hw3, ha, hbb, hl2, hl3, hw4, hw5, hw6]
         refine q0 _ ?_
         clear q0 Q0
         simp only [go_sem]
         simp only [↓bO, go_sem, seval, hb1, hb2, hb5, hw2, List.map_append, List.length_append, u8C, hl0, hlz, he1, hl9, hw0, hc, hl1, hw3, ha, hbb, hl2, hl3, hw4, hw5, hw6]
         refine y4 _ ?_
         try clear y4 Y4
         refine AWp_cond rfl (fun hb55 => ?_) (fun hb55 => ?_)
         ·
          have hbad := hw.dhex h5 hc hc92 ha hbb (.inr (.inl (by have h9 := hb55; simpa using h9)))
          refine AWp_seqK fun Y4 y4 => ?_
          refine AWp_region ?_
          refine aops_chunk 1 fun Q0 q0 => ?_
          simp only [↓bO, go_sem, seval, hb1, hb2, hb5, hw2, List.map_append, List.length_append, u8C, hl0, hlz, he1, hl9, hw0, hc, hl1, hw3, ha, hbb, hl2, hl3, hw4, hw5, hw6]
          refine q0 _ ?_
          clear q0 Q0
          simp only [go_sem]
          simp only [↓bO, go_sem, seval, hb1, hb2, hb5, hw2, List.map_append, List.length_append, u8C, hl0, hlz, he1, hl9, hw0, hc, hl1, hw3, ha, hbb, hl2, hl3, hw4, hw5, hw6]
          refine y4 _ ?_
          try clear y4 Y4
          refine AWp_ret ?_
          try simp only [thenQ, blockQ, noGotoQ, retQ, aRes, tupOf, bS, bA]
          rw [unqA_none (hfr.trans hbad)]
          exact Le.refl _
         ·
          have hd2 : ¬ dg b < 0 := (by have h9 := hb55; simpa using h9)
          have hda := (dg_hx a (by omega)).1
          have hdb := (dg_hx b (by omega)).1
          have hm1 : IntKind.i64.wrap (16 * dg a) = 16 * dg a := by (rw [wrap_in (by omega) (by omega)])
          have hm2 : IntKind.i64.wrap (16 * dg a + dg b) = 16 * dg a + dg b := by (rw [wrap_in (by omega) (by omega)])
          have htw := two_w hd1 hd2
          obtain ⟨tt, ht⟩ : ∃ t, two (dg a) (dg b) = t := ⟨_, rfl⟩
          rw [ht] at htw
          refine AWp_skip ?_
          try simp only [thenQ, blockQ, noGotoQ]
          refine y3 _ ?_
          try clear y3 Y3
          refine AWp_seqK fun Y3 y3 => ?_
          refine AWp_drawK 13 mixed (by kernel_rfl) fun J0 j0 => ?_
          iterate 4 (simp only [go_sem]; refine dRun_chunk 1 fun Q0 q0 => ?_; simp only [↓dRun, ↓dOp, ↓bO, go_sem, seval, hb1, hb2, hb5, hw2, List.map_append, List.length_append, u8C, hl0, hlz, he1, hl9, hw0, hc, hl1, hw3, ha, hbb, hl2, hl3, hw4, hw5, hw6, hm1, hm2, htw]; refine q0 _ ?_; clear q0 Q0)
          simp only [go_sem]
          refine dRun_chunk 1 fun Q0 q0 => ?_
          simp only [↓dRun, ↓dOp, ↓bO, go_sem, seval, hb1, hb2, hb5, hw2, List.map_append, List.length_append, u8C, hl0, hlz, he1, hl9, hw0, hc, hl1, hw3, ha, hbb, hl2, hl3, hw4, hw5, hw6, hm1, hm2, htw]
          refine ⟨_, Digit_pure a, ?_⟩
          try simp only [bS, bA, thenQ, blockQ, noGotoQ]
          iterate 6 (refine q0 _ ?_; clear q0 Q0; simp only [go_sem]; refine dRun_chunk 1 fun Q0 q0 => ?_; simp only [↓dRun, ↓dOp, ↓bO, go_sem, seval, hb1, hb2, hb5, hw2, List.map_append, List.length_append, u8C, hl0, hlz, he1, hl9, hw0, hc, hl1, hw3, ha, hbb, hl2, hl3, hw4, hw5, hw6, hm1, hm2, htw])
          refine ⟨_, Digit_pure b, ?_⟩
          try simp only [bS, bA, thenQ, blockQ, noGotoQ]
          refine q0 _ ?_
          clear q0 Q0
          simp only [go_sem]
          refine dRun_chunk 1 fun Q0 q0 => ?_
          simp only [↓dRun, ↓dOp, ↓bO, go_sem, seval, hb1, hb2, hb5, hw2, List.map_append, List.length_append, u8C, hl0, hlz, he1, hl9, hw0, hc, hl1, hw3, ha, hbb, hl2, hl3, hw4, hw5, hw6, hm1, hm2, htw]
          refine q0 _ ?_
          clear q0 Q0
          simp only [go_sem]
          simp only [↓dRun, ↓dOp, ↓bO, go_sem, seval, hb1, hb2, hb5, hw2, List.map_append, List.length_append, u8C, hl0, hlz, he1, hl9, hw0, hc, hl1, hw3, ha, hbb, hl2, hl3, hw4, hw5, hw6, hm1, hm2, htw]
          refine j0 _ ?_
          clear j0 J0
          simp only [go_sem]
          simp only [↓bO, go_sem, seval, hb1, hb2, hb5, hw2, List.map_append, List.length_append, u8C, hl0, hlz, he1, hl9, hw0, hc, hl1, hw3, ha, hbb, hl2, hl3, hw4, hw5, hw6, hm1, hm2, htw]
          refine y3 _ ?_
          try clear y3 Y3
          refine AWp_seqK fun Y3 y3 => ?_
          refine AWp_seqK fun Y4 y4 => ?_
          refine AWp_region ?_
          iterate 3 (refine aops_chunk 1 fun Q0 q0 => ?_; simp only [↓bO, go_sem, seval, hb1, hb2, hb5, hw2, List.map_append, List.length_append, u8C, hl0, hlz, he1, hl9, hw0, hc, hl1, hw3, ha, hbb, hl2, hl3, hw4, hw5, hw6, hm1, hm2, htw]; refine q0 _ ?_; clear q0 Q0; simp only [go_sem])
          refine aops_case 71 rfl (fun hc71 => ?_) (fun hc71 => ?_)
          ·
           simp only [List.set_cons_zero, List.set_cons_succ]
           have g1 : ¬ (tt.toNat : Int) < 32 := (by have h9 := hc71; simp at h9; omega)
           iterate 4 (refine aops_chunk 1 fun Q0 q0 => ?_; simp only [↓bO, go_sem, seval, hb1, hb2, hb5, hw2, List.map_append, List.length_append, u8C, hl0, hlz, he1, hl9, hw0, hc, hl1, hw3, ha, hbb, hl2, hl3, hw4, hw5, hw6, hm1, hm2, htw]; refine q0 _ ?_; clear q0 Q0; simp only [go_sem])
           refine aops_case 75 rfl (fun hc75 => ?_) (fun hc75 => ?_)
           ·
            simp only [List.set_cons_zero, List.set_cons_succ]
            have g2 : ¬ (tt.toNat : Int) ≥ 127 := (by have h9 := hc75; simp at h9; omega)
            iterate 4 (refine aops_chunk 1 fun Q0 q0 => ?_; simp only [↓bO, go_sem, seval, hb1, hb2, hb5, hw2, List.map_append, List.length_append, u8C, hl0, hlz, he1, hl9, hw0, hc, hl1, hw3, ha, hbb, hl2, hl3, hw4, hw5, hw6, hm1, hm2, htw]; refine q0 _ ?_; clear q0 Q0; simp only [go_sem])
            refine aops_case 79 rfl (fun hc79 => ?_) (fun hc79 => ?_)
            ·
             simp only [List.set_cons_zero, List.set_cons_succ]
             have g3 : ¬ (tt.toNat : Int) = 34 := (by have h9 := hc79; simp at h9; omega)
             iterate 2 (refine aops_chunk 1 fun Q0 q0 => ?_; simp only [↓bO, go_sem, seval, hb1, hb2, hb5, hw2, List.map_append, List.length_append, u8C, hl0, hlz, he1, hl9, hw0, hc, hl1, hw3, ha, hbb, hl2, hl3, hw4, hw5, hw6, hm1, hm2, htw]; refine q0 _ ?_; clear q0 Q0; simp only [go_sem])
             simp only [↓bO, go_sem, seval, hb1, hb2, hb5, hw2, List.map_append, List.length_append, u8C, hl0, hlz, he1, hl9, hw0, hc, hl1, hw3, ha, hbb, hl2, hl3, hw4, hw5, hw6, hm1, hm2, htw]
             refine y4 _ ?_
             try clear y4 Y4
             refine AWp_cond rfl (fun hb82 => ?_) (fun hb82 => ?_)
             ·
              have g4 := is_plain g1 g2 g3 (by have h9 := hb82; simp at h9; omega)
              have hbad := hw.dhex h5 hc hc92 ha hbb (.inr (.inr (by rw [ht]; exact g4)))
              refine AWp_seqK fun Y4 y4 => ?_
              refine AWp_region ?_
              refine aops_chunk 1 fun Q0 q0 => ?_
              simp only [↓bO, go_sem, seval, hb1, hb2, hb5, hw2, List.map_append, List.length_append, u8C, hl0, hlz, he1, hl9, hw0, hc, hl1, hw3, ha, hbb, hl2, hl3, hw4, hw5, hw6, hm1, hm2, htw]
              refine q0 _ ?_
              clear q0 Q0
              simp only [go_sem]
              simp only [↓bO, go_sem, seval, hb1, hb2, hb5, hw2, List.map_append, List.length_append, u8C, hl0, hlz, he1, hl9, hw0, hc, hl1, hw3, ha, hbb, hl2, hl3, hw4, hw5, hw6, hm1, hm2, htw]
              refine y4 _ ?_
              try clear y4 Y4
              refine AWp_ret ?_
              try simp only [thenQ, blockQ, noGotoQ, retQ, aRes, tupOf, bS, bA]
              rw [unqA_none (hfr.trans hbad)]
              exact Le.refl _
             ·
              have hnp : plainB tt = false := not_plain (.inr (.inr (.inr (by have h9 := hb82; simp at h9; omega))))
              have hP3 := hw.dthree h5 hc hc92 ha hbb hd1 hd2 (by rw [ht]; exact hnp)
              rw [ht] at hP3
              refine AWp_skip ?_
              try simp only [thenQ, blockQ, noGotoQ]
              refine y3 _ ?_
              try clear y3 Y3
              refine AWp_region ?_
              iterate 2 (refine aops_chunk 1 fun Q0 q0 => ?_; simp only [↓bO, go_sem, seval, hb1, hb2, hb5, hw2, List.map_append, List.length_append, u8C, hl0, hlz, he1, hl9, hw0, hc, hl1, hw3, ha, hbb, hl2, hl3, hw4, hw5, hw6, hm1, hm2, htw]; refine q0 _ ?_; clear q0 Q0; simp only [go_sem])
              simp only [↓bO, go_sem, seval, hb1, hb2, hb5, hw2, List.map_append, List.length_append, u8C, hl0, hlz, he1, hl9, hw0, hc, hl1, hw3, ha, hbb, hl2, hl3, hw4, hw5, hw6, hm1, hm2, htw]
              refine y2 _ ?_
              try clear y2 Y2
              refine AWp_region ?_
              iterate 2 (refine aops_chunk 1 fun Q0 q0 => ?_; simp only [↓bO, go_sem, seval, hb1, hb2, hb5, hw2, List.map_append, List.length_append, u8C, hl0, hlz, he1, hl9, hw0, hc, hl1, hw3, ha, hbb, hl2, hl3, hw4, hw5, hw6, hm1, hm2, htw]; refine q0 _ ?_; clear q0 Q0; simp only [go_sem])
              refine aops_chunk 1 fun Q0 q0 => ?_
              simp only [↓bO, go_sem, seval, ↓bs1_1, ↓bs1_2, ↓bs1_3, ↓bs1_4, ↓bs1_5, ↓bs1_6, ↓bs1_7, ↓bs1_8, ↓bs1_9, ↓bs1_10, ↓bs1_11, ↓bs1_12, hb1, hb2, hb5, hw2, List.map_append, List.length_append, u8C, hl0, hlz, he1, hl9, hw0, hc, hl1, hw3, ha, hbb, hl2, hl3, hw4, hw5, hw6, hm1, hm2, htw]
              refine q0 _ ?_
              clear q0 Q0
              simp only [go_sem]
              refine aops_chunk 1 fun Q0 q0 => ?_
              simp only [↓bO, go_sem, seval, hb1, hb2, hb5, hw2, List.map_append, List.length_append, u8C, hl0, hlz, he1, hl9, hw0, hc, hl1, hw3, ha, hbb, hl2, hl3, hw4, hw5, hw6, hm1, hm2, htw]
              refine q0 _ ?_
              clear q0 Q0
              simp only [go_sem]
              simp only [↓bO, go_sem, seval, hb1, hb2, hb5, hw2, List.map_append, List.length_append, u8C, hl0, hlz, he1, hl9, hw0, hc, hl1, hw3, ha, hbb, hl2, hl3, hw4, hw5, hw6, hm1, hm2, htw]
              refine y1 _ ?_
              try clear y1 Y1
              refine AWp_region ?_
              iterate 2 (refine aops_chunk 1 fun Q0 q0 => ?_; simp only [↓bO, go_sem, seval, hb1, hb2, hb5, hw2, List.map_append, List.length_append, u8C, hl0, hlz, he1, hl9, hw0, hc, hl1, hw3, ha, hbb, hl2, hl3, hw4, hw5, hw6, hm1, hm2, htw]; refine q0 _ ?_; clear q0 Q0; simp only [go_sem])
              simp only [↓bO, go_sem, seval, hb1, hb2, hb5, hw2, List.map_append, List.length_append, u8C, hl0, hlz, he1, hl9, hw0, hc, hl1, hw3, ha, hbb, hl2, hl3, hw4, hw5, hw6, hm1, hm2, htw]
              refine ⟨(w.1 + 3, w.2 ++ [tt]), hP3, (by simp only; omega), ?_⟩
              try simp only [maskL, setsL, putsO, putO, mB, List.set_cons_zero, List.set_cons_succ, seval, hb1, hb2, hb5, hw2, List.map_append, bL, List.length_append, u8C, hl0, hlz, he1, hl9, hw0, hc, hl1, hw3, ha, hbb, hl2, hl3, hw4, hw5, hw6, hm1, hm2, htw]
              exact Weak.mk (by simp only [go_sem, Le.refl, Le.any, Le.slNil, Int.natCast_add, Int.cast_ofNat_Int, Int.natCast_one]) (fun _ _ h => h) rfl rfl
            ·
             simp only [List.set_cons_zero, List.set_cons_succ]
             have hnp : plainB tt = false := not_plain (.inr (.inr (.inl (by have h9 := hc79; simp at h9; omega))))
             have hP3 := hw.dthree h5 hc hc92 ha hbb hd1 hd2 (by rw [ht]; exact hnp)
             rw [ht] at hP3
             iterate 2 (refine aops_chunk 1 fun Q0 q0 => ?_; simp only [↓bO, go_sem, seval, hb1, hb2, hb5, hw2, List.map_append, List.length_append, u8C, hl0, hlz, he1, hl9, hw0, hc, hl1, hw3, ha, hbb, hl2, hl3, hw4, hw5, hw6, hm1, hm2, htw]; refine q0 _ ?_; clear q0 Q0; simp only [go_sem])
             simp only [↓bO, go_sem, seval, hb1, hb2, hb5, hw2, List.map_append, List.length_append, u8C, hl0, hlz, he1, hl9, hw0, hc, hl1, hw3, ha, hbb, hl2, hl3, hw4, hw5, hw6, hm1, hm2, htw]
             refine y4 _ ?_
             try clear y4 Y4
             refine AWp_cond (b := false) (by first | exact rfl | exact congrArg (fun b => AV.v (.bool b)) hb82) (fun h => (by cases h)) (fun _ => ?_)
             refine AWp_skip ?_
             try simp only [thenQ, blockQ, noGotoQ]
             refine y3 _ ?_
             try clear y3 Y3
             refine AWp_region ?_
             iterate 2 (refine aops_chunk 1 fun Q0 q0 => ?_; simp only [↓bO, go_sem, seval, hb1, hb2, hb5, hw2, List.map_append, List.length_append, u8C, hl0, hlz, he1, hl9, hw0, hc, hl1, hw3, ha, hbb, hl2, hl3, hw4, hw5, hw6, hm1, hm2, htw]; refine q0 _ ?_; clear q0 Q0; simp only [go_sem])
             simp only [↓bO, go_sem, seval, hb1, hb2, hb5, hw2, List.map_append, List.length_append, u8C, hl0, hlz, he1, hl9, hw0, hc, hl1, hw3, ha, hbb, hl2, hl3, hw4, hw5, hw6, hm1, hm2, htw]
             refine y2 _ ?_
             try clear y2 Y2
             refine AWp_region ?_
             iterate 2 (refine aops_chunk 1 fun Q0 q0 => ?_; simp only [↓bO, go_sem, seval, hb1, hb2, hb5, hw2, List.map_append, List.length_append, u8C, hl0, hlz, he1, hl9, hw0, hc, hl1, hw3, ha, hbb, hl2, hl3, hw4, hw5, hw6, hm1, hm2, htw]; refine q0 _ ?_; clear q0 Q0; simp only [go_sem])
             refine aops_chunk 1 fun Q0 q0 => ?_
             simp only [↓bO, go_sem, seval, ↓bs1_1, ↓bs1_2, ↓bs1_3, ↓bs1_4, ↓bs1_5, ↓bs1_6, ↓bs1_7, ↓bs1_8, ↓bs1_9, ↓bs1_10, ↓bs1_11, ↓bs1_12, hb1, hb2, hb5, hw2, List.map_append, List.length_append, u8C, hl0, hlz, he1, hl9, hw0, hc, hl1, hw3, ha, hbb, hl2, hl3, hw4, hw5, hw6, hm1, hm2, htw]
             refine q0 _ ?_
             clear q0 Q0
             simp only [go_sem]
             refine aops_chunk 1 fun Q0 q0 => ?_
             simp only [↓bO, go_sem, seval, hb1, hb2, hb5, hw2, List.map_append, List.length_append, u8C, hl0, hlz, he1, hl9, hw0, hc, hl1, hw3, ha, hbb, hl2, hl3, hw4, hw5, hw6, hm1, hm2, htw]
             refine q0 _ ?_
             clear q0 Q0
             simp only [go_sem]
             simp only [↓bO, go_sem, seval, hb1, hb2, hb5, hw2, List.map_append, List.length_append, u8C, hl0, hlz, he1, hl9, hw0, hc, hl1, hw3, ha, hbb, hl2, hl3, hw4, hw5, hw6, hm1, hm2, htw]
             refine y1 _ ?_
             try clear y1 Y1
             refine AWp_region ?_
             iterate 2 (refine aops_chunk 1 fun Q0 q0 => ?_; simp only [↓bO, go_sem, seval, hb1, hb2, hb5, hw2, List.map_append, List.length_append, u8C, hl0, hlz, he1, hl9, hw0, hc, hl1, hw3, ha, hbb, hl2, hl3, hw4, hw5, hw6, hm1, hm2, htw]; refine q0 _ ?_; clear q0 Q0; simp only [go_sem])
             simp only [↓bO, go_sem, seval, hb1, hb2, hb5, hw2, List.map_append, List.length_append, u8C, hl0, hlz, he1, hl9, hw0, hc, hl1, hw3, ha, hbb, hl2, hl3, hw4, hw5, hw6, hm1, hm2, htw]
             refine ⟨(w.1 + 3, w.2 ++ [tt]), hP3, (by simp only; omega), ?_⟩
             try simp only [maskL, setsL, putsO, putO, mB, List.set_cons_zero, List.set_cons_succ, seval, hb1, hb2, hb5, hw2, List.map_append, bL, List.length_append, u8C, hl0, hlz, he1, hl9, hw0, hc, hl1, hw3, ha, hbb, hl2, hl3, hw4, hw5, hw6, hm1, hm2, htw]
             exact Weak.mk (by simp only [go_sem, Le.refl, Le.any, Le.slNil, Int.natCast_add, Int.cast_ofNat_Int, Int.natCast_one]) (fun _ _ h => h) rfl rfl
           ·
            simp only [List.set_cons_zero, List.set_cons_succ]
            have hnp : plainB tt = false := not_plain (.inr (.inl (by have h9 := hc75; simp at h9; omega)))
            have hP3 := hw.dthree h5 hc hc92 ha hbb hd1 hd2 (by rw [ht]; exact hnp)
            rw [ht] at hP3
            iterate 6 (refine aops_chunk 1 fun Q0 q0 => ?_; simp only [↓bO, go_sem, seval, hb1, hb2, hb5, hw2, List.map_append, List.length_append, u8C, hl0, hlz, he1, hl9, hw0, hc, hl1, hw3, ha, hbb, hl2, hl3, hw4, hw5, hw6, hm1, hm2, htw]; refine q0 _ ?_; clear q0 Q0; simp only [go_sem])
            simp only [↓bO, go_sem, seval, hb1, hb2, hb5, hw2, List.map_append, List.length_append, u8C, hl0, hlz, he1, hl9, hw0, hc, hl1, hw3, ha, hbb, hl2, hl3, hw4, hw5, hw6, hm1, hm2, htw]
            refine y4 _ ?_
            try clear y4 Y4
            refine AWp_cond (b := false) (by first | exact rfl | exact congrArg (fun b => AV.v (.bool b)) hb82) (fun h => (by cases h)) (fun _ => ?_)
            refine AWp_skip ?_
            try simp only [thenQ, blockQ, noGotoQ]
            refine y3 _ ?_
            try clear y3 Y3
            refine AWp_region ?_
            iterate 2 (refine aops_chunk 1 fun Q0 q0 => ?_; simp only [↓bO, go_sem, seval, hb1, hb2, hb5, hw2, List.map_append, List.length_append, u8C, hl0, hlz, he1, hl9, hw0, hc, hl1, hw3, ha, hbb, hl2, hl3, hw4, hw5, hw6, hm1, hm2, htw]; refine q0 _ ?_; clear q0 Q0; simp only [go_sem])
            simp only [↓bO, go_sem, seval, hb1, hb2, hb5, hw2, List.map_append, List.length_append, u8C, hl0, hlz, he1, hl9, hw0, hc, hl1, hw3, ha, hbb, hl2, hl3, hw4, hw5, hw6, hm1, hm2, htw]
            refine y2 _ ?_
            try clear y2 Y2
            refine AWp_region ?_
            iterate 2 (refine aops_chunk 1 fun Q0 q0 => ?_; simp only [↓bO, go_sem, seval, hb1, hb2, hb5, hw2, List.map_append, List.length_append, u8C, hl0, hlz, he1, hl9, hw0, hc, hl1, hw3, ha, hbb, hl2, hl3, hw4, hw5, hw6, hm1, hm2, htw]; refine q0 _ ?_; clear q0 Q0; simp only [go_sem])
            refine aops_chunk 1 fun Q0 q0 => ?_
            simp only [↓bO, go_sem, seval, ↓bs1_1, ↓bs1_2, ↓bs1_3, ↓bs1_4, ↓bs1_5, ↓bs1_6, ↓bs1_7, ↓bs1_8, ↓bs1_9, ↓bs1_10, ↓bs1_11, ↓bs1_12, hb1, hb2, hb5, hw2, List.map_append, List.length_append, u8C, hl0, hlz, he1, hl9, hw0, hc, hl1, hw3, ha, hbb, hl2, hl3, hw4, hw5, hw6, hm1, hm2, htw]
            refine q0 _ ?_
            clear q0 Q0
            simp only [go_sem]
            refine aops_chunk 1 fun Q0 q0 => ?_
            simp only [↓bO, go_sem, seval, hb1, hb2, hb5, hw2, List.map_append, List.length_append, u8C, hl0, hlz, he1, hl9, hw0, hc, hl1, hw3, ha, hbb, hl2, hl3, hw4, hw5, hw6, hm1, hm2, htw]
            refine q0 _ ?_
            clear q0 Q0
            simp only [go_sem]
            simp only [↓bO, go_sem, seval, hb1, hb2, hb5, hw2, List.map_append, List.length_append, u8C, hl0, hlz, he1, hl9, hw0, hc, hl1, hw3, ha, hbb, hl2, hl3, hw4, hw5, hw6, hm1, hm2, htw]
            refine y1 _ ?_
            try clear y1 Y1
            refine AWp_region ?_
            iterate 2 (refine aops_chunk 1 fun Q0 q0 => ?_; simp only [↓bO, go_sem, seval, hb1, hb2, hb5, hw2, List.map_append, List.length_append, u8C, hl0, hlz, he1, hl9, hw0, hc, hl1, hw3, ha, hbb, hl2, hl3, hw4, hw5, hw6, hm1, hm2, htw]; refine q0 _ ?_; clear q0 Q0; simp only [go_sem])
            simp only [↓bO, go_sem, seval, hb1, hb2, hb5, hw2, List.map_append, List.length_append, u8C, hl0, hlz, he1, hl9, hw0, hc, hl1, hw3, ha, hbb, hl2, hl3, hw4, hw5, hw6, hm1, hm2, htw]
            refine ⟨(w.1 + 3, w.2 ++ [tt]), hP3, (by simp only; omega), ?_⟩
            try simp only [maskL, setsL, putsO, putO, mB, List.set_cons_zero, List.set_cons_succ, seval, hb1, hb2, hb5, hw2, List.map_append, bL, List.length_append, u8C, hl0, hlz, he1, hl9, hw0, hc, hl1, hw3, ha, hbb, hl2, hl3, hw4, hw5, hw6, hm1, hm2, htw]
            exact Weak.mk (by simp only [go_sem, Le.refl, Le.any, Le.slNil, Int.natCast_add, Int.cast_ofNat_Int, Int.natCast_one]) (fun _ _ h => h) rfl rfl
          ·
           simp only [List.set_cons_zero, List.set_cons_succ]
           have hnp : plainB tt = false := not_plain (.inl (by have h9 := hc71; simp at h9; omega))
           have hP3 := hw.dthree h5 hc hc92 ha hbb hd1 hd2 (by rw [ht]; exact hnp)
           rw [ht] at hP3
           iterate 10 (refine aops_chunk 1 fun Q0 q0 => ?_; simp only [↓bO, go_sem, seval, hb1, hb2, hb5, hw2, List.map_append, List.length_append, u8C, hl0, hlz, he1, hl9, hw0, hc, hl1, hw3, ha, hbb, hl2, hl3, hw4, hw5, hw6, hm1, hm2, htw]; refine q0 _ ?_; clear q0 Q0; simp only [go_sem])
           simp only [↓bO, go_sem, seval, hb1, hb2, hb5, hw2, List.map_append, List.length_append, u8C, hl0, hlz, he1, hl9, hw0, hc, hl1, hw3, ha, hbb, hl2, hl3, hw4, hw5, hw6, hm1, hm2, htw]
           refine y4 _ ?_
           try clear y4 Y4
           refine AWp_cond (b := false) (by first | exact rfl | exact congrArg (fun b => AV.v (.bool b)) hb82) (fun h => (by cases h)) (fun _ => ?_)
           refine AWp_skip ?_
           try simp only [thenQ, blockQ, noGotoQ]
           refine y3 _ ?_
           try clear y3 Y3
           refine AWp_region ?_
           iterate 2 (refine aops_chunk 1 fun Q0 q0 => ?_; simp only [↓bO, go_sem, seval, hb1, hb2, hb5, hw2, List.map_append, List.length_append, u8C, hl0, hlz, he1, hl9, hw0, hc, hl1, hw3, ha, hbb, hl2, hl3, hw4, hw5, hw6, hm1, hm2, htw]; refine q0 _ ?_; clear q0 Q0; simp only [go_sem])
           simp only [↓bO, go_sem, seval, hb1, hb2, hb5, hw2, List.map_append, List.length_append, u8C, hl0, hlz, he1, hl9, hw0, hc, hl1, hw3, ha, hbb, hl2, hl3, hw4, hw5, hw6, hm1, hm2, htw]
           refine y2 _ ?_
           try clear y2 Y2
           refine AWp_region ?_
           iterate 2 (refine aops_chunk 1 fun Q0 q0 => ?_; simp only [↓bO, go_sem, seval, hb1, hb2, hb5, hw2, List.map_append, List.length_append, u8C, hl0, hlz, he1, hl9, hw0, hc, hl1, hw3, ha, hbb, hl2, hl3, hw4, hw5, hw6, hm1, hm2, htw]; refine q0 _ ?_; clear q0 Q0; simp only [go_sem])
           refine aops_chunk 1 fun Q0 q0 => ?_
           simp only [↓bO, go_sem, seval, ↓bs1_1, ↓bs1_2, ↓bs1_3, ↓bs1_4, ↓bs1_5, ↓bs1_6, ↓bs1_7, ↓bs1_8, ↓bs1_9, ↓bs1_10, ↓bs1_11, ↓bs1_12, hb1, hb2, hb5, hw2, List.map_append, List.length_append, u8C, hl0, hlz, he1, hl9, hw0, hc, hl1, hw3, ha, hbb, hl2, hl3, hw4, hw5, hw6, hm1, hm2, htw]
           refine q0 _ ?_
           clear q0 Q0
           simp only [go_sem]
           refine aops_chunk 1 fun Q0 q0 => ?_
           simp only [↓bO, go_sem, seval, hb1, hb2, hb5, hw2, List.map_append, List.length_append, u8C, hl0, hlz, he1, hl9, hw0, hc, hl1, hw3, ha, hbb, hl2, hl3, hw4, hw5, hw6, hm1, hm2, htw]
           refine q0 _ ?_
           clear q0 Q0
           simp only [go_sem]
           simp only [↓bO, go_sem, seval, hb1, hb2, hb5, hw2, List.map_append, List.length_append, u8C, hl0, hlz, he1, hl9, hw0, hc, hl1, hw3, ha, hbb, hl2, hl3, hw4, hw5, hw6, hm1, hm2, htw]
           refine y1 _ ?_
           try clear y1 Y1
           refine AWp_region ?_
           iterate 2 (refine aops_chunk 1 fun Q0 q0 => ?_; simp only [↓bO, go_sem, seval, hb1, hb2, hb5, hw2, List.map_append, List.length_append, u8C, hl0, hlz, he1, hl9, hw0, hc, hl1, hw3, ha, hbb, hl2, hl3, hw4, hw5, hw6, hm1, hm2, htw]; refine q0 _ ?_; clear q0 Q0; simp only [go_sem])
           simp only [↓bO, go_sem, seval, hb1, hb2, hb5, hw2, List.map_append, List.length_append, u8C, hl0, hlz, he1, hl9, hw0, hc, hl1, hw3, ha, hbb, hl2, hl3, hw4, hw5, hw6, hm1, hm2, htw]
           refine ⟨(w.1 + 3, w.2 ++ [tt]), hP3, (by simp only; omega), ?_⟩
           try simp only [maskL, setsL, putsO, putO, mB, List.set_cons_zero, List.set_cons_succ, seval, hb1, hb2, hb5, hw2, List.map_append, bL, List.length_append, u8C, hl0, hlz, he1, hl9, hw0, hc, hl1, hw3, ha, hbb, hl2, hl3, hw4, hw5, hw6, hm1, hm2, htw]
           exact Weak.mk (by simp only [go_sem, Le.refl, Le.any, Le.slNil, Int.natCast_add, Int.cast_ofNat_Int, Int.natCast_one]) (fun _ _ h => h) rfl rfl
      ·
       have hn92 : ¬ c.toNat = 92 := (by have h9 := hb34; simp at h9; omega)
       refine AWp_seqK fun Y3 y3 => ?_
       refine AWp_region ?_
       iterate 3 (refine aops_chunk 1 fun Q0 q0 => ?_; simp only [↓bO, go_sem, seval, hb1, hb2, hb5, hw2, List.map_append, List.length_append, u8C, hl0, hlz, he1, hl9, hw0, hc, hl1]; refine q0 _ ?_; clear q0 Q0; simp only [go_sem])
       refine aops_case 87 rfl (fun hc87 => ?_) (fun hc87 => ?_)
       ·
        simp only [List.set_cons_zero, List.set_cons_succ]
        have hbad := hw.dnot hlt hc hn92 (not_plain (.inl (by have h9 := hc87; simp at h9; omega)))
        iterate 6 (refine aops_chunk 1 fun Q0 q0 => ?_; simp only [↓bO, go_sem, seval, hb1, hb2, hb5, hw2, List.map_append, List.length_append, u8C, hl0, hlz, he1, hl9, hw0, hc, hl1]; refine q0 _ ?_; clear q0 Q0; simp only [go_sem])
        simp only [↓bO, go_sem, seval, hb1, hb2, hb5, hw2, List.map_append, List.length_append, u8C, hl0, hlz, he1, hl9, hw0, hc, hl1]
        refine y3 _ ?_
        try clear y3 Y3
        refine AWp_cond (b := true) (by first | exact rfl | exact congrArg (fun b => AV.v (.bool b)) hb94) (fun _ => ?_) (fun h => (by cases h))
        refine AWp_seqK fun Y3 y3 => ?_
        refine AWp_region ?_
        refine aops_chunk 1 fun Q0 q0 => ?_
        simp only [↓bO, go_sem, seval, hb1, hb2, hb5, hw2, List.map_append, List.length_append, u8C, hl0, hlz, he1, hl9, hw0, hc, hl1]
        refine q0 _ ?_
        clear q0 Q0
        simp only [go_sem]
        simp only [↓bO, go_sem, seval, hb1, hb2, hb5, hw2, List.map_append, List.length_append, u8C, hl0, hlz, he1, hl9, hw0, hc, hl1]
        refine y3 _ ?_
        try clear y3 Y3
        refine AWp_ret ?_
        try simp only [thenQ, blockQ, noGotoQ, retQ, aRes, tupOf, bS, bA]
        rw [unqA_none (hfr.trans hbad)]
        exact Le.refl _
       ·
        simp only [List.set_cons_zero, List.set_cons_succ]
        have g1 : ¬ (c.toNat : Int) < 32 := (by have h9 := hc87; simp at h9; omega)
        iterate 4 (refine aops_chunk 1 fun Q0 q0 => ?_; simp only [↓bO, go_sem, seval, hb1, hb2, hb5, hw2, List.map_append, List.length_append, u8C, hl0, hlz, he1, hl9, hw0, hc, hl1]; refine q0 _ ?_; clear q0 Q0; simp only [go_sem])
        refine aops_case 91 rfl (fun hc91 => ?_) (fun hc91 => ?_)
        ·
         simp only [List.set_cons_zero, List.set_cons_succ]
         have hbad := hw.dnot hlt hc hn92 (not_plain (.inr (.inl (by have h9 := hc91; simp at h9; omega))))
         iterate 2 (refine aops_chunk 1 fun Q0 q0 => ?_; simp only [↓bO, go_sem, seval, hb1, hb2, hb5, hw2, List.map_append, List.length_append, u8C, hl0, hlz, he1, hl9, hw0, hc, hl1]; refine q0 _ ?_; clear q0 Q0; simp only [go_sem])
         simp only [↓bO, go_sem, seval, hb1, hb2, hb5, hw2, List.map_append, List.length_append, u8C, hl0, hlz, he1, hl9, hw0, hc, hl1]
         refine y3 _ ?_
         try clear y3 Y3
         refine AWp_cond (b := true) (by first | exact rfl | exact congrArg (fun b => AV.v (.bool b)) hb94) (fun _ => ?_) (fun h => (by cases h))
         refine AWp_seqK fun Y3 y3 => ?_
         refine AWp_region ?_
         refine aops_chunk 1 fun Q0 q0 => ?_
         simp only [↓bO, go_sem, seval, hb1, hb2, hb5, hw2, List.map_append, List.length_append, u8C, hl0, hlz, he1, hl9, hw0, hc, hl1]
         refine q0 _ ?_
         clear q0 Q0
         simp only [go_sem]
         simp only [↓bO, go_sem, seval, hb1, hb2, hb5, hw2, List.map_append, List.length_append, u8C, hl0, hlz, he1, hl9, hw0, hc, hl1]
         refine y3 _ ?_
         try clear y3 Y3
         refine AWp_ret ?_
         try simp only [thenQ, blockQ, noGotoQ, retQ, aRes, tupOf, bS, bA]
         rw [unqA_none (hfr.trans hbad)]
         exact Le.refl _
        ·
         simp only [List.set_cons_zero, List.set_cons_succ]
         have g2 : ¬ (c.toNat : Int) ≥ 127 := (by have h9 := hc91; simp at h9; omega)
         iterate 2 (refine aops_chunk 1 fun Q0 q0 => ?_; simp only [↓bO, go_sem, seval, hb1, hb2, hb5, hw2, List.map_append, List.length_append, u8C, hl0, hlz, he1, hl9, hw0, hc, hl1]; refine q0 _ ?_; clear q0 Q0; simp only [go_sem])
         simp only [↓bO, go_sem, seval, hb1, hb2, hb5, hw2, List.map_append, List.length_append, u8C, hl0, hlz, he1, hl9, hw0, hc, hl1]
         refine y3 _ ?_
         try clear y3 Y3
         refine AWp_cond rfl (fun hb94 => ?_) (fun hb94 => ?_)
         ·
          have hbad := hw.dnot hlt hc hn92 (not_plain (.inr (.inr (.inl (by have h9 := hb94; simp at h9; omega)))))
          refine AWp_seqK fun Y3 y3 => ?_
          refine AWp_region ?_
          refine aops_chunk 1 fun Q0 q0 => ?_
          simp only [↓bO, go_sem, seval, hb1, hb2, hb5, hw2, List.map_append, List.length_append, u8C, hl0, hlz, he1, hl9, hw0, hc, hl1]
          refine q0 _ ?_
          clear q0 Q0
          simp only [go_sem]
          simp only [↓bO, go_sem, seval, hb1, hb2, hb5, hw2, List.map_append, List.length_append, u8C, hl0, hlz, he1, hl9, hw0, hc, hl1]
          refine y3 _ ?_
          try clear y3 Y3
          refine AWp_ret ?_
          try simp only [thenQ, blockQ, noGotoQ, retQ, aRes, tupOf, bS, bA]
          rw [unqA_none (hfr.trans hbad)]
          exact Le.refl _
         ·
          have hP1 := hw.done hlt hc hn92 (is_plain g1 g2 (by have h9 := hb94; simp at h9; omega) (by omega))
          refine AWp_skip ?_
          try simp only [thenQ, blockQ, noGotoQ]
          refine y2 _ ?_
          try clear y2 Y2
          refine AWp_region ?_
          iterate 2 (refine aops_chunk 1 fun Q0 q0 => ?_; simp only [↓bO, go_sem, seval, hb1, hb2, hb5, hw2, List.map_append, List.length_append, u8C, hl0, hlz, he1, hl9, hw0, hc, hl1]; refine q0 _ ?_; clear q0 Q0; simp only [go_sem])
          refine aops_chunk 1 fun Q0 q0 => ?_
          simp only [↓bO, go_sem, seval, ↓bs1_1, ↓bs1_2, ↓bs1_3, ↓bs1_4, ↓bs1_5, ↓bs1_6, ↓bs1_7, ↓bs1_8, ↓bs1_9, ↓bs1_10, ↓bs1_11, ↓bs1_12, hb1, hb2, hb5, hw2, List.map_append, List.length_append, u8C, hl0, hlz, he1, hl9, hw0, hc, hl1]
          refine q0 _ ?_
          clear q0 Q0
          simp only [go_sem]
          refine aops_chunk 1 fun Q0 q0 => ?_
          simp only [↓bO, go_sem, seval, hb1, hb2, hb5, hw2, List.map_append, List.length_append, u8C, hl0, hlz, he1, hl9, hw0, hc, hl1]
          refine q0 _ ?_
          clear q0 Q0
          simp only [go_sem]
          simp only [↓bO, go_sem, seval, hb1, hb2, hb5, hw2, List.map_append, List.length_append, u8C, hl0, hlz, he1, hl9, hw0, hc, hl1]
          refine y1 _ ?_
          try clear y1 Y1
          refine AWp_region ?_
          iterate 2 (refine aops_chunk 1 fun Q0 q0 => ?_; simp only [↓bO, go_sem, seval, hb1, hb2, hb5, hw2, List.map_append, List.length_append, u8C, hl0, hlz, he1, hl9, hw0, hc, hl1]; refine q0 _ ?_; clear q0 Q0; simp only [go_sem])
          simp only [↓bO, go_sem, seval, hb1, hb2, hb5, hw2, List.map_append, List.length_append, u8C, hl0, hlz, he1, hl9, hw0, hc, hl1]
          refine ⟨(w.1 + 1, w.2 ++ [c]), hP1, (by simp only; omega), ?_⟩
          try simp only [maskL, setsL, putsO, putO, mB, List.set_cons_zero, List.set_cons_succ, seval, hb1, hb2, hb5, hw2, List.map_append, bL, List.length_append, u8C, hl0, hlz, he1, hl9, hw0, hc, hl1]
          exact Weak.mk (by simp only [go_sem, Le.refl, Le.any, Le.slNil, Int.natCast_add, Int.cast_ofNat_Int, Int.natCast_one]) (fun _ _ h => h) rfl rfl
     ·
      have hge : ¬ w.1 + 2 < s.size := (by have h9 := hb27; simp at h9; omega)
      have hpr := PD.fin (D := docD) rfl hw hge
      have hcv := bytesOf_u8 w.2
      refine AWp_exit ?_
      simp only [thenQ, blockQ, noGotoQ, bA, Nat.reduceEqDiff, ↓reduceIte]
      refine y0 _ ?_
      try clear y0 Y0
      refine AWp_seqK fun Y0 y0 => ?_
      refine AWp_region ?_
      refine aops_chunk 1 fun Q0 q0 => ?_
      simp only [↓bO, go_sem, seval, hl0, hlz, he1, hl9, hw0, hcv, strOfNums_u8]
      refine q0 _ ?_
      clear q0 Q0
      simp only [go_sem]
      refine aops_chunk 1 fun Q0 q0 => ?_
      simp only [↓bO, go_sem, seval, aConvB, by50, hl0, hlz, he1, hl9, hw0, hcv, strOfNums_u8]
      refine q0 _ ?_
      clear q0 Q0
      simp only [go_sem]
      refine aops_chunk 1 fun Q0 q0 => ?_
      simp only [↓bO, go_sem, seval, hl0, hlz, he1, hl9, hw0, hcv, strOfNums_u8]
      refine q0 _ ?_
      clear q0 Q0
      simp only [go_sem]
      simp only [↓bO, go_sem, seval, hl0, hlz, he1, hl9, hw0, hcv, strOfNums_u8]
      refine y0 _ ?_
      try clear y0 Y0
      refine AWp_ret ?_
      try simp only [thenQ, blockQ, noGotoQ, retQ, aRes, tupOf, bS, bA]
      rw [unqA_some (hfr.trans hpr)]
      exact Le.refl _
end Go.Proofs.YtmepcmphcghbeaaDoor
namespace Go.Proofs.YtmepcmphcghbeaaDoor
open Go Go.Shelf
def Tryd.lays144_ren : Go.Shelf.Ren := ⟨fun | 144 => 32 | 143 => 43 | 219 => 57 | 217 => 41 | 225 => 66 | 224 => 67 | 267 => 68 | 266 => 55 | 314 => 81 | n => n, fun | 9 => 9 | 4 => 4 | 3 => 3 | 5 => 5 | 46 => 52 | 146 => 113 | 51 => 112 | n => n, fun | 1 => 1 | n => n⟩
theorem Tryd.lays144 : Go.Proofs.Lays.n144 Tryd.prog Tryd.lays144_ren := {
  mixed := by kernel_rfl
  f143 := Tryd.func43.trans (congrArg some (by kernel_rfl))
  f144 := Tryd.func32.trans (congrArg some (by kernel_rfl))
  f217 := Tryd.func41.trans (congrArg some (by kernel_rfl))
  f219 := Tryd.func57.trans (congrArg some (by kernel_rfl))
  f224 := Tryd.func67.trans (congrArg some (by kernel_rfl))
  f225 := Tryd.func66.trans (congrArg some (by kernel_rfl))
  f266 := Tryd.func55.trans (congrArg some (by kernel_rfl))
  f267 := Tryd.func68.trans (congrArg some (by kernel_rfl))
  f314 := Tryd.func81.trans (congrArg some (by kernel_rfl))
  t3 := Tryd.underlying3
  a3 := Tryd.isAgg3
  z3 := Tryd.sizeOf3
  v3 := Tryd.zeroValue3
  t4 := Tryd.underlying4
  a4 := Tryd.isAgg4
  z4 := Tryd.sizeOf4
  v4 := Tryd.zeroValue4
  t5 := Tryd.underlying5
  a5 := Tryd.isAgg5
  z5 := Tryd.sizeOf5
  v5 := Tryd.zeroValue5
  t9 := Tryd.underlying9
  a9 := Tryd.isAgg9
  z9 := Tryd.sizeOf9
  v9 := Tryd.zeroValue9
  t46 := Tryd.underlying52
  a46 := Tryd.isAgg52
  z46 := Tryd.sizeOf52
  v46 := Tryd.zeroValue52
  t51 := Tryd.underlying112
  a51 := Tryd.isAgg112
  z51 := Tryd.sizeOf112
  v51 := Tryd.zeroValue112
  t146 := Tryd.underlying113
  a146 := Tryd.isAgg113
  z146 := Tryd.sizeOf113
  v146 := Tryd.zeroValue113
  g1 := by kernel_rfl }
open Go.RowKit Go.Lib in
theorem Tryd.strings_Contains_one (s : ByteArray) (c : UInt8) (w : World) :
    Calls Tryd.prog 32 #[.string s, .string ⟨#[c]⟩] w fun e w' => e = .returned (.bool (decide (0 ≤ Lib.indexByte s.data.toList c))) ∧ w' = w := Any.strings_Contains_one Tryd.lays144 s c w
end Go.Proofs.YtmepcmphcghbeaaDoor
namespace Go.Proofs.YtmepcmphcghbeaaDoor
open Go Go.RowKit
set_option maxRecDepth 100000
set_option maxHeartbeats 4000000
set_option linter.unusedSimpArgs false
set_option linter.unnecessarySimpa false
set_option linter.unusedVariables false
attribute [local irreducible] aops dRun
def nameB (s : ByteArray) : Bool := decide (s.size ≠ 0) && smI ((s[0]?).getD 0).toNat && decide (runN s 0 inI = s.size) && decide (s.size ≤ 20) && !kwB s
theorem nameB_true {s : ByteArray} (h1 : ¬ s.size = 0) (h2 : smI ((s[0]?).getD 0).toNat = true) (h3 : runN s 0 inI = s.size) (h4 : s.size ≤ 20) (h5 : kwB s = false) : nameB s = true := by
  unfold nameB; simp [h1, h2, h3, h4, h5]
theorem nameB_false {s : ByteArray} (h : s.size = 0 ∨ smI ((s[0]?).getD 0).toNat = false ∨ ¬ runN s 0 inI = s.size ∨ ¬ s.size ≤ 20 ∨ kwB s = true) : nameB s = false := by
  unfold nameB
  rcases h with h | h | h | h | h <;> simp [h]
theorem size_zero {s : ByteArray} (h : s.toList == (⟨#[]⟩ : ByteArray).toList) : s.size = 0 := by
  have h1 : eqS s ⟨#[]⟩ = true := h
  rw [eqS_iff.1 h1]; rfl
theorem size_pos {s : ByteArray} (h : (s.toList == (⟨#[]⟩ : ByteArray).toList) = false) : 0 < s.size := by
  rcases Nat.eq_zero_or_pos s.size with h1 | h1
  · exfalso
    have h2 : s = ⟨#[]⟩ := ByteArray.ext (Array.eq_empty_of_size_eq_zero h1)
    rw [h2] at h
    simp at h
  · exact h1
theorem LName_pure (s : ByteArray) (hs : s.size ≤ 9223372036854775807) : APure Tryd.prog 33 [.v (.string s)] (.v (.bool (nameB s))) := by
  refine APure.mkL (.cons (.v _) .nil) (.v _) ?_
  refine ACalls_intro Tryd.func33 (by kernel_rfl) rfl (by rw [Tryd.ntmps33]; simp) (fun hm => ?_)
  simp only [Tryd.ntmps33, Tryd.results33, List.length_cons, List.length_nil, Nat.reduceAdd, Nat.reduceSub, List.replicate_succ, List.replicate_zero, List.cons_append, List.nil_append]
  refine AWp_seqK fun Y0 y0 => ?_
  refine AWp_region ?_
  simp only [↓bO, go_sem, seval]
  refine y0 _ ?_
  try clear y0 Y0
  refine AWp_seqK fun Y0 y0 => ?_
  refine AWp_region ?_
  iterate 3 (refine aops_chunk 1 fun Q0 q0 => ?_; simp only [↓bO, go_sem, seval]; refine q0 _ ?_; clear q0 Q0; simp only [go_sem])
  refine aops_case 5 rfl (fun hc5 => ?_) (fun hc5 => ?_)
  ·
   simp only [List.set_cons_zero, List.set_cons_succ]
   have hz : 0 < s.size := size_pos (by have h9 := hc5; simpa using h9)
   have hl0 : ((0 : Int) < (s.size : Int)) = True := eq_true (by omega)
   iterate 2 (refine aops_chunk 1 fun Q0 q0 => ?_; simp only [↓bO, go_sem, seval, hz, hl0]; refine q0 _ ?_; clear q0 Q0; simp only [go_sem])
   refine aops_chunk 1 fun Q0 q0 => ?_
   simp only [↓bO, go_sem, seval, hz, hl0]
   refine APure.call (small_pure _) ?_
   try simp only [bS, bA, thenQ, blockQ, noGotoQ]
   iterate 2 (refine q0 _ ?_; clear q0 Q0; simp only [go_sem]; refine aops_chunk 1 fun Q0 q0 => ?_; simp only [↓bO, go_sem, seval, hz, hl0])
   refine q0 _ ?_
   clear q0 Q0
   simp only [go_sem]
   refine aops_case 10 rfl (fun hc10 => ?_) (fun hc10 => ?_)
   ·
    simp only [List.set_cons_zero, List.set_cons_succ]
    have h1 : smI ((s[0]?).getD 0).toNat = true := (by have h9 := hc10; simpa using h9)
    refine aops_chunk 1 fun Q0 q0 => ?_
    simp only [↓bO, go_sem, seval, hz, hl0]
    refine q0 _ ?_
    clear q0 Q0
    simp only [go_sem]
    refine aops_chunk 1 fun Q0 q0 => ?_
    simp only [↓bO, go_sem, seval, hz, hl0]
    refine APure.call (run_pure s 0 46 inI inner_pure (by omega) (by omega)) ?_
    try simp only [bS, bA, thenQ, blockQ, noGotoQ]
    iterate 5 (refine q0 _ ?_; clear q0 Q0; simp only [go_sem]; refine aops_chunk 1 fun Q0 q0 => ?_; simp only [↓bO, go_sem, seval, hz, hl0])
    refine q0 _ ?_
    clear q0 Q0
    simp only [go_sem]
    refine aops_case 17 rfl (fun hc17 => ?_) (fun hc17 => ?_)
    ·
     simp only [List.set_cons_zero, List.set_cons_succ]
     have h2 : runN s 0 inI = s.size := (by have h9 := hc17; simp at h9; omega)
     iterate 5 (refine aops_chunk 1 fun Q0 q0 => ?_; simp only [↓bO, go_sem, seval, hz, hl0]; refine q0 _ ?_; clear q0 Q0; simp only [go_sem])
     refine aops_case 22 rfl (fun hc22 => ?_) (fun hc22 => ?_)
     ·
      simp only [List.set_cons_zero, List.set_cons_succ]
      have h3 : s.size ≤ 20 := (by have h9 := hc22; simp at h9; omega)
      refine aops_chunk 1 fun Q0 q0 => ?_
      simp only [↓bO, go_sem, seval, hz, hl0]
      refine q0 _ ?_
      clear q0 Q0
      simp only [go_sem]
      refine aops_chunk 1 fun Q0 q0 => ?_
      simp only [↓bO, go_sem, seval, hz, hl0]
      refine APure.call (Keyword_pure s) ?_
      try simp only [bS, bA, thenQ, blockQ, noGotoQ]
      iterate 2 (refine q0 _ ?_; clear q0 Q0; simp only [go_sem]; refine aops_chunk 1 fun Q0 q0 => ?_; simp only [↓bO, go_sem, seval, hz, hl0])
      refine q0 _ ?_
      clear q0 Q0
      simp only [go_sem]
      simp only [↓bO, go_sem, seval, hz, hl0]
      refine y0 _ ?_
      try clear y0 Y0
      refine AWp_ret ?_
      try simp only [thenQ, blockQ, noGotoQ, retQ, aRes, tupOf, bS, bA]
      refine Le.of_eq (congrArg (fun b => AV.v (.bool b)) ?_)
      cases hk : kwB s with | true => exact (nameB_false (.inr (.inr (.inr (.inr hk))))).symm | false => exact (nameB_true (by omega) h1 h2 h3 hk).symm
     ·
      simp only [List.set_cons_zero, List.set_cons_succ]
      have h3 : ¬ s.size ≤ 20 := (by have h9 := hc22; simp at h9; omega)
      iterate 4 (refine aops_chunk 1 fun Q0 q0 => ?_; simp only [↓bO, go_sem, seval, hz, hl0]; refine q0 _ ?_; clear q0 Q0; simp only [go_sem])
      simp only [↓bO, go_sem, seval, hz, hl0]
      refine y0 _ ?_
      try clear y0 Y0
      refine AWp_ret ?_
      try simp only [thenQ, blockQ, noGotoQ, retQ, aRes, tupOf, bS, bA]
      refine Le.of_eq (congrArg (fun b => AV.v (.bool b)) ?_)
      exact (nameB_false (.inr (.inr (.inr (.inl h3))))).symm
    ·
     simp only [List.set_cons_zero, List.set_cons_succ]
     have h2 : ¬ runN s 0 inI = s.size := (by have h9 := hc17; simp at h9; omega)
     iterate 9 (refine aops_chunk 1 fun Q0 q0 => ?_; simp only [↓bO, go_sem, seval, hz, hl0]; refine q0 _ ?_; clear q0 Q0; simp only [go_sem])
     simp only [↓bO, go_sem, seval, hz, hl0]
     refine y0 _ ?_
     try clear y0 Y0
     refine AWp_ret ?_
     try simp only [thenQ, blockQ, noGotoQ, retQ, aRes, tupOf, bS, bA]
     refine Le.of_eq (congrArg (fun b => AV.v (.bool b)) ?_)
     exact (nameB_false (.inr (.inr (.inl h2)))).symm
   ·
    simp only [List.set_cons_zero, List.set_cons_succ]
    have h1 : smI ((s[0]?).getD 0).toNat = false := (by have h9 := hc10; simpa using h9)
    iterate 16 (refine aops_chunk 1 fun Q0 q0 => ?_; simp only [↓bO, go_sem, seval, hz, hl0]; refine q0 _ ?_; clear q0 Q0; simp only [go_sem])
    simp only [↓bO, go_sem, seval, hz, hl0]
    refine y0 _ ?_
    try clear y0 Y0
    refine AWp_ret ?_
    try simp only [thenQ, blockQ, noGotoQ, retQ, aRes, tupOf, bS, bA]
    refine Le.of_eq (congrArg (fun b => AV.v (.bool b)) ?_)
    exact (nameB_false (.inr (.inl h1))).symm
  ·
   simp only [List.set_cons_zero, List.set_cons_succ]
   have h0 : s.size = 0 := size_zero (by have h9 := hc5; simpa using h9)
   iterate 21 (refine aops_chunk 1 fun Q0 q0 => ?_; simp only [↓bO, go_sem, seval]; refine q0 _ ?_; clear q0 Q0; simp only [go_sem])
   simp only [↓bO, go_sem, seval]
   refine y0 _ ?_
   try clear y0 Y0
   refine AWp_ret ?_
   try simp only [thenQ, blockQ, noGotoQ, retQ, aRes, tupOf, bS, bA]
   refine Le.of_eq (congrArg (fun b => AV.v (.bool b)) ?_)
   exact (nameB_false (.inl h0)).symm
end Go.Proofs.YtmepcmphcghbeaaDoor
namespace Go.Proofs.YtmepcmphcghbeaaDoor
open Go Go.Shelf
def Tryd.laysM171_ren : Go.Shelf.Ren := ⟨fun | 171 => 34 | 243 => 48 | 246 => 61 | 283 => 72 | 284 => 73 | 285 => 74 | 286 => 75 | 129 => 84 | 317 => 83 | 318 => 85 | 319 => 86 | 320 => 87 | 337 => 93 | 338 => 94 | n => n, fun | 3 => 3 | 9 => 9 | 2 => 2 | 4 => 4 | 171 => 101 | 0 => 0 | 53 => 85 | 37 => 50 | 5 => 5 | 173 => 104 | 212 => 121 | 51 => 112 | 20 => 20 | 213 => 122 | 46 => 52 | 232 => 147 | 233 => 148 | n => n, fun | 17 => 4 | 18 => 7 | 19 => 8 | n => n⟩
theorem Tryd.laysM171 : Go.Proofs.LaysM.n171 Tryd.prog Tryd.laysM171_ren := {
  mixed := by kernel_rfl
  f129 := Tryd.func84.trans (congrArg some (by kernel_rfl))
  f171 := Tryd.func34.trans (congrArg some (by kernel_rfl))
  f243 := Tryd.func48.trans (congrArg some (by kernel_rfl))
  f246 := Tryd.func61.trans (congrArg some (by kernel_rfl))
  f283 := Tryd.func72.trans (congrArg some (by kernel_rfl))
  f284 := Tryd.func73.trans (congrArg some (by kernel_rfl))
  f285 := Tryd.func74.trans (congrArg some (by kernel_rfl))
  f286 := Tryd.func75.trans (congrArg some (by kernel_rfl))
  f317 := Tryd.func83.trans (congrArg some (by kernel_rfl))
  f318 := Tryd.func85.trans (congrArg some (by kernel_rfl))
  f319 := Tryd.func86.trans (congrArg some (by kernel_rfl))
  f320 := Tryd.func87.trans (congrArg some (by kernel_rfl))
  f337 := Tryd.func93.trans (congrArg some (by kernel_rfl))
  f338 := Tryd.func94.trans (congrArg some (by kernel_rfl))
  t0 := Tryd.underlying0
  a0 := Tryd.isAgg0
  z0 := Tryd.sizeOf0
  v0 := Tryd.zeroValue0
  t2 := Tryd.underlying2
  a2 := Tryd.isAgg2
  z2 := Tryd.sizeOf2
  v2 := Tryd.zeroValue2
  t3 := Tryd.underlying3
  a3 := Tryd.isAgg3
  z3 := Tryd.sizeOf3
  v3 := Tryd.zeroValue3
  t4 := Tryd.underlying4
  a4 := Tryd.isAgg4
  z4 := Tryd.sizeOf4
  v4 := Tryd.zeroValue4
  t5 := Tryd.underlying5
  a5 := Tryd.isAgg5
  z5 := Tryd.sizeOf5
  v5 := Tryd.zeroValue5
  t9 := Tryd.underlying9
  a9 := Tryd.isAgg9
  z9 := Tryd.sizeOf9
  v9 := Tryd.zeroValue9
  t20 := Tryd.underlying20
  a20 := Tryd.isAgg20
  z20 := Tryd.sizeOf20
  v20 := Tryd.zeroValue20
  t37 := Tryd.underlying50
  a37 := Tryd.isAgg50
  z37 := Tryd.sizeOf50
  v37 := Tryd.zeroValue50
  t46 := Tryd.underlying52
  a46 := Tryd.isAgg52
  z46 := Tryd.sizeOf52
  v46 := Tryd.zeroValue52
  t51 := Tryd.underlying112
  a51 := Tryd.isAgg112
  z51 := Tryd.sizeOf112
  v51 := Tryd.zeroValue112
  t53 := Tryd.underlying85
  a53 := Tryd.isAgg85
  z53 := Tryd.sizeOf85
  v53 := Tryd.zeroValue85
  t171 := Tryd.underlying101
  a171 := Tryd.isAgg101
  z171 := Tryd.sizeOf101
  v171 := Tryd.zeroValue101
  t173 := Tryd.underlying104
  a173 := Tryd.isAgg104
  z173 := Tryd.sizeOf104
  v173 := Tryd.zeroValue104
  t212 := Tryd.underlying121
  a212 := Tryd.isAgg121
  z212 := Tryd.sizeOf121
  v212 := Tryd.zeroValue121
  t213 := Tryd.underlying122
  a213 := Tryd.isAgg122
  z213 := Tryd.sizeOf122
  t232 := Tryd.underlying147
  a232 := Tryd.isAgg147
  z232 := Tryd.sizeOf147
  v232 := Tryd.zeroValue147
  t233 := Tryd.underlying148
  a233 := Tryd.isAgg148
  z233 := Tryd.sizeOf148
  v233 := Tryd.zeroValue148
  g17 := by kernel_rfl
  g18 := by kernel_rfl
  g19 := by kernel_rfl
  i0 := by kernel_rfl
  i2 := by kernel_rfl
  i3 := by kernel_rfl
  i4 := by kernel_rfl
  i5 := by kernel_rfl
  i9 := by kernel_rfl
  i20 := by kernel_rfl
  i37 := by kernel_rfl
  i46 := by kernel_rfl
  i51 := by kernel_rfl
  i53 := by kernel_rfl
  i171 := by kernel_rfl
  i173 := by kernel_rfl
  i212 := by kernel_rfl
  i232 := by kernel_rfl
  i233 := by kernel_rfl
  m17 := by kernel_rfl
  m18 := by kernel_rfl
  m19 := by kernel_rfl }
open Go.RowKit Go.Sort Go.Lib in
theorem Tryd.strconv_Itoa (n : Int) (h0 : -9223372036854775808 ≤ n) (h1 : n ≤ 9223372036854775807) (w : World) (htab : Lib.TabIs Tryd.prog w "internal/strconv.uint64pow10" .u64 Lib.pow10Tab) :
    Calls Tryd.prog 34 #[.int .i64 n] w fun e w' => e = .returned (.string ⟨(Lib.itoa n).toArray⟩) ∧ ∃ k os, w' = grow (w.drewN k) os := Any.strconv_Itoa Tryd.laysM171 n h0 h1 w htab
end Go.Proofs.YtmepcmphcghbeaaDoor
namespace Go.Proofs.YtmepcmphcghbeaaDoor
open Go Go.RowKit
set_option maxRecDepth 100000
set_option maxHeartbeats 4000000
set_option linter.unusedSimpArgs false
set_option linter.unnecessarySimpa false
set_option linter.unusedVariables false
attribute [local irreducible] aops dRun
theorem Cont_pure (s : ByteArray) (c : UInt8) : APure Tryd.prog 32 [.v (.string s), .v (.string ⟨#[c]⟩)] (.v (.bool (decide (0 ≤ Lib.indexByte s.data.toList c)))) := by
  refine APure.ofCalls ⟨_, Tryd.func32, by kernel_rfl, by kernel_rfl⟩ (.cons (.v _) (.cons (.v _) .nil)) (.v _) fun E A w vs hgl hA hr => ?_
  obtain ⟨u, v, rfl, h1, h2⟩ := hr.two
  cases h1; cases h2
  refine (Tryd.strings_Contains_one s c w).mono ?_
  rintro e w' ⟨rfl, rfl⟩
  exact ⟨_, rfl, Below.refl _ _, .v _⟩
def itS (n : Int) : ByteArray := ofL (Lib.itoa n)
theorem TItoa_pure (n : Int) (h0 : -9223372036854775808 ≤ n) (h1 : n ≤ 9223372036854775807) : APure Tryd.prog 34 [.v (.int .i64 n)] (.v (.string (itS n))) := by
  refine APure.ofCalls ⟨_, Tryd.func34, by kernel_rfl, by kernel_rfl⟩ (.cons (.v _) .nil) (.v _) fun E A w vs hgl hA hr => ?_
  obtain ⟨u, rfl, h9⟩ := hr.one
  cases h9
  refine (Tryd.strconv_Itoa n h0 h1 w (hgl.tab gl_mem4 (by kernel_rfl) (by kernel_rfl))).mono ?_
  rintro e w' ⟨rfl, k, os, rfl⟩
  exact ⟨_, rfl, Lib.below_grow _ w (Nat.le_refl _) k os, .v _⟩
theorem itS_size (n : Int) (h0 : -9223372036854775808 ≤ n) (h1 : n ≤ 9223372036854775807) : (itS n).size ≤ 21 := by
  unfold itS; rw [ofL_size]; exact Lib.itoa_length_le n h0 h1
structure ActT where
  k : Int
  name : ByteArray
  p1 : Int
  p2 : Int
  text : ByteArray
  n : Int
  lb : Int
  ld : Int
  le : Int
def ActT.cells (a : ActT) : List AV := [.v (.int .i64 a.k), .v (.string a.name), .v (.int .i64 a.p1), .v (.int .i64 a.p2), .v (.string a.text), .v (.int .i64 a.n), .v (.int .i64 a.lb), .v (.int .i64 a.ld), .v (.int .i64 a.le)]
theorem ActT.dataAgg (a : ActT) : Data (.agg a.cells) := .agg (.cons (.v _) (.cons (.v _) (.cons (.v _) (.cons (.v _) (.cons (.v _) (.cons (.v _) (.cons (.v _) (.cons (.v _) (.cons (.v _) .nil)))))))))
def kndB (k : Int) : Bool := decide (1 ≤ k) && decide (k < 8)
def ActT.none (k : Int) : ActT := ⟨k, ByteArray.empty, 0, 0, ByteArray.empty, 0, 0, 0, 0⟩
def bareS (a o : ActT) (c : Nat) : ActT :=
  if c = 110 then { o with name := a.name } else if c = 116 then { o with text := a.text } else if c = 102 then { o with p1 := a.p1 } else if c = 111 then { o with p2 := a.p2 } else if c = 117 then { o with n := a.n }
  else if c = 108 then { o with lb := a.lb, ld := a.ld, le := a.le } else o
def bareK (a : ActT) (u : ByteArray) (k : Nat) : ActT := (u.data.toList.take k).foldl (fun o c => bareS a o c.toNat) (ActT.none a.k)
def bareA (a : ActT) (u : ByteArray) : ActT := u.data.toList.foldl (fun o c => bareS a o c.toNat) (ActT.none a.k)
theorem bareK_zero (a : ActT) (u : ByteArray) : bareK a u 0 = ActT.none a.k := rfl
theorem bareK_succ {a : ActT} {u : ByteArray} {k : Nat} (h : k < u.size) {c : UInt8} (hc : (u[k]?).getD 0 = c) : bareK a u (k + 1) = bareS a (bareK a u k) c.toNat := by
  unfold bareK
  rw [tk_succ h hc, List.foldl_append]; rfl
theorem bareK_all {a : ActT} {u : ByteArray} {k : Nat} (h : ¬ k < u.size) : bareK a u k = bareA a u := by
  unfold bareK bareA
  rw [List.take_of_length_le (by rw [Array.length_toList]; show u.size ≤ k; omega)]
def ascB (u : ByteArray) : Bool := u.data.toList.all fun c => decide (c.toNat < 128)
theorem asc_at {u : ByteArray} (h : ascB u = true) {k : Nat} (hk : k < u.size) : Utf8.decode u k = (((u[k]?).getD 0).toNat, 1) := by
  have h1 := byte_at hk
  have h2 : ((u[k]?).getD 0).toNat < 128 := of_decide_eq_true (List.all_eq_true.1 h _ (List.mem_of_getElem? h1))
  have h3 : (u[k]?).getD 0 = u[k] := by rw [getElem?_pos u k hk]; rfl
  rw [h3] at h2 ⊢
  exact decode_ascii u k hk h2
theorem TKnown_pure (k : Int) : APure Tryd.prog 27 [.v (.int .i64 k)] (.v (.bool (kndB k))) := by
  refine APure.mkL (.cons (.v _) .nil) (.v _) ?_
  refine ACalls_intro Tryd.func27 (by kernel_rfl) rfl (by rw [Tryd.ntmps27]; simp) (fun hm => ?_)
  simp only [Tryd.ntmps27, Tryd.results27, List.length_cons, List.length_nil, Nat.reduceAdd, Nat.reduceSub, List.replicate_succ, List.replicate_zero, List.cons_append, List.nil_append]
  refine AWp_seqK fun Y0 y0 => ?_
  refine AWp_region ?_
  simp only [↓bO, go_sem, seval]
  refine y0 _ ?_
  try clear y0 Y0
  refine AWp_seqK fun Y0 y0 => ?_
  refine AWp_region ?_
  iterate 3 (refine aops_chunk 1 fun Q0 q0 => ?_; simp only [↓bO, go_sem, seval]; refine q0 _ ?_; clear q0 Q0; simp only [go_sem])
  refine aops_case 5 rfl (fun hc5 => ?_) (fun hc5 => ?_)
  ·
   simp only [List.set_cons_zero, List.set_cons_succ]
   iterate 3 (refine aops_chunk 1 fun Q0 q0 => ?_; simp only [↓bO, go_sem, seval]; refine q0 _ ?_; clear q0 Q0; simp only [go_sem])
   simp only [↓bO, go_sem, seval]
   refine y0 _ ?_
   try clear y0 Y0
   refine AWp_ret ?_
   try simp only [thenQ, blockQ, noGotoQ, retQ, aRes, tupOf, bS, bA]
   refine Le.of_eq (congrArg (fun b => AV.v (.bool b)) ?_)
   simp_all [kndB]
   try omega
  ·
   simp only [List.set_cons_zero, List.set_cons_succ]
   iterate 3 (refine aops_chunk 1 fun Q0 q0 => ?_; simp only [↓bO, go_sem, seval]; refine q0 _ ?_; clear q0 Q0; simp only [go_sem])
   simp only [↓bO, go_sem, seval]
   refine y0 _ ?_
   try clear y0 Y0
   refine AWp_ret ?_
   try simp only [thenQ, blockQ, noGotoQ, retQ, aRes, tupOf, bS, bA]
   refine Le.of_eq (congrArg (fun b => AV.v (.bool b)) ?_)
   simp_all [kndB]
   try omega
theorem TBare_pure (a : ActT) (u : ByteArray) (hu : ascB u = true) (hs : u.size ≤ 1048576) : APure Tryd.prog 31 [.agg a.cells, .v (.string u)] (.agg (bareA a u).cells) := by
  refine APure.mkL (.cons a.dataAgg (.cons (.v _) .nil)) ((ActT.dataAgg _)) ?_
  refine ACalls_intro Tryd.func31 (by kernel_rfl) rfl (by rw [Tryd.ntmps31]; simp) (fun hm => ?_)
  simp only [Tryd.ntmps31, Tryd.results31, List.length_cons, List.length_nil, Nat.reduceAdd, Nat.reduceSub, List.replicate_succ, List.replicate_zero, List.cons_append, List.nil_append]
  refine AWp_seqK fun Y0 y0 => ?_
  refine AWp_region ?_
  refine aops_chunk 1 fun Q0 q0 => ?_
  simp only [↓bO, go_sem, seval, ActT.cells]
  refine q0 _ ?_
  clear q0 Q0
  simp only [go_sem]
  simp only [↓bO, go_sem, seval, ActT.cells]
  refine y0 _ ?_
  try clear y0 Y0
  refine AWp_seqK fun Y0 y0 => ?_
  refine AWp_region ?_
  iterate 4 (refine aops_chunk 1 fun Q0 q0 => ?_; simp only [↓bO, go_sem, seval, ActT.cells]; refine q0 _ ?_; clear q0 Q0; simp only [go_sem])
  simp only [↓bO, go_sem, seval, ActT.cells]
  refine y0 _ ?_
  try clear y0 Y0
  refine AWp_seqK fun Y0 y0 => ?_
  refine AWp_seqK fun Y1 y1 => ?_
  refine AWp_region ?_
  refine aops_chunk 1 fun Q0 q0 => ?_
  simp only [↓bO, go_sem, seval, ActT.cells]
  refine q0 _ ?_
  clear q0 Q0
  simp only [go_sem]
  simp only [↓bO, go_sem, seval, aRange, ActT.cells]
  refine y1 _ ?_
  try clear y1 Y1
  refine AWp_block ?_
  refine AWp_loopM (σ := Nat) (mB 48 4148) (fun k => k ≤ u.size) (fun k => []) (fun k => [(2, .cells 30 (bareK a u k).cells), (3, .raw (.stringIter u k))]) (fun k => u.size - k) 0 (by omega) ?_ (fun k hk => ?_)
  ·
   try simp only [maskL, setsL, putsO, putO, mB, List.set_cons_zero, List.set_cons_succ, seval, bareK_zero, ActT.none]
   exact Weak.mk (by simp only [go_sem, Le.refl, Le.any, Le.slNil, Int.natCast_add, Int.cast_ofNat_Int, Int.natCast_one]) (fun _ _ h => h) rfl rfl
  simp only [maskL, setsL, putsO, putO, mB, List.set_cons_zero, List.set_cons_succ, seval]
  refine AWp_seqK fun Y1 y1 => ?_
  refine AWp_region ?_
  refine aops_chunk 1 fun Q0 q0 => ?_
  simp only [↓bO, go_sem, seval, aNext, aExtract_next, ActT.cells]
  refine q0 _ ?_
  clear q0 Q0
  simp only [go_sem]
  simp only [↓bO, go_sem, seval, aExtract_tup, ActT.cells, aExtract_next]
  refine y1 _ ?_
  try clear y1 Y1
  refine AWp_seqK fun Y1 y1 => ?_
  refine AWp_cond rfl (fun hb14 => ?_) (fun hb14 => ?_)
  ·
   have hlt : k < u.size := (by have h9 := hb14; simpa using h9)
   obtain ⟨c, hc⟩ : ∃ c, (u[k]?).getD 0 = c := ⟨_, rfl⟩
   have hda := asc_at hu hlt
   rw [hc] at hda
   have hnv : nextV u k = .tup [.v (.bool true), .v (.int .i64 (k : Int)), .v (.int .i32 (c.toNat : Int))] := by rw [nextV, if_pos hlt, hda]
   have hnp : nextP u k = k + 1 := by rw [nextP, if_pos hlt, hda]
   have hbk := bareK_succ (a := a) hlt hc
   refine AWp_skip ?_
   try simp only [thenQ, blockQ, noGotoQ]
   refine y1 _ ?_
   try clear y1 Y1
   refine AWp_block ?_
   refine AWp_seqK fun Y1 y1 => ?_
   refine AWp_region ?_
   refine aops_chunk 1 fun Q0 q0 => ?_
   simp only [↓bO, go_sem, seval, aExtract_tup, ActT.cells, aExtract_next, hnv, hnp, hbk]
   refine q0 _ ?_
   clear q0 Q0
   simp only [go_sem]
   simp only [↓bO, go_sem, seval, ActT.cells, aExtract_next, hnv, hnp, hbk]
   refine y1 _ ?_
   try clear y1 Y1
   refine AWp_seqK fun Y1 y1 => ?_
   refine AWp_region ?_
   simp only [↓bO, go_sem, seval, ActT.cells, aExtract_next, hnv, hnp, hbk]
   refine y1 _ ?_
   try clear y1 Y1
   refine AWp_block ?_
   refine AWp_seqK fun Y1 y1 => ?_
   refine AWp_region ?_
   refine aops_chunk 1 fun Q0 q0 => ?_
   simp only [↓bO, go_sem, seval, ActT.cells, aExtract_next, hnv, hnp, hbk]
   refine q0 _ ?_
   clear q0 Q0
   simp only [go_sem]
   simp only [↓bO, go_sem, seval, ActT.cells, aExtract_next, hnv, hnp, hbk]
   refine y1 _ ?_
   try clear y1 Y1
   refine AWp_cond rfl (fun hb17 => ?_) (fun hb17 => ?_)
   ·
    have e110 : c.toNat = 110 := (by have h9 := hb17; simp at h9; omega)
    have hnx : bareS a (bareK a u k) c.toNat = { bareK a u k with name := a.name } := by (unfold bareS; rw [if_pos e110])
    refine AWp_region ?_
    iterate 3 (refine aops_chunk 1 fun Q0 q0 => ?_; simp only [↓bO, go_sem, seval, ActT.cells, aExtract_next, hnv, hnp, hbk, hnx]; refine q0 _ ?_; clear q0 Q0; simp only [go_sem])
    simp only [↓bO, go_sem, seval, ActT.cells, aExtract_next, hnv, hnp, hbk, hnx]
    refine ⟨(k + 1), (by omega), by omega, ?_⟩
    try simp only [maskL, setsL, putsO, putO, mB, List.set_cons_zero, List.set_cons_succ, seval, ActT.cells, aExtract_next, hnv, hnp, hbk, hnx]
    exact Weak.mk (by simp only [go_sem, Le.refl, Le.any, Le.slNil, Int.natCast_add, Int.cast_ofNat_Int, Int.natCast_one]) (fun _ _ h => h) rfl rfl
   ·
    have e110 : ¬ c.toNat = 110 := (by have h9 := hb17; simp at h9; omega)
    refine AWp_seqK fun Y1 y1 => ?_
    refine AWp_region ?_
    refine aops_chunk 1 fun Q0 q0 => ?_
    simp only [↓bO, go_sem, seval, ActT.cells, aExtract_next, hnv, hnp, hbk]
    refine q0 _ ?_
    clear q0 Q0
    simp only [go_sem]
    simp only [↓bO, go_sem, seval, ActT.cells, aExtract_next, hnv, hnp, hbk]
    refine y1 _ ?_
    try clear y1 Y1
    refine AWp_cond rfl (fun hb22 => ?_) (fun hb22 => ?_)
    ·
     have e116 : c.toNat = 116 := (by have h9 := hb22; simp at h9; omega)
     have hnx : bareS a (bareK a u k) c.toNat = { bareK a u k with text := a.text } := by (unfold bareS; rw [if_neg (by omega), if_pos e116])
     refine AWp_region ?_
     iterate 3 (refine aops_chunk 1 fun Q0 q0 => ?_; simp only [↓bO, go_sem, seval, ActT.cells, aExtract_next, hnv, hnp, hbk, hnx]; refine q0 _ ?_; clear q0 Q0; simp only [go_sem])
     simp only [↓bO, go_sem, seval, ActT.cells, aExtract_next, hnv, hnp, hbk, hnx]
     refine ⟨(k + 1), (by omega), by omega, ?_⟩
     try simp only [maskL, setsL, putsO, putO, mB, List.set_cons_zero, List.set_cons_succ, seval, ActT.cells, aExtract_next, hnv, hnp, hbk, hnx]
     exact Weak.mk (by simp only [go_sem, Le.refl, Le.any, Le.slNil, Int.natCast_add, Int.cast_ofNat_Int, Int.natCast_one]) (fun _ _ h => h) rfl rfl
    ·
     have e116 : ¬ c.toNat = 116 := (by have h9 := hb22; simp at h9; omega)
     refine AWp_seqK fun Y1 y1 => ?_
     refine AWp_region ?_
     refine aops_chunk 1 fun Q0 q0 => ?_
     simp only [↓bO, go_sem, seval, ActT.cells, aExtract_next, hnv, hnp, hbk]
     refine q0 _ ?_
     clear q0 Q0
     simp only [go_sem]
     simp only [↓bO, go_sem, seval, ActT.cells, aExtract_next, hnv, hnp, hbk]
     refine y1 _ ?_
     try clear y1 Y1
     refine AWp_cond rfl (fun hb27 => ?_) (fun hb27 => ?_)
     ·
      have e102 : c.toNat = 102 := (by have h9 := hb27; simp at h9; omega)
      have hnx : bareS a (bareK a u k) c.toNat = { bareK a u k with p1 := a.p1 } := by (unfold bareS; rw [if_neg (by omega), if_neg (by omega), if_pos e102])
      refine AWp_region ?_
      iterate 3 (refine aops_chunk 1 fun Q0 q0 => ?_; simp only [↓bO, go_sem, seval, ActT.cells, aExtract_next, hnv, hnp, hbk, hnx]; refine q0 _ ?_; clear q0 Q0; simp only [go_sem])
      simp only [↓bO, go_sem, seval, ActT.cells, aExtract_next, hnv, hnp, hbk, hnx]
      refine ⟨(k + 1), (by omega), by omega, ?_⟩
      try simp only [maskL, setsL, putsO, putO, mB, List.set_cons_zero, List.set_cons_succ, seval, ActT.cells, aExtract_next, hnv, hnp, hbk, hnx]
      exact Weak.mk (by simp only [go_sem, Le.refl, Le.any, Le.slNil, Int.natCast_add, Int.cast_ofNat_Int, Int.natCast_one]) (fun _ _ h => h) rfl rfl
     ·
      have e102 : ¬ c.toNat = 102 := (by have h9 := hb27; simp at h9; omega)
      refine AWp_seqK fun Y1 y1 => ?_
      refine AWp_region ?_
      refine aops_chunk 1 fun Q0 q0 => ?_
      simp only [↓bO, go_sem, seval, ActT.cells, aExtract_next, hnv, hnp, hbk]
      refine q0 _ ?_
      clear q0 Q0
      simp only [go_sem]
      simp only [↓bO, go_sem, seval, ActT.cells, aExtract_next, hnv, hnp, hbk]
      refine y1 _ ?_
      try clear y1 Y1
      refine AWp_cond rfl (fun hb32 => ?_) (fun hb32 => ?_)
      ·
       have e111 : c.toNat = 111 := (by have h9 := hb32; simp at h9; omega)
       have hnx : bareS a (bareK a u k) c.toNat = { bareK a u k with p2 := a.p2 } := by (unfold bareS; rw [if_neg (by omega), if_neg (by omega), if_neg (by omega), if_pos e111])
       refine AWp_region ?_
       iterate 3 (refine aops_chunk 1 fun Q0 q0 => ?_; simp only [↓bO, go_sem, seval, ActT.cells, aExtract_next, hnv, hnp, hbk, hnx]; refine q0 _ ?_; clear q0 Q0; simp only [go_sem])
       simp only [↓bO, go_sem, seval, ActT.cells, aExtract_next, hnv, hnp, hbk, hnx]
       refine ⟨(k + 1), (by omega), by omega, ?_⟩
       try simp only [maskL, setsL, putsO, putO, mB, List.set_cons_zero, List.set_cons_succ, seval, ActT.cells, aExtract_next, hnv, hnp, hbk, hnx]
       exact Weak.mk (by simp only [go_sem, Le.refl, Le.any, Le.slNil, Int.natCast_add, Int.cast_ofNat_Int, Int.natCast_one]) (fun _ _ h => h) rfl rfl
      ·
       have e111 : ¬ c.toNat = 111 := (by have h9 := hb32; simp at h9; omega)
       refine AWp_seqK fun Y1 y1 => ?_
       refine AWp_region ?_
       refine aops_chunk 1 fun Q0 q0 => ?_
       simp only [↓bO, go_sem, seval, ActT.cells, aExtract_next, hnv, hnp, hbk]
       refine q0 _ ?_
       clear q0 Q0
       simp only [go_sem]
       simp only [↓bO, go_sem, seval, ActT.cells, aExtract_next, hnv, hnp, hbk]
       refine y1 _ ?_
       try clear y1 Y1
       refine AWp_cond rfl (fun hb37 => ?_) (fun hb37 => ?_)
       ·
        have e117 : c.toNat = 117 := (by have h9 := hb37; simp at h9; omega)
        have hnx : bareS a (bareK a u k) c.toNat = { bareK a u k with n := a.n } := by (unfold bareS; rw [if_neg (by omega), if_neg (by omega), if_neg (by omega), if_neg (by omega), if_pos e117])
        refine AWp_region ?_
        iterate 3 (refine aops_chunk 1 fun Q0 q0 => ?_; simp only [↓bO, go_sem, seval, ActT.cells, aExtract_next, hnv, hnp, hbk, hnx]; refine q0 _ ?_; clear q0 Q0; simp only [go_sem])
        simp only [↓bO, go_sem, seval, ActT.cells, aExtract_next, hnv, hnp, hbk, hnx]
        refine ⟨(k + 1), (by omega), by omega, ?_⟩
        try simp only [maskL, setsL, putsO, putO, mB, List.set_cons_zero, List.set_cons_succ, seval, ActT.cells, aExtract_next, hnv, hnp, hbk, hnx]
        exact Weak.mk (by simp only [go_sem, Le.refl, Le.any, Le.slNil, Int.natCast_add, Int.cast_ofNat_Int, Int.natCast_one]) (fun _ _ h => h) rfl rfl
       ·
        have e117 : ¬ c.toNat = 117 := (by have h9 := hb37; simp at h9; omega)
        refine AWp_seqK fun Y1 y1 => ?_
        refine AWp_region ?_
        refine aops_chunk 1 fun Q0 q0 => ?_
        simp only [↓bO, go_sem, seval, ActT.cells, aExtract_next, hnv, hnp, hbk]
        refine q0 _ ?_
        clear q0 Q0
        simp only [go_sem]
        simp only [↓bO, go_sem, seval, ActT.cells, aExtract_next, hnv, hnp, hbk]
        refine y1 _ ?_
        try clear y1 Y1
        refine AWp_cond rfl (fun hb42 => ?_) (fun hb42 => ?_)
        ·
         have e108 : c.toNat = 108 := (by have h9 := hb42; simp at h9; omega)
         have hnx : bareS a (bareK a u k) c.toNat = { bareK a u k with lb := a.lb, ld := a.ld, le := a.le } := by (unfold bareS; rw [if_neg (by omega), if_neg (by omega), if_neg (by omega), if_neg (by omega), if_neg (by omega), if_pos e108])
         refine AWp_region ?_
         iterate 3 (refine aops_chunk 1 fun Q0 q0 => ?_; simp only [↓bO, go_sem, seval, ActT.cells, aExtract_next, hnv, hnp, hbk, hnx]; refine q0 _ ?_; clear q0 Q0; simp only [go_sem])
         simp only [↓bO, go_sem, seval, ActT.cells, aExtract_next, hnv, hnp, hbk, hnx]
         refine ⟨(k + 1), (by omega), by omega, ?_⟩
         try simp only [maskL, setsL, putsO, putO, mB, List.set_cons_zero, List.set_cons_succ, seval, ActT.cells, aExtract_next, hnv, hnp, hbk, hnx]
         exact Weak.mk (by simp only [go_sem, Le.refl, Le.any, Le.slNil, Int.natCast_add, Int.cast_ofNat_Int, Int.natCast_one]) (fun _ _ h => h) rfl rfl
        ·
         have e108 : ¬ c.toNat = 108 := (by have h9 := hb42; simp at h9; omega)
         have hnx : bareS a (bareK a u k) c.toNat = bareK a u k := by (unfold bareS; rw [if_neg e110, if_neg e116, if_neg e102, if_neg e111, if_neg e117, if_neg e108])
         refine AWp_skip ?_
         try simp only [thenQ, blockQ, noGotoQ]
         refine ⟨(k + 1), (by omega), by omega, ?_⟩
         try simp only [maskL, setsL, putsO, putO, mB, List.set_cons_zero, List.set_cons_succ, seval, ActT.cells, aExtract_next, hnv, hnp, hbk, hnx]
         exact Weak.mk (by simp only [go_sem, Le.refl, Le.any, Le.slNil, Int.natCast_add, Int.cast_ofNat_Int, Int.natCast_one]) (fun _ _ h => h) rfl rfl
  ·
   have hge : ¬ k < u.size := (by have h9 := hb14; simpa using h9)
   have hba := bareK_all (a := a) hge
   refine AWp_exit ?_
   simp only [thenQ, blockQ, noGotoQ, bA, Nat.reduceEqDiff, ↓reduceIte]
   refine y0 _ ?_
   try clear y0 Y0
   refine AWp_seqK fun Y0 y0 => ?_
   refine AWp_region ?_
   refine aops_chunk 1 fun Q0 q0 => ?_
   simp only [↓bO, go_sem, seval, ActT.cells, hba]
   refine q0 _ ?_
   clear q0 Q0
   simp only [go_sem]
   simp only [↓bO, go_sem, seval, ActT.cells, hba]
   refine y0 _ ?_
   try clear y0 Y0
   refine AWp_ret ?_
   try simp only [thenQ, blockQ, noGotoQ, retQ, aRes, tupOf, bS, bA, aLoad, getO, pack, bL, Nat.reduceAdd, Nat.reduceLeDiff, Nat.reduceEqDiff, ↓reduceIte, ti30, ActT.cells, hba]
   exact Le.refl _
end Go.Proofs.YtmepcmphcghbeaaDoor
namespace Go.Proofs.YtmepcmphcghbeaaDoor
open Go Go.RowKit
set_option linter.unusedSimpArgs false
set_option linter.unnecessarySimpa false
set_option linter.unusedVariables false
def tb (s : ByteArray) : List UInt8 := s.data.toList
theorem tb_ofL (l : List UInt8) : tb (ofL l) = l := rfl
theorem ofL_tb (s : ByteArray) : ofL (tb s) = s := ofL_back s
theorem tb_app (a b : ByteArray) : tb (a ++ b) = tb a ++ tb b := by simp [tb, ByteArray.data_append]
theorem tb_inj {a b : ByteArray} (h : tb a = tb b) : a = b := by rw [← ofL_tb a, ← ofL_tb b, h]
theorem tb_len (s : ByteArray) : (tb s).length = s.size := Array.length_toList
def quS (s : ByteArray) : ByteArray := ofL (quL (tb s))
def spS : ByteArray := ⟨#[32]⟩
def wdS (k : Int) : ByteArray :=
  if k = 1 then ⟨#[111, 112, 101, 110]⟩ else if k = 2 then ⟨#[101, 100, 105, 116]⟩ else if k = 3 then ⟨#[99, 108, 111, 115, 101]⟩ else if k = 4 then ⟨#[99, 104, 101, 99, 107]⟩
  else if k = 5 then ⟨#[114, 117, 110]⟩ else if k = 6 then ⟨#[108, 105, 109, 105, 116]⟩ else if k = 7 then ⟨#[108, 105, 115, 116]⟩ else ⟨#[]⟩
def usS (k : Int) : ByteArray :=
  if k = 1 then ⟨#[110, 116]⟩ else if k = 2 then ⟨#[110, 102, 111, 116]⟩ else if k = 3 then ⟨#[110]⟩ else if k = 4 then ⟨#[110]⟩
  else if k = 5 then ⟨#[110, 117]⟩ else if k = 6 then ⟨#[108]⟩ else ⟨#[]⟩
theorem kinds {k : Int} (h : kndB k = true) : k = 1 ∨ k = 2 ∨ k = 3 ∨ k = 4 ∨ k = 5 ∨ k = 6 ∨ k = 7 := by
  unfold kndB at h
  simp only [Bool.and_eq_true, decide_eq_true_eq] at h
  omega
def lineS (a : ActT) (w : ByteArray) (c : Nat) : ByteArray :=
  if c = 110 then w ++ (spS ++ a.name) else if c = 116 then w ++ (spS ++ quS a.text) else if c = 102 then w ++ (spS ++ itS a.p1) else if c = 111 then w ++ (spS ++ itS a.p2) else if c = 117 then w ++ (spS ++ itS a.n)
  else if c = 108 then w ++ (spS ++ itS a.lb ++ spS ++ itS a.ld ++ spS ++ itS a.le) else w
def lineF (a : ActT) (w : ByteArray) (l : List UInt8) : ByteArray := l.foldl (fun w c => lineS a w c.toNat) w
def ActT.ws (a : ActT) : List (List UInt8) :=
  if a.k = 1 then [tb (wdS 1), tb a.name, quL (tb a.text)] else if a.k = 2 then [tb (wdS 2), tb a.name, Lib.itoa a.p1, Lib.itoa a.p2, quL (tb a.text)]
  else if a.k = 3 then [tb (wdS 3), tb a.name] else if a.k = 4 then [tb (wdS 4), tb a.name] else if a.k = 5 then [tb (wdS 5), tb a.name, Lib.itoa a.n]
  else if a.k = 6 then [tb (wdS 6), Lib.itoa a.lb, Lib.itoa a.ld, Lib.itoa a.le] else [tb (wdS 7)]
def ActT.e1 (a : ActT) : Prop := a.k < 1 ∨ a.k > 7 ∨ (¬ (1 ≤ a.k ∧ a.k ≤ 5) ∧ a.name.size ≠ 0) ∨ ((1 ≤ a.k ∧ a.k ≤ 5) ∧ nameB a.name = false)
def ActT.e2 (a : ActT) : Prop := (a.k ≠ 2 ∧ (a.p1 ≠ 0 ∨ a.p2 ≠ 0)) ∨ (a.k > 2 ∧ a.text.size ≠ 0) ∨ (a.k ≠ 5 ∧ a.n ≠ 0) ∨ (a.k ≠ 6 ∧ ¬ (a.lb = 0 ∧ a.ld = 0 ∧ a.le = 0))
instance decE1 (a : ActT) : Decidable a.e1 := by unfold ActT.e1; infer_instance
instance decE2 (a : ActT) : Decidable a.e2 := by unfold ActT.e2; infer_instance
def ActT.err (a : ActT) : Int := if a.e1 then 1 else if a.e2 then 1 else if a.text.size > 4096 then 2 else 0
def ActT.text' (a : ActT) : ByteArray := ofL (joinW a.ws)
def ActT.line (a : ActT) : ByteArray := if a.err = 0 then a.text' else ByteArray.empty
def I64 (n : Int) : Prop := -9223372036854775808 ≤ n ∧ n ≤ 9223372036854775807
theorem I64.zero : I64 0 := ⟨by decide, by decide⟩
def ActT.fits (a : ActT) : Prop := I64 a.p1 ∧ I64 a.p2 ∧ I64 a.n ∧ I64 a.lb ∧ I64 a.ld ∧ I64 a.le
theorem itS_tb (n : Int) : tb (itS n) = Lib.itoa n := rfl
theorem lineF_all {a : ActT} (h : kndB a.k = true) : lineF a (wdS a.k) (tb (usS a.k)) = a.text' := by
  obtain ⟨k, name, p1, p2, text, n, lb, ld, le⟩ := a
  simp only at h ⊢
  apply tb_inj
  rcases kinds h with rfl | rfl | rfl | rfl | rfl | rfl | rfl
  · show tb (lineS _ (lineS _ (wdS 1) 110) 116) = _
    simp only [lineS, if_pos, Nat.reduceEqDiff, ↓reduceIte, tb_app, ActT.text', tb_ofL, ActT.ws, joinW, quS]
    simp [spS, tb]
  · show tb (lineS _ (lineS _ (lineS _ (lineS _ (wdS 2) 110) 102) 111) 116) = _
    simp only [lineS, if_pos, Nat.reduceEqDiff, ↓reduceIte, tb_app, ActT.text', tb_ofL, ActT.ws, joinW, quS, itS_tb, Int.reduceEq]
    simp [spS, tb]
  · show tb (lineS _ (wdS 3) 110) = _
    simp only [lineS, if_pos, Nat.reduceEqDiff, ↓reduceIte, tb_app, ActT.text', tb_ofL, ActT.ws, joinW, quS, itS_tb, Int.reduceEq]
    simp [spS, tb]
  · show tb (lineS _ (wdS 4) 110) = _
    simp only [lineS, if_pos, Nat.reduceEqDiff, ↓reduceIte, tb_app, ActT.text', tb_ofL, ActT.ws, joinW, quS, itS_tb, Int.reduceEq]
    simp [spS, tb]
  · show tb (lineS _ (lineS _ (wdS 5) 110) 117) = _
    simp only [lineS, if_pos, Nat.reduceEqDiff, ↓reduceIte, tb_app, ActT.text', tb_ofL, ActT.ws, joinW, quS, itS_tb, Int.reduceEq]
    simp [spS, tb]
  · show tb (lineS _ (wdS 6) 108) = _
    simp only [lineS, if_pos, Nat.reduceEqDiff, ↓reduceIte, tb_app, ActT.text', tb_ofL, ActT.ws, joinW, quS, itS_tb, Int.reduceEq]
    simp [spS, tb]
  · show tb (wdS 7) = _
    simp only [ActT.text', tb_ofL, ActT.ws, joinW, ↓reduceIte, Int.reduceEq]
def ActT.eqB (a b : ActT) : Bool := a.k == b.k && (a.name.toList == b.name.toList && (a.p1 == b.p1 && (a.p2 == b.p2 && (a.text.toList == b.text.toList && (a.n == b.n && (a.lb == b.lb && (a.ld == b.ld && a.le == b.le)))))))
theorem eqL_iff {a b : ByteArray} : (a.toList == b.toList) = true ↔ a = b := eqS_iff
theorem ActT.eqB_iff {a b : ActT} : a.eqB b = true ↔ a = b := by
  obtain ⟨k, name, p1, p2, text, n, lb, ld, le⟩ := a
  obtain ⟨k', name', p1', p2', text', n', lb', ld', le'⟩ := b
  unfold ActT.eqB
  simp only [Bool.and_eq_true, beq_iff_eq, ActT.mk.injEq]
  rw [← beq_iff_eq (a := name.toList), ← beq_iff_eq (a := text.toList), eqL_iff, eqL_iff]
def ActT.no (a : ActT) : Bool := !a.eqB (bareA a (usS a.k)) || (decide (0 ≤ Lib.indexByte (tb (usS a.k)) 110) && !nameB a.name)
theorem size0 {s : ByteArray} : s.size = 0 ↔ s = ByteArray.empty := by
  constructor
  · intro h
    apply tb_inj
    have := tb_len s
    rw [h] at this
    rw [List.eq_nil_of_length_eq_zero this]; rfl
  · rintro rfl; rfl
theorem ActT.no_iff {a : ActT} (h : kndB a.k = true) : a.no = true ↔ a.e1 ∨ a.e2 := by
  obtain ⟨k, name, p1, p2, text, n, lb, ld, le⟩ := a
  simp only at h
  unfold ActT.no
  simp only [Bool.or_eq_true, Bool.and_eq_true, Bool.not_eq_true', decide_eq_true_eq]
  rw [← Bool.not_eq_true, ActT.eqB_iff]
  rcases kinds h with rfl | rfl | rfl | rfl | rfl | rfl | rfl
  · have e : bareA ⟨1, name, p1, p2, text, n, lb, ld, le⟩ (usS 1) = ⟨1, name, 0, 0, text, 0, 0, 0, 0⟩ := rfl
    have i : (0 ≤ Lib.indexByte (tb (usS 1)) 110) = True := eq_true (by decide)
    simp only [e, i, ActT.e1, ActT.e2, ActT.mk.injEq, true_and, and_true, Ne, size0]
    grind
  · have e : bareA ⟨2, name, p1, p2, text, n, lb, ld, le⟩ (usS 2) = ⟨2, name, p1, p2, text, 0, 0, 0, 0⟩ := rfl
    have i : (0 ≤ Lib.indexByte (tb (usS 2)) 110) = True := eq_true (by decide)
    simp only [e, i, ActT.e1, ActT.e2, ActT.mk.injEq, true_and, and_true, Ne, size0]
    grind
  · have e : bareA ⟨3, name, p1, p2, text, n, lb, ld, le⟩ (usS 3) = ⟨3, name, 0, 0, ByteArray.empty, 0, 0, 0, 0⟩ := rfl
    have i : (0 ≤ Lib.indexByte (tb (usS 3)) 110) = True := eq_true (by decide)
    simp only [e, i, ActT.e1, ActT.e2, ActT.mk.injEq, true_and, and_true, Ne, size0]
    grind
  · have e : bareA ⟨4, name, p1, p2, text, n, lb, ld, le⟩ (usS 4) = ⟨4, name, 0, 0, ByteArray.empty, 0, 0, 0, 0⟩ := rfl
    have i : (0 ≤ Lib.indexByte (tb (usS 4)) 110) = True := eq_true (by decide)
    simp only [e, i, ActT.e1, ActT.e2, ActT.mk.injEq, true_and, and_true, Ne, size0]
    grind
  · have e : bareA ⟨5, name, p1, p2, text, n, lb, ld, le⟩ (usS 5) = ⟨5, name, 0, 0, ByteArray.empty, n, 0, 0, 0⟩ := rfl
    have i : (0 ≤ Lib.indexByte (tb (usS 5)) 110) = True := eq_true (by decide)
    simp only [e, i, ActT.e1, ActT.e2, ActT.mk.injEq, true_and, and_true, Ne, size0]
    grind
  · have e : bareA ⟨6, name, p1, p2, text, n, lb, ld, le⟩ (usS 6) = ⟨6, ByteArray.empty, 0, 0, ByteArray.empty, 0, lb, ld, le⟩ := rfl
    have i : (0 ≤ Lib.indexByte (tb (usS 6)) 110) = False := eq_false (by decide)
    simp only [e, i, ActT.e1, ActT.e2, ActT.mk.injEq, true_and, and_true, Ne, size0]
    grind
  · have e : bareA ⟨7, name, p1, p2, text, n, lb, ld, le⟩ (usS 7) = ⟨7, ByteArray.empty, 0, 0, ByteArray.empty, 0, 0, 0, 0⟩ := rfl
    have i : (0 ≤ Lib.indexByte (tb (usS 7)) 110) = False := eq_false (by decide)
    simp only [e, i, ActT.e1, ActT.e2, ActT.mk.injEq, true_and, and_true, Ne, size0]
    grind
theorem ActT.err_bad {a : ActT} (h : kndB a.k = false) : a.err = 1 := by
  unfold ActT.err
  refine if_pos ?_
  unfold kndB at h
  simp only [Bool.and_eq_false_iff, decide_eq_false_iff_not] at h
  unfold ActT.e1
  omega
theorem ActT.err_no {a : ActT} (h : kndB a.k = true) (h1 : a.no = true) : a.err = 1 := by
  unfold ActT.err
  rcases (ActT.no_iff h).1 h1 with h2 | h2
  · rw [if_pos h2]
  · rw [if_pos h2]; split <;> rfl
theorem ActT.err_yes {a : ActT} (h : kndB a.k = true) (h1 : a.no = false) : a.err = if a.text.size > 4096 then 2 else 0 := by
  have h2 : ¬ (a.e1 ∨ a.e2) := fun h9 => by rw [(ActT.no_iff h).2 h9] at h1; cases h1
  unfold ActT.err
  rw [if_neg fun h9 => h2 (.inl h9), if_neg fun h9 => h2 (.inr h9)]
theorem unq_qu (t : ByteArray) : (unqL (tb (ofL (quL (tb t))))).isSome = true ∧ unqS (ofL (quL (tb t))) = t := by
  have h := unqL_quL (tb t)
  unfold unqS
  rw [tb_ofL, ofL_data, h]
  exact ⟨rfl, ofL_tb t⟩
def lenOf (k : Int) : Nat := if k = 1 then 3 else if k = 2 then 5 else if k = 5 then 3 else if k = 6 then 4 else 2
end Go.Proofs.YtmepcmphcghbeaaDoor
namespace Go.Proofs.YtmepcmphcghbeaaDoor
open Go Go.RowKit
set_option maxRecDepth 100000
set_option maxHeartbeats 4000000
set_option linter.unusedSimpArgs false
set_option linter.unnecessarySimpa false
set_option linter.unusedVariables false
attribute [local irreducible] aops dRun
theorem gl_uses : glEv 0 = .eptr gv0 := by kernel_rfl
theorem ev_glob (st : St) (g : Nat) : st.ev (.global g) = glEv g := rfl
theorem uses_at {k : Int} (h : kndB k = true) : ∃ r, gv0.drop (k.toNat * 2) = .v (.string (wdS k)) :: .v (.string (usS k)) :: r := by
  rcases kinds h with rfl | rfl | rfl | rfl | rfl | rfl | rfl
  · exact ⟨gv0.drop 4, rfl⟩
  · exact ⟨gv0.drop 6, rfl⟩
  · exact ⟨gv0.drop 8, rfl⟩
  · exact ⟨gv0.drop 10, rfl⟩
  · exact ⟨gv0.drop 12, rfl⟩
  · exact ⟨gv0.drop 14, rfl⟩
  · exact ⟨gv0.drop 16, rfl⟩
theorem usS_asc (k : Int) : ascB (usS k) = true := by
  unfold usS
  repeat' split
  all_goals decide
theorem usS_size (k : Int) : (usS k).size ≤ 4 := by
  unfold usS
  repeat' split
  all_goals decide
theorem wdS_size (k : Int) : (wdS k).size ≤ 5 := by
  unfold wdS
  repeat' split
  all_goals decide
theorem quS_size (s : ByteArray) : (quS s).size ≤ 3 * s.size + 2 := by
  unfold quS
  rw [ofL_size]
  have := quL_len (tb s)
  rwa [tb_len] at this
def lineK (a : ActT) (k : Nat) : ByteArray := lineF a (wdS a.k) ((tb (usS a.k)).take k)
theorem lineK_zero (a : ActT) : lineK a 0 = wdS a.k := rfl
theorem lineK_succ {a : ActT} {k : Nat} (h : k < (usS a.k).size) {c : UInt8} (hc : ((usS a.k)[k]?).getD 0 = c) : lineK a (k + 1) = lineS a (lineK a k) c.toNat := by
  unfold lineK lineF tb
  rw [tk_succ h hc, List.foldl_append]; rfl
theorem lineK_all {a : ActT} (hk : kndB a.k = true) {k : Nat} (h : ¬ k < (usS a.k).size) : lineK a k = a.text' := by
  unfold lineK
  rw [List.take_of_length_le (by rw [tb_len]; omega)]
  exact lineF_all hk
theorem size_add (a b : ByteArray) : (a ++ b).size = a.size + b.size := ByteArray.size_append
theorem lineS_size {a : ActT} (hf : a.fits) (h1 : a.name.size ≤ 1048576) (h2 : a.text.size ≤ 4096) (w : ByteArray) (c : Nat) : (lineS a w c).size ≤ w.size + 1100000 := by
  obtain ⟨f1, f2, f3, f4, f5, f6⟩ := hf
  have e1 := itS_size a.p1 f1.1 f1.2
  have e2 := itS_size a.p2 f2.1 f2.2
  have e3 := itS_size a.n f3.1 f3.2
  have e4 := itS_size a.lb f4.1 f4.2
  have e5 := itS_size a.ld f5.1 f5.2
  have e6 := itS_size a.le f6.1 f6.2
  have e7 := quS_size a.text
  have e8 : spS.size = 1 := rfl
  unfold lineS
  repeat' split
  all_goals first | (simp only [size_add]; omega) | omega
theorem lineK_size {a : ActT} (hf : a.fits) (h1 : a.name.size ≤ 1048576) (h2 : a.text.size ≤ 4096) : ∀ k, k ≤ (usS a.k).size → (lineK a k).size ≤ 5 + k * 1100000
  | 0, _ => by rw [lineK_zero]; have := wdS_size a.k; omega
  | k + 1, hk => by
    rw [lineK_succ (by omega) rfl]
    have h3 := lineK_size hf h1 h2 k (by omega)
    have h4 := lineS_size hf h1 h2 (lineK a k) ((((usS a.k)[k]?).getD 0).toNat)
    omega
def lineA (a : ActT) : AV := .tup [.v (.string a.line), .v (.int .i64 a.err)]
theorem lineA_err {a : ActT} {e : Int} (h : a.err = e) (h1 : e ≠ 0) : lineA a = .tup [.v (.string ByteArray.empty), .v (.int .i64 e)] := by
  unfold lineA ActT.line
  rw [h, if_neg h1]
theorem lineA_ok {a : ActT} (h : a.err = 0) : lineA a = .tup [.v (.string a.text'), .v (.int .i64 0)] := by
  unfold lineA ActT.line
  rw [h, if_pos rfl]
theorem ActT.no1 {a : ActT} (h : (!a.eqB (bareA a (usS a.k))) = true) : a.no = true := by unfold ActT.no; rw [h]; rfl
theorem ActT.no2 {a : ActT} (h : decide (0 ≤ Lib.indexByte (tb (usS a.k)) 110) = true) (h1 : (!nameB a.name) = true) : a.no = true := by unfold ActT.no; rw [h, h1]; simp
theorem ActT.yes1 {a : ActT} (h : (!a.eqB (bareA a (usS a.k))) = false) (h1 : (!nameB a.name) = false) : a.no = false := by unfold ActT.no; rw [h, h1]; simp
theorem ActT.yes2 {a : ActT} (h : (!a.eqB (bareA a (usS a.k))) = false) (h1 : decide (0 ≤ Lib.indexByte (tb (usS a.k)) 110) = false) : a.no = false := by unfold ActT.no; rw [h, h1]; simp
theorem ActT.name20e {a : ActT} (h1 : ¬ a.e1) : a.name.size ≤ 20 := by
  unfold ActT.e1 at h1
  by_cases hk : 1 ≤ a.k ∧ a.k ≤ 5
  · cases hb : nameB a.name with
    | false => exact absurd (.inr (.inr (.inr ⟨hk, hb⟩))) h1
    | true =>
      unfold nameB at hb
      simp only [Bool.and_eq_true, decide_eq_true_eq] at hb
      exact hb.1.2
  · rcases Nat.eq_zero_or_pos a.name.size with h | h
    · omega
    · exact absurd (.inr (.inr (.inl ⟨hk, by omega⟩))) h1
theorem ActT.name20 {a : ActT} (h : kndB a.k = true) (h1 : a.no = false) : a.name.size ≤ 20 :=
  ActT.name20e fun h2 => by rw [(ActT.no_iff h).2 (.inl h2)] at h1; cases h1
theorem ActT.data (a : ActT) : DataL a.cells := .cons (.v _) (.cons (.v _) (.cons (.v _) (.cons (.v _) (.cons (.v _) (.cons (.v _) (.cons (.v _) (.cons (.v _) (.cons (.v _) .nil))))))))
theorem lineA_data (a : ActT) : Data (lineA a) := .tup (.cons (.v _) (.cons (.v _) .nil))
theorem TLine_pure (a : ActT) (hf : a.fits) (hn : a.name.size ≤ 9223372036854775807) (ht0 : a.text.size ≤ 9223372036854775807) : APure Tryd.prog 16 [.agg a.cells] (lineA a) := by
  refine APure.mkL (.cons a.dataAgg .nil) ((lineA_data a)) ?_
  refine ACalls_intro Tryd.func16 (by kernel_rfl) rfl (by rw [Tryd.ntmps16]; simp) (fun hm => ?_)
  simp only [Tryd.ntmps16, Tryd.results16, List.length_cons, List.length_nil, Nat.reduceAdd, Nat.reduceSub, List.replicate_succ, List.replicate_zero, List.cons_append, List.nil_append]
  have hf0 := hf
  obtain ⟨f1, f2, f3, f4, f5, f6⟩ := hf0
  refine AWp_joinZ (mB 108 2) ([(1, .eptr a.cells)]) [] 0 (True) ?_ (fun hC => ?_)
  ·
   refine AWp_region ?_
   iterate 2 (refine aops_chunk 1 fun Q0 q0 => ?_; simp only [↓bO, go_sem, seval, ActT.cells, gl_uses, ev_glob]; refine q0 _ ?_; clear q0 Q0; simp only [go_sem])
   simp only [↓bO, go_sem, seval, ActT.cells, gl_uses, ev_glob]
   try simp only [maskL, setsL, putsO, putO, mB, List.set_cons_zero, List.set_cons_succ, seval]
   first | refine ⟨trivial, ?_⟩ | skip
   refine Weak.freeze ?_ trivial (by first | omega | (simp only; omega)) (by first | omega | (simp only; omega)) ?_ ?_
   · repeat' first | trivial | exact .inr ⟨_, _, _, rfl, rfl, rfl, rfl⟩ | exact .inl (.refl _) | exact .inl (.any _) | (refine ⟨?_, ?_⟩)
   · repeat' first | exact trivial | exact .any _ | exact .v _ _ | exact .ptr (by omega) | exact Und.data (.eptr (ActT.data _)) | (refine ⟨?_, ?_⟩)
   · repeat' first | exact trivial | (with_reducible omega) | exact .v _ _ | (refine ⟨?_, ?_⟩)
  simp only [maskL, setsL, putsO, putO, mB, List.set_cons_zero, List.set_cons_succ, seval]
  refine AWp_seqK fun Y0 y0 => ?_
  refine AWp_seqK fun Y1 y1 => ?_
  refine AWp_region ?_
  iterate 2 (refine aops_chunk 1 fun Q0 q0 => ?_; simp only [↓bO, go_sem, seval, ActT.cells, gl_uses, ev_glob]; refine q0 _ ?_; clear q0 Q0; simp only [go_sem])
  refine aops_chunk 1 fun Q0 q0 => ?_
  simp only [↓bO, go_sem, seval, ActT.cells, gl_uses, ev_glob]
  refine APure.call (TKnown_pure a.k) ?_
  try simp only [bS, bA, thenQ, blockQ, noGotoQ]
  refine q0 _ ?_
  clear q0 Q0
  simp only [go_sem]
  simp only [↓bO, go_sem, seval, ActT.cells, gl_uses, ev_glob]
  refine y1 _ ?_
  try clear y1 Y1
  refine AWp_cond rfl (fun hb11 => ?_) (fun hb11 => ?_)
  ·
   have hk0 : kndB a.k = false := (by have h9 := hb11; simpa using h9)
   refine AWp_seqK fun Y1 y1 => ?_
   refine AWp_region ?_
   refine aops_chunk 1 fun Q0 q0 => ?_
   simp only [↓bO, go_sem, seval, ActT.cells, gl_uses, ev_glob]
   refine q0 _ ?_
   clear q0 Q0
   simp only [go_sem]
   simp only [↓bO, go_sem, seval, ActT.cells, gl_uses, ev_glob]
   refine y1 _ ?_
   try clear y1 Y1
   refine AWp_ret ?_
   try simp only [thenQ, blockQ, noGotoQ, retQ, aRes, tupOf, bS, bA]
   rw [lineA_err (ActT.err_bad hk0) (by decide)]
   exact Le.refl _
  ·
   have hk1 : kndB a.k = true := (by have h9 := hb11; simpa using h9)
   obtain ⟨r, hgk⟩ := uses_at hk1
   have hkk := kinds hk1
   have hkg : (0 ≤ a.k) = True := eq_true (by omega)
   have hkl : (a.k < 8) = True := eq_true (by omega)
   have hus := usS_size a.k
   refine AWp_skip ?_
   try simp only [thenQ, blockQ, noGotoQ]
   refine y0 _ ?_
   try clear y0 Y0
   refine AWp_seqK fun Y0 y0 => ?_
   refine RAny_start 12 rfl mixed ?_
   dsimp only
   refine RAny_takeK 0 rfl (by kernel_rfl) (by kernel_rfl) (by kernel_rfl) (fun _ _ h => h) fun Q0 q0 => ?_
   simp only [↓bO, go_sem, seval, rHead, isE, isPE, isSE, isSl, ActT.cells, gl_uses, ev_glob, hgk, hkg, hkl]
   refine q0 _ ?_
   clear q0 Q0
   refine RAny_takeK 1 rfl (by kernel_rfl) (by kernel_rfl) (by kernel_rfl) (fun _ _ h => h) fun Q0 q0 => ?_
   simp only [↓bO, go_sem, seval, rHead, isE, isPE, isSE, isSl, ActT.cells, gl_uses, ev_glob, hgk, hkg, hkl]
   refine q0 _ ?_
   clear q0 Q0
   refine RAny_takeK 2 rfl (by kernel_rfl) (by kernel_rfl) (by kernel_rfl) (fun _ _ h => h) fun Q0 q0 => ?_
   simp only [↓bO, go_sem, seval, rHead, isE, isPE, isSE, isSl, ActT.cells, gl_uses, ev_glob, hgk, hkg, hkl]
   refine q0 _ ?_
   clear q0 Q0
   refine RAny_takeK 3 rfl (by kernel_rfl) (by kernel_rfl) (by kernel_rfl) (fun _ _ h => h) fun Q0 q0 => ?_
   simp only [↓bO, go_sem, seval, rHead, isE, isPE, isSE, isSl, ActT.cells, gl_uses, ev_glob, hgk, hkg, hkl]
   refine q0 _ ?_
   clear q0 Q0
   refine RAny_takeK 4 rfl (by kernel_rfl) (by kernel_rfl) (by kernel_rfl) (fun _ _ h => h) fun Q0 q0 => ?_
   simp only [↓bO, go_sem, seval, rHead, isE, isPE, isSE, isSl, ActT.cells, gl_uses, ev_glob, hgk, hkg, hkl]
   refine q0 _ ?_
   clear q0 Q0
   refine RAny_takeK 5 rfl (by kernel_rfl) (by kernel_rfl) (by kernel_rfl) (fun _ _ h => h) fun Q0 q0 => ?_
   simp only [↓bO, go_sem, seval, rHead, isE, isPE, isSE, isSl, ActT.cells, gl_uses, ev_glob, hgk, hkg, hkl]
   refine q0 _ ?_
   clear q0 Q0
   refine RAny_takeK 6 rfl (by kernel_rfl) (by kernel_rfl) (by kernel_rfl) (fun _ _ h => h) fun Q0 q0 => ?_
   simp only [↓bO, go_sem, seval, rHead, isE, isPE, isSE, isSl, ActT.cells, gl_uses, ev_glob, hgk, hkg, hkl]
   refine q0 _ ?_
   clear q0 Q0
   refine RAny_takeK 7 rfl (by kernel_rfl) (by kernel_rfl) (by kernel_rfl) (fun _ _ h => h) fun Q0 q0 => ?_
   simp only [↓bO, go_sem, seval, rHead, isE, isPE, isSE, isSl, ActT.cells, gl_uses, ev_glob, hgk, hkg, hkl]
   refine q0 _ ?_
   clear q0 Q0
   refine RAny_takeK 8 rfl (by kernel_rfl) (by kernel_rfl) (by kernel_rfl) (fun _ _ h => h) fun Q0 q0 => ?_
   simp only [↓bO, go_sem, seval, rHead, isE, isPE, isSE, isSl, ActT.cells, gl_uses, ev_glob, hgk, hkg, hkl]
   refine q0 _ ?_
   clear q0 Q0
   refine RAny_takeK 9 rfl (by kernel_rfl) (by kernel_rfl) (by kernel_rfl) (fun _ _ h => h) fun Q0 q0 => ?_
   simp only [↓bO, go_sem, seval, rHead, isE, isPE, isSE, isSl, ActT.cells, gl_uses, ev_glob, hgk, hkg, hkl]
   refine q0 _ ?_
   clear q0 Q0
   refine RAny_rest ?_
   refine LAny_all1 (i := 10) (by kernel_rfl) ?_
   ·
    refine aAt_op rfl rfl fun Q0 q0 => ?_
    simp only [↓bO, go_sem, seval, ActT.cells, gl_uses, ev_glob, hgk, hkg, hkl]
    refine q0 _ ?_
    clear q0 Q0
    refine LAny_all1 (i := 11) (by kernel_rfl) ?_
    ·
     refine aAt_op rfl rfl fun Q0 q0 => ?_
     simp only [↓bO, go_sem, seval, ActT.cells, gl_uses, ev_glob, hgk, hkg, hkl]
     refine q0 _ ?_
     clear q0 Q0
     refine LAny_done (by kernel_rfl) ?_
     simp only [thenQ, blockQ, noGotoQ]
     refine y0 _ ?_
     try clear y0 Y0
     refine AWp_seqK fun Y0 y0 => ?_
     refine AWp_block ?_
     refine AWp_seqK fun Y1 y1 => ?_
     refine AWp_seqK fun Y2 y2 => ?_
     refine AWp_drawK 5 mixed (by kernel_rfl) fun J0 j0 => ?_
     iterate 3 (simp only [go_sem]; refine dRun_chunk 1 fun Q0 q0 => ?_; simp only [↓dRun, ↓dOp, ↓bO, go_sem, seval, ActT.cells, gl_uses, ev_glob, hgk, hkg, hkl]; refine q0 _ ?_; clear q0 Q0)
     simp only [go_sem]
     refine dRun_chunk 1 fun Q0 q0 => ?_
     simp only [↓dRun, ↓dOp, ↓bO, go_sem, seval, ActT.cells, gl_uses, ev_glob, hgk, hkg, hkl]
     refine ⟨_, TBare_pure a (usS a.k) (usS_asc _) (by omega), ?_⟩
     try simp only [bS, bA, thenQ, blockQ, noGotoQ]
     refine q0 _ ?_
     clear q0 Q0
     simp only [go_sem]
     simp only [↓dRun, ↓dOp, ↓bO, go_sem, seval, i2t30, aEq2, eqt30, ActT.cells, gl_uses, ev_glob, hgk, hkg, hkl]
     refine j0 _ ?_
     clear j0 J0
     simp only [go_sem]
     simp only [↓bO, go_sem, seval, ActT.cells, gl_uses, ev_glob, hgk, hkg, hkl]
     refine y2 _ ?_
     try clear y2 Y2
     refine AWp_cond rfl (fun hb22 => ?_) (fun hb22 => ?_)
     ·
      have hno : a.no = true := by (first | exact ActT.no1 hb22 | exact ActT.no2 hc30 hb22)
      refine AWp_skip ?_
      try simp only [thenQ, blockQ, noGotoQ]
      refine y1 _ ?_
      try clear y1 Y1
      refine AWp_cond (b := true) (by first | exact rfl | exact congrArg (fun b => AV.v (.bool b)) hb22) (fun _ => ?_) (fun h => (by cases h))
      refine AWp_seqK fun Y1 y1 => ?_
      refine AWp_region ?_
      refine aops_chunk 1 fun Q0 q0 => ?_
      simp only [↓bO, go_sem, seval, ActT.cells, gl_uses, ev_glob, hgk, hkg, hkl]
      refine q0 _ ?_
      clear q0 Q0
      simp only [go_sem]
      simp only [↓bO, go_sem, seval, ActT.cells, gl_uses, ev_glob, hgk, hkg, hkl]
      refine y1 _ ?_
      try clear y1 Y1
      refine AWp_ret ?_
      try simp only [thenQ, blockQ, noGotoQ, retQ, aRes, tupOf, bS, bA]
      rw [lineA_err (ActT.err_no hk1 hno) (by decide)]
      exact Le.refl _
     ·
      refine AWp_region ?_
      refine aops_chunk 1 fun Q0 q0 => ?_
      simp only [↓bO, go_sem, seval, ActT.cells, gl_uses, ev_glob, hgk, hkg, hkl]
      refine q0 _ ?_
      clear q0 Q0
      simp only [go_sem]
      refine aops_chunk 1 fun Q0 q0 => ?_
      simp only [↓bO, go_sem, seval, ActT.cells, gl_uses, ev_glob, hgk, hkg, hkl]
      refine APure.call (Cont_pure (usS a.k) 110) ?_
      try simp only [bS, bA, thenQ, blockQ, noGotoQ]
      refine q0 _ ?_
      clear q0 Q0
      simp only [go_sem]
      refine aops_chunk 1 fun Q0 q0 => ?_
      simp only [↓bO, go_sem, seval, ActT.cells, gl_uses, ev_glob, hgk, hkg, hkl]
      refine q0 _ ?_
      clear q0 Q0
      simp only [go_sem]
      refine aops_case 30 rfl (fun hc30 => ?_) (fun hc30 => ?_)
      ·
       simp only [List.set_cons_zero, List.set_cons_succ]
       have hE := hb22
       iterate 2 (refine aops_chunk 1 fun Q0 q0 => ?_; simp only [↓bO, go_sem, seval, ActT.cells, gl_uses, ev_glob, hgk, hkg, hkl]; refine q0 _ ?_; clear q0 Q0; simp only [go_sem])
       refine aops_chunk 1 fun Q0 q0 => ?_
       simp only [↓bO, go_sem, seval, ActT.cells, gl_uses, ev_glob, hgk, hkg, hkl]
       refine APure.call (LName_pure a.name hn) ?_
       try simp only [bS, bA, thenQ, blockQ, noGotoQ]
       iterate 2 (refine q0 _ ?_; clear q0 Q0; simp only [go_sem]; refine aops_chunk 1 fun Q0 q0 => ?_; simp only [↓bO, go_sem, seval, ActT.cells, gl_uses, ev_glob, hgk, hkg, hkl])
       refine q0 _ ?_
       clear q0 Q0
       simp only [go_sem]
       simp only [↓bO, go_sem, seval, ActT.cells, gl_uses, ev_glob, hgk, hkg, hkl]
       refine y1 _ ?_
       try clear y1 Y1
       refine AWp_cond rfl (fun hb22 => ?_) (fun hb22 => ?_)
       ·
        have hno : a.no = true := by (first | exact ActT.no1 hb22 | exact ActT.no2 hc30 hb22)
        refine AWp_seqK fun Y1 y1 => ?_
        refine AWp_region ?_
        refine aops_chunk 1 fun Q0 q0 => ?_
        simp only [↓bO, go_sem, seval, ActT.cells, gl_uses, ev_glob, hgk, hkg, hkl]
        refine q0 _ ?_
        clear q0 Q0
        simp only [go_sem]
        simp only [↓bO, go_sem, seval, ActT.cells, gl_uses, ev_glob, hgk, hkg, hkl]
        refine y1 _ ?_
        try clear y1 Y1
        refine AWp_ret ?_
        try simp only [thenQ, blockQ, noGotoQ, retQ, aRes, tupOf, bS, bA]
        rw [lineA_err (ActT.err_no hk1 hno) (by decide)]
        exact Le.refl _
       ·
        refine AWp_seqK fun Y1 y1 => ?_
        refine AWp_region ?_
        iterate 4 (refine aops_chunk 1 fun Q0 q0 => ?_; simp only [↓bO, go_sem, seval, ActT.cells, gl_uses, ev_glob, hgk, hkg, hkl]; refine q0 _ ?_; clear q0 Q0; simp only [go_sem])
        simp only [↓bO, go_sem, seval, ActT.cells, gl_uses, ev_glob, hgk, hkg, hkl]
        refine y1 _ ?_
        try clear y1 Y1
        refine AWp_cond rfl (fun hb36 => ?_) (fun hb36 => ?_)
        ·
         have hyes : a.no = false := by (first | exact ActT.yes1 hE hb22 | exact ActT.yes2 hE hc30)
         have hlong : a.text.size > 4096 := (by have h9 := hb36; simp at h9; omega)
         refine AWp_seqK fun Y1 y1 => ?_
         refine AWp_region ?_
         refine aops_chunk 1 fun Q0 q0 => ?_
         simp only [↓bO, go_sem, seval, ActT.cells, gl_uses, ev_glob, hgk, hkg, hkl]
         refine q0 _ ?_
         clear q0 Q0
         simp only [go_sem]
         simp only [↓bO, go_sem, seval, ActT.cells, gl_uses, ev_glob, hgk, hkg, hkl]
         refine y1 _ ?_
         try clear y1 Y1
         refine AWp_ret ?_
         try simp only [thenQ, blockQ, noGotoQ, retQ, aRes, tupOf, bS, bA]
         rw [lineA_err ((ActT.err_yes hk1 hyes).trans (if_pos hlong)) (by decide)]
         exact Le.refl _
        ·
         have hyes : a.no = false := by (first | exact ActT.yes1 hE hb22 | exact ActT.yes2 hE hc30)
         have ht : a.text.size ≤ 4096 := (by have h9 := hb36; simp at h9; omega)
         have hn20 := ActT.name20 hk1 hyes
         have hn1 : a.name.size ≤ 1048576 := by omega
         refine AWp_skip ?_
         try simp only [thenQ, blockQ, noGotoQ]
         refine y0 _ ?_
         try clear y0 Y0
         refine AWp_seqK fun Y0 y0 => ?_
         refine AWp_seqK fun Y1 y1 => ?_
         refine AWp_region ?_
         refine aops_chunk 1 fun Q0 q0 => ?_
         simp only [↓bO, go_sem, seval, ActT.cells, gl_uses, ev_glob, hgk, hkg, hkl]
         refine q0 _ ?_
         clear q0 Q0
         simp only [go_sem]
         simp only [↓bO, go_sem, seval, aRange, ActT.cells, gl_uses, ev_glob, hgk, hkg, hkl]
         refine y1 _ ?_
         try clear y1 Y1
         refine AWp_block ?_
         refine AWp_loopM (σ := Nat) (mB 108 4398046511122) (fun k => k ≤ (usS a.k).size) (fun k => [(4, .v (.string (lineK a k)))]) (fun k => [(0, .raw (.stringIter (usS a.k) k))]) (fun k => (usS a.k).size - k) 0 (by omega) ?_ (fun k hk => ?_)
         ·
          try simp only [maskL, setsL, putsO, putO, mB, List.set_cons_zero, List.set_cons_succ, seval, lineK_zero]
          exact Weak.mk (by simp only [go_sem, Le.refl, Le.any, Le.slNil, Int.natCast_add, Int.cast_ofNat_Int, Int.natCast_one]) (fun _ _ h => h) rfl rfl
         simp only [maskL, setsL, putsO, putO, mB, List.set_cons_zero, List.set_cons_succ, seval]
         refine AWp_seqK fun Y1 y1 => ?_
         refine AWp_region ?_
         refine aops_chunk 1 fun Q0 q0 => ?_
         simp only [↓bO, go_sem, seval, aNext, aExtract_next, ActT.cells, gl_uses, ev_glob, hgk, hkg, hkl]
         refine q0 _ ?_
         clear q0 Q0
         simp only [go_sem]
         simp only [↓bO, go_sem, seval, aExtract_tup, ActT.cells, gl_uses, ev_glob, hgk, hkg, hkl]
         refine y1 _ ?_
         try clear y1 Y1
         refine AWp_seqK fun Y1 y1 => ?_
         refine AWp_cond rfl (fun hb44 => ?_) (fun hb44 => ?_)
         ·
          have hlt : k < (usS a.k).size := (by have h9 := hb44; simpa using h9)
          obtain ⟨c, hc⟩ : ∃ c, ((usS a.k)[k]?).getD 0 = c := ⟨_, rfl⟩
          have hda := asc_at (usS_asc a.k) hlt
          rw [hc] at hda
          have hnv : nextV (usS a.k) k = .tup [.v (.bool true), .v (.int .i64 (k : Int)), .v (.int .i32 (c.toNat : Int))] := by rw [nextV, if_pos hlt, hda]
          have hnp : nextP (usS a.k) k = k + 1 := by rw [nextP, if_pos hlt, hda]
          have hbk := lineK_succ (a := a) hlt hc
          have hks := lineK_size hf hn1 ht k (by omega)
          have sp1 : ((⟨#[32]⟩ : ByteArray) : ByteArray).size = 1 := rfl
          have sp2 : (#[32] : Array UInt8).size = 1 := rfl
          have e1 := itS_size a.p1 f1.1 f1.2
          have e2 := itS_size a.p2 f2.1 f2.2
          have e3 := itS_size a.n f3.1 f3.2
          have e4 := itS_size a.lb f4.1 f4.2
          have e5 := itS_size a.ld f5.1 f5.2
          have e6 := itS_size a.le f6.1 f6.2
          have e7 := quS_size a.text
          have hqs : ofL (quL a.text.data.toList) = quS a.text := rfl
          refine AWp_skip ?_
          try simp only [thenQ, blockQ, noGotoQ]
          refine y1 _ ?_
          try clear y1 Y1
          refine AWp_block ?_
          refine AWp_seqK fun Y1 y1 => ?_
          refine AWp_region ?_
          refine aops_chunk 1 fun Q0 q0 => ?_
          simp only [↓bO, go_sem, seval, aExtract_tup, ActT.cells, gl_uses, ev_glob, hgk, hkg, hkl, hnv, hnp, hbk, hqs]
          refine q0 _ ?_
          clear q0 Q0
          simp only [go_sem]
          simp only [↓bO, go_sem, seval, ActT.cells, gl_uses, ev_glob, hgk, hkg, hkl, hnv, hnp, hbk, hqs]
          refine y1 _ ?_
          try clear y1 Y1
          refine AWp_seqK fun Y1 y1 => ?_
          refine AWp_region ?_
          simp only [↓bO, go_sem, seval, ActT.cells, gl_uses, ev_glob, hgk, hkg, hkl, hnv, hnp, hbk, hqs]
          refine y1 _ ?_
          try clear y1 Y1
          refine AWp_block ?_
          refine AWp_seqK fun Y1 y1 => ?_
          refine AWp_region ?_
          refine aops_chunk 1 fun Q0 q0 => ?_
          simp only [↓bO, go_sem, seval, ActT.cells, gl_uses, ev_glob, hgk, hkg, hkl, hnv, hnp, hbk, hqs]
          refine q0 _ ?_
          clear q0 Q0
          simp only [go_sem]
          simp only [↓bO, go_sem, seval, ActT.cells, gl_uses, ev_glob, hgk, hkg, hkl, hnv, hnp, hbk, hqs]
          refine y1 _ ?_
          try clear y1 Y1
          refine AWp_cond rfl (fun hb47 => ?_) (fun hb47 => ?_)
          ·
           have e110 : c.toNat = 110 := (by have h9 := hb47; simp at h9; omega)
           have hnx : lineS a (lineK a k) c.toNat = lineK a k ++ ((⟨#[32]⟩ : ByteArray) ++ a.name) := by (unfold lineS; rw [if_pos e110]; rfl)
           have hm1 : (((((#[32] : Array UInt8).size + (a.name).size) : Nat) : Int) ≤ IntKind.i64.max) = True := eq_true (by (show ((((#[32] : Array UInt8).size + (a.name).size) : Nat) : Int) ≤ 9223372036854775807); omega)
           have hm2 : (((((lineK a k).size + ((#[32] : Array UInt8).size + (a.name).size)) : Nat) : Int) ≤ IntKind.i64.max) = True := eq_true (by (show ((((lineK a k).size + ((#[32] : Array UInt8).size + (a.name).size)) : Nat) : Int) ≤ 9223372036854775807); omega)
           refine AWp_region ?_
           iterate 5 (refine aops_chunk 1 fun Q0 q0 => ?_; simp only [↓bO, go_sem, seval, ActT.cells, gl_uses, ev_glob, hgk, hkg, hkl, hnv, hnp, hbk, hqs, hnx, hm1, hm2]; refine q0 _ ?_; clear q0 Q0; simp only [go_sem])
           simp only [↓bO, go_sem, seval, ActT.cells, gl_uses, ev_glob, hgk, hkg, hkl, hnv, hnp, hbk, hqs, hnx, hm1, hm2]
           refine ⟨(k + 1), (by omega), by omega, ?_⟩
           try simp only [maskL, setsL, putsO, putO, mB, List.set_cons_zero, List.set_cons_succ, seval, ActT.cells, hgk, hkg, hkl, hnv, hnp, hbk, hqs, hnx, hm1, hm2]
           exact Weak.mk (by simp only [go_sem, Le.refl, Le.any, Le.slNil, Int.natCast_add, Int.cast_ofNat_Int, Int.natCast_one]) (fun _ _ h => h) rfl rfl
          ·
           have e110 : ¬ c.toNat = 110 := (by have h9 := hb47; simp at h9; omega)
           refine AWp_seqK fun Y1 y1 => ?_
           refine AWp_region ?_
           refine aops_chunk 1 fun Q0 q0 => ?_
           simp only [↓bO, go_sem, seval, ActT.cells, gl_uses, ev_glob, hgk, hkg, hkl, hnv, hnp, hbk, hqs]
           refine q0 _ ?_
           clear q0 Q0
           simp only [go_sem]
           simp only [↓bO, go_sem, seval, ActT.cells, gl_uses, ev_glob, hgk, hkg, hkl, hnv, hnp, hbk, hqs]
           refine y1 _ ?_
           try clear y1 Y1
           refine AWp_cond rfl (fun hb54 => ?_) (fun hb54 => ?_)
           ·
            have e116 : c.toNat = 116 := (by have h9 := hb54; simp at h9; omega)
            have hnx : lineS a (lineK a k) c.toNat = lineK a k ++ ((⟨#[32]⟩ : ByteArray) ++ quS a.text) := by (unfold lineS; rw [if_neg (by omega), if_pos e116]; rfl)
            have hm1 : (((((#[32] : Array UInt8).size + (quS a.text).size) : Nat) : Int) ≤ IntKind.i64.max) = True := eq_true (by (show ((((#[32] : Array UInt8).size + (quS a.text).size) : Nat) : Int) ≤ 9223372036854775807); omega)
            have hm2 : (((((lineK a k).size + ((#[32] : Array UInt8).size + (quS a.text).size)) : Nat) : Int) ≤ IntKind.i64.max) = True := eq_true (by (show ((((lineK a k).size + ((#[32] : Array UInt8).size + (quS a.text).size)) : Nat) : Int) ≤ 9223372036854775807); omega)
            refine AWp_region ?_
            iterate 3 (refine aops_chunk 1 fun Q0 q0 => ?_; simp only [↓bO, go_sem, seval, ActT.cells, gl_uses, ev_glob, hgk, hkg, hkl, hnv, hnp, hbk, hqs, hnx, hm1, hm2]; refine q0 _ ?_; clear q0 Q0; simp only [go_sem])
            refine aops_chunk 1 fun Q0 q0 => ?_
            simp only [↓bO, go_sem, seval, ActT.cells, gl_uses, ev_glob, hgk, hkg, hkl, hnv, hnp, hbk, hqs, hnx, hm1, hm2]
            refine APure.call (Quote_pure a.text (by omega)) ?_
            try simp only [bS, bA, thenQ, blockQ, noGotoQ]
            iterate 2 (refine q0 _ ?_; clear q0 Q0; simp only [go_sem]; refine aops_chunk 1 fun Q0 q0 => ?_; simp only [↓bO, go_sem, seval, ActT.cells, gl_uses, ev_glob, hgk, hkg, hkl, hnv, hnp, hbk, hqs, hnx, hm1, hm2])
            refine q0 _ ?_
            clear q0 Q0
            simp only [go_sem]
            simp only [↓bO, go_sem, seval, ActT.cells, gl_uses, ev_glob, hgk, hkg, hkl, hnv, hnp, hbk, hqs, hnx, hm1, hm2]
            refine ⟨(k + 1), (by omega), by omega, ?_⟩
            try simp only [maskL, setsL, putsO, putO, mB, List.set_cons_zero, List.set_cons_succ, seval, ActT.cells, hgk, hkg, hkl, hnv, hnp, hbk, hqs, hnx, hm1, hm2]
            exact Weak.mk (by simp only [go_sem, Le.refl, Le.any, Le.slNil, Int.natCast_add, Int.cast_ofNat_Int, Int.natCast_one]) (fun _ _ h => h) rfl rfl
           ·
            have e116 : ¬ c.toNat = 116 := (by have h9 := hb54; simp at h9; omega)
            refine AWp_seqK fun Y1 y1 => ?_
            refine AWp_region ?_
            refine aops_chunk 1 fun Q0 q0 => ?_
            simp only [↓bO, go_sem, seval, ActT.cells, gl_uses, ev_glob, hgk, hkg, hkl, hnv, hnp, hbk, hqs]
            refine q0 _ ?_
            clear q0 Q0
            simp only [go_sem]
            simp only [↓bO, go_sem, seval, ActT.cells, gl_uses, ev_glob, hgk, hkg, hkl, hnv, hnp, hbk, hqs]
            refine y1 _ ?_
            try clear y1 Y1
            refine AWp_cond rfl (fun hb62 => ?_) (fun hb62 => ?_)
            ·
             have e102 : c.toNat = 102 := (by have h9 := hb62; simp at h9; omega)
             have hnx : lineS a (lineK a k) c.toNat = lineK a k ++ ((⟨#[32]⟩ : ByteArray) ++ itS a.p1) := by (unfold lineS; rw [if_neg (by omega), if_neg (by omega), if_pos e102]; rfl)
             have hm1 : (((((#[32] : Array UInt8).size + (itS a.p1).size) : Nat) : Int) ≤ IntKind.i64.max) = True := eq_true (by (show ((((#[32] : Array UInt8).size + (itS a.p1).size) : Nat) : Int) ≤ 9223372036854775807); omega)
             have hm2 : (((((lineK a k).size + ((#[32] : Array UInt8).size + (itS a.p1).size)) : Nat) : Int) ≤ IntKind.i64.max) = True := eq_true (by (show ((((lineK a k).size + ((#[32] : Array UInt8).size + (itS a.p1).size)) : Nat) : Int) ≤ 9223372036854775807); omega)
             refine AWp_region ?_
             iterate 3 (refine aops_chunk 1 fun Q0 q0 => ?_; simp only [↓bO, go_sem, seval, ActT.cells, gl_uses, ev_glob, hgk, hkg, hkl, hnv, hnp, hbk, hqs, hnx, hm1, hm2]; refine q0 _ ?_; clear q0 Q0; simp only [go_sem])
             refine aops_chunk 1 fun Q0 q0 => ?_
             simp only [↓bO, go_sem, seval, ActT.cells, gl_uses, ev_glob, hgk, hkg, hkl, hnv, hnp, hbk, hqs, hnx, hm1, hm2]
             refine APure.call (TItoa_pure a.p1 f1.1 f1.2) ?_
             try simp only [bS, bA, thenQ, blockQ, noGotoQ]
             iterate 2 (refine q0 _ ?_; clear q0 Q0; simp only [go_sem]; refine aops_chunk 1 fun Q0 q0 => ?_; simp only [↓bO, go_sem, seval, ActT.cells, gl_uses, ev_glob, hgk, hkg, hkl, hnv, hnp, hbk, hqs, hnx, hm1, hm2])
             refine q0 _ ?_
             clear q0 Q0
             simp only [go_sem]
             simp only [↓bO, go_sem, seval, ActT.cells, gl_uses, ev_glob, hgk, hkg, hkl, hnv, hnp, hbk, hqs, hnx, hm1, hm2]
             refine ⟨(k + 1), (by omega), by omega, ?_⟩
             try simp only [maskL, setsL, putsO, putO, mB, List.set_cons_zero, List.set_cons_succ, seval, ActT.cells, hgk, hkg, hkl, hnv, hnp, hbk, hqs, hnx, hm1, hm2]
             exact Weak.mk (by simp only [go_sem, Le.refl, Le.any, Le.slNil, Int.natCast_add, Int.cast_ofNat_Int, Int.natCast_one]) (fun _ _ h => h) rfl rfl
            ·
             have e102 : ¬ c.toNat = 102 := (by have h9 := hb62; simp at h9; omega)
             refine AWp_seqK fun Y1 y1 => ?_
             refine AWp_region ?_
             refine aops_chunk 1 fun Q0 q0 => ?_
             simp only [↓bO, go_sem, seval, ActT.cells, gl_uses, ev_glob, hgk, hkg, hkl, hnv, hnp, hbk, hqs]
             refine q0 _ ?_
             clear q0 Q0
             simp only [go_sem]
             simp only [↓bO, go_sem, seval, ActT.cells, gl_uses, ev_glob, hgk, hkg, hkl, hnv, hnp, hbk, hqs]
             refine y1 _ ?_
             try clear y1 Y1
             refine AWp_cond rfl (fun hb70 => ?_) (fun hb70 => ?_)
             ·
              have e111 : c.toNat = 111 := (by have h9 := hb70; simp at h9; omega)
              have hnx : lineS a (lineK a k) c.toNat = lineK a k ++ ((⟨#[32]⟩ : ByteArray) ++ itS a.p2) := by (unfold lineS; rw [if_neg (by omega), if_neg (by omega), if_neg (by omega), if_pos e111]; rfl)
              have hm1 : (((((#[32] : Array UInt8).size + (itS a.p2).size) : Nat) : Int) ≤ IntKind.i64.max) = True := eq_true (by (show ((((#[32] : Array UInt8).size + (itS a.p2).size) : Nat) : Int) ≤ 9223372036854775807); omega)
              have hm2 : (((((lineK a k).size + ((#[32] : Array UInt8).size + (itS a.p2).size)) : Nat) : Int) ≤ IntKind.i64.max) = True := eq_true (by (show ((((lineK a k).size + ((#[32] : Array UInt8).size + (itS a.p2).size)) : Nat) : Int) ≤ 9223372036854775807); omega)
              refine AWp_region ?_
              iterate 3 (refine aops_chunk 1 fun Q0 q0 => ?_; simp only [↓bO, go_sem, seval, ActT.cells, gl_uses, ev_glob, hgk, hkg, hkl, hnv, hnp, hbk, hqs, hnx, hm1, hm2]; refine q0 _ ?_; clear q0 Q0; simp only [go_sem])
              refine aops_chunk 1 fun Q0 q0 => ?_
              simp only [↓bO, go_sem, seval, ActT.cells, gl_uses, ev_glob, hgk, hkg, hkl, hnv, hnp, hbk, hqs, hnx, hm1, hm2]
              refine APure.call (TItoa_pure a.p2 f2.1 f2.2) ?_
              try simp only [bS, bA, thenQ, blockQ, noGotoQ]
              iterate 2 (refine q0 _ ?_; clear q0 Q0; simp only [go_sem]; refine aops_chunk 1 fun Q0 q0 => ?_; simp only [↓bO, go_sem, seval, ActT.cells, gl_uses, ev_glob, hgk, hkg, hkl, hnv, hnp, hbk, hqs, hnx, hm1, hm2])
              refine q0 _ ?_
              clear q0 Q0
              simp only [go_sem]
              simp only [↓bO, go_sem, seval, ActT.cells, gl_uses, ev_glob, hgk, hkg, hkl, hnv, hnp, hbk, hqs, hnx, hm1, hm2]
              refine ⟨(k + 1), (by omega), by omega, ?_⟩
              try simp only [maskL, setsL, putsO, putO, mB, List.set_cons_zero, List.set_cons_succ, seval, ActT.cells, hgk, hkg, hkl, hnv, hnp, hbk, hqs, hnx, hm1, hm2]
              exact Weak.mk (by simp only [go_sem, Le.refl, Le.any, Le.slNil, Int.natCast_add, Int.cast_ofNat_Int, Int.natCast_one]) (fun _ _ h => h) rfl rfl
             ·
              have e111 : ¬ c.toNat = 111 := (by have h9 := hb70; simp at h9; omega)
              refine AWp_seqK fun Y1 y1 => ?_
              refine AWp_region ?_
              refine aops_chunk 1 fun Q0 q0 => ?_
              simp only [↓bO, go_sem, seval, ActT.cells, gl_uses, ev_glob, hgk, hkg, hkl, hnv, hnp, hbk, hqs]
              refine q0 _ ?_
              clear q0 Q0
              simp only [go_sem]
              simp only [↓bO, go_sem, seval, ActT.cells, gl_uses, ev_glob, hgk, hkg, hkl, hnv, hnp, hbk, hqs]
              refine y1 _ ?_
              try clear y1 Y1
              refine AWp_cond rfl (fun hb78 => ?_) (fun hb78 => ?_)
              ·
               have e117 : c.toNat = 117 := (by have h9 := hb78; simp at h9; omega)
               have hnx : lineS a (lineK a k) c.toNat = lineK a k ++ ((⟨#[32]⟩ : ByteArray) ++ itS a.n) := by (unfold lineS; rw [if_neg (by omega), if_neg (by omega), if_neg (by omega), if_neg (by omega), if_pos e117]; rfl)
               have hm1 : (((((#[32] : Array UInt8).size + (itS a.n).size) : Nat) : Int) ≤ IntKind.i64.max) = True := eq_true (by (show ((((#[32] : Array UInt8).size + (itS a.n).size) : Nat) : Int) ≤ 9223372036854775807); omega)
               have hm2 : (((((lineK a k).size + ((#[32] : Array UInt8).size + (itS a.n).size)) : Nat) : Int) ≤ IntKind.i64.max) = True := eq_true (by (show ((((lineK a k).size + ((#[32] : Array UInt8).size + (itS a.n).size)) : Nat) : Int) ≤ 9223372036854775807); omega)
               refine AWp_region ?_
               iterate 3 (refine aops_chunk 1 fun Q0 q0 => ?_; simp only [↓bO, go_sem, seval, ActT.cells, gl_uses, ev_glob, hgk, hkg, hkl, hnv, hnp, hbk, hqs, hnx, hm1, hm2]; refine q0 _ ?_; clear q0 Q0; simp only [go_sem])
               refine aops_chunk 1 fun Q0 q0 => ?_
               simp only [↓bO, go_sem, seval, ActT.cells, gl_uses, ev_glob, hgk, hkg, hkl, hnv, hnp, hbk, hqs, hnx, hm1, hm2]
               refine APure.call (TItoa_pure a.n f3.1 f3.2) ?_
               try simp only [bS, bA, thenQ, blockQ, noGotoQ]
               iterate 2 (refine q0 _ ?_; clear q0 Q0; simp only [go_sem]; refine aops_chunk 1 fun Q0 q0 => ?_; simp only [↓bO, go_sem, seval, ActT.cells, gl_uses, ev_glob, hgk, hkg, hkl, hnv, hnp, hbk, hqs, hnx, hm1, hm2])
               refine q0 _ ?_
               clear q0 Q0
               simp only [go_sem]
               simp only [↓bO, go_sem, seval, ActT.cells, gl_uses, ev_glob, hgk, hkg, hkl, hnv, hnp, hbk, hqs, hnx, hm1, hm2]
               refine ⟨(k + 1), (by omega), by omega, ?_⟩
               try simp only [maskL, setsL, putsO, putO, mB, List.set_cons_zero, List.set_cons_succ, seval, ActT.cells, hgk, hkg, hkl, hnv, hnp, hbk, hqs, hnx, hm1, hm2]
               exact Weak.mk (by simp only [go_sem, Le.refl, Le.any, Le.slNil, Int.natCast_add, Int.cast_ofNat_Int, Int.natCast_one]) (fun _ _ h => h) rfl rfl
              ·
               have e117 : ¬ c.toNat = 117 := (by have h9 := hb78; simp at h9; omega)
               refine AWp_seqK fun Y1 y1 => ?_
               refine AWp_region ?_
               refine aops_chunk 1 fun Q0 q0 => ?_
               simp only [↓bO, go_sem, seval, ActT.cells, gl_uses, ev_glob, hgk, hkg, hkl, hnv, hnp, hbk, hqs]
               refine q0 _ ?_
               clear q0 Q0
               simp only [go_sem]
               simp only [↓bO, go_sem, seval, ActT.cells, gl_uses, ev_glob, hgk, hkg, hkl, hnv, hnp, hbk, hqs]
               refine y1 _ ?_
               try clear y1 Y1
               refine AWp_cond rfl (fun hb86 => ?_) (fun hb86 => ?_)
               ·
                have e108 : c.toNat = 108 := (by have h9 := hb86; simp at h9; omega)
                have hnx : lineS a (lineK a k) c.toNat = lineK a k ++ ((⟨#[32]⟩ : ByteArray) ++ itS a.lb ++ (⟨#[32]⟩ : ByteArray) ++ itS a.ld ++ (⟨#[32]⟩ : ByteArray) ++ itS a.le) := by (unfold lineS; rw [if_neg (by omega), if_neg (by omega), if_neg (by omega), if_neg (by omega), if_neg (by omega), if_pos e108]; rfl)
                have hm1 : (((((#[32] : Array UInt8).size + (itS a.lb).size) : Nat) : Int) ≤ IntKind.i64.max) = True := eq_true (by (show ((((#[32] : Array UInt8).size + (itS a.lb).size) : Nat) : Int) ≤ 9223372036854775807); omega)
                have hm2 : ((((((#[32] : Array UInt8).size + (itS a.lb).size) + (#[32] : Array UInt8).size) : Nat) : Int) ≤ IntKind.i64.max) = True := eq_true (by (show (((((#[32] : Array UInt8).size + (itS a.lb).size) + (#[32] : Array UInt8).size) : Nat) : Int) ≤ 9223372036854775807); omega)
                have hm3 : (((((((#[32] : Array UInt8).size + (itS a.lb).size) + (#[32] : Array UInt8).size) + (itS a.ld).size) : Nat) : Int) ≤ IntKind.i64.max) = True := eq_true (by (show ((((((#[32] : Array UInt8).size + (itS a.lb).size) + (#[32] : Array UInt8).size) + (itS a.ld).size) : Nat) : Int) ≤ 9223372036854775807); omega)
                have hm4 : ((((((((#[32] : Array UInt8).size + (itS a.lb).size) + (#[32] : Array UInt8).size) + (itS a.ld).size) + (#[32] : Array UInt8).size) : Nat) : Int) ≤ IntKind.i64.max) = True := eq_true (by (show (((((((#[32] : Array UInt8).size + (itS a.lb).size) + (#[32] : Array UInt8).size) + (itS a.ld).size) + (#[32] : Array UInt8).size) : Nat) : Int) ≤ 9223372036854775807); omega)
                have hm5 : (((((((((#[32] : Array UInt8).size + (itS a.lb).size) + (#[32] : Array UInt8).size) + (itS a.ld).size) + (#[32] : Array UInt8).size) + (itS a.le).size) : Nat) : Int) ≤ IntKind.i64.max) = True := eq_true (by (show ((((((((#[32] : Array UInt8).size + (itS a.lb).size) + (#[32] : Array UInt8).size) + (itS a.ld).size) + (#[32] : Array UInt8).size) + (itS a.le).size) : Nat) : Int) ≤ 9223372036854775807); omega)
                have hm6 : (((((lineK a k).size + ((((((#[32] : Array UInt8).size + (itS a.lb).size) + (#[32] : Array UInt8).size) + (itS a.ld).size) + (#[32] : Array UInt8).size) + (itS a.le).size)) : Nat) : Int) ≤ IntKind.i64.max) = True := eq_true (by (show ((((lineK a k).size + ((((((#[32] : Array UInt8).size + (itS a.lb).size) + (#[32] : Array UInt8).size) + (itS a.ld).size) + (#[32] : Array UInt8).size) + (itS a.le).size)) : Nat) : Int) ≤ 9223372036854775807); omega)
                refine AWp_drawK 19 mixed (by kernel_rfl) fun J0 j0 => ?_
                iterate 4 (simp only [go_sem]; refine dRun_chunk 1 fun Q0 q0 => ?_; simp only [↓dRun, ↓dOp, ↓bO, go_sem, seval, ActT.cells, gl_uses, ev_glob, hgk, hkg, hkl, hnv, hnp, hbk, hqs, hnx, hm1, hm2, hm3, hm4, hm5, hm6]; refine q0 _ ?_; clear q0 Q0)
                simp only [go_sem]
                refine dRun_chunk 1 fun Q0 q0 => ?_
                simp only [↓dRun, ↓dOp, ↓bO, go_sem, seval, ActT.cells, gl_uses, ev_glob, hgk, hkg, hkl, hnv, hnp, hbk, hqs, hnx, hm1, hm2, hm3, hm4, hm5, hm6]
                refine ⟨_, TItoa_pure a.lb f4.1 f4.2, ?_⟩
                try simp only [bS, bA, thenQ, blockQ, noGotoQ]
                iterate 6 (refine q0 _ ?_; clear q0 Q0; simp only [go_sem]; refine dRun_chunk 1 fun Q0 q0 => ?_; simp only [↓dRun, ↓dOp, ↓bO, go_sem, seval, ActT.cells, gl_uses, ev_glob, hgk, hkg, hkl, hnv, hnp, hbk, hqs, hnx, hm1, hm2, hm3, hm4, hm5, hm6])
                refine ⟨_, TItoa_pure a.ld f5.1 f5.2, ?_⟩
                try simp only [bS, bA, thenQ, blockQ, noGotoQ]
                iterate 6 (refine q0 _ ?_; clear q0 Q0; simp only [go_sem]; refine dRun_chunk 1 fun Q0 q0 => ?_; simp only [↓dRun, ↓dOp, ↓bO, go_sem, seval, ActT.cells, gl_uses, ev_glob, hgk, hkg, hkl, hnv, hnp, hbk, hqs, hnx, hm1, hm2, hm3, hm4, hm5, hm6])
                refine ⟨_, TItoa_pure a.le f6.1 f6.2, ?_⟩
                try simp only [bS, bA, thenQ, blockQ, noGotoQ]
                refine q0 _ ?_
                clear q0 Q0
                simp only [go_sem]
                refine dRun_chunk 1 fun Q0 q0 => ?_
                simp only [↓dRun, ↓dOp, ↓bO, go_sem, seval, ActT.cells, gl_uses, ev_glob, hgk, hkg, hkl, hnv, hnp, hbk, hqs, hnx, hm1, hm2, hm3, hm4, hm5, hm6]
                refine q0 _ ?_
                clear q0 Q0
                simp only [go_sem]
                simp only [↓dRun, ↓dOp, ↓bO, go_sem, seval, ActT.cells, gl_uses, ev_glob, hgk, hkg, hkl, hnv, hnp, hbk, hqs, hnx, hm1, hm2, hm3, hm4, hm5, hm6]
                refine j0 _ ?_
                clear j0 J0
                simp only [go_sem]
                simp only [↓bO, go_sem, seval, ActT.cells, gl_uses, ev_glob, hgk, hkg, hkl, hnv, hnp, hbk, hqs, hnx, hm1, hm2, hm3, hm4, hm5, hm6]
                refine ⟨(k + 1), (by omega), by omega, ?_⟩
                try simp only [maskL, setsL, putsO, putO, mB, List.set_cons_zero, List.set_cons_succ, seval, ActT.cells, hgk, hkg, hkl, hnv, hnp, hbk, hqs, hnx, hm1, hm2, hm3, hm4, hm5, hm6]
                exact Weak.mk (by simp only [go_sem, Le.refl, Le.any, Le.slNil, Int.natCast_add, Int.cast_ofNat_Int, Int.natCast_one]) (fun _ _ h => h) rfl rfl
               ·
                have e108 : ¬ c.toNat = 108 := (by have h9 := hb86; simp at h9; omega)
                have hnx : lineS a (lineK a k) c.toNat = lineK a k := by (unfold lineS; rw [if_neg e110, if_neg e116, if_neg e102, if_neg e111, if_neg e117, if_neg e108])
                refine AWp_skip ?_
                try simp only [thenQ, blockQ, noGotoQ]
                refine ⟨(k + 1), (by omega), by omega, ?_⟩
                try simp only [maskL, setsL, putsO, putO, mB, List.set_cons_zero, List.set_cons_succ, seval, ActT.cells, hgk, hkg, hkl, hnv, hnp, hbk, hqs, hnx]
                exact Weak.mk (by simp only [go_sem, Le.refl, Le.any, Le.slNil, Int.natCast_add, Int.cast_ofNat_Int, Int.natCast_one]) (fun _ _ h => h) rfl rfl
         ·
          have hge : ¬ k < (usS a.k).size := (by have h9 := hb44; simpa using h9)
          have hba := lineK_all hk1 hge
          refine AWp_exit ?_
          simp only [thenQ, blockQ, noGotoQ, bA, Nat.reduceEqDiff, ↓reduceIte]
          refine y0 _ ?_
          try clear y0 Y0
          refine AWp_seqK fun Y0 y0 => ?_
          refine AWp_region ?_
          iterate 2 (refine aops_chunk 1 fun Q0 q0 => ?_; simp only [↓bO, go_sem, seval, ActT.cells, gl_uses, ev_glob, hgk, hkg, hkl, hba]; refine q0 _ ?_; clear q0 Q0; simp only [go_sem])
          simp only [↓bO, go_sem, seval, ActT.cells, gl_uses, ev_glob, hgk, hkg, hkl, hba]
          refine y0 _ ?_
          try clear y0 Y0
          refine AWp_ret ?_
          try simp only [thenQ, blockQ, noGotoQ, retQ, aRes, tupOf, bS, bA]
          rw [lineA_ok ((ActT.err_yes hk1 hyes).trans (if_neg (by omega)))]
          exact Le.refl _
      ·
       simp only [List.set_cons_zero, List.set_cons_succ]
       have hE := hb22
       iterate 5 (refine aops_chunk 1 fun Q0 q0 => ?_; simp only [↓bO, go_sem, seval, ActT.cells, gl_uses, ev_glob, hgk, hkg, hkl]; refine q0 _ ?_; clear q0 Q0; simp only [go_sem])
       simp only [↓bO, go_sem, seval, ActT.cells, gl_uses, ev_glob, hgk, hkg, hkl]
       refine y1 _ ?_
       try clear y1 Y1
       refine AWp_cond (b := false) (by first | exact rfl | exact congrArg (fun b => AV.v (.bool b)) hb22) (fun h => (by cases h)) (fun _ => ?_)
       refine AWp_seqK fun Y1 y1 => ?_
       refine AWp_region ?_
       iterate 4 (refine aops_chunk 1 fun Q0 q0 => ?_; simp only [↓bO, go_sem, seval, ActT.cells, gl_uses, ev_glob, hgk, hkg, hkl]; refine q0 _ ?_; clear q0 Q0; simp only [go_sem])
       simp only [↓bO, go_sem, seval, ActT.cells, gl_uses, ev_glob, hgk, hkg, hkl]
       refine y1 _ ?_
       try clear y1 Y1
       refine AWp_cond rfl (fun hb36 => ?_) (fun hb36 => ?_)
       ·
        have hyes : a.no = false := by (first | exact ActT.yes1 hE hb22 | exact ActT.yes2 hE hc30)
        have hlong : a.text.size > 4096 := (by have h9 := hb36; simp at h9; omega)
        refine AWp_seqK fun Y1 y1 => ?_
        refine AWp_region ?_
        refine aops_chunk 1 fun Q0 q0 => ?_
        simp only [↓bO, go_sem, seval, ActT.cells, gl_uses, ev_glob, hgk, hkg, hkl]
        refine q0 _ ?_
        clear q0 Q0
        simp only [go_sem]
        simp only [↓bO, go_sem, seval, ActT.cells, gl_uses, ev_glob, hgk, hkg, hkl]
        refine y1 _ ?_
        try clear y1 Y1
        refine AWp_ret ?_
        try simp only [thenQ, blockQ, noGotoQ, retQ, aRes, tupOf, bS, bA]
        rw [lineA_err ((ActT.err_yes hk1 hyes).trans (if_pos hlong)) (by decide)]
        exact Le.refl _
       ·
        have hyes : a.no = false := by (first | exact ActT.yes1 hE hb22 | exact ActT.yes2 hE hc30)
        have ht : a.text.size ≤ 4096 := (by have h9 := hb36; simp at h9; omega)
        have hn20 := ActT.name20 hk1 hyes
        have hn1 : a.name.size ≤ 1048576 := by omega
        refine AWp_skip ?_
        try simp only [thenQ, blockQ, noGotoQ]
        refine y0 _ ?_
        try clear y0 Y0
        refine AWp_seqK fun Y0 y0 => ?_
        refine AWp_seqK fun Y1 y1 => ?_
        refine AWp_region ?_
        refine aops_chunk 1 fun Q0 q0 => ?_
        simp only [↓bO, go_sem, seval, ActT.cells, gl_uses, ev_glob, hgk, hkg, hkl]
        refine q0 _ ?_
        clear q0 Q0
        simp only [go_sem]
        simp only [↓bO, go_sem, seval, aRange, ActT.cells, gl_uses, ev_glob, hgk, hkg, hkl]
        refine y1 _ ?_
        try clear y1 Y1
        refine AWp_block ?_
        refine AWp_loopM (σ := Nat) (mB 108 4398046511122) (fun k => k ≤ (usS a.k).size) (fun k => [(4, .v (.string (lineK a k)))]) (fun k => [(0, .raw (.stringIter (usS a.k) k))]) (fun k => (usS a.k).size - k) 0 (by omega) ?_ (fun k hk => ?_)
        ·
         try simp only [maskL, setsL, putsO, putO, mB, List.set_cons_zero, List.set_cons_succ, seval, lineK_zero]
         exact Weak.mk (by simp only [go_sem, Le.refl, Le.any, Le.slNil, Int.natCast_add, Int.cast_ofNat_Int, Int.natCast_one]) (fun _ _ h => h) rfl rfl
        simp only [maskL, setsL, putsO, putO, mB, List.set_cons_zero, List.set_cons_succ, seval]
        refine AWp_seqK fun Y1 y1 => ?_
        refine AWp_region ?_
        refine aops_chunk 1 fun Q0 q0 => ?_
        simp only [↓bO, go_sem, seval, aNext, aExtract_next, ActT.cells, gl_uses, ev_glob, hgk, hkg, hkl]
        refine q0 _ ?_
        clear q0 Q0
        simp only [go_sem]
        simp only [↓bO, go_sem, seval, aExtract_tup, ActT.cells, gl_uses, ev_glob, hgk, hkg, hkl]
        refine y1 _ ?_
        try clear y1 Y1
        refine AWp_seqK fun Y1 y1 => ?_
        refine AWp_cond rfl (fun hb44 => ?_) (fun hb44 => ?_)
        ·
         have hlt : k < (usS a.k).size := (by have h9 := hb44; simpa using h9)
         obtain ⟨c, hc⟩ : ∃ c, ((usS a.k)[k]?).getD 0 = c := ⟨_, rfl⟩
         have hda := asc_at (usS_asc a.k) hlt
         rw [hc] at hda
         have hnv : nextV (usS a.k) k = .tup [.v (.bool true), .v (.int .i64 (k : Int)), .v (.int .i32 (c.toNat : Int))] := by rw [nextV, if_pos hlt, hda]
         have hnp : nextP (usS a.k) k = k + 1 := by rw [nextP, if_pos hlt, hda]
         have hbk := lineK_succ (a := a) hlt hc
         have hks := lineK_size hf hn1 ht k (by omega)
         have sp1 : ((⟨#[32]⟩ : ByteArray) : ByteArray).size = 1 := rfl
         have sp2 : (#[32] : Array UInt8).size = 1 := rfl
         have e1 := itS_size a.p1 f1.1 f1.2
         have e2 := itS_size a.p2 f2.1 f2.2
         have e3 := itS_size a.n f3.1 f3.2
         have e4 := itS_size a.lb f4.1 f4.2
         have e5 := itS_size a.ld f5.1 f5.2
         have e6 := itS_size a.le f6.1 f6.2
         have e7 := quS_size a.text
         have hqs : ofL (quL a.text.data.toList) = quS a.text := rfl
         refine AWp_skip ?_
         try simp only [thenQ, blockQ, noGotoQ]
         refine y1 _ ?_
         try clear y1 Y1
         refine AWp_block ?_
         refine AWp_seqK fun Y1 y1 => ?_
         refine AWp_region ?_
         refine aops_chunk 1 fun Q0 q0 => ?_
         simp only [↓bO, go_sem, seval, aExtract_tup, ActT.cells, gl_uses, ev_glob, hgk, hkg, hkl, hnv, hnp, hbk, hqs]
         refine q0 _ ?_
         clear q0 Q0
         simp only [go_sem]
         simp only [↓bO, go_sem, seval, ActT.cells, gl_uses, ev_glob, hgk, hkg, hkl, hnv, hnp, hbk, hqs]
         refine y1 _ ?_
         try clear y1 Y1
         refine AWp_seqK fun Y1 y1 => ?_
         refine AWp_region ?_
         simp only [↓bO, go_sem, seval, ActT.cells, gl_uses, ev_glob, hgk, hkg, hkl, hnv, hnp, hbk, hqs]
         refine y1 _ ?_
         try clear y1 Y1
         refine AWp_block ?_
         refine AWp_seqK fun Y1 y1 => ?_
         refine AWp_region ?_
         refine aops_chunk 1 fun Q0 q0 => ?_
         simp only [↓bO, go_sem, seval, ActT.cells, gl_uses, ev_glob, hgk, hkg, hkl, hnv, hnp, hbk, hqs]
         refine q0 _ ?_
         clear q0 Q0
         simp only [go_sem]
         simp only [↓bO, go_sem, seval, ActT.cells, gl_uses, ev_glob, hgk, hkg, hkl, hnv, hnp, hbk, hqs]
         refine y1 _ ?_
         try clear y1 Y1
         refine AWp_cond rfl (fun hb47 => ?_) (fun hb47 => ?_)
         ·
          have e110 : c.toNat = 110 := (by have h9 := hb47; simp at h9; omega)
          have hnx : lineS a (lineK a k) c.toNat = lineK a k ++ ((⟨#[32]⟩ : ByteArray) ++ a.name) := by (unfold lineS; rw [if_pos e110]; rfl)
          have hm1 : (((((#[32] : Array UInt8).size + (a.name).size) : Nat) : Int) ≤ IntKind.i64.max) = True := eq_true (by (show ((((#[32] : Array UInt8).size + (a.name).size) : Nat) : Int) ≤ 9223372036854775807); omega)
          have hm2 : (((((lineK a k).size + ((#[32] : Array UInt8).size + (a.name).size)) : Nat) : Int) ≤ IntKind.i64.max) = True := eq_true (by (show ((((lineK a k).size + ((#[32] : Array UInt8).size + (a.name).size)) : Nat) : Int) ≤ 9223372036854775807); omega)
          refine AWp_region ?_
          iterate 5 (refine aops_chunk 1 fun Q0 q0 => ?_; simp only [↓bO, go_sem, seval, ActT.cells, gl_uses, ev_glob, hgk, hkg, hkl, hnv, hnp, hbk, hqs, hnx, hm1, hm2]; refine q0 _ ?_; clear q0 Q0; simp only [go_sem])
          simp only [↓bO, go_sem, seval, ActT.cells, gl_uses, ev_glob, hgk, hkg, hkl, hnv, hnp, hbk, hqs, hnx, hm1, hm2]
          refine ⟨(k + 1), (by omega), by omega, ?_⟩
          try simp only [maskL, setsL, putsO, putO, mB, List.set_cons_zero, List.set_cons_succ, seval, ActT.cells, hgk, hkg, hkl, hnv, hnp, hbk, hqs, hnx, hm1, hm2]
          exact Weak.mk (by simp only [go_sem, Le.refl, Le.any, Le.slNil, Int.natCast_add, Int.cast_ofNat_Int, Int.natCast_one]) (fun _ _ h => h) rfl rfl
         ·
          have e110 : ¬ c.toNat = 110 := (by have h9 := hb47; simp at h9; omega)
          refine AWp_seqK fun Y1 y1 => ?_
          refine AWp_region ?_
          refine aops_chunk 1 fun Q0 q0 => ?_
          simp only [↓bO, go_sem, seval, ActT.cells, gl_uses, ev_glob, hgk, hkg, hkl, hnv, hnp, hbk, hqs]
          refine q0 _ ?_
          clear q0 Q0
          simp only [go_sem]
          simp only [↓bO, go_sem, seval, ActT.cells, gl_uses, ev_glob, hgk, hkg, hkl, hnv, hnp, hbk, hqs]
          refine y1 _ ?_
          try clear y1 Y1
          refine AWp_cond rfl (fun hb54 => ?_) (fun hb54 => ?_)
          ·
           have e116 : c.toNat = 116 := (by have h9 := hb54; simp at h9; omega)
           have hnx : lineS a (lineK a k) c.toNat = lineK a k ++ ((⟨#[32]⟩ : ByteArray) ++ quS a.text) := by (unfold lineS; rw [if_neg (by omega), if_pos e116]; rfl)
           have hm1 : (((((#[32] : Array UInt8).size + (quS a.text).size) : Nat) : Int) ≤ IntKind.i64.max) = True := eq_true (by (show ((((#[32] : Array UInt8).size + (quS a.text).size) : Nat) : Int) ≤ 9223372036854775807); omega)
           have hm2 : (((((lineK a k).size + ((#[32] : Array UInt8).size + (quS a.text).size)) : Nat) : Int) ≤ IntKind.i64.max) = True := eq_true (by (show ((((lineK a k).size + ((#[32] : Array UInt8).size + (quS a.text).size)) : Nat) : Int) ≤ 9223372036854775807); omega)
           refine AWp_region ?_
           iterate 3 (refine aops_chunk 1 fun Q0 q0 => ?_; simp only [↓bO, go_sem, seval, ActT.cells, gl_uses, ev_glob, hgk, hkg, hkl, hnv, hnp, hbk, hqs, hnx, hm1, hm2]; refine q0 _ ?_; clear q0 Q0; simp only [go_sem])
           refine aops_chunk 1 fun Q0 q0 => ?_
           simp only [↓bO, go_sem, seval, ActT.cells, gl_uses, ev_glob, hgk, hkg, hkl, hnv, hnp, hbk, hqs, hnx, hm1, hm2]
           refine APure.call (Quote_pure a.text (by omega)) ?_
           try simp only [bS, bA, thenQ, blockQ, noGotoQ]
           iterate 2 (refine q0 _ ?_; clear q0 Q0; simp only [go_sem]; refine aops_chunk 1 fun Q0 q0 => ?_; simp only [↓bO, go_sem, seval, ActT.cells, gl_uses, ev_glob, hgk, hkg, hkl, hnv, hnp, hbk, hqs, hnx, hm1, hm2])
           refine q0 _ ?_
           clear q0 Q0
           simp only [go_sem]
           simp only [↓bO, go_sem, seval, ActT.cells, gl_uses, ev_glob, hgk, hkg, hkl, hnv, hnp, hbk, hqs, hnx, hm1, hm2]
           refine ⟨(k + 1), (by omega), by omega, ?_⟩
           try simp only [maskL, setsL, putsO, putO, mB, List.set_cons_zero, List.set_cons_succ, seval, ActT.cells, hgk, hkg, hkl, hnv, hnp, hbk, hqs, hnx, hm1, hm2]
           exact Weak.mk (by simp only [go_sem, Le.refl, Le.any, Le.slNil, Int.natCast_add, Int.cast_ofNat_Int, Int.natCast_one]) (fun _ _ h => h) rfl rfl
          ·
           have e116 : ¬ c.toNat = 116 := (by have h9 := hb54; simp at h9; omega)
           refine AWp_seqK fun Y1 y1 => ?_
           refine AWp_region ?_
           refine aops_chunk 1 fun Q0 q0 => ?_
           simp only [↓bO, go_sem, seval, ActT.cells, gl_uses, ev_glob, hgk, hkg, hkl, hnv, hnp, hbk, hqs]
           refine q0 _ ?_
           clear q0 Q0
           simp only [go_sem]
           simp only [↓bO, go_sem, seval, ActT.cells, gl_uses, ev_glob, hgk, hkg, hkl, hnv, hnp, hbk, hqs]
           refine y1 _ ?_
           try clear y1 Y1
           refine AWp_cond rfl (fun hb62 => ?_) (fun hb62 => ?_)
           ·
            have e102 : c.toNat = 102 := (by have h9 := hb62; simp at h9; omega)
            have hnx : lineS a (lineK a k) c.toNat = lineK a k ++ ((⟨#[32]⟩ : ByteArray) ++ itS a.p1) := by (unfold lineS; rw [if_neg (by omega), if_neg (by omega), if_pos e102]; rfl)
            have hm1 : (((((#[32] : Array UInt8).size + (itS a.p1).size) : Nat) : Int) ≤ IntKind.i64.max) = True := eq_true (by (show ((((#[32] : Array UInt8).size + (itS a.p1).size) : Nat) : Int) ≤ 9223372036854775807); omega)
            have hm2 : (((((lineK a k).size + ((#[32] : Array UInt8).size + (itS a.p1).size)) : Nat) : Int) ≤ IntKind.i64.max) = True := eq_true (by (show ((((lineK a k).size + ((#[32] : Array UInt8).size + (itS a.p1).size)) : Nat) : Int) ≤ 9223372036854775807); omega)
            refine AWp_region ?_
            iterate 3 (refine aops_chunk 1 fun Q0 q0 => ?_; simp only [↓bO, go_sem, seval, ActT.cells, gl_uses, ev_glob, hgk, hkg, hkl, hnv, hnp, hbk, hqs, hnx, hm1, hm2]; refine q0 _ ?_; clear q0 Q0; simp only [go_sem])
            refine aops_chunk 1 fun Q0 q0 => ?_
            simp only [↓bO, go_sem, seval, ActT.cells, gl_uses, ev_glob, hgk, hkg, hkl, hnv, hnp, hbk, hqs, hnx, hm1, hm2]
            refine APure.call (TItoa_pure a.p1 f1.1 f1.2) ?_
            try simp only [bS, bA, thenQ, blockQ, noGotoQ]
            iterate 2 (refine q0 _ ?_; clear q0 Q0; simp only [go_sem]; refine aops_chunk 1 fun Q0 q0 => ?_; simp only [↓bO, go_sem, seval, ActT.cells, gl_uses, ev_glob, hgk, hkg, hkl, hnv, hnp, hbk, hqs, hnx, hm1, hm2])
            refine q0 _ ?_
            clear q0 Q0
            simp only [go_sem]
            simp only [↓bO, go_sem, seval, ActT.cells, gl_uses, ev_glob, hgk, hkg, hkl, hnv, hnp, hbk, hqs, hnx, hm1, hm2]
            refine ⟨(k + 1), (by omega), by omega, ?_⟩
            try simp only [maskL, setsL, putsO, putO, mB, List.set_cons_zero, List.set_cons_succ, seval, ActT.cells, hgk, hkg, hkl, hnv, hnp, hbk, hqs, hnx, hm1, hm2]
            exact Weak.mk (by simp only [go_sem, Le.refl, Le.any, Le.slNil, Int.natCast_add, Int.cast_ofNat_Int, Int.natCast_one]) (fun _ _ h => h) rfl rfl
           ·
            have e102 : ¬ c.toNat = 102 := (by have h9 := hb62; simp at h9; omega)
            refine AWp_seqK fun Y1 y1 => ?_
            refine AWp_region ?_
            refine aops_chunk 1 fun Q0 q0 => ?_
            simp only [↓bO, go_sem, seval, ActT.cells, gl_uses, ev_glob, hgk, hkg, hkl, hnv, hnp, hbk, hqs]
            refine q0 _ ?_
            clear q0 Q0
            simp only [go_sem]
            simp only [↓bO, go_sem, seval, ActT.cells, gl_uses, ev_glob, hgk, hkg, hkl, hnv, hnp, hbk, hqs]
            refine y1 _ ?_
            try clear y1 Y1
            refine AWp_cond rfl (fun hb70 => ?_) (fun hb70 => ?_)
            ·
             have e111 : c.toNat = 111 := (by have h9 := hb70; simp at h9; omega)
             have hnx : lineS a (lineK a k) c.toNat = lineK a k ++ ((⟨#[32]⟩ : ByteArray) ++ itS a.p2) := by (unfold lineS; rw [if_neg (by omega), if_neg (by omega), if_neg (by omega), if_pos e111]; rfl)
             have hm1 : (((((#[32] : Array UInt8).size + (itS a.p2).size) : Nat) : Int) ≤ IntKind.i64.max) = True := eq_true (by (show ((((#[32] : Array UInt8).size + (itS a.p2).size) : Nat) : Int) ≤ 9223372036854775807); omega)
             have hm2 : (((((lineK a k).size + ((#[32] : Array UInt8).size + (itS a.p2).size)) : Nat) : Int) ≤ IntKind.i64.max) = True := eq_true (by (show ((((lineK a k).size + ((#[32] : Array UInt8).size + (itS a.p2).size)) : Nat) : Int) ≤ 9223372036854775807); omega)
             refine AWp_region ?_
             iterate 3 (refine aops_chunk 1 fun Q0 q0 => ?_; simp only [↓bO, go_sem, seval, ActT.cells, gl_uses, ev_glob, hgk, hkg, hkl, hnv, hnp, hbk, hqs, hnx, hm1, hm2]; refine q0 _ ?_; clear q0 Q0; simp only [go_sem])
             refine aops_chunk 1 fun Q0 q0 => ?_
             simp only [↓bO, go_sem, seval, ActT.cells, gl_uses, ev_glob, hgk, hkg, hkl, hnv, hnp, hbk, hqs, hnx, hm1, hm2]
             refine APure.call (TItoa_pure a.p2 f2.1 f2.2) ?_
             try simp only [bS, bA, thenQ, blockQ, noGotoQ]
             iterate 2 (refine q0 _ ?_; clear q0 Q0; simp only [go_sem]; refine aops_chunk 1 fun Q0 q0 => ?_; simp only [↓bO, go_sem, seval, ActT.cells, gl_uses, ev_glob, hgk, hkg, hkl, hnv, hnp, hbk, hqs, hnx, hm1, hm2])
             refine q0 _ ?_
             clear q0 Q0
             simp only [go_sem]
             simp only [↓bO, go_sem, seval, ActT.cells, gl_uses, ev_glob, hgk, hkg, hkl, hnv, hnp, hbk, hqs, hnx, hm1, hm2]
             refine ⟨(k + 1), (by omega), by omega, ?_⟩
             try simp only [maskL, setsL, putsO, putO, mB, List.set_cons_zero, List.set_cons_succ, seval, ActT.cells, hgk, hkg, hkl, hnv, hnp, hbk, hqs, hnx, hm1, hm2]
             exact Weak.mk (by simp only [go_sem, Le.refl, Le.any, Le.slNil, Int.natCast_add, Int.cast_ofNat_Int, Int.natCast_one]) (fun _ _ h => h) rfl rfl
            ·
             have e111 : ¬ c.toNat = 111 := (by have h9 := hb70; simp at h9; omega)
             refine AWp_seqK fun Y1 y1 => ?_
             refine AWp_region ?_
             refine aops_chunk 1 fun Q0 q0 => ?_
             simp only [↓bO, go_sem, seval, ActT.cells, gl_uses, ev_glob, hgk, hkg, hkl, hnv, hnp, hbk, hqs]
             refine q0 _ ?_
             clear q0 Q0
             simp only [go_sem]
             simp only [↓bO, go_sem, seval, ActT.cells, gl_uses, ev_glob, hgk, hkg, hkl, hnv, hnp, hbk, hqs]
             refine y1 _ ?_
             try clear y1 Y1
             refine AWp_cond rfl (fun hb78 => ?_) (fun hb78 => ?_)
             ·
              have e117 : c.toNat = 117 := (by have h9 := hb78; simp at h9; omega)
              have hnx : lineS a (lineK a k) c.toNat = lineK a k ++ ((⟨#[32]⟩ : ByteArray) ++ itS a.n) := by (unfold lineS; rw [if_neg (by omega), if_neg (by omega), if_neg (by omega), if_neg (by omega), if_pos e117]; rfl)
              have hm1 : (((((#[32] : Array UInt8).size + (itS a.n).size) : Nat) : Int) ≤ IntKind.i64.max) = True := eq_true (by (show ((((#[32] : Array UInt8).size + (itS a.n).size) : Nat) : Int) ≤ 9223372036854775807); omega)
              have hm2 : (((((lineK a k).size + ((#[32] : Array UInt8).size + (itS a.n).size)) : Nat) : Int) ≤ IntKind.i64.max) = True := eq_true (by (show ((((lineK a k).size + ((#[32] : Array UInt8).size + (itS a.n).size)) : Nat) : Int) ≤ 9223372036854775807); omega)
              refine AWp_region ?_
              iterate 3 (refine aops_chunk 1 fun Q0 q0 => ?_; simp only [↓bO, go_sem, seval, ActT.cells, gl_uses, ev_glob, hgk, hkg, hkl, hnv, hnp, hbk, hqs, hnx, hm1, hm2]; refine q0 _ ?_; clear q0 Q0; simp only [go_sem])
              refine aops_chunk 1 fun Q0 q0 => ?_
              simp only [↓bO, go_sem, seval, ActT.cells, gl_uses, ev_glob, hgk, hkg, hkl, hnv, hnp, hbk, hqs, hnx, hm1, hm2]
              refine APure.call (TItoa_pure a.n f3.1 f3.2) ?_
              try simp only [bS, bA, thenQ, blockQ, noGotoQ]
              iterate 2 (refine q0 _ ?_; clear q0 Q0; simp only [go_sem]; refine aops_chunk 1 fun Q0 q0 => ?_; simp only [↓bO, go_sem, seval, ActT.cells, gl_uses, ev_glob, hgk, hkg, hkl, hnv, hnp, hbk, hqs, hnx, hm1, hm2])
              refine q0 _ ?_
              clear q0 Q0
              simp only [go_sem]
              simp only [↓bO, go_sem, seval, ActT.cells, gl_uses, ev_glob, hgk, hkg, hkl, hnv, hnp, hbk, hqs, hnx, hm1, hm2]
              refine ⟨(k + 1), (by omega), by omega, ?_⟩
              try simp only [maskL, setsL, putsO, putO, mB, List.set_cons_zero, List.set_cons_succ, seval, ActT.cells, hgk, hkg, hkl, hnv, hnp, hbk, hqs, hnx, hm1, hm2]
              exact Weak.mk (by simp only [go_sem, Le.refl, Le.any, Le.slNil, Int.natCast_add, Int.cast_ofNat_Int, Int.natCast_one]) (fun _ _ h => h) rfl rfl
             ·
              have e117 : ¬ c.toNat = 117 := (by have h9 := hb78; simp at h9; omega)
              refine AWp_seqK fun Y1 y1 => ?_
              refine AWp_region ?_
              refine aops_chunk 1 fun Q0 q0 => ?_
              simp only [↓bO, go_sem, seval, ActT.cells, gl_uses, ev_glob, hgk, hkg, hkl, hnv, hnp, hbk, hqs]
              refine q0 _ ?_
              clear q0 Q0
              simp only [go_sem]
              simp only [↓bO, go_sem, seval, ActT.cells, gl_uses, ev_glob, hgk, hkg, hkl, hnv, hnp, hbk, hqs]
              refine y1 _ ?_
              try clear y1 Y1
              refine AWp_cond rfl (fun hb86 => ?_) (fun hb86 => ?_)
              ·
               have e108 : c.toNat = 108 := (by have h9 := hb86; simp at h9; omega)
               have hnx : lineS a (lineK a k) c.toNat = lineK a k ++ ((⟨#[32]⟩ : ByteArray) ++ itS a.lb ++ (⟨#[32]⟩ : ByteArray) ++ itS a.ld ++ (⟨#[32]⟩ : ByteArray) ++ itS a.le) := by (unfold lineS; rw [if_neg (by omega), if_neg (by omega), if_neg (by omega), if_neg (by omega), if_neg (by omega), if_pos e108]; rfl)
               have hm1 : (((((#[32] : Array UInt8).size + (itS a.lb).size) : Nat) : Int) ≤ IntKind.i64.max) = True := eq_true (by (show ((((#[32] : Array UInt8).size + (itS a.lb).size) : Nat) : Int) ≤ 9223372036854775807); omega)
               have hm2 : ((((((#[32] : Array UInt8).size + (itS a.lb).size) + (#[32] : Array UInt8).size) : Nat) : Int) ≤ IntKind.i64.max) = True := eq_true (by (show (((((#[32] : Array UInt8).size + (itS a.lb).size) + (#[32] : Array UInt8).size) : Nat) : Int) ≤ 9223372036854775807); omega)
               have hm3 : (((((((#[32] : Array UInt8).size + (itS a.lb).size) + (#[32] : Array UInt8).size) + (itS a.ld).size) : Nat) : Int) ≤ IntKind.i64.max) = True := eq_true (by (show ((((((#[32] : Array UInt8).size + (itS a.lb).size) + (#[32] : Array UInt8).size) + (itS a.ld).size) : Nat) : Int) ≤ 9223372036854775807); omega)
               have hm4 : ((((((((#[32] : Array UInt8).size + (itS a.lb).size) + (#[32] : Array UInt8).size) + (itS a.ld).size) + (#[32] : Array UInt8).size) : Nat) : Int) ≤ IntKind.i64.max) = True := eq_true (by (show (((((((#[32] : Array UInt8).size + (itS a.lb).size) + (#[32] : Array UInt8).size) + (itS a.ld).size) + (#[32] : Array UInt8).size) : Nat) : Int) ≤ 9223372036854775807); omega)
               have hm5 : (((((((((#[32] : Array UInt8).size + (itS a.lb).size) + (#[32] : Array UInt8).size) + (itS a.ld).size) + (#[32] : Array UInt8).size) + (itS a.le).size) : Nat) : Int) ≤ IntKind.i64.max) = True := eq_true (by (show ((((((((#[32] : Array UInt8).size + (itS a.lb).size) + (#[32] : Array UInt8).size) + (itS a.ld).size) + (#[32] : Array UInt8).size) + (itS a.le).size) : Nat) : Int) ≤ 9223372036854775807); omega)
               have hm6 : (((((lineK a k).size + ((((((#[32] : Array UInt8).size + (itS a.lb).size) + (#[32] : Array UInt8).size) + (itS a.ld).size) + (#[32] : Array UInt8).size) + (itS a.le).size)) : Nat) : Int) ≤ IntKind.i64.max) = True := eq_true (by (show ((((lineK a k).size + ((((((#[32] : Array UInt8).size + (itS a.lb).size) + (#[32] : Array UInt8).size) + (itS a.ld).size) + (#[32] : Array UInt8).size) + (itS a.le).size)) : Nat) : Int) ≤ 9223372036854775807); omega)
               refine AWp_drawK 19 mixed (by kernel_rfl) fun J0 j0 => ?_
               iterate 4 (simp only [go_sem]; refine dRun_chunk 1 fun Q0 q0 => ?_; simp only [↓dRun, ↓dOp, ↓bO, go_sem, seval, ActT.cells, gl_uses, ev_glob, hgk, hkg, hkl, hnv, hnp, hbk, hqs, hnx, hm1, hm2, hm3, hm4, hm5, hm6]; refine q0 _ ?_; clear q0 Q0)
               simp only [go_sem]
               refine dRun_chunk 1 fun Q0 q0 => ?_
               simp only [↓dRun, ↓dOp, ↓bO, go_sem, seval, ActT.cells, gl_uses, ev_glob, hgk, hkg, hkl, hnv, hnp, hbk, hqs, hnx, hm1, hm2, hm3, hm4, hm5, hm6]
               refine ⟨_, TItoa_pure a.lb f4.1 f4.2, ?_⟩
               try simp only [bS, bA, thenQ, blockQ, noGotoQ]
               iterate 6 (refine q0 _ ?_; clear q0 Q0; simp only [go_sem]; refine dRun_chunk 1 fun Q0 q0 => ?_; simp only [↓dRun, ↓dOp, ↓bO, go_sem, seval, ActT.cells, gl_uses, ev_glob, hgk, hkg, hkl, hnv, hnp, hbk, hqs, hnx, hm1, hm2, hm3, hm4, hm5, hm6])
               refine ⟨_, TItoa_pure a.ld f5.1 f5.2, ?_⟩
               try simp only [bS, bA, thenQ, blockQ, noGotoQ]
               iterate 6 (refine q0 _ ?_; clear q0 Q0; simp only [go_sem]; refine dRun_chunk 1 fun Q0 q0 => ?_; simp only [↓dRun, ↓dOp, ↓bO, go_sem, seval, ActT.cells, gl_uses, ev_glob, hgk, hkg, hkl, hnv, hnp, hbk, hqs, hnx, hm1, hm2, hm3, hm4, hm5, hm6])
               refine ⟨_, TItoa_pure a.le f6.1 f6.2, ?_⟩
               try simp only [bS, bA, thenQ, blockQ, noGotoQ]
               refine q0 _ ?_
               clear q0 Q0
               simp only [go_sem]
               refine dRun_chunk 1 fun Q0 q0 => ?_
               simp only [↓dRun, ↓dOp, ↓bO, go_sem, seval, ActT.cells, gl_uses, ev_glob, hgk, hkg, hkl, hnv, hnp, hbk, hqs, hnx, hm1, hm2, hm3, hm4, hm5, hm6]
               refine q0 _ ?_
               clear q0 Q0
               simp only [go_sem]
               simp only [↓dRun, ↓dOp, ↓bO, go_sem, seval, ActT.cells, gl_uses, ev_glob, hgk, hkg, hkl, hnv, hnp, hbk, hqs, hnx, hm1, hm2, hm3, hm4, hm5, hm6]
               refine j0 _ ?_
               clear j0 J0
               simp only [go_sem]
               simp only [↓bO, go_sem, seval, ActT.cells, gl_uses, ev_glob, hgk, hkg, hkl, hnv, hnp, hbk, hqs, hnx, hm1, hm2, hm3, hm4, hm5, hm6]
               refine ⟨(k + 1), (by omega), by omega, ?_⟩
               try simp only [maskL, setsL, putsO, putO, mB, List.set_cons_zero, List.set_cons_succ, seval, ActT.cells, hgk, hkg, hkl, hnv, hnp, hbk, hqs, hnx, hm1, hm2, hm3, hm4, hm5, hm6]
               exact Weak.mk (by simp only [go_sem, Le.refl, Le.any, Le.slNil, Int.natCast_add, Int.cast_ofNat_Int, Int.natCast_one]) (fun _ _ h => h) rfl rfl
              ·
               have e108 : ¬ c.toNat = 108 := (by have h9 := hb86; simp at h9; omega)
               have hnx : lineS a (lineK a k) c.toNat = lineK a k := by (unfold lineS; rw [if_neg e110, if_neg e116, if_neg e102, if_neg e111, if_neg e117, if_neg e108])
               refine AWp_skip ?_
               try simp only [thenQ, blockQ, noGotoQ]
               refine ⟨(k + 1), (by omega), by omega, ?_⟩
               try simp only [maskL, setsL, putsO, putO, mB, List.set_cons_zero, List.set_cons_succ, seval, ActT.cells, hgk, hkg, hkl, hnv, hnp, hbk, hqs, hnx]
               exact Weak.mk (by simp only [go_sem, Le.refl, Le.any, Le.slNil, Int.natCast_add, Int.cast_ofNat_Int, Int.natCast_one]) (fun _ _ h => h) rfl rfl
        ·
         have hge : ¬ k < (usS a.k).size := (by have h9 := hb44; simpa using h9)
         have hba := lineK_all hk1 hge
         refine AWp_exit ?_
         simp only [thenQ, blockQ, noGotoQ, bA, Nat.reduceEqDiff, ↓reduceIte]
         refine y0 _ ?_
         try clear y0 Y0
         refine AWp_seqK fun Y0 y0 => ?_
         refine AWp_region ?_
         iterate 2 (refine aops_chunk 1 fun Q0 q0 => ?_; simp only [↓bO, go_sem, seval, ActT.cells, gl_uses, ev_glob, hgk, hkg, hkl, hba]; refine q0 _ ?_; clear q0 Q0; simp only [go_sem])
         simp only [↓bO, go_sem, seval, ActT.cells, gl_uses, ev_glob, hgk, hkg, hkl, hba]
         refine y0 _ ?_
         try clear y0 Y0
         refine AWp_ret ?_
         try simp only [thenQ, blockQ, noGotoQ, retQ, aRes, tupOf, bS, bA]
         rw [lineA_ok ((ActT.err_yes hk1 hyes).trans (if_neg (by omega)))]
         exact Le.refl _
theorem quL_ge (l : List UInt8) : l.length ≤ (quL l).length := by
  have : ∀ l : List UInt8, l.length ≤ (l.flatMap qb).length := fun l => by
    induction l with
    | nil => simp
    | cons c l ih =>
      rw [List.flatMap_cons, List.length_append, List.length_cons]
      have : 1 ≤ (qb c).length := by unfold qb; split <;> simp
      omega
  have := this l
  unfold quL
  rw [List.length_cons, List.length_append, List.length_singleton]; omega
theorem unqS_size (s : ByteArray) : (unqS s).size ≤ s.size := by
  unfold unqS
  rw [ofL_size]
  cases h : unqL s.data.toList with
  | none => simp
  | some t =>
    have h1 := quL_unqL h
    have h2 := quL_ge t
    rw [h1] at h2
    have h3 : s.data.toList.length = s.size := Array.length_toList
    simp only [Option.getD_some]; omega
def awA : ActT := ⟨1, ⟨#[97]⟩, 0, 0, ⟨#[49, 32, 35, 10]⟩, 0, 0, 0, 0⟩
theorem awA_err : awA.err = 0 := by decide +kernel
theorem awA_line : (awA.line.toList == (⟨#[111, 112, 101, 110, 32, 97, 32, 34, 49, 32, 35, 92, 48, 97, 34]⟩ : ByteArray).toList) = true := by decide +kernel
theorem quS_unq {s : ByteArray} (h : (unqL s.data.toList).isSome = true) : ofL (quL (unqS s).data.toList) = s := by
  obtain ⟨t, ht⟩ := Option.isSome_iff_exists.1 h
  have h1 := quL_unqL ht
  unfold unqS
  rw [ht]
  show ofL (quL t) = s
  rw [h1]; exact ofL_back s
theorem awake28_pure : APure Tryd.prog 9 [] (.v (.bool true)) := by
  refine APure.mkL (.nil) (.v _) ?_
  refine ACalls_intro Tryd.func9 (by kernel_rfl) rfl (by rw [Tryd.ntmps9]; simp) (fun hm => ?_)
  simp only [Tryd.ntmps9, Tryd.results9, List.length_cons, List.length_nil, Nat.reduceAdd, Nat.reduceSub, List.replicate_succ, List.replicate_zero, List.cons_append, List.nil_append]
  refine AWp_seqK fun Y0 y0 => ?_
  refine AWp_region ?_
  simp only [↓bO, go_sem, seval, lineA]
  refine y0 _ ?_
  try clear y0 Y0
  refine AWp_seqK fun Y0 y0 => ?_
  refine AWp_region ?_
  refine aops_chunk 1 fun Q0 q0 => ?_
  simp only [↓bO, go_sem, seval, lineA]
  refine q0 _ ?_
  clear q0 Q0
  simp only [go_sem]
  refine aops_chunk 1 fun Q0 q0 => ?_
  simp only [↓bO, go_sem, seval, lineA]
  refine APure.call (by have h9 := TLine_pure awA ⟨.zero, .zero, .zero, .zero, .zero, .zero⟩ (by decide) (by decide); exact h9) ?_
  try simp only [bS, bA, thenQ, blockQ, noGotoQ]
  refine q0 _ ?_
  clear q0 Q0
  simp only [go_sem]
  refine aops_chunk 1 fun Q0 q0 => ?_
  simp only [↓bO, go_sem, seval, lineA]
  iterate 2 (refine q0 _ ?_; clear q0 Q0; simp only [go_sem]; refine aops_chunk 1 fun Q0 q0 => ?_; simp only [↓bO, go_sem, seval, aExtract_tup, lineA])
  refine q0 _ ?_
  clear q0 Q0
  simp only [go_sem]
  refine aops_chunk 1 fun Q0 q0 => ?_
  simp only [↓bO, go_sem, seval, lineA]
  refine q0 _ ?_
  clear q0 Q0
  simp only [go_sem]
  simp only [↓bO, go_sem, seval, lineA]
  refine y0 _ ?_
  try clear y0 Y0
  refine AWp_seqK fun Y0 y0 => ?_
  refine AWp_region ?_
  iterate 3 (refine aops_chunk 1 fun Q0 q0 => ?_; simp only [↓bO, go_sem, seval, lineA]; refine q0 _ ?_; clear q0 Q0; simp only [go_sem])
  refine aops_case 10 rfl (fun hc10 => ?_) (fun hc10 => ?_)
  ·
   simp only [List.set_cons_zero, List.set_cons_succ]
   iterate 3 (refine aops_chunk 1 fun Q0 q0 => ?_; simp only [↓bO, go_sem, seval, lineA]; refine q0 _ ?_; clear q0 Q0; simp only [go_sem])
   simp only [↓bO, go_sem, seval, lineA]
   refine y0 _ ?_
   try clear y0 Y0
   refine AWp_ret ?_
   try simp only [thenQ, blockQ, noGotoQ, retQ, aRes, tupOf, bS, bA]
   refine Le.of_eq (congrArg (fun b => AV.v (.bool b)) ?_)
   exact awA_line
  ·
   simp only [List.set_cons_zero, List.set_cons_succ]
   rw [awA_err] at hc10; exact absurd hc10 (by decide)
theorem TapeQuotes_pure (s : ByteArray) : APure Tryd.prog 3 [.v (.string s)] (.v (.bool true)) := by
  refine APure.mkL (.cons (.v _) .nil) (.v _) ?_
  refine ACalls_intro Tryd.func3 (by kernel_rfl) rfl (by rw [Tryd.ntmps3]; simp) (fun hm => ?_)
  simp only [Tryd.ntmps3, Tryd.results3, List.length_cons, List.length_nil, Nat.reduceAdd, Nat.reduceSub, List.replicate_succ, List.replicate_zero, List.cons_append, List.nil_append]
  refine AWp_seqK fun Y0 y0 => ?_
  refine AWp_region ?_
  simp only [↓bO, go_sem, seval, unqA, beq_self_eq_true]
  refine y0 _ ?_
  try clear y0 Y0
  refine AWp_seqK fun Y0 y0 => ?_
  refine AWp_seqK fun Y1 y1 => ?_
  refine AWp_region ?_
  iterate 2 (refine aops_chunk 1 fun Q0 q0 => ?_; simp only [↓bO, go_sem, seval, unqA, beq_self_eq_true]; refine q0 _ ?_; clear q0 Q0; simp only [go_sem])
  simp only [↓bO, go_sem, seval, unqA, beq_self_eq_true]
  refine y1 _ ?_
  try clear y1 Y1
  refine AWp_cond rfl (fun hb12 => ?_) (fun hb12 => ?_)
  ·
   refine AWp_seqK fun Y1 y1 => ?_
   refine AWp_region ?_
   refine aops_chunk 1 fun Q0 q0 => ?_
   simp only [↓bO, go_sem, seval, unqA, beq_self_eq_true]
   refine APure.call (awake28_pure) ?_
   try simp only [bS, bA, thenQ, blockQ, noGotoQ]
   refine q0 _ ?_
   clear q0 Q0
   simp only [go_sem]
   simp only [↓bO, go_sem, seval, unqA, beq_self_eq_true]
   refine y1 _ ?_
   try clear y1 Y1
   refine AWp_ret ?_
   try simp only [thenQ, blockQ, noGotoQ, retQ, aRes, tupOf, bS, bA]
   exact Le.refl _
  ·
   have hs : s.size ≤ 300 := (by have h9 := hb12; simp at h9; omega)
   have hqz : (ofL (quL s.data.toList)).size ≤ 3 * s.size + 2 := quS_size s
   have hus := unqS_size s
   have hq := unq_qu s
   have hq1 : (unqL (ofL (quL s.data.toList)).data.toList).isSome = true := hq.1
   have hq2 : unqS (ofL (quL s.data.toList)) = s := hq.2
   refine AWp_skip ?_
   try simp only [thenQ, blockQ, noGotoQ]
   refine y0 _ ?_
   try clear y0 Y0
   refine AWp_seqK fun Y0 y0 => ?_
   refine AWp_region ?_
   refine aops_chunk 1 fun Q0 q0 => ?_
   simp only [↓bO, go_sem, seval, unqA, beq_self_eq_true, hq1, hq2]
   refine q0 _ ?_
   clear q0 Q0
   simp only [go_sem]
   refine aops_chunk 1 fun Q0 q0 => ?_
   simp only [↓bO, go_sem, seval, unqA, beq_self_eq_true, hq1, hq2]
   refine APure.call (Quote_pure s (by omega)) ?_
   try simp only [bS, bA, thenQ, blockQ, noGotoQ]
   refine q0 _ ?_
   clear q0 Q0
   simp only [go_sem]
   simp only [↓bO, go_sem, seval, unqA, beq_self_eq_true, hq1, hq2]
   refine y0 _ ?_
   try clear y0 Y0
   refine AWp_seqK fun Y0 y0 => ?_
   refine AWp_region ?_
   refine aops_chunk 1 fun Q0 q0 => ?_
   simp only [↓bO, go_sem, seval, unqA, beq_self_eq_true, hq1, hq2]
   refine q0 _ ?_
   clear q0 Q0
   simp only [go_sem]
   refine aops_chunk 1 fun Q0 q0 => ?_
   simp only [↓bO, go_sem, seval, unqA, beq_self_eq_true, hq1, hq2]
   refine APure.call (Unquote_pure (ofL (quL s.data.toList)) (by omega)) ?_
   try simp only [bS, bA, thenQ, blockQ, noGotoQ]
   refine q0 _ ?_
   clear q0 Q0
   simp only [go_sem]
   refine aops_chunk 1 fun Q0 q0 => ?_
   simp only [↓bO, go_sem, seval, unqA, beq_self_eq_true, hq1, hq2]
   iterate 2 (refine q0 _ ?_; clear q0 Q0; simp only [go_sem]; refine aops_chunk 1 fun Q0 q0 => ?_; simp only [↓bO, go_sem, seval, aExtract_tup, unqA, beq_self_eq_true, hq1, hq2])
   refine q0 _ ?_
   clear q0 Q0
   simp only [go_sem]
   refine aops_chunk 1 fun Q0 q0 => ?_
   simp only [↓bO, go_sem, seval, unqA, beq_self_eq_true, hq1, hq2]
   refine q0 _ ?_
   clear q0 Q0
   simp only [go_sem]
   simp only [↓bO, go_sem, seval, unqA, beq_self_eq_true, hq1, hq2]
   refine y0 _ ?_
   try clear y0 Y0
   refine AWp_seqK fun Y0 y0 => ?_
   refine AWp_region ?_
   refine aops_chunk 1 fun Q0 q0 => ?_
   simp only [↓bO, go_sem, seval, unqA, beq_self_eq_true, hq1, hq2]
   refine q0 _ ?_
   clear q0 Q0
   simp only [go_sem]
   refine aops_chunk 1 fun Q0 q0 => ?_
   simp only [↓bO, go_sem, seval, unqA, beq_self_eq_true, hq1, hq2]
   refine APure.call (Unquote_pure s (by omega)) ?_
   try simp only [bS, bA, thenQ, blockQ, noGotoQ]
   refine q0 _ ?_
   clear q0 Q0
   simp only [go_sem]
   refine aops_chunk 1 fun Q0 q0 => ?_
   simp only [↓bO, go_sem, seval, unqA, beq_self_eq_true, hq1, hq2]
   iterate 2 (refine q0 _ ?_; clear q0 Q0; simp only [go_sem]; refine aops_chunk 1 fun Q0 q0 => ?_; simp only [↓bO, go_sem, seval, aExtract_tup, unqA, beq_self_eq_true, hq1, hq2])
   refine q0 _ ?_
   clear q0 Q0
   simp only [go_sem]
   refine aops_chunk 1 fun Q0 q0 => ?_
   simp only [↓bO, go_sem, seval, unqA, beq_self_eq_true, hq1, hq2]
   refine q0 _ ?_
   clear q0 Q0
   simp only [go_sem]
   simp only [↓bO, go_sem, seval, unqA, beq_self_eq_true, hq1, hq2]
   refine y0 _ ?_
   try clear y0 Y0
   refine AWp_seqK fun Y0 y0 => ?_
   refine AWp_region ?_
   refine aops_chunk 1 fun Q0 q0 => ?_
   simp only [↓bO, go_sem, seval, unqA, beq_self_eq_true, hq1, hq2]
   refine q0 _ ?_
   clear q0 Q0
   simp only [go_sem]
   refine aops_chunk 1 fun Q0 q0 => ?_
   simp only [↓bO, go_sem, seval, unqA, beq_self_eq_true, hq1, hq2]
   refine APure.call (RUnquote_pure s (by omega)) ?_
   try simp only [bS, bA, thenQ, blockQ, noGotoQ]
   refine q0 _ ?_
   clear q0 Q0
   simp only [go_sem]
   refine aops_chunk 1 fun Q0 q0 => ?_
   simp only [↓bO, go_sem, seval, unqA, beq_self_eq_true, hq1, hq2]
   iterate 2 (refine q0 _ ?_; clear q0 Q0; simp only [go_sem]; refine aops_chunk 1 fun Q0 q0 => ?_; simp only [↓bO, go_sem, seval, aExtract_tup, unqA, beq_self_eq_true, hq1, hq2])
   refine q0 _ ?_
   clear q0 Q0
   simp only [go_sem]
   refine aops_chunk 1 fun Q0 q0 => ?_
   simp only [↓bO, go_sem, seval, unqA, beq_self_eq_true, hq1, hq2]
   refine q0 _ ?_
   clear q0 Q0
   simp only [go_sem]
   simp only [↓bO, go_sem, seval, unqA, beq_self_eq_true, hq1, hq2]
   refine y0 _ ?_
   try clear y0 Y0
   refine AWp_seqK fun Y0 y0 => ?_
   refine AWp_region ?_
   iterate 2 (refine aops_chunk 1 fun Q0 q0 => ?_; simp only [↓bO, go_sem, seval, unqA, beq_self_eq_true, hq1, hq2]; refine q0 _ ?_; clear q0 Q0; simp only [go_sem])
   refine aops_chunk 1 fun Q0 q0 => ?_
   simp only [↓bO, go_sem, seval, unqA, beq_self_eq_true, hq1, hq2]
   refine APure.call (RQuote_pure s (by omega)) ?_
   try simp only [bS, bA, thenQ, blockQ, noGotoQ]
   iterate 2 (refine q0 _ ?_; clear q0 Q0; simp only [go_sem]; refine aops_chunk 1 fun Q0 q0 => ?_; simp only [↓bO, go_sem, seval, unqA, beq_self_eq_true, hq1, hq2])
   refine q0 _ ?_
   clear q0 Q0
   simp only [go_sem]
   refine aops_case 35 rfl (fun hc35 => ?_) (fun hc35 => ?_)
   ·
    simp only [List.set_cons_zero, List.set_cons_succ]
    iterate 3 (refine aops_chunk 1 fun Q0 q0 => ?_; simp only [↓bO, go_sem, seval, unqA, beq_self_eq_true, hq1, hq2]; refine q0 _ ?_; clear q0 Q0; simp only [go_sem])
    refine aops_case 38 rfl (fun hc38 => ?_) (fun hc38 => ?_)
    ·
     simp only [List.set_cons_zero, List.set_cons_succ]
     iterate 5 (refine aops_chunk 1 fun Q0 q0 => ?_; simp only [↓bO, go_sem, seval, unqA, beq_self_eq_true, hq1, hq2]; refine q0 _ ?_; clear q0 Q0; simp only [go_sem])
     refine aops_case 43 rfl (fun hc43 => ?_) (fun hc43 => ?_)
     ·
      simp only [List.set_cons_zero, List.set_cons_succ]
      iterate 5 (refine aops_chunk 1 fun Q0 q0 => ?_; simp only [↓bO, go_sem, seval, unqA, beq_self_eq_true, hq1, hq2]; refine q0 _ ?_; clear q0 Q0; simp only [go_sem])
      refine aops_case 48 rfl (fun hc48 => ?_) (fun hc48 => ?_)
      ·
       simp only [List.set_cons_zero, List.set_cons_succ]
       iterate 5 (refine aops_chunk 1 fun Q0 q0 => ?_; simp only [↓bO, go_sem, seval, unqA, beq_self_eq_true, hq1, hq2]; refine q0 _ ?_; clear q0 Q0; simp only [go_sem])
       refine aops_case 53 rfl (fun hc53 => ?_) (fun hc53 => ?_)
       ·
        simp only [List.set_cons_zero, List.set_cons_succ]
        iterate 3 (refine aops_chunk 1 fun Q0 q0 => ?_; simp only [↓bO, go_sem, seval, unqA, beq_self_eq_true, hq1, hq2]; refine q0 _ ?_; clear q0 Q0; simp only [go_sem])
        refine aops_case 56 rfl (fun hc56 => ?_) (fun hc56 => ?_)
        ·
         simp only [List.set_cons_zero, List.set_cons_succ]
         iterate 7 (refine aops_chunk 1 fun Q0 q0 => ?_; simp only [↓bO, go_sem, seval, unqA, beq_self_eq_true, hq1, hq2]; refine q0 _ ?_; clear q0 Q0; simp only [go_sem])
         refine aops_chunk 1 fun Q0 q0 => ?_
         simp only [↓bO, go_sem, seval, unqA, beq_self_eq_true, hq1, hq2]
         refine APure.call (awake28_pure) ?_
         try simp only [bS, bA, thenQ, blockQ, noGotoQ]
         refine q0 _ ?_
         clear q0 Q0
         simp only [go_sem]
         refine aops_chunk 1 fun Q0 q0 => ?_
         simp only [↓bO, go_sem, seval, unqA, beq_self_eq_true, hq1, hq2]
         refine q0 _ ?_
         clear q0 Q0
         simp only [go_sem]
         simp only [↓bO, go_sem, seval, unqA, beq_self_eq_true, hq1, hq2]
         refine y0 _ ?_
         try clear y0 Y0
         refine AWp_ret ?_
         try simp only [thenQ, blockQ, noGotoQ, retQ, aRes, tupOf, bS, bA]
         exact Le.refl _
        ·
         simp only [List.set_cons_zero, List.set_cons_succ]
         have his : (unqL s.data.toList).isSome = true := (by have h9 := hc56; simpa using h9)
         have hqu := quS_unq his
         refine aops_chunk 1 fun Q0 q0 => ?_
         simp only [↓bO, go_sem, seval, unqA, beq_self_eq_true, hq1, hq2, hqu]
         refine q0 _ ?_
         clear q0 Q0
         simp only [go_sem]
         refine aops_chunk 1 fun Q0 q0 => ?_
         simp only [↓bO, go_sem, seval, unqA, beq_self_eq_true, hq1, hq2, hqu]
         refine APure.call (Quote_pure (unqS s) (by omega)) ?_
         try simp only [bS, bA, thenQ, blockQ, noGotoQ]
         iterate 5 (refine q0 _ ?_; clear q0 Q0; simp only [go_sem]; refine aops_chunk 1 fun Q0 q0 => ?_; simp only [↓bO, go_sem, seval, unqA, beq_self_eq_true, hq1, hq2, hqu])
         refine q0 _ ?_
         clear q0 Q0
         simp only [go_sem]
         refine aops_case 63 rfl (fun hc63 => ?_) (fun hc63 => ?_)
         ·
          simp only [List.set_cons_zero, List.set_cons_succ]
          refine aops_chunk 1 fun Q0 q0 => ?_
          simp only [↓bO, go_sem, seval, unqA, beq_self_eq_true, hq1, hq2, hqu]
          refine APure.call (awake28_pure) ?_
          try simp only [bS, bA, thenQ, blockQ, noGotoQ]
          refine q0 _ ?_
          clear q0 Q0
          simp only [go_sem]
          refine aops_chunk 1 fun Q0 q0 => ?_
          simp only [↓bO, go_sem, seval, unqA, beq_self_eq_true, hq1, hq2, hqu]
          refine q0 _ ?_
          clear q0 Q0
          simp only [go_sem]
          simp only [↓bO, go_sem, seval, unqA, beq_self_eq_true, hq1, hq2, hqu]
          refine y0 _ ?_
          try clear y0 Y0
          refine AWp_ret ?_
          try simp only [thenQ, blockQ, noGotoQ, retQ, aRes, tupOf, bS, bA]
          exact Le.refl _
         ·
          simp only [List.set_cons_zero, List.set_cons_succ]
          exact absurd hc63 (by simp)
       ·
        simp only [List.set_cons_zero, List.set_cons_succ]
        exact absurd hc53 (by simp)
      ·
       simp only [List.set_cons_zero, List.set_cons_succ]
       exact absurd hc48 (by simp)
     ·
      simp only [List.set_cons_zero, List.set_cons_succ]
      exact absurd hc43 (by simp)
    ·
     simp only [List.set_cons_zero, List.set_cons_succ]
     exact absurd hc38 (by simp)
   ·
    simp only [List.set_cons_zero, List.set_cons_succ]
    exact absurd hc35 (by simp)
end Go.Proofs.YtmepcmphcghbeaaDoor
